-- written by this session's program wip/xp/xprint.py (it drives the kit's print and adds to it)
import Derived.Test.YthmmadniaakapaaPDiskReplaysx0
namespace Go.Proofs.Ythmmadniaakapaa.PDiskReplays
open Go.RowKit Go.Proofs.YthmmadniaakapaaW.PrintWords Go.Proofs.YthmmadniaakapaaW.PrintLast Go.Proofs.YthmmadniaakapaaW.PrintMore
attribute [local go_sem] max2_int min2_int max_two min_two max_three min_three max_four min_four   -- for this text's walks alone
set_option linter.unusedVariables false
set_option linter.unusedSimpArgs false

/-! ### vendmeterlaw_words: function 15 -/
def vendmeterlaw_words.f (l0 : List Int) : Option (List Int) := if ([] : List Int).length + l0.length < 35184372088832 then (some (([] : List Int) ++ l0)) else (none)
set_option maxHeartbeats 8000000 in
set_option maxRecDepth 100000 in
theorem vendmeterlaw_words.calls (A0 : Option Addr) (c0 : Nat) (l0 : List Int) (r : List Int) (w : World) (hr0 : Kd.C (Kd.int .u32) w A0 l0.length l0) (hc0 : l0.length ≤ c0) (h : vendmeterlaw_words.f l0 = some r) :
    Calls Try.prog 15 #[.slice A0 l0.length c0] w fun e w' => ∃ v0_ : Value, e = .returned (v0_) ∧ Kd.R (Kd.int .u32) 99 w' w.heap.size (fun _ => True) v0_ r ∧ Below w.heap.size w w' := by
  have HR0 := Aside0.mk hr0
  have HC0 := Aside0.mk hc0
  clear hr0 hc0
  have HB := Aside0.mk (Below.refl w.heap.size w)
  have H : (if ([] : List Int).length + l0.length < 35184372088832 then (some (([] : List Int) ++ l0)) else (none)) = some r := h
  clear h
  by_cases c2 : ([] : List Int).length + l0.length < 35184372088832
  · rw [if_pos c2] at H
    have LMc2 := Aside0.mk c2
    clear c2
    obtain ⟨y101, hy101⟩ : ∃ y_ : List Int, y_ = (([] : List Int) ++ l0) := ⟨_, rfl⟩
    replace H : (some y101) = some r := by first | (rw [hy101]; with_reducible exact H) | (have H2_ := (Option.bind_some _ _).symm.trans H; rw [hy101]; with_reducible exact H2_) | (have H2_ := (Option.bind_some _ _).symm.trans H; with_reducible exact H2_) | with_reducible exact H | (rw [hy101]; exact H) | exact H
    have Ny101 := Aside0.mk hy101
    clear hy101
    obtain rfl := Option.some.inj H
    go_enter Try.func15, Try.ntmps15
    go_wp2_with (first | ((with_reducible refine gate_builtin (b := .append) (xs := #[.const (.slice none 0 0), .tmp 3]) rfl ?_); at_builtin; refine Kd.R_append_rows (Kd.int .u32) (w0 := w) w.heap.size rfl (.const (.slice none 0 0)) (.tmp 3) 22 99 (.int .u32 0) 4 rfl Try.underlying22 info99 rfl (by decide) (by omega) (.slice none 0 0) ([] : List Int) l0 _ _ _ (fun _ => True) (fun _ => False) rfl rfl ?aO ?aR (fun _ _ h => h) (fun _ h => h.elim) ?aF ?aB ?aS ?aL ?_; (case aR => repeat (first | exact HR0.out | (with_reducible refine Kd.C_alloc ?_ _) | (with_reducible refine Kd.C_drewN ?_ _) | (with_reducible refine Kd.C_drew ?_))); (case aB => exact (by repeat (first | (with_reducible first | exact HB.out | apply below_alloc | apply pw_below_drewN | apply below_drew1) | exact HB.out))); (case aF => exact (fun _ _ => trivial)); (case aO => exact ((Kd.R_nil _ _ _ _ (fun _ => True)))); (case aS => exact (below_size (by repeat (first | (with_reducible first | exact HB.out | apply below_alloc | apply pw_below_drewN | apply below_drew1) | exact HB.out)))); (case aL => have := LMc2.out; omega); intro v102 w3 ho hb hg hat; rw [← Ny101.out] at ho; have n0_ := Aside0.mk (hb); have n1_ := Aside0.mk (ho); clear HB; have HB := n0_; have HO103 := n1_; clear n0_ n1_; clear ho hb hg hat))
    go_ret
    exact ⟨_, by first | rfl | (simp [errW_none, errW_some] <;> rfl) | (simp [*, errW_none, errW_some] <;> rfl), by (with_reducible repeat (first | apply Kd.R_alloc | apply Kd.R_drewN | apply Kd.R_drew)); exact HO103.out, by repeat (first | (with_reducible first | exact HB.out | apply below_alloc | apply pw_below_drewN | apply below_drew1) | exact HB.out)⟩
  · rw [if_neg c2] at H
    exact absurd H (by simp)

-- NOT PRINTED: function 52 (disk_tape_walk)

/-! ### disk_Replay -/
def tape_walk.cut (l : List Int) (a m : Nat) : List Int := (l.drop (a + 1)).take m
def tape_walk.l0 : Nat → List Int → Int → List (List Int) → Option (List (List Int) × Int × Int)
  | 0, _, _, _ => none
  | k + 1, l, a, out => if a < (l.length : Int) then (if rd l a = 0 then some (out, a, 0) else (if 0 ≤ rd l a then (if rd l a > 64 then some (out, 0, 3) else (if rd l a ≥ (l.length : Int) - a then some (out, 0, 3) else (if out.length ≤ 2048 then tape_walk.l0 k l (a + 1 + rd l a) (out ++ [tape_walk.cut l a.toNat (rd l a).toNat]) else none))) else none)) else some (out, a, 0)
def disk_Replay.f (k : Nat) (l : List Int) : Option (List (List Int) × Int × Int) := if 1 ≤ l.length ∧ l.length ≤ 2048 then (tape_walk.l0 k l 0 []).bind fun p => (if p.2.2 = 0 then some p else some ([], 0, p.2.2)) else some ([], 0, 1)
theorem tape_walk.mono_l : ∀ k l a o, LeO (tape_walk.l0 k l a o) (tape_walk.l0 (k + 1) l a o)
  | 0, _, _, _ => by intro r h; simp [tape_walk.l0] at h
  | k + 1, l, a, o => by
    have ih := tape_walk.mono_l k
    unfold tape_walk.l0
    repeat' first
      | (with_reducible exact ih _ _ _)
      | (with_reducible exact LeO.refl _)
      | (with_reducible refine LeO.ite ?_ ?_)
theorem disk_Replay.mono : ∀ a0 k, LeO (disk_Replay.f k a0) (disk_Replay.f (k + 1) a0) := by
  intro a0 k
  unfold disk_Replay.f
  exact LeO.ite (LeO.bind (tape_walk.mono_l _ _ _ _) (fun _ => LeO.refl _)) (LeO.refl _)
theorem tape_walk.wr (n : Int) (h : -9223372036854775808 ≤ n ∧ n ≤ 9223372036854775807) : wrap64 n = n := by unfold wrap64; omega
theorem tape_walk.word {w : World} {A : Option Addr} {n : Nat} {xs : List Int} (h : Kd.C (Kd.int .u32) w A n xs) (i : Nat) (h1 : i < n) : ∃ ad, A = some ad ∧ w.cell? (ad.add i) = some (.int .u32 (rd xs (i : Int))) := by
  obtain ⟨ad, c, e, hl, hK, hc⟩ := Kd.C_get h 0 (i : Int) (by omega) (by omega)
  obtain rfl : c = [.int .u32 (xs.getD (i : Int).toNat 0)] := hK
  have := hc 0 _ rfl
  simp only [show (Kd.int IntKind.u32).sz = 1 from rfl, Int.toNat_natCast, Nat.mul_one, Nat.add_zero] at this
  exact ⟨ad, e, this⟩
theorem tape_walk.rec_len {l : List Int} {a m : Nat} (h : a + 1 + m ≤ l.length) : (tape_walk.cut l a m).length = m := by unfold tape_walk.cut; rw [List.length_take, List.length_drop]; omega
theorem tape_walk.rec_C {W : World} {ad : Addr} {c : Nat} {l : List Int} (h : Kd.C (Kd.int .u32) W (some ad) l.length l) (hc : l.length ≤ c) {a m : Nat} (h1 : a + 1 + m ≤ l.length) (h2 : 1 ≤ m) : Kd.C (Kd.int .u32) W (some (ad.add (a + 1))) m (tape_walk.cut l a m) := by
  have q := Kd.C_mid (lo := a + 1) (hi := a + 1 + m) h (by omega) h1 hc
  rw [if_neg (by omega), show (Kd.int IntKind.u32).sz = 1 from rfl, Nat.mul_one, List.drop_take, show a + 1 + m - (a + 1) = m by omega] at q
  have e := tape_walk.rec_len h1
  unfold tape_walk.cut at *
  rwa [e] at q
abbrev Rrows (W : World) (B g : Nat) (v : Value) (rows : List (List Int)) : Prop := Kd.S (Kd.slice 99 (Kd.int .u32)) 22 W B (fun k => k ≠ g) v rows
theorem disk_Replay.fresh {w w1 : World} {v1 vo : Value} {rec : List Int} {rows : List (List Int)} {g B : Nat} (h : Kd.R (Kd.int .u32) 99 w1 w.heap.size (fun _ => True) v1 rec) (hbox : w.heap[g]? = some (.cells #[vo] 24 (0, 0))) (hR : Rrows w B g vo rows) (hB : B ≤ w.heap.size) : Kd.R (Kd.int .u32) 99 w1 B (fun k => k ≠ g ∧ some k ≠ vo.ownBlock ∧ w.heap.size ≤ k) v1 rec := by
  refine Kd.R_lower (Kd.R_mono (Kd.R_bound h) (fun k hk => ⟨?_, ?_, hk.2.1⟩)) hB
  · have := blk_lt hbox; have := hk.2.1; omega
  · intro e
    have := Kd.S_lt hR k e.symm
    have := hk.2.1
    omega
set_option maxHeartbeats 4000000 in
set_option maxRecDepth 100000 in
theorem disk_Replay.put (g n c : Nat) (A : Option Addr) (rec : List Int) (rows : List (List Int)) (vo : Value) (w0 w : World) (hg : w0.heap.size ≤ g) (hb : Below w0.heap.size w0 w) (hr : Kd.C (Kd.int .u32) w A n rec) (hn : n = rec.length) (hn64 : n ≤ 64) (hrows : rows.length ≤ 2048) (hbox : w.heap[g]? = some (.cells #[vo] 24 (0, 0))) (hR : Rrows w w0.heap.size g vo rows) :
    Calls Try.prog 53 #[.slice A n c, .pointer (some ⟨g, 0, none⟩)] w fun e w' => e = .returned (.tuple #[]) ∧ (∃ v1, w'.heap[g]? = some (.cells #[v1] 24 (0, 0)) ∧ Rrows w' w0.heap.size g v1 (rows ++ [rec])) ∧ Below w0.heap.size w0 w' := by
  have HB := Aside0.mk hb
  have HR0 := Aside0.mk hr
  have HBX := Aside0.mk hbox
  have HRR := Aside0.mk hR
  have HN := Aside0.mk (And.intro hn64 hrows)
  have c0 : w.cell? ⟨g, 0, none⟩ = some vo := (blk_cell hbox 0).trans rfl
  have C0 := Aside0.mk c0
  subst hn
  clear hb hr hbox hR hn64 hrows
  go_enter Try.func53, Try.ntmps53
  refine start_ (n := 6) (S := fun w' => w'.cell? ⟨g, 0, none⟩ = some vo) (ds := [5]) #[false, false, false, false, false, false] (by kernel_rfl) rfl rfl (C0.out) (fun hHeld => ?_)
  refine pure_ (i := 1) (N := some 4) (v := ?_) (a' := ?_) #[false, true, false, false, false, false] rfl rfl (by kernel_rfl) (fun _ _ _ h => h) (Or.inl ⟨by rfl, ?_⟩) ?_ ?_
  rotate_left
  · intro w'
    go_simp
    with_reducible rfl
  rotate_left
  · simp only [Act.put, List.setIfInBounds_toArray, List.set_cons_zero, List.set_cons_succ, i64_w, i32_w]
    rfl
  refine take_ (i := 0) (N := some 3) (v := ?_) (a' := ?_) #[true, true, false, false, false, false] rfl rfl (by kernel_rfl) (fun _ _ _ h => h) (Or.inl ⟨by rfl, ?_⟩) hHeld ?_ ?_
  rotate_left
  · intro w' s0
    go_simp
    with_reducible rfl
  rotate_left
  · simp only [Act.put, List.setIfInBounds_toArray, List.set_cons_zero, List.set_cons_succ, i64_w, i32_w]
    rfl
  refine one_ (i := 2) (N := some 5) #[true, true, true, false, false, false] rfl rfl (by kernel_rfl) (by decide) (fun K hK => ?_)
  refine Kd.R_append_rows_step (Kd.int .u32) (w0 := w) w.heap.size (by rfl) (.const (.slice none 0 0)) (.tmp 4) 22 99 (.int .u32 0) 4 rfl Try.underlying22 info99 rfl (by decide) (by omega) (.slice none 0 0) ([] : List Int) rec _ _ _ (fun _ => True) (fun _ => False) (by rfl) (by rfl) (Kd.R_nil _ _ _ _ _) (Kd.C_drew HR0.out) (fun _ _ h => h) (fun _ h => h.elim) (fun _ _ => trivial) (below_drew1 (Below.refl _ _)) (Nat.le_refl _) (by have := HN.out; simp; omega) ?_
  intro v1 w1 ho hb hg1 hat
  rw [List.nil_append] at ho
  obtain ⟨A1, d1, he1⟩ := Kd.R_slice ho
  subst he1
  have HO1 := Aside0.mk ho
  have HB1 := Aside0.mk hb
  have c1 := pw_cell_below hb C0.out
  have C1 := Aside0.mk c1
  clear ho hb hg1 hat
  refine hK.out _ _ (C1.out) (fun hHeld => ?_)
  clear hK K
  refine norm_ (a' := ?_) ?_ ?_
  rotate_left
  · show Act.put _ (some 5) _ = _
    simp only [Act.put, List.setIfInBounds_toArray, List.set_cons_zero, List.set_cons_succ, i64_w, i32_w]
    rfl
  refine one_ (i := 3) (N := some 6) #[true, true, true, true, false, false] rfl rfl (by kernel_rfl) (by decide) (fun K hK => ?_)
  refine value_ (w1 := ?_) (v := ?_) (by rfl) rfl ?_ ?_
  rotate_left 2
  · go_simp
    constructor
    · rfl
    · rfl
  refine hK.out _ _ (pw_cell_below (below_alloc (Below.refl _ _) _) C1.out) (fun hHeld => ?_)
  clear hK K
  refine norm_ (a' := ?_) ?_ ?_
  rotate_left
  · show Act.put _ (some 6) _ = _
    simp only [Act.put, List.setIfInBounds_toArray, List.set_cons_zero, List.set_cons_succ, i64_w, i32_w]
    rfl
  refine one_ (i := 4) (N := some 7) #[true, true, true, true, true, false] rfl rfl (by kernel_rfl) (by decide) (fun K hK => ?_)
  refine Kd.S_append_step (Kd.slice 99 (Kd.int .u32)) (w0 := w0) w0.heap.size (by rfl) (.tmp 3) (.tmp 6) 24 22 (.slice none 0 0) 24 rfl Try.underlying24 info22 rfl (by decide) (by omega) vo rows rec [.slice A1 rec.length d1] (fun k => k ≠ g) (fun k => k ≠ g ∧ some k ≠ vo.ownBlock ∧ w.heap.size ≤ k) (by rfl) (by rfl) ⟨_, rfl, disk_Replay.fresh HO1.out HBX.out HRR.out HB.out.size⟩ (fun _ h => ⟨h.1, h.2.1⟩) (fun k hk => by have := blk_lt HBX.out; have := HB1.out.size; omega) (Kd.S_mono (Kd.S_below (Kd.S_bound HRR.out) HB1.out) (fun k hk => ⟨hk.1, fun h => by have := h.2.2; have := hk.2.2.1; omega⟩)) (below_then HB.out HB.out.size HB1.out) (by have := HB1.out.size; have := HB.out.size; omega) (by have := HN.out; omega) ?_
  intro v2 w2 ho hb hg2 hat
  obtain ⟨A2, d2, he2⟩ := Kd.S_slice ho
  subst he2
  rw [List.length_append, show [rec].length = 1 from rfl] at ho
  have HO2 := Aside0.mk ho
  have HB2 := Aside0.mk hb
  have bx := blk_grown (blk_below HBX.out HB1.out) hg2 (Kd.S_away HRR.out (fun _ h => h))
  have HX2 := Aside0.mk bx
  have f0 := blk_frozen bx 0
  have c2 : w2.cell? ⟨g, 0, none⟩ = some vo := (blk_cell bx 0).trans rfl
  clear ho hb hg2 hat bx
  refine hK.out _ _ (c2) (fun hHeld => ?_)
  clear hK K
  refine norm_ (a' := ?_) ?_ ?_
  rotate_left
  · show Act.put _ (some 7) _ = _
    simp only [Act.put, List.setIfInBounds_toArray, List.set_cons_zero, List.set_cons_succ, i64_w, i32_w]
    rfl
  refine last_ (i := 5) (N := none) #[true, true, true, true, true, true] rfl rfl (by kernel_rfl) (by decide) (fun K hK => ?_)
  refine skip_ (w1 := ?_) (by rfl) rfl ?_ ?_
  rotate_left
  · go_simp
    rfl
  refine hK.out _ _ ?_
  clear hK K
  refine done_ (by kernel_rfl) ?_
  exact ⟨rfl, .tuple #[], by simp [results, Try.results53, go_sem], rfl, ⟨_, blk_set HX2.out 0 _, Kd.S_far HO2.out (fun _ h => h) _⟩, HB2.out.setCell hg _⟩
set_option maxHeartbeats 4000000 in
set_option maxRecDepth 100000 in
theorem tape_walk.calls (k g : Nat) (A0 : Option Addr) (c0 : Nat) (l0 : List Int) (r0 : List (List Int)) (r1 r2 : Int) (w0 w : World) (hr0 : Kd.C (Kd.int .u32) w0 A0 l0.length l0) (hc0 : l0.length ≤ c0) (hl : 1 ≤ l0.length ∧ l0.length ≤ 2048) (hg : w0.heap.size ≤ g) (hbw : Below w0.heap.size w0 w) (hbox : w.heap[g]? = some (.cells #[.slice none 0 0] 24 (0, 0))) (h : tape_walk.l0 k l0 0 [] = some (r0, r1, r2)) :
    Calls Try.prog 52 #[.slice A0 l0.length c0, .func (.func 53) #[] #[.pointer (some ⟨g, 0, none⟩)]] w fun e w' => e = .returned (.tuple #[.int .i64 r1, .int .i64 r2]) ∧ (∃ v1, w'.heap[g]? = some (.cells #[v1] 24 (0, 0)) ∧ Rrows w' w0.heap.size g v1 r0) ∧ Below w0.heap.size w0 w' := by
  have HO0 := Aside0.mk hr0
  have HC0 := Aside0.mk hc0
  have HB0 := Aside0.mk hbw
  have HX0 := Aside0.mk hbox
  have H := Aside0.mk h
  have q1 : decide ((l0.length : Int) < 1) = false := decide_eq_false (by omega)
  have q2 : decide ((l0.length : Int) > 2048) = false := decide_eq_false (by omega)
  have HL := Aside0.mk hl
  clear hr0 hc0 hbw hbox h hl
  go_enter Try.func52, Try.ntmps52
  go_wp2
  go_loopg [6] k (fun kq v6 w' => ∃ (a : Nat) (out : List (List Int)) (v1 : Value), v6 = .int .i64 (a : Int) ∧ a ≤ l0.length ∧ Aside0 (tape_walk.l0 kq l0 (a : Int) out = some (r0, r1, r2)) ∧ Aside0 (w'.heap[g]? = some (.cells #[v1] 24 (0, 0))) ∧ Aside0 (Rrows w' w0.heap.size g v1 out) ∧ Aside0 (Below w0.heap.size w0 w'))
  case atStart => exact ⟨0, [], _, rfl, by omega, H, HX0, ⟨Kd.S_nil _ _ _ _ _⟩, HB0⟩
  case round =>
    obtain ⟨a, out, v1, rfl, hle, HA, HX, HR, HBW⟩ := hrel
    clear H
    cases gk with
    | zero => exact absurd HA.out (by simp [tape_walk.l0])
    | succ k2 =>
      have H := HA.out
      clear HA
      simp only [tape_walk.l0] at H
      by_cases hlt : a < l0.length
      · rw [if_pos (by omega)] at H
        have hltb : decide ((a : Int) < (l0.length : Int)) = true := decide_eq_true (by omega)
        obtain ⟨ad, rfl, y0⟩ := tape_walk.word (Kd.C_below HO0.out HBW.out) a hlt
        obtain ⟨x, hx⟩ : ∃ x, x = rd l0 (a : Int) := ⟨_, rfl⟩
        rw [← hx] at y0 H
        clear hx
        by_cases h0 : x = 0
        · rw [if_pos h0] at H
          obtain ⟨rfl, he⟩ := Prod.mk.inj (Option.some.inj H)
          obtain ⟨rfl, rfl⟩ := Prod.mk.inj he
          subst h0
          clear H
          go_wp2
          go_ret2
          exact ⟨rfl, ⟨_, HX.out, HR.out⟩, HBW.out⟩
        · rw [if_neg h0] at H
          have q3 : (x != 0) = true := bne_iff_ne.mpr h0
          by_cases hx0 : 0 ≤ x
          · rw [if_pos hx0] at H
            by_cases h64 : x > 64
            · rw [if_pos h64] at H
              obtain ⟨rfl, he⟩ := Prod.mk.inj (Option.some.inj H)
              obtain ⟨rfl, rfl⟩ := Prod.mk.inj he
              have q4 := decide_eq_true h64
              clear H
              go_wp2
              go_ret2
              exact ⟨rfl, ⟨_, HX.out, HR.out⟩, HBW.out⟩
            · rw [if_neg h64] at H
              have q4 := decide_eq_false h64
              have hxw : wrap64 x = x := tape_walk.wr x (by omega)
              have hsub : wrap64 ((l0.length : Int) - (a : Int)) = (l0.length : Int) - (a : Int) := tape_walk.wr _ (by have := HL.out; omega)
              by_cases hge : x ≥ (l0.length : Int) - (a : Int)
              · rw [if_pos hge] at H
                obtain ⟨rfl, he⟩ := Prod.mk.inj (Option.some.inj H)
                obtain ⟨rfl, rfl⟩ := Prod.mk.inj he
                have q5 := decide_eq_true hge
                clear H
                go_wp2
                go_ret2
                exact ⟨rfl, ⟨_, HX.out, HR.out⟩, HBW.out⟩
              · rw [if_neg hge] at H
                by_cases ho : out.length ≤ 2048
                · rw [if_pos ho] at H
                  obtain ⟨m, rfl⟩ := Int.eq_ofNat_of_zero_le hx0
                  have q5 := decide_eq_false hge
                  have HN : Aside0 (a + 1 + m ≤ l0.length) := ⟨by omega⟩
                  have HM : Aside0 (m ≤ 64 ∧ 1 ≤ m ∧ out.length ≤ 2048) := ⟨by omega⟩
                  have e1 : wrap64 ((a : Int) + 1) = (a : Int) + 1 := tape_walk.wr _ (by have := HL.out; omega)
                  have e2 : wrap64 ((a : Int) + 1 + (m : Int)) = (a : Int) + 1 + (m : Int) := tape_walk.wr _ (by have := HL.out; omega)
                  have H' := Aside0.mk H
                  have hsl : ∀ W, (Instr.slice 94 (.slice (some ad) l0.length c0) (some (.int .i64 ((a : Int) + 1))) (some (.int .i64 ((a : Int) + 1 + (m : Int)))) (some (.int .i64 ((a : Int) + 1 + (m : Int))))).run Try.prog W = .ok (.slice (some (ad.add (a + 1))) m m) W := fun W => by
                    rw [run_slice_lhm W 94 (some ad) l0.length c0 Try.underlying94 .i64 .i64 .i64 ((a : Int) + 1) ((a : Int) + 1 + (m : Int)) ((a : Int) + 1 + (m : Int)) (by omega) (by omega) (by omega) (by have := HC0.out; omega)]
                    rw [show ((a : Int) + 1).toNat = a + 1 by omega, show ((a : Int) + 1 + (m : Int)).toNat = a + 1 + m by omega]
                    simp [go_sem, sliced, Result.andThen, show a + 1 + m - (a + 1) = m by omega, show ¬ (m = 0) by omega]
                  clear H ho
                  go_wp2_with (go_at_call 53; refine (disk_Replay.put g m m _ (tape_walk.cut l0 a m) out v1 w0 _ hg HBW.out (tape_walk.rec_C (Kd.C_below HO0.out HBW.out) HC0.out HN.out HM.out.2.1) (tape_walk.rec_len HN.out).symm HM.out.1 HM.out.2.2 HX.out HR.out).mono ?_; rintro e w1 ⟨rfl, ⟨v2, hx2, hr2⟩, hb2⟩; have HX2 := Aside0.mk hx2; have HR2 := Aside0.mk hr2; have HB2 := Aside0.mk hb2; clear hx2 hr2 hb2)
                  go_roundg k2
                  case measure => exact Nat.lt_succ_self _
                  case rel => exact ⟨a + 1 + m, _, _, by simp, HN.out, ⟨by rw [show ((a + 1 + m : Nat) : Int) = (a : Int) + 1 + (m : Int) by omega]; exact H'.out⟩, HX2, HR2, HB2⟩
                · rw [if_neg ho] at H; cases H
          · rw [if_neg hx0] at H; cases H
      · rw [if_neg (by omega)] at H
        have hltb : decide ((a : Int) < (l0.length : Int)) = false := decide_eq_false (by omega)
        obtain ⟨rfl, he⟩ := Prod.mk.inj (Option.some.inj H)
        obtain ⟨rfl, rfl⟩ := Prod.mk.inj he
        clear H
        go_wp2
        go_ret2
        exact ⟨rfl, ⟨_, HX.out, HR.out⟩, HBW.out⟩
theorem tape_walk.size (A0 : Option Addr) (c0 : Nat) (l0 : List Int) (v : Value) (w : World) (h : (l0.length : Int) < 1 ∨ (l0.length : Int) > 2048) : Calls Try.prog 52 #[.slice A0 l0.length c0, v] w fun e w' => e = .returned (.tuple #[.int .i64 0, .int .i64 1]) ∧ w' = w := by
  by_cases h2 : (l0.length : Int) < 1
  · have q1 := decide_eq_true h2
    clear h h2
    go_enter Try.func52, Try.ntmps52
    go_wp2
    go_ret2
    exact ⟨rfl, rfl⟩
  · have q1 := decide_eq_false h2
    have q2 : decide ((l0.length : Int) > 2048) = true := decide_eq_true (by omega)
    clear h h2
    go_enter Try.func52, Try.ntmps52
    go_wp2
    go_ret2
    exact ⟨rfl, rfl⟩
set_option maxHeartbeats 4000000 in
set_option maxRecDepth 100000 in
theorem disk_Replay.calls (k : Nat) (A0 : Option Addr) (c0 : Nat) (l0 : List Int) (r1 : List (List Int)) (r2 r3 : Int) (w : World) (hr0 : Kd.C (Kd.int .u32) w A0 l0.length l0) (hc0 : l0.length ≤ c0) (h : disk_Replay.f k l0 = some (r1, r2, r3)) :
    Calls Try.prog 16 #[.slice A0 l0.length c0] w fun e w' => ∃ v0_ : Value, e = .returned (.tuple #[v0_, .int .i64 r2, .int .i64 r3]) ∧ Kd.S (Kd.slice 99 (Kd.int .u32)) 22 w' w.heap.size (fun _ => True) v0_ r1 ∧ Below w.heap.size w w' := by
  have HO0 := Aside0.mk hr0
  have HC0 := Aside0.mk hc0
  clear hr0 hc0
  unfold disk_Replay.f at h
  by_cases h1 : 1 ≤ l0.length ∧ l0.length ≤ 2048
  · rw [if_pos h1] at h
    have HL := Aside0.mk h1
    clear h1
    obtain ⟨⟨r0, q1, q2⟩, hw, h⟩ := Option.bind_eq_some_iff.mp h
    have HW := Aside0.mk hw
    clear hw
    by_cases h2 : q2 = 0
    · rw [if_pos h2] at h
      obtain ⟨rfl, he⟩ := Prod.mk.inj (Option.some.inj h)
      obtain ⟨rfl, rfl⟩ := Prod.mk.inj he
      subst h2
      clear h he
      go_enter Try.func16, Try.ntmps16
      go_wp2_with (go_at_call 52; refine (tape_walk.calls k _ A0 _ l0 r0 q1 0 w _ HO0.out HC0.out HL.out (by simp) (by repeat (first | exact Below.refl _ _ | apply below_alloc | apply pw_below_drewN | apply below_drew1)) (by exact blk_new _ _) HW.out).mono ?_; rintro e w1 ⟨rfl, ⟨v1, hx1, hr1⟩, hb1⟩; have c1 : w1.cell? ⟨w.heap.size, 0, none⟩ = some v1 := (blk_cell hx1 0).trans rfl; have HR1 := Aside0.mk hr1; have HB1 := Aside0.mk hb1; clear hx1 hr1 hb1)
      go_ret3
      exact ⟨v1, rfl, Kd.S_mono HR1.out (fun _ _ => trivial), HB1.out⟩
    · rw [if_neg h2] at h
      obtain ⟨rfl, he⟩ := Prod.mk.inj (Option.some.inj h)
      obtain ⟨rfl, rfl⟩ := Prod.mk.inj he
      have q3 : (q2 != 0) = true := bne_iff_ne.mpr h2
      clear h he
      go_enter Try.func16, Try.ntmps16
      go_wp2_with (go_at_call 52; refine (tape_walk.calls k _ A0 _ l0 r0 q1 q2 w _ HO0.out HC0.out HL.out (by simp) (by repeat (first | exact Below.refl _ _ | apply below_alloc | apply pw_below_drewN | apply below_drew1)) (by exact blk_new _ _) HW.out).mono ?_; rintro e w1 ⟨rfl, ⟨v1, hx1, hr1⟩, hb1⟩; have HB1 := Aside0.mk hb1; clear hx1 hr1 hb1)
      go_ret3
      exact ⟨_, rfl, Kd.S_nil _ _ _ _ _, HB1.out⟩
  · rw [if_neg h1] at h
    obtain ⟨rfl, he⟩ := Prod.mk.inj (Option.some.inj h)
    obtain ⟨rfl, rfl⟩ := Prod.mk.inj he
    clear h he
    by_cases h2 : (l0.length : Int) < 1
    · have q1 := decide_eq_true h2
      go_enter Try.func16, Try.ntmps16
      go_wp2_with (go_at_call 52; refine (tape_walk.size A0 _ l0 _ _ (.inl h2)).mono ?_; rintro e w1 ⟨rfl, rfl⟩)
      go_ret3
      exact ⟨_, rfl, Kd.S_nil _ _ _ _ _, by repeat (first | exact Below.refl _ _ | apply below_alloc | apply pw_below_drewN | apply below_drew1)⟩
    · go_enter Try.func16, Try.ntmps16
      go_wp2_with (go_at_call 52; refine (tape_walk.size A0 _ l0 _ _ (.inr (by omega))).mono ?_; rintro e w1 ⟨rfl, rfl⟩)
      go_ret3
      exact ⟨_, rfl, Kd.S_nil _ _ _ _ _, by repeat (first | exact Below.refl _ _ | apply below_alloc | apply pw_below_drewN | apply below_drew1)⟩

/-! ### vendmeterref_In: function 54 -/
def vendmeterref_In.f (a0 : Int) (a1 : Int) (a2 : Int) : Option (Bool) := if a0 ≥ a1 then (some (decide (a0 ≤ a2))) else (some false)
set_option maxHeartbeats 8000000 in
set_option maxRecDepth 100000 in
theorem vendmeterref_In.calls (a0 : Int) (a1 : Int) (a2 : Int) (r : Bool) (w : World) (h : vendmeterref_In.f a0 a1 a2 = some r) :
    Calls Try.prog 54 #[.int .i64 a0, .int .i64 a1, .int .i64 a2] w fun e w' => e = .returned (.bool r) ∧ Drawn0 w w' := by
  have H : (if a0 ≥ a1 then (some (decide (a0 ≤ a2))) else (some false)) = some r := h
  clear h
  by_cases c4 : a0 ≥ a1
  · rw [if_pos c4] at H
    have c4b0 : decide (a1 ≤ a0) = true := decide_eq_true c4
    clear c4
    obtain rfl := Option.some.inj H
    go_enter Try.func54, Try.ntmps54
    go_wp2
    go_ret
    exact ⟨by first | rfl | (simp; done) | (simp [*]; done), by repeat (first | exact Drawn0.refl _ | apply Drawn0.step)⟩
  · rw [if_neg c4] at H
    have c4b0 : decide (a1 ≤ a0) = false := decide_eq_false c4
    clear c4
    obtain rfl := Option.some.inj H
    go_enter Try.func54, Try.ntmps54
    go_wp2
    go_ret
    exact ⟨by first | rfl | (simp; done) | (simp [*]; done), by repeat (first | exact Drawn0.refl _ | apply Drawn0.step)⟩

/-! ### vendmeterref_lengthAt: function 55 -/
def vendmeterref_lengthAt.j0 : Nat → List Int → Int → Bool → Option (Int)
  | 0, _, _, _ => none
  | k + 1, x0, x1, x16 => if x16 = true then (some 0) else (if 0 ≤ x1 then (if x1 < (x0.length : Int) then (if (rd x0 x1) > 64 then (some (-1)) else (if (wrap64 (x1 + (wrap64 (rd x0 x1)))) ≥ (x0.length : Int) then (some (-1)) else (some (wrap64 (rd x0 x1))))) else (none)) else (none))
def vendmeterref_lengthAt.f (k : Nat) (l0 : List Int) (a1 : Int) : Option (Int) := if a1 = (l0.length : Int) then (vendmeterref_lengthAt.j0 k l0 a1 true) else (if 0 ≤ a1 then (if a1 < (l0.length : Int) then (vendmeterref_lengthAt.j0 k l0 a1 ((rd l0 a1) == 0)) else (none)) else (none))
theorem vendmeterref_lengthAt.mono_l : ∀ k, (∀ y0 y1 y2, LeO (vendmeterref_lengthAt.j0 k y0 y1 y2) (vendmeterref_lengthAt.j0 (k + 1) y0 y1 y2))
  | 0 => fun _ _ _ r h => by simp [vendmeterref_lengthAt.j0] at h
  | k + 1 => by
    have ih0 := vendmeterref_lengthAt.mono_l k
    · intro y0 y1 y2
      unfold vendmeterref_lengthAt.j0
      repeat' first
      | (with_reducible exact ih0 _ _ _)
      | (with_reducible exact LeO.refl _)
      | (with_reducible exact LeO.none _)
      | (with_reducible refine LeO.ite ?_ ?_)
      | (with_reducible refine LeO.bind ?_ (fun _ => ?_))
      | exact ih0 _ _ _
      | exact LeO.none _
      | refine LeO.ite ?_ ?_
      | refine LeO.bind ?_ (fun _ => ?_)
theorem vendmeterref_lengthAt.mono : ∀ a0 a1 k, LeO (vendmeterref_lengthAt.f k a0 a1) (vendmeterref_lengthAt.f (k + 1) a0 a1) := by
  intro a0 a1 k
  have ih0 := vendmeterref_lengthAt.mono_l k
  unfold vendmeterref_lengthAt.f
  repeat' first
      | (with_reducible exact ih0 _ _ _)
      | (with_reducible exact LeO.refl _)
      | (with_reducible exact LeO.none _)
      | (with_reducible refine LeO.ite ?_ ?_)
      | (with_reducible refine LeO.bind ?_ (fun _ => ?_))
      | exact ih0 _ _ _
      | exact LeO.none _
      | refine LeO.ite ?_ ?_
      | refine LeO.bind ?_ (fun _ => ?_)
set_option maxHeartbeats 8000000 in
set_option maxRecDepth 100000 in
theorem vendmeterref_lengthAt.calls (k : Nat) (A0 : Option Addr) (c0 : Nat) (l0 : List Int) (a1 : Int) (r : Int) (w : World) (hr0 : Kd.C (Kd.int .u32) w A0 l0.length l0) (hc0 : l0.length ≤ c0) (h : vendmeterref_lengthAt.f k l0 a1 = some r) :
    Calls Try.prog 55 #[.slice A0 l0.length c0, .int .i64 a1] w fun e w' => e = .returned (.int .i64 r) ∧ Drawn0 w w' := by
  have HR0 := Aside0.mk hr0
  have HC0 := Aside0.mk hc0
  clear hr0 hc0
  have H : (if a1 = (l0.length : Int) then (vendmeterref_lengthAt.j0 k l0 a1 true) else (if 0 ≤ a1 then (if a1 < (l0.length : Int) then (vendmeterref_lengthAt.j0 k l0 a1 ((rd l0 a1) == 0)) else (none)) else (none))) = some r := h
  clear h
  have HC3 := Aside0.mk H
  clear H
  go_enter Try.func55, Try.ntmps55
  go_upto_region 1 with (fail)
  go_cut [16] (fun v16 wc => ∃ (kq : Nat) (x16_2 : Bool), v16 = .bool x16_2 ∧ Aside0 (vendmeterref_lengthAt.j0 kq l0 a1 x16_2 = some r) ∧ Aside0 (kq ≤ k) ∧ Drawn0 w wc)
  case first =>
    have H := HC3.out
    clear HC3
    by_cases c4 : a1 = (l0.length : Int)
    · rw [if_pos c4] at H
      have c4b0 : (a1 == (l0.length : Int)) = true := beq_iff_eq.mpr c4
      have c4b1 : (a1 != (l0.length : Int)) = false := bne_eq_false_iff_eq.mpr c4
      clear c4
      (first | rw [c4b0] | (simp only [i64_w, i32_w]; rw [c4b0]) | skip)
      have H' := Aside0.mk H
      clear H
      go_wp2
      go_meet
      case rel => exact ⟨_, (true), (by first | rfl | (simp; done) | (simp [*]; done)), H', ⟨by first | omega | exact Nat.le_refl _⟩, by repeat (first | exact Drawn0.refl _ | apply Drawn0.step)⟩
    · rw [if_neg c4] at H
      have c4b0 : (a1 == (l0.length : Int)) = false := beq_eq_false_iff_ne.mpr c4
      have c4b1 : (a1 != (l0.length : Int)) = true := bne_iff_ne.mpr c4
      (first | rw [c4b0] | (simp only [i64_w, i32_w]; rw [c4b0]) | skip)
      by_cases c5 : 0 ≤ a1
      · rw [if_pos c5] at H
        have c5b0 : decide (0 ≤ a1) = true := decide_eq_true c5
        clear c5
        by_cases c6 : a1 < (l0.length : Int)
        · rw [if_pos c6] at H
          have c6b0 : decide (a1 < (l0.length : Int)) = true := decide_eq_true c6
          clear c6
          have H' := Aside0.mk H
          clear H
          have p104 : 0 ≤ (a1 : Int) := of_decide_eq_true (by first | (with_reducible assumption) | assumption)
          have q104 : a1 < (l0.length : Int) := of_decide_eq_true (by first | (with_reducible assumption) | assumption)
          obtain ⟨ad104, e104, hx104_0⟩ := Kd.at_int HR0.out a1 p104 q104
          cases e104
          replace p104 := eq_true p104
          replace q104 := eq_true q104
          go_wp2
          go_meet
          case rel => exact ⟨_, (((rd l0 a1) == 0)), (by first | rfl | (simp; done) | (simp [*]; done)), H', ⟨by first | omega | exact Nat.le_refl _⟩, by repeat (first | exact Drawn0.refl _ | apply Drawn0.step)⟩
        · rw [if_neg c6] at H
          exact absurd H (by simp)
      · rw [if_neg c5] at H
        exact absurd H (by simp)
  case rest =>
    clear HC3
    try clear p1
    try clear q1
    try clear hx1
    try clear p2
    try clear c4
    try clear c4b0
    try clear c4b1
    try clear c5
    try clear c5b0
    try clear c6
    try clear c6b0
    try clear hx104_0
    try clear p104
    try clear q104
    obtain ⟨kq, x16_2, rfl, HA, HJ2, ⟨mc2, rfl⟩⟩ := hcut
    cases kq with
    | zero => exact absurd HA.out (by simp [vendmeterref_lengthAt.j0])
    | succ kj2 =>
      have H := HA.out
      clear HA
      simp only [vendmeterref_lengthAt.j0] at H
      by_cases c7 : x16_2 = true
      · subst c7
        have H1 : (some 0) = some r := by rw [if_pos rfl] at H; exact H
        clear H
        have H := H1
        clear H1
        obtain rfl := Option.some.inj H
        go_wp2
        go_ret
        exact ⟨by first | rfl | (simp; done) | (simp [*]; done), by repeat (first | exact Drawn0.refl _ | apply Drawn0.step)⟩
      · replace c7 := Bool.eq_false_iff.mpr c7
        subst c7
        have H1 : (if 0 ≤ a1 then (if a1 < (l0.length : Int) then (if (rd l0 a1) > 64 then (some (-1)) else (if (wrap64 (a1 + (wrap64 (rd l0 a1)))) ≥ (l0.length : Int) then (some (-1)) else (some (wrap64 (rd l0 a1))))) else (none)) else (none)) = some r := by rw [if_neg (show ¬ (false = true) by decide)] at H; exact H
        clear H
        have H := H1
        clear H1
        by_cases c8 : 0 ≤ a1
        · rw [if_pos c8] at H
          have c8b0 : decide (0 ≤ a1) = true := decide_eq_true c8
          clear c8
          by_cases c9 : a1 < (l0.length : Int)
          · rw [if_pos c9] at H
            have c9b0 : decide (a1 < (l0.length : Int)) = true := decide_eq_true c9
            clear c9
            by_cases c10 : (rd l0 a1) > 64
            · rw [if_pos c10] at H
              have c10b0 : decide (64 < (rd l0 a1)) = true := decide_eq_true c10
              clear c10
              obtain rfl := Option.some.inj H
              have p105 : 0 ≤ (a1 : Int) := of_decide_eq_true (by first | (with_reducible assumption) | assumption)
              have q105 : a1 < (l0.length : Int) := of_decide_eq_true (by first | (with_reducible assumption) | assumption)
              obtain ⟨ad105, e105, hx105_0⟩ := Kd.at_int HR0.out a1 p105 q105
              cases e105
              replace p105 := eq_true p105
              replace q105 := eq_true q105
              go_wp2
              go_ret
              exact ⟨by first | rfl | (simp; done) | (simp [*]; done), by repeat (first | exact Drawn0.refl _ | apply Drawn0.step)⟩
            · rw [if_neg c10] at H
              have c10b0 : decide (64 < (rd l0 a1)) = false := decide_eq_false c10
              clear c10
              by_cases c11 : (wrap64 (a1 + (wrap64 (rd l0 a1)))) ≥ (l0.length : Int)
              · rw [if_pos c11] at H
                have c11b0 : decide ((l0.length : Int) ≤ (wrap64 (a1 + (wrap64 (rd l0 a1))))) = true := decide_eq_true c11
                clear c11
                obtain rfl := Option.some.inj H
                have p105 : 0 ≤ (a1 : Int) := of_decide_eq_true (by first | (with_reducible assumption) | assumption)
                have q105 : a1 < (l0.length : Int) := of_decide_eq_true (by first | (with_reducible assumption) | assumption)
                obtain ⟨ad105, e105, hx105_0⟩ := Kd.at_int HR0.out a1 p105 q105
                cases e105
                replace p105 := eq_true p105
                replace q105 := eq_true q105
                have p106 : 0 ≤ (a1 : Int) := of_decide_eq_true (by first | (with_reducible assumption) | assumption)
                have q106 : a1 < (l0.length : Int) := of_decide_eq_true (by first | (with_reducible assumption) | assumption)
                obtain ⟨ad106, e106, hx106_0⟩ := Kd.at_int HR0.out a1 p106 q106
                obtain rfl : ad105 = ad106 := (by injection e106)
                replace p106 := eq_true p106
                replace q106 := eq_true q106
                go_wp2
                go_ret
                exact ⟨by first | rfl | (simp; done) | (simp [*]; done), by repeat (first | exact Drawn0.refl _ | apply Drawn0.step)⟩
              · rw [if_neg c11] at H
                have c11b0 : decide ((l0.length : Int) ≤ (wrap64 (a1 + (wrap64 (rd l0 a1))))) = false := decide_eq_false c11
                clear c11
                obtain rfl := Option.some.inj H
                have p105 : 0 ≤ (a1 : Int) := of_decide_eq_true (by first | (with_reducible assumption) | assumption)
                have q105 : a1 < (l0.length : Int) := of_decide_eq_true (by first | (with_reducible assumption) | assumption)
                obtain ⟨ad105, e105, hx105_0⟩ := Kd.at_int HR0.out a1 p105 q105
                cases e105
                replace p105 := eq_true p105
                replace q105 := eq_true q105
                have p106 : 0 ≤ (a1 : Int) := of_decide_eq_true (by first | (with_reducible assumption) | assumption)
                have q106 : a1 < (l0.length : Int) := of_decide_eq_true (by first | (with_reducible assumption) | assumption)
                obtain ⟨ad106, e106, hx106_0⟩ := Kd.at_int HR0.out a1 p106 q106
                obtain rfl : ad105 = ad106 := (by injection e106)
                replace p106 := eq_true p106
                replace q106 := eq_true q106
                go_wp2
                go_ret
                exact ⟨by first | rfl | (simp; done) | (simp [*]; done), by repeat (first | exact Drawn0.refl _ | apply Drawn0.step)⟩
          · rw [if_neg c9] at H
            exact absurd H (by simp)
        · rw [if_neg c8] at H
          exact absurd H (by simp)

/-! ### vendmeterref_Replayed: function 17 -/
mutual
def vendmeterref_Replayed.l0 : Nat → List Int → List (List Int) → Int → Int → Option ((List (List Int)) × Int × Int)
  | 0, _, _, _, _ => none
  | k + 1, x0, x5, x6, x7 => if x7 > 0 then (if 0 ≤ x7 then (if (x7 : Int).toNat ≤ 70368744177664 then (vendmeterref_Replayed.l1 k x0 x5 x6 x7 (List.replicate (x7 : Int).toNat 0) 0) else (none)) else (none)) else (if x7 < 0 then (some (([] : List (List Int)), 0, 3)) else (some (x5, x6, 0)))
def vendmeterref_Replayed.l1 : Nat → List Int → List (List Int) → Int → Int → List Int → Int → Option ((List (List Int)) × Int × Int)
  | 0, _, _, _, _, _, _ => none
  | k + 1, x0, x5, x6, x7, x8, x9 => if x9 < x7 then (if 0 ≤ (wrap64 ((wrap64 (x6 + 1)) + x9)) then (if (wrap64 ((wrap64 (x6 + 1)) + x9)) < (x0.length : Int) then (if 0 ≤ x9 then (if x9 < (x8.length : Int) then (vendmeterref_Replayed.l1 k x0 x5 x6 x7 (x8.set (x9 : Int).toNat (rd x0 (wrap64 ((wrap64 (x6 + 1)) + x9)))) (wrap64 (x9 + 1))) else (none)) else (none)) else (none)) else (none)) else (if x5.length < 5864062014805 then ((vendmeterref_lengthAt.f k x0 (wrap64 ((wrap64 (x6 + x7)) + 1))).bind fun t117 => (vendmeterref_Replayed.l0 k x0 (x5 ++ [x8]) (wrap64 ((wrap64 (x6 + x7)) + 1)) t117)) else (none))
end
def vendmeterref_Replayed.f (k : Nat) (l0 : List Int) : Option ((List (List Int)) × Int × Int) := (vendmeterref_In.f (l0.length : Int) 1 2048).bind fun t107 => (if t107 = true then ((vendmeterref_lengthAt.f k l0 0).bind fun t108 => (vendmeterref_Replayed.l0 k l0 ([] : List (List Int)) 0 t108)) else (some (([] : List (List Int)), 0, 1)))
theorem vendmeterref_Replayed.mono_l : ∀ k, (∀ y0 y1 y2 y3, LeO (vendmeterref_Replayed.l0 k y0 y1 y2 y3) (vendmeterref_Replayed.l0 (k + 1) y0 y1 y2 y3)) ∧ (∀ y0 y1 y2 y3 y4 y5, LeO (vendmeterref_Replayed.l1 k y0 y1 y2 y3 y4 y5) (vendmeterref_Replayed.l1 (k + 1) y0 y1 y2 y3 y4 y5))
  | 0 => ⟨fun _ _ _ _ r h => by simp [vendmeterref_Replayed.l0] at h, fun _ _ _ _ _ _ r h => by simp [vendmeterref_Replayed.l1] at h⟩
  | k + 1 => by
    obtain ⟨ih0, ih1⟩ := vendmeterref_Replayed.mono_l k
    refine ⟨?_, ?_⟩
    · intro y0 y1 y2 y3
      unfold vendmeterref_Replayed.l0
      repeat' first
      | (with_reducible exact ih0 _ _ _ _)
      | (with_reducible exact ih1 _ _ _ _ _ _)
      | (with_reducible exact vendmeterref_lengthAt.mono _ _ _)
      | (with_reducible exact LeO.refl _)
      | (with_reducible exact LeO.none _)
      | (with_reducible refine LeO.ite ?_ ?_)
      | (with_reducible refine LeO.bind ?_ (fun _ => ?_))
      | exact ih0 _ _ _ _
      | exact ih1 _ _ _ _ _ _
      | exact vendmeterref_lengthAt.mono _ _ _
      | exact LeO.none _
      | refine LeO.ite ?_ ?_
      | refine LeO.bind ?_ (fun _ => ?_)
    · intro y0 y1 y2 y3 y4 y5
      unfold vendmeterref_Replayed.l1
      repeat' first
      | (with_reducible exact ih0 _ _ _ _)
      | (with_reducible exact ih1 _ _ _ _ _ _)
      | (with_reducible exact vendmeterref_lengthAt.mono _ _ _)
      | (with_reducible exact LeO.refl _)
      | (with_reducible exact LeO.none _)
      | (with_reducible refine LeO.ite ?_ ?_)
      | (with_reducible refine LeO.bind ?_ (fun _ => ?_))
      | exact ih0 _ _ _ _
      | exact ih1 _ _ _ _ _ _
      | exact vendmeterref_lengthAt.mono _ _ _
      | exact LeO.none _
      | refine LeO.ite ?_ ?_
      | refine LeO.bind ?_ (fun _ => ?_)
theorem vendmeterref_Replayed.mono : ∀ a0 k, LeO (vendmeterref_Replayed.f k a0) (vendmeterref_Replayed.f (k + 1) a0) := by
  intro a0 k
  obtain ⟨ih0, ih1⟩ := vendmeterref_Replayed.mono_l k
  unfold vendmeterref_Replayed.f
  repeat' first
      | (with_reducible exact ih0 _ _ _ _)
      | (with_reducible exact ih1 _ _ _ _ _ _)
      | (with_reducible exact vendmeterref_lengthAt.mono _ _ _)
      | (with_reducible exact LeO.refl _)
      | (with_reducible exact LeO.none _)
      | (with_reducible refine LeO.ite ?_ ?_)
      | (with_reducible refine LeO.bind ?_ (fun _ => ?_))
      | exact ih0 _ _ _ _
      | exact ih1 _ _ _ _ _ _
      | exact vendmeterref_lengthAt.mono _ _ _
      | exact LeO.none _
      | refine LeO.ite ?_ ?_
      | refine LeO.bind ?_ (fun _ => ?_)
set_option maxHeartbeats 8000000 in
set_option maxRecDepth 100000 in
theorem vendmeterref_Replayed.calls (k : Nat) (A0 : Option Addr) (c0 : Nat) (l0 : List Int) (r1 : List (List Int)) (r2 : Int) (r3 : Int) (w : World) (hr0 : Kd.C (Kd.int .u32) w A0 l0.length l0) (hc0 : l0.length ≤ c0) (h : vendmeterref_Replayed.f k l0 = some (r1, r2, r3)) :
    Calls Try.prog 17 #[.slice A0 l0.length c0] w fun e w' => ∃ v0_ : Value, e = .returned (.tuple #[v0_, .int .i64 r2, .int .i64 r3]) ∧ Kd.S (Kd.slice 99 (Kd.int .u32)) 22 w' w.heap.size (fun _ => True) v0_ r1 ∧ Below w.heap.size w w' := by
  have HR0 := Aside0.mk hr0
  have HC0 := Aside0.mk hc0
  clear hr0 hc0
  have HB := Aside0.mk (Below.refl w.heap.size w)
  have H : ((vendmeterref_In.f (l0.length : Int) 1 2048).bind fun t107 => (if t107 = true then ((vendmeterref_lengthAt.f k l0 0).bind fun t108 => (vendmeterref_Replayed.l0 k l0 ([] : List (List Int)) 0 t108)) else (some (([] : List (List Int)), 0, 1)))) = some (r1, r2, r3) := h
  clear h
  replace H := Option.bind_eq_some_iff.mp H
  obtain ⟨t107, A20, H⟩ := H
  replace H : (if t107 = true then ((vendmeterref_lengthAt.f k l0 0).bind fun t108 => (vendmeterref_Replayed.l0 k l0 ([] : List (List Int)) 0 t108)) else (some (([] : List (List Int)), 0, 1))) = some (r1, r2, r3) := H
  have A2 := Aside0.mk A20
  clear A20
  by_cases c3 : t107 = true
  · subst c3
    have H1 : ((vendmeterref_lengthAt.f k l0 0).bind fun t108 => (vendmeterref_Replayed.l0 k l0 ([] : List (List Int)) 0 t108)) = some (r1, r2, r3) := by rw [if_pos rfl] at H; exact H
    clear H
    have H := H1
    clear H1
    replace H := Option.bind_eq_some_iff.mp H
    obtain ⟨t108, A40, H⟩ := H
    replace H : (vendmeterref_Replayed.l0 k l0 ([] : List (List Int)) 0 t108) = some (r1, r2, r3) := H
    have A4 := Aside0.mk A40
    clear A40
    have H' := Aside0.mk H
    clear H
    go_enter Try.func17, Try.ntmps17
    go_wp2_with (first | ((with_reducible refine gate_callee (f := 54) rfl ?_); refine goesL_ (some 12) rfl rfl Try.func54 (by kernel_rfl) rfl #[.int .i64 (l0.length : Int), .int .i64 1, .int .i64 2048] rfl (by (try simp only [List.map_toArray, List.map_cons, List.map_nil]); first | done | rfl | (simp only [List.length_drop, List.length_take]; rfl)) ?_; (with_reducible refine (vendmeterref_In.calls (l0.length : Int) 1 2048 true _ A2.out).mono ?_); rintro e w' ⟨rfl, ⟨nd, rfl⟩⟩; refine ⟨_, rfl, ?_⟩) | ((with_reducible refine gate_callee (f := 55) rfl ?_); refine goesL_ (some 16) rfl rfl Try.func55 (by kernel_rfl) rfl #[.slice A0 l0.length c0, .int .i64 0] rfl (by (try simp only [List.map_toArray, List.map_cons, List.map_nil]); first | done | rfl | (simp only [List.length_drop, List.length_take]; rfl)) ?_; (with_reducible refine (vendmeterref_lengthAt.calls k _ _ l0 0 t108 _ ?side1 ?side2 A4.out).mono ?_); (case side1 => repeat (first | exact HR0.out | (with_reducible refine Kd.C_alloc ?_ _) | (with_reducible refine Kd.C_drewN ?_ _) | (with_reducible refine Kd.C_drew ?_))); (case side2 => exact HC0.out); rintro e w' ⟨rfl, ⟨nd, rfl⟩⟩; refine ⟨_, rfl, ?_⟩))
    go_loopg [5, 6, 7] k (fun kq v5 v6 v7 w' => ∃ (x5_1 : List (List Int)) (x6_1 : Int) (x7_1 : Int), v6 = .int .i64 x6_1 ∧ v7 = .int .i64 x7_1 ∧ Aside0 (vendmeterref_Replayed.l0 kq l0 x5_1 x6_1 x7_1 = some (r1, r2, r3)) ∧ Aside0 (kq ≤ k) ∧ Aside0 (Kd.S (Kd.slice 99 (Kd.int .u32)) 22 w' w.heap.size (fun _ => True) v5 x5_1) ∧ Aside0 (Below w.heap.size w w'))
    case atStart => exact ⟨(([] : List (List Int))), (0), (t108), (by first | rfl | (simp; done) | (simp [*]; done)), (by first | rfl | (simp; done) | (simp [*]; done)), H', ⟨Nat.le_refl _⟩, ⟨by first | exact Kd.S_nil _ _ _ _ _ | exact Kd.N_nil _ _ _ _ _ | exact Kd.V_nil _ _ _ _ _ | exact Kd.Q_nil _ _ _ _ _ | exact Kd.R_nil _ _ _ _ _⟩, ⟨by repeat (first | (with_reducible first | exact HB.out | apply below_alloc | apply pw_below_drewN | apply below_drew1) | exact HB.out)⟩⟩
    case round =>
      clear H'
      try clear c1
      try clear p2
      try clear c3
      obtain ⟨x5_1, x6_1, x7_1, rfl, rfl, HA, HK1, HO_5, HB⟩ := hrel
      cases gk with
      | zero => exact absurd HA.out (by simp [vendmeterref_Replayed.l0])
      | succ k1 =>
        have H := HA.out
        clear HA
        simp only [vendmeterref_Replayed.l0] at H
        by_cases c5 : x7_1 > 0
        · rw [if_pos c5] at H
          have c5b0 : decide (0 < x7_1) = true := decide_eq_true c5
          clear c5
          by_cases c6 : 0 ≤ x7_1
          · rw [if_pos c6] at H
            have c6b0 := eq_true c6
            have c6b1 : decide (0 ≤ x7_1) = true := decide_eq_true c6
            clear c6
            by_cases c7 : (x7_1 : Int).toNat ≤ 70368744177664
            · rw [if_pos c7] at H
              have c7b0 := eq_true c7
              have c7b1 : decide ((x7_1 : Int).toNat ≤ 70368744177664) = true := decide_eq_true c7
              clear c7
              obtain ⟨y109, hy109⟩ : ∃ y_ : List Int, y_ = (List.replicate (x7_1 : Int).toNat 0) := ⟨_, rfl⟩
              replace H : (vendmeterref_Replayed.l1 k1 l0 x5_1 x6_1 x7_1 y109 0) = some (r1, r2, r3) := by first | (rw [hy109]; with_reducible exact H) | (have H2_ := (Option.bind_some _ _).symm.trans H; rw [hy109]; with_reducible exact H2_) | (have H2_ := (Option.bind_some _ _).symm.trans H; with_reducible exact H2_) | with_reducible exact H | (rw [hy109]; exact H) | exact H
              have Ny109 := Aside0.mk hy109
              clear hy109
              have H' := Aside0.mk H
              clear H
              go_wp2_with (first | ((with_reducible refine gate_dst (N := 20) rfl ?_); refine Kd.R_make (Kd.int .u32) _ 99 rfl (N := 20) rfl 22 _ _ rfl x7_1 rfl rfl Try.underlying22 (.int .u32 0) 4 info99 rfl (by decide) (by omega) 0 (ok := fun _ => True) (okp := fun _ => True) rfl (fun _ hk => hk) trivial (of_decide_eq_true (by first | (with_reducible assumption) | assumption)) (Nat.le_trans (Nat.mul_le_mul_right _ (of_decide_eq_true (by first | (with_reducible assumption) | assumption) : x7_1.toNat ≤ 70368744177664)) (by omega)) (Below.refl _ _) (Nat.le_refl _) ?_; intro v110 w8 ho9 hb hg_ hnew_; clear hg_ hnew_; (first | rw [← Ny109.out] at ho9 | (simp only [Int.reduceToNat] at ho9; rw [← Ny109.out] at ho9)); have n0_ := Aside0.mk (Kd.S_elder' (by (with_reducible repeat (first | apply Kd.S_alloc | apply Kd.S_drewN | apply Kd.S_drew)); exact HO_5.out) (Kd.R_base ho9) hb); have n1_ := Aside0.mk (Kd.R_lower ho9 (below_size (by repeat (first | (with_reducible first | exact HB.out | apply below_alloc | apply pw_below_drewN | apply below_drew1) | exact HB.out)))); have n2_ := Aside0.mk (below_step (by repeat (first | (with_reducible first | exact HB.out | apply below_alloc | apply pw_below_drewN | apply below_drew1) | exact HB.out)) hb); clear HO_5; clear HB; have HO_5 := n0_; have HO111 := n1_; have HB := n2_; clear n0_ n1_ n2_; clear hb ho9))
              go_loopg [9] k1 (fun kq v9 w' => ∃ (x8_2 : List Int) (x9_2 : Int), v9 = .int .i64 x9_2 ∧ Aside0 (vendmeterref_Replayed.l1 kq l0 x5_1 x6_1 x7_1 x8_2 x9_2 = some (r1, r2, r3)) ∧ Aside0 (kq ≤ k1) ∧ Aside0 (Kd.S (Kd.slice 99 (Kd.int .u32)) 22 w' w.heap.size (fun k_ => some k_ ≠ (v110 : Value).ownBlock) u5 x5_1) ∧ Aside0 (Kd.R (Kd.int .u32) 99 w' w.heap.size (fun _ => True) v110 x8_2) ∧ Aside0 (Below w.heap.size w w'))
              case atStart => exact ⟨(y109), (0), (by first | rfl | (simp; done) | (simp [*]; done)), H', ⟨Nat.le_refl _⟩, ⟨by (with_reducible repeat (first | apply Kd.S_alloc | apply Kd.S_drewN | apply Kd.S_drew)); exact Kd.S_mono HO_5.out (fun _ hk => hk.2)⟩, ⟨by (with_reducible repeat (first | apply Kd.R_alloc | apply Kd.R_drewN | apply Kd.R_drew)); exact HO111.out⟩, ⟨by repeat (first | (with_reducible first | exact HB.out | apply below_alloc | apply pw_below_drewN | apply below_drew1) | exact HB.out)⟩⟩
              case round =>
                clear H'
                try clear c1
                try clear p2
                try clear c3
                try clear c5
                try clear c5b0
                try clear c6
                try clear c6b0
                try clear c6b1
                try clear c7
                try clear c7b0
                try clear c7b1
                try clear p2
                obtain ⟨x8_2, x9_2, rfl, HA, HK2, HO_5, HO_8, HB⟩ := hrel
                cases gk with
                | zero => exact absurd HA.out (by simp [vendmeterref_Replayed.l1])
                | succ k2 =>
                  have H := HA.out
                  clear HA
                  simp only [vendmeterref_Replayed.l1] at H
                  by_cases c10 : x9_2 < x7_1
                  · rw [if_pos c10] at H
                    have c10b0 : decide (x9_2 < x7_1) = true := decide_eq_true c10
                    clear c10
                    obtain ⟨ji11, hji11⟩ : ∃ j_ : Int, (wrap64 ((wrap64 (x6_1 + 1)) + x9_2)) = j_ := ⟨_, rfl⟩
                    replace H : (if 0 ≤ (ji11) then (if (ji11) < (l0.length : Int) then (if 0 ≤ x9_2 then (if x9_2 < (x8_2.length : Int) then (vendmeterref_Replayed.l1 k2 l0 x5_1 x6_1 x7_1 (x8_2.set (x9_2 : Int).toNat (rd l0 (ji11))) (wrap64 (x9_2 + 1))) else (none)) else (none)) else (none)) else (none)) = some (r1, r2, r3) := by first | (rw [hji11] at H; exact H) | (simp only [hji11] at H ⊢; exact H)
                    have hji11w : (IntKind.i64.wrap ((wrap64 (x6_1 + 1)) + x9_2)) = ji11 := (i64_w _).trans hji11
                    by_cases c12 : 0 ≤ (ji11)
                    · rw [if_pos c12] at H
                      have c12b0 : decide (0 ≤ (ji11)) = true := decide_eq_true c12
                      clear c12
                      by_cases c13 : (ji11) < (l0.length : Int)
                      · rw [if_pos c13] at H
                        have c13b0 : decide ((ji11) < (l0.length : Int)) = true := decide_eq_true c13
                        clear c13
                        by_cases c14 : 0 ≤ x9_2
                        · rw [if_pos c14] at H
                          have c14b0 : decide (0 ≤ x9_2) = true := decide_eq_true c14
                          clear c14
                          by_cases c15 : x9_2 < (x8_2.length : Int)
                          · rw [if_pos c15] at H
                            have c15b0 : decide (x9_2 < (x8_2.length : Int)) = true := decide_eq_true c15
                            clear c15
                            obtain ⟨y113, hy113⟩ : ∃ y_ : List Int, y_ = (x8_2.set (x9_2 : Int).toNat (rd l0 (ji11))) := ⟨_, rfl⟩
                            replace H : (vendmeterref_Replayed.l1 k2 l0 x5_1 x6_1 x7_1 y113 (wrap64 (x9_2 + 1))) = some (r1, r2, r3) := by first | (rw [hy113]; with_reducible exact H) | (have H2_ := (Option.bind_some _ _).symm.trans H; rw [hy113]; with_reducible exact H2_) | (have H2_ := (Option.bind_some _ _).symm.trans H; with_reducible exact H2_) | with_reducible exact H | (rw [hy113]; exact H) | exact H
                            have Ny113 := Aside0.mk hy113
                            clear hy113
                            have H' := Aside0.mk H
                            clear H
                            have p112 : 0 ≤ ((ji11) : Int) := of_decide_eq_true (by first | (with_reducible assumption) | assumption)
                            have q112 : (ji11) < (l0.length : Int) := of_decide_eq_true (by first | (with_reducible assumption) | assumption)
                            obtain ⟨ad112, e112, hx112_0⟩ := Kd.at_int HR0.out (ji11) p112 q112
                            cases e112
                            replace hx112_0 := (HB.out.cell (World.block_lt_of_cell? w _ hx112_0)).trans hx112_0
                            replace p112 := eq_true p112
                            replace q112 := eq_true q112
                            have p16 : 0 ≤ (x9_2 : Int) := of_decide_eq_true (by first | (with_reducible assumption) | assumption)
                            have q16 : (x9_2 : Int) < ((x8_2.length : Int) : Int) := of_decide_eq_true (by first | (with_reducible assumption) | assumption)
                            obtain ⟨go16, co16, eo16, gb16, gl16, cl16, HG16⟩ := Kd.R_form HO_8.out (by omega)
                            (first | cases eo16 | (injection eo16 with ea_ en_ ec_; (first | subst ea_ | (injection ea_ with ea_; subst ea_)); subst ec_; clear en_))
                            have GB16 := Aside0.mk gb16
                            have GG16 := Aside0.mk HG16
                            clear gb16 gl16 HG16
                            obtain ⟨hx16_0, hf16_0⟩ := Kd.R_celln 0 HO_8.out (x9_2 : Int) p16 q16
                            replace p16 := eq_true p16
                            replace q16 := eq_true q16
                            have HP17 := Kd.R_putg HO_8.out (x9_2 : Int) (rd l0 (ji11))
                            go_wp2_with (first | ((with_reducible refine gate_store (t := 99) (p := 35) rfl ?_); refine store_event (t := 99) (p := 35) (v := ?vo_w18) (w1 := (wr.setCell ⟨go16, (x9_2 : Int).toNat, none⟩ (.int .u32 (rd l0 (ji11))))) ?hg ?ho ?hn ?hr ?_; (case ho => rfl); (case hg => rfl); (case hn => rfl); (case hr => first | (go_simp; done) | (go_simp; rfl)); intro w18 hw; have hg : wr.grownBy w18 (some go16) := (by rw [hw]; exact HP17.2); have hp_ : Kd.R (Kd.int .u32) 99 w18 w.heap.size (fun _ => True) (.slice (some ⟨go16, 0, none⟩) x8_2.length co16) y113 := (by rw [hw, Ny113.out]; exact HP17.1); clear HP17; have n0_ := Aside0.mk (Kd.S_after (v := (.slice (some ⟨go16, 0, none⟩) x8_2.length co16)) (v1 := (.slice (some ⟨go16, 0, none⟩) x8_2.length co16)) (ok := (fun _ => True)) (by (with_reducible repeat (first | apply Kd.S_alloc | apply Kd.S_drewN | apply Kd.S_drew)); exact Kd.S_mono HO_5.out (fun _ hk => ⟨trivial, hk⟩)) hg (.inl rfl)); have n1_ := Aside0.mk (hp_); have n2_ := Aside0.mk ((by rw [hw]; exact below_set (HB.out) GB16.out : Below w.heap.size w w18)); clear HO_5; clear HO_8; clear HB; have HO_5 := n0_; have HO_8 := n1_; have HB := n2_; clear n0_ n1_ n2_; clear hg hw hp_))
                            go_roundg k2
                            case measure => have := HK1.out; have := HK2.out; omega
                            case rel => exact ⟨(y113), (wrap64 (x9_2 + 1)), (by first | rfl | (simp; done) | (simp [*]; done)), H', ⟨by have := HK1.out; have := HK2.out; omega⟩, ⟨by (with_reducible repeat (first | apply Kd.S_alloc | apply Kd.S_drewN | apply Kd.S_drew)); exact Kd.S_mono HO_5.out (fun _ hk => hk.2)⟩, ⟨by (with_reducible repeat (first | apply Kd.R_alloc | apply Kd.R_drewN | apply Kd.R_drew)); exact HO_8.out⟩, ⟨by repeat (first | (with_reducible first | exact HB.out | apply below_alloc | apply pw_below_drewN | apply below_drew1) | exact HB.out)⟩⟩
                          · rw [if_neg c15] at H
                            exact absurd H (by simp)
                        · rw [if_neg c14] at H
                          exact absurd H (by simp)
                      · rw [if_neg c13] at H
                        exact absurd H (by simp)
                    · rw [if_neg c12] at H
                      exact absurd H (by simp)
                  · rw [if_neg c10] at H
                    have c10b0 : decide (x9_2 < x7_1) = false := decide_eq_false c10
                    clear c10
                    by_cases c19 : x5_1.length < 5864062014805
                    · rw [if_pos c19] at H
                      have LMc19 := Aside0.mk c19
                      clear c19
                      obtain ⟨y114, hy114⟩ : ∃ y_ : List (List Int), y_ = (x5_1 ++ [x8_2]) := ⟨_, rfl⟩
                      replace H : ((vendmeterref_lengthAt.f k2 l0 (wrap64 ((wrap64 (x6_1 + x7_1)) + 1))).bind fun t117 => (vendmeterref_Replayed.l0 k2 l0 y114 (wrap64 ((wrap64 (x6_1 + x7_1)) + 1)) t117)) = some (r1, r2, r3) := by first | (rw [hy114]; with_reducible exact H) | (have H2_ := (Option.bind_some _ _).symm.trans H; rw [hy114]; with_reducible exact H2_) | (have H2_ := (Option.bind_some _ _).symm.trans H; with_reducible exact H2_) | with_reducible exact H | (rw [hy114]; exact H) | exact H
                      have Ny114 := Aside0.mk hy114
                      clear hy114
                      replace H := Option.bind_eq_some_iff.mp H
                      obtain ⟨t117, A200, H⟩ := H
                      replace H : (vendmeterref_Replayed.l0 k2 l0 y114 (wrap64 ((wrap64 (x6_1 + x7_1)) + 1)) t117) = some (r1, r2, r3) := H
                      have A20 := Aside0.mk A200
                      clear A200
                      have H' := Aside0.mk H
                      clear H
                      obtain ⟨Ao22, co22, eo22⟩ := Kd.R_slice HO_8.out
                      subst eo22
                      go_wp2_with (first | ((with_reducible refine gate_builtin (b := .append) (xs := #[.tmp 36, .tmp 38]) rfl ?_); at_builtin; refine Kd.S_append (Kd.slice 99 (Kd.int .u32)) (w0 := w) w.heap.size rfl (.tmp 36) (.tmp 38) 24 22 (.slice none 0 0) 24 rfl Try.underlying24 info22 rfl (by decide) (by omega) u5 x5_1 x8_2 [.slice Ao22 x8_2.length co22] (fun _ => True) (fun k_ => some k_ = (.slice Ao22 x8_2.length co22 : Value).ownBlock) rfl rfl ?aP (fun k_ hk_ => ((Kd.R_mono (ok' := fun k_ => ((fun _ => True)) k_ ∧ some k_ ≠ (u5 : Value).ownBlock) (Kd.R_apart' (HO_8.out) (Kd.S_typed HO_5.out) (by decide)) (fun k_ hk => ⟨trivial, hk.2⟩))).1 k_ hk_.symm) ?aF ?aO ?aB ?aS ?aL ?_; (case aP => exact Kd.M_row (Kd.R_mono (Kd.R_tight rfl (Kd.R_mono (ok' := fun k_ => ((fun _ => True)) k_ ∧ some k_ ≠ (u5 : Value).ownBlock) (Kd.R_apart' (HO_8.out) (Kd.S_typed HO_5.out) (by decide)) (fun k_ hk => ⟨trivial, hk.2⟩))) (fun _ h_ => h_))); (case aB => exact (by repeat (first | (with_reducible first | exact HB.out | apply below_alloc | apply pw_below_drewN | apply below_drew1) | exact HB.out))); (case aF => exact (fun _ _ => trivial)); (case aO => exact (by (with_reducible repeat (first | apply Kd.S_alloc | apply Kd.S_drewN | apply Kd.S_drew)); exact Kd.S_mono HO_5.out (fun k_ hk => ⟨trivial, fun e_ => hk e_⟩))); (case aS => exact (below_size (by repeat (first | (with_reducible first | exact HB.out | apply below_alloc | apply pw_below_drewN | apply below_drew1) | exact HB.out)))); (case aL => have := LMc19.out; omega); intro v115 w21 ho hb hg hat; rw [← Ny114.out] at ho; have n0_ := Aside0.mk (hb); have n1_ := Aside0.mk (ho); clear HB; clear HO_5; clear HO_8; have HB := n0_; have HO116 := n1_; clear n0_ n1_; clear ho hb hg hat) | ((with_reducible refine gate_callee (f := 55) rfl ?_); refine goesL_ (some 46) rfl rfl Try.func55 (by kernel_rfl) rfl #[.slice A0 l0.length c0, .int .i64 (wrap64 ((wrap64 (x6_1 + x7_1)) + 1))] rfl (by (try simp only [List.map_toArray, List.map_cons, List.map_nil]); first | done | rfl | (simp only [List.length_drop, List.length_take]; rfl)) ?_; (with_reducible refine (vendmeterref_lengthAt.calls k2 _ _ l0 (wrap64 ((wrap64 (x6_1 + x7_1)) + 1)) t117 _ ?side1 ?side2 A20.out).mono ?_); (case side1 => repeat (first | exact (Kd.C_below HR0.out HB.out) | (with_reducible refine Kd.C_alloc ?_ _) | (with_reducible refine Kd.C_drewN ?_ _) | (with_reducible refine Kd.C_drew ?_))); (case side2 => exact HC0.out); rintro e w' ⟨rfl, ⟨nd, rfl⟩⟩; refine ⟨_, rfl, ?_⟩))
                      go_roundg k2
                      case measure => have := HK1.out; have := HK2.out; omega
                      case rel => exact ⟨(y114), (wrap64 ((wrap64 (x6_1 + x7_1)) + 1)), (t117), (by first | rfl | (simp; done) | (simp [*]; done)), (by first | rfl | (simp; done) | (simp [*]; done)), H', ⟨by have := HK1.out; have := HK2.out; omega⟩, ⟨by (with_reducible repeat (first | apply Kd.S_alloc | apply Kd.S_drewN | apply Kd.S_drew)); exact HO116.out⟩, ⟨by repeat (first | (with_reducible first | exact HB.out | apply below_alloc | apply pw_below_drewN | apply below_drew1) | exact HB.out)⟩⟩
                    · rw [if_neg c19] at H
                      exact absurd H (by simp)
            · rw [if_neg c7] at H
              exact absurd H (by simp)
          · rw [if_neg c6] at H
            exact absurd H (by simp)
        · rw [if_neg c5] at H
          have c5b0 : decide (0 < x7_1) = false := decide_eq_false c5
          clear c5
          by_cases c23 : x7_1 < 0
          · rw [if_pos c23] at H
            have c23b0 : decide (x7_1 < 0) = true := decide_eq_true c23
            clear c23
            simp only [Option.some.injEq, Prod.mk.injEq] at H
            obtain ⟨rfl, rfl, rfl⟩ := H
            go_wp2
            go_ret3
            exact ⟨_, by first | rfl | (simp [errW_none, errW_some] <;> rfl) | (simp [*, errW_none, errW_some] <;> rfl), by first | exact Kd.S_nil _ _ _ _ _ | exact Kd.N_nil _ _ _ _ _ | exact Kd.V_nil _ _ _ _ _ | exact Kd.Q_nil _ _ _ _ _ | exact Kd.R_nil _ _ _ _ _, by repeat (first | (with_reducible first | exact HB.out | apply below_alloc | apply pw_below_drewN | apply below_drew1) | exact HB.out)⟩
          · rw [if_neg c23] at H
            have c23b0 : decide (x7_1 < 0) = false := decide_eq_false c23
            clear c23
            simp only [Option.some.injEq, Prod.mk.injEq] at H
            obtain ⟨rfl, rfl, rfl⟩ := H
            go_wp2
            go_ret3
            exact ⟨_, by first | rfl | (simp [errW_none, errW_some] <;> rfl) | (simp [*, errW_none, errW_some] <;> rfl), by (with_reducible repeat (first | apply Kd.S_alloc | apply Kd.S_drewN | apply Kd.S_drew)); exact HO_5.out, by repeat (first | (with_reducible first | exact HB.out | apply below_alloc | apply pw_below_drewN | apply below_drew1) | exact HB.out)⟩
  · replace c3 := Bool.eq_false_iff.mpr c3
    subst c3
    have H1 : (some (([] : List (List Int)), 0, 1)) = some (r1, r2, r3) := by rw [if_neg (show ¬ (false = true) by decide)] at H; exact H
    clear H
    have H := H1
    clear H1
    simp only [Option.some.injEq, Prod.mk.injEq] at H
    obtain ⟨rfl, rfl, rfl⟩ := H
    go_enter Try.func17, Try.ntmps17
    go_wp2_with (first | ((with_reducible refine gate_callee (f := 54) rfl ?_); refine goesL_ (some 12) rfl rfl Try.func54 (by kernel_rfl) rfl #[.int .i64 (l0.length : Int), .int .i64 1, .int .i64 2048] rfl (by (try simp only [List.map_toArray, List.map_cons, List.map_nil]); first | done | rfl | (simp only [List.length_drop, List.length_take]; rfl)) ?_; (with_reducible refine (vendmeterref_In.calls (l0.length : Int) 1 2048 false _ A2.out).mono ?_); rintro e w' ⟨rfl, ⟨nd, rfl⟩⟩; refine ⟨_, rfl, ?_⟩))
    go_ret3
    exact ⟨_, by first | rfl | (simp [errW_none, errW_some] <;> rfl) | (simp [*, errW_none, errW_some] <;> rfl), by first | exact Kd.S_nil _ _ _ _ _ | exact Kd.N_nil _ _ _ _ _ | exact Kd.V_nil _ _ _ _ _ | exact Kd.Q_nil _ _ _ _ _ | exact Kd.R_nil _ _ _ _ _, by repeat (first | (with_reducible first | exact HB.out | apply below_alloc | apply pw_below_drewN | apply below_drew1) | exact HB.out)⟩

end Go.Proofs.Ythmmadniaakapaa.PDiskReplays
