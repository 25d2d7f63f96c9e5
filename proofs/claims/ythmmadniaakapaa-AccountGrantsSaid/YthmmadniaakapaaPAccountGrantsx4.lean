-- written by this session's program wip/xp/xprint.py (it drives the kit's print and adds to it)
import Derived.Test.YthmmadniaakapaaPAccountGrantsx0
import Derived.Test.YthmmadniaakapaaPAccountGrantsx2
import Derived.Test.YthmmadniaakapaaPAccountGrantsx3
namespace Go.Proofs.Ythmmadniaakapaa.PAccountGrants
open Go.RowKit Go.Proofs.YthmmadniaakapaaW.PrintWords Go.Proofs.YthmmadniaakapaaW.PrintLast Go.Proofs.YthmmadniaakapaaW.PrintMore
attribute [local go_sem] max2_int min2_int max_two min_two max_three min_three max_four min_four   -- for this text's walks alone
set_option linter.unusedVariables false
set_option linter.unusedSimpArgs false

/-! ### account_clerk -/
def clerk.cells (me rev nx mo bo fr : Int) (vd : Value) (At : Option Addr) (nt ct : Nat) (a b c d : Int) : Array Value := #[.int .i64 me, .int .i64 rev, .int .i64 nx, .int .i64 mo, .int .i64 bo, .int .i64 fr, vd, .slice At nt ct, .int .i64 a, .int .i64 b, .int .i64 c, .int .i64 d]
def account_open.f (k : Nat) (me rev nx mo bo fr : Int) (l : List S76) (t : List S125) (a b c d : Int) : Option Int :=
  (account_may.f k me rev nx mo bo fr l).bind fun m => if m = true then ((account_Check.f t a b c d).bind fun e => if e = 0 then (if l.length < 8796093022208 then some 0 else none) else some e) else some 5
theorem account_open.mono : ∀ me rev nx mo bo fr l t a b c d k, LeO (account_open.f k me rev nx mo bo fr l t a b c d) (account_open.f (k + 1) me rev nx mo bo fr l t a b c d) := by
  intro me rev nx mo bo fr l t a b c d k
  unfold account_open.f
  exact LeO.bind (account_may.mono _ _ _ _ _ _ _ _) (fun _ => LeO.refl _)
def account_roll.f (k : Nat) (mo bo : Int) (l : List S76) (month : Int) : Option (List S76 × Int × Int × Int) :=
  if 0 ≤ month ∧ month ≤ 2399 then (if month < mo then some (l, mo, bo, 23) else if month > mo then (debt_Age.f k l (wrap64 (month - mo))).bind fun p => some (p.1, month, 0, 0) else some (l, mo, bo, 0)) else some (l, mo, bo, 2)
theorem account_roll.mono : ∀ mo bo l month k, LeO (account_roll.f k mo bo l month) (account_roll.f (k + 1) mo bo l month) := by
  intro mo bo l month k
  unfold account_roll.f
  exact LeO.ite (LeO.ite (LeO.refl _) (LeO.ite (LeO.bind (debt_Age.mono _ _ _) (fun _ => LeO.refl _)) (LeO.refl _))) (LeO.refl _)
theorem account_roll.within (a b c : Int) (w : World) : Calls Try.prog 73 #[.int .i64 a, .int .i64 b, .int .i64 c] w fun e w' => e = .returned (.bool (decide (b ≤ a ∧ a ≤ c))) ∧ Below w.heap.size w w' :=
  (account_within.calls a b c (decide (b ≤ a ∧ a ≤ c)) w (by unfold account_within.f; by_cases h : b ≤ a <;> simp [h])).mono (by rintro e w' ⟨rfl, nd, rfl⟩; exact ⟨rfl, pw_below_drewN (Below.refl _ _) _⟩)
theorem clerk.get {w : World} {g : Nat} {me rev nx mo bo fr : Int} {vd : Value} {At : Option Addr} {nt ct : Nat} {a b c d : Int} (h : w.heap[g]? = some (.cells (clerk.cells me rev nx mo bo fr vd At nt ct a b c d) 128 (0, 0))) : w.cell? ⟨g, 0, none⟩ = some (.int .i64 me) ∧ w.cell? ⟨g, 1, none⟩ = some (.int .i64 rev) ∧ w.cell? ⟨g, 2, none⟩ = some (.int .i64 nx) ∧ w.cell? ⟨g, 3, none⟩ = some (.int .i64 mo) ∧ w.cell? ⟨g, 4, none⟩ = some (.int .i64 bo) ∧ w.cell? ⟨g, 5, none⟩ = some (.int .i64 fr) ∧ w.cell? ⟨g, 6, none⟩ = some vd ∧ w.cell? ⟨g, 7, none⟩ = some (.slice At nt ct) ∧ w.cell? ⟨g, 8, none⟩ = some (.int .i64 a) ∧ w.cell? ⟨g, 9, none⟩ = some (.int .i64 b) ∧ w.cell? ⟨g, 10, none⟩ = some (.int .i64 c) ∧ w.cell? ⟨g, 11, none⟩ = some (.int .i64 d) :=
  ⟨(blk_cell h 0).trans rfl, (blk_cell h 1).trans rfl, (blk_cell h 2).trans rfl, (blk_cell h 3).trans rfl, (blk_cell h 4).trans rfl, (blk_cell h 5).trans rfl, (blk_cell h 6).trans rfl, (blk_cell h 7).trans rfl, (blk_cell h 8).trans rfl, (blk_cell h 9).trans rfl, (blk_cell h 10).trans rfl, (blk_cell h 11).trans rfl⟩
set_option maxHeartbeats 4000000 in
set_option maxRecDepth 100000 in
theorem account_roll.calls (k g : Nat) (me rev nx mo bo fr : Int) (vd : Value) (l : List S76) (At : Option Addr) (nt ct : Nat) (a b c d : Int) (month : Int) (r1 : List S76) (r2 r3 r4 : Int) (w0 w : World) (hg : w0.heap.size ≤ g) (hb : Below w0.heap.size w0 w) (hbox : w.heap[g]? = some (.cells (clerk.cells me rev nx mo bo fr vd At nt ct a b c d) 128 (0, 0))) (hR : Kd.R k76 76 w w0.heap.size (fun k => k ≠ g) vd l) (h : account_roll.f k mo bo l month = some (r1, r2, r3, r4)) :
    Calls Try.prog 77 #[.pointer (some ⟨g, 0, none⟩), .int .i64 month] w fun e w' => e = .returned (.int .i64 r4) ∧ (∃ v1, w'.heap[g]? = some (.cells (clerk.cells me rev nx r2 r3 fr v1 At nt ct a b c d) 128 (0, 0)) ∧ Kd.R k76 76 w' w0.heap.size (fun k => k ≠ g) v1 r1) ∧ Kept w w' (fun k => k = g) ∧ Below w0.heap.size w0 w' := by
  obtain ⟨A6, c6, rfl⟩ := Kd.R_slice hR
  have HB := Aside0.mk hb
  have HX := Aside0.mk hbox
  have HR := Aside0.mk hR
  have hu60 := Try.underlying60
  have hu128 := Try.underlying128
  clear hb hbox hR
  unfold account_roll.f at h
  by_cases h1 : 0 ≤ month ∧ month ≤ 2399
  · rw [if_pos h1] at h
    have q1 : decide (0 ≤ month ∧ month ≤ 2399) = true := decide_eq_true h1
    by_cases h2 : month < mo
    · rw [if_pos h2] at h
      simp only [Option.some.injEq, Prod.mk.injEq] at h
      obtain ⟨rfl, rfl, rfl, rfl⟩ := h
      have q2 := decide_eq_true h2
      clear h1 h2
      go_enter Try.func77, Try.ntmps77
      go_wp2_with (go_at_call 73; refine (account_roll.within month 0 2399 _).mono ?_; rintro e w1 ⟨rfl, hb1⟩; rw [q1]; have HK1 := Aside0.mk (Kept.of_below hb1 (fun k => k = g)); have HX1 := Aside0.mk (blk_below HX.out hb1); have HR1 := Aside0.mk (Kd.R_below HR.out hb1); have HB1 := Aside0.mk (below_then HB.out HB.out.size hb1); obtain ⟨x0, x1, x2, x3, x4, x5, x6, x7, x8, x9, x10, x11⟩ := clerk.get HX1.out; clear hb1)
      go_ret
      exact ⟨rfl, ⟨_, HX1.out, HR1.out⟩, HK1.out, HB1.out⟩
    · rw [if_neg h2] at h
      have q2 := decide_eq_false h2
      by_cases h3 : month > mo
      · rw [if_pos h3] at h
        obtain ⟨⟨l1, e1⟩, ha, h⟩ := Option.bind_eq_some_iff.mp h
        simp only [Option.some.injEq, Prod.mk.injEq] at h
        obtain ⟨rfl, rfl, rfl, rfl⟩ := h
        have HA := Aside0.mk ha
        have q3 := decide_eq_true h3
        clear h1 h2 h3 ha
        go_enter Try.func77, Try.ntmps77
        go_wp2_with (go_at_call 73; refine (account_roll.within month 0 2399 _).mono ?_; rintro e w1 ⟨rfl, hb1⟩; rw [q1]; have HK1 := Aside0.mk (Kept.of_below hb1 (fun k => k = g)); have HX1 := Aside0.mk (blk_below HX.out hb1); have HR1 := Aside0.mk (Kd.R_below HR.out hb1); have HB1 := Aside0.mk (below_then HB.out HB.out.size hb1); obtain ⟨x0, x1, x2, x3, x4, x5, x6, x7, x8, x9, x10, x11⟩ := clerk.get HX1.out; clear hb1)
        refine start_ (n := 21) (S := fun w' => w'.cell? ⟨g, 6, none⟩ = some (.slice A6 l.length c6) ∧ w'.cell? ⟨g, 3, none⟩ = some (.int .i64 mo)) (ds := [20]) #[false, false, false, false, false, false, false, false, false, false, false, false, false, false, false, false, false, false, false, false, false] (by kernel_rfl) rfl rfl ⟨x6, x3⟩ (fun hHeld => ?_)
        refine pure_ (i := 0) (N := some 23) (v := ?_) (a' := ?_) #[true, false, false, false, false, false, false, false, false, false, false, false, false, false, false, false, false, false, false, false, false] rfl rfl (by kernel_rfl) (fun _ _ _ h => h) (Or.inl ⟨by rfl, ?_⟩) ?_ ?_
        rotate_left
        · intro w'
          go_simp
          with_reducible rfl
        rotate_left
        · simp only [Act.put, List.setIfInBounds_toArray, List.set_cons_zero, List.set_cons_succ, i64_w, i32_w]
          rfl
        refine pure_ (i := 1) (N := some 24) (v := ?_) (a' := ?_) #[true, true, false, false, false, false, false, false, false, false, false, false, false, false, false, false, false, false, false, false, false] rfl rfl (by kernel_rfl) (fun _ _ _ h => h) (Or.inl ⟨by rfl, ?_⟩) ?_ ?_
        rotate_left
        · intro w'
          go_simp
          with_reducible rfl
        rotate_left
        · simp only [Act.put, List.setIfInBounds_toArray, List.set_cons_zero, List.set_cons_succ, i64_w, i32_w]
          rfl
        refine pure_ (i := 2) (N := some 25) (v := ?_) (a' := ?_) #[true, true, true, false, false, false, false, false, false, false, false, false, false, false, false, false, false, false, false, false, false] rfl rfl (by kernel_rfl) (fun _ _ _ h => h) (Or.inl ⟨by rfl, ?_⟩) ?_ ?_
        rotate_left
        · intro w'
          go_simp
          with_reducible rfl
        rotate_left
        · simp only [Act.put, List.setIfInBounds_toArray, List.set_cons_zero, List.set_cons_succ, i64_w, i32_w]
          rfl
        refine pure_ (i := 3) (N := some 26) (v := ?_) (a' := ?_) #[true, true, true, true, false, false, false, false, false, false, false, false, false, false, false, false, false, false, false, false, false] rfl rfl (by kernel_rfl) (fun _ _ _ h => h) (Or.inl ⟨by rfl, ?_⟩) ?_ ?_
        rotate_left
        · intro w'
          go_simp
          with_reducible rfl
        rotate_left
        · simp only [Act.put, List.setIfInBounds_toArray, List.set_cons_zero, List.set_cons_succ, i64_w, i32_w]
          rfl
        refine pure_ (i := 4) (N := some 27) (v := ?_) (a' := ?_) #[true, true, true, true, true, false, false, false, false, false, false, false, false, false, false, false, false, false, false, false, false] rfl rfl (by kernel_rfl) (fun _ _ _ h => h) (Or.inl ⟨by rfl, ?_⟩) ?_ ?_
        rotate_left
        · intro w'
          go_simp
          with_reducible rfl
        rotate_left
        · simp only [Act.put, List.setIfInBounds_toArray, List.set_cons_zero, List.set_cons_succ, i64_w, i32_w]
          rfl
        refine pure_ (i := 6) (N := some 29) (v := ?_) (a' := ?_) #[true, true, true, true, true, false, true, false, false, false, false, false, false, false, false, false, false, false, false, false, false] rfl rfl (by kernel_rfl) (fun _ _ _ h => h) (Or.inl ⟨by rfl, ?_⟩) ?_ ?_
        rotate_left
        · intro w'
          go_simp
          with_reducible rfl
        rotate_left
        · simp only [Act.put, List.setIfInBounds_toArray, List.set_cons_zero, List.set_cons_succ, i64_w, i32_w]
          rfl
        refine pure_ (i := 7) (N := some 30) (v := ?_) (a' := ?_) #[true, true, true, true, true, false, true, true, false, false, false, false, false, false, false, false, false, false, false, false, false] rfl rfl (by kernel_rfl) (fun _ _ _ h => h) (Or.inl ⟨by rfl, ?_⟩) ?_ ?_
        rotate_left
        · intro w'
          go_simp
          with_reducible rfl
        rotate_left
        · simp only [Act.put, List.setIfInBounds_toArray, List.set_cons_zero, List.set_cons_succ, i64_w, i32_w]
          rfl
        refine pure_ (i := 8) (N := some 31) (v := ?_) (a' := ?_) #[true, true, true, true, true, false, true, true, true, false, false, false, false, false, false, false, false, false, false, false, false] rfl rfl (by kernel_rfl) (fun _ _ _ h => h) (Or.inl ⟨by rfl, ?_⟩) ?_ ?_
        rotate_left
        · intro w'
          go_simp
          with_reducible rfl
        rotate_left
        · simp only [Act.put, List.setIfInBounds_toArray, List.set_cons_zero, List.set_cons_succ, i64_w, i32_w]
          rfl
        refine pure_ (i := 9) (N := some 32) (v := ?_) (a' := ?_) #[true, true, true, true, true, false, true, true, true, true, false, false, false, false, false, false, false, false, false, false, false] rfl rfl (by kernel_rfl) (fun _ _ _ h => h) (Or.inl ⟨by rfl, ?_⟩) ?_ ?_
        rotate_left
        · intro w'
          go_simp
          with_reducible rfl
        rotate_left
        · simp only [Act.put, List.setIfInBounds_toArray, List.set_cons_zero, List.set_cons_succ, i64_w, i32_w]
          rfl
        refine pure_ (i := 10) (N := some 33) (v := ?_) (a' := ?_) #[true, true, true, true, true, false, true, true, true, true, true, false, false, false, false, false, false, false, false, false, false] rfl rfl (by kernel_rfl) (fun _ _ _ h => h) (Or.inl ⟨by rfl, ?_⟩) ?_ ?_
        rotate_left
        · intro w'
          go_simp
          with_reducible rfl
        rotate_left
        · simp only [Act.put, List.setIfInBounds_toArray, List.set_cons_zero, List.set_cons_succ, i64_w, i32_w]
          rfl
        refine take_ (i := 5) (N := some 28) (v := ?_) (a' := ?_) #[true, true, true, true, true, true, true, true, true, true, true, false, false, false, false, false, false, false, false, false, false] rfl rfl (by kernel_rfl) (fun _ _ _ h => h) (Or.inl ⟨by rfl, ?_⟩) hHeld ?_ ?_
        rotate_left
        · rintro w' ⟨s0, s1⟩
          go_simp
          with_reducible rfl
        rotate_left
        · simp only [Act.put, List.setIfInBounds_toArray, List.set_cons_zero, List.set_cons_succ, i64_w, i32_w]
          rfl
        refine take_ (i := 11) (N := some 34) (v := ?_) (a' := ?_) #[true, true, true, true, true, true, true, true, true, true, true, true, false, false, false, false, false, false, false, false, false] rfl rfl (by kernel_rfl) (fun _ _ _ h => h) (Or.inl ⟨by rfl, ?_⟩) hHeld ?_ ?_
        rotate_left
        · rintro w' ⟨s0, s1⟩
          go_simp
          with_reducible rfl
        rotate_left
        · simp only [Act.put, List.setIfInBounds_toArray, List.set_cons_zero, List.set_cons_succ, i64_w, i32_w]
          rfl
        refine pure_ (i := 12) (N := some 35) (v := ?_) (a' := ?_) #[true, true, true, true, true, true, true, true, true, true, true, true, true, false, false, false, false, false, false, false, false] rfl rfl (by kernel_rfl) (fun _ _ _ h => h) (Or.inl ⟨by rfl, ?_⟩) ?_ ?_
        rotate_left
        · intro w'
          go_simp
          with_reducible rfl
        rotate_left
        · simp only [Act.put, List.setIfInBounds_toArray, List.set_cons_zero, List.set_cons_succ, i64_w, i32_w]
          rfl
        refine one_ (i := 13) (N := some 36) #[true, true, true, true, true, true, true, true, true, true, true, true, true, true, false, false, false, false, false, false, false] rfl rfl (by kernel_rfl) (by decide) (fun K hK => ?_)
        refine goes_ Try.func124 (by kernel_rfl) rfl #[.slice A6 l.length c6, .int .i64 (wrap64 (month - mo))] (by rfl) rfl rfl (by (try simp only [List.map_toArray, List.map_cons, List.map_nil]); first | done | rfl) ?_
        with_reducible refine (debt_Age.calls k A6 c6 l (wrap64 (month - mo)) l1 e1 _ (Kd.R_reads' (Kd.R_drew HR1.out)).2.2 (Kd.R_reads' HR1.out).2.1 HA.out).mono ?_
        rintro e w2 ⟨v2, rfl, hr2, hb2⟩
        refine ⟨_, rfl, ?_⟩
        obtain ⟨A7, c7, rfl⟩ := Kd.R_slice hr2
        have bx := blk_below (blk_drew HX1.out) hb2
        have HX2 := Aside0.mk bx
        have HR2 := Aside0.mk (Kd.R_lower (Kd.R_mono (Kd.R_bound hr2) (fun k hk => (by have := blk_lt HX1.out; have h9 : w1.heap.size ≤ k := hk.2.1; omega : k ≠ g))) HB1.out.size)
        have HB2 := Aside0.mk (below_then (below_drew1 HB1.out) HB1.out.size hb2)
        have HK2 := Aside0.mk ((HK1.out.drew).below hb2)
        have f6 := blk_frozen bx 6
        have f3 := blk_frozen bx 3
        have f4 := blk_frozen bx 4
        clear x0 x1 x2 x3 x4 x5 x6 x7 x8 x9 x10 x11
        obtain ⟨x0, x1, x2, x3, x4, x5, x6, x7, x8, x9, x10, x11⟩ := clerk.get bx
        clear bx hr2 hb2
        refine hK.out _ _ ⟨x6, x3⟩ (fun hHeld => ?_)
        clear hK K
        refine norm_ (a' := ?_) ?_ ?_
        rotate_left
        · show Act.put _ (some 36) _ = _
          simp only [Act.put, List.setIfInBounds_toArray, List.set_cons_zero, List.set_cons_succ, i64_w, i32_w]
          rfl
        refine pure_ (i := 14) (N := some 22) (v := ?_) (a' := ?_) #[true, true, true, true, true, true, true, true, true, true, true, true, true, true, true, false, false, false, false, false, false] rfl rfl (by kernel_rfl) (fun _ _ _ h => h) (Or.inl ⟨by rfl, ?_⟩) ?_ ?_
        rotate_left
        · intro w'
          go_simp
          with_reducible rfl
        rotate_left
        · simp only [Act.put, List.setIfInBounds_toArray, List.set_cons_zero, List.set_cons_succ, i64_w, i32_w]
          rfl
        refine pure_ (i := 15) (N := some 37) (v := ?_) (a' := ?_) #[true, true, true, true, true, true, true, true, true, true, true, true, true, true, true, true, false, false, false, false, false] rfl rfl (by kernel_rfl) (fun _ _ _ h => h) (Or.inl ⟨by rfl, ?_⟩) ?_ ?_
        rotate_left
        · intro w'
          go_simp
          with_reducible rfl
        rotate_left
        · simp only [Act.put, List.setIfInBounds_toArray, List.set_cons_zero, List.set_cons_succ, i64_w, i32_w]
          rfl
        refine pure_ (i := 16) (N := some 38) (v := ?_) (a' := ?_) #[true, true, true, true, true, true, true, true, true, true, true, true, true, true, true, true, true, false, false, false, false] rfl rfl (by kernel_rfl) (fun _ _ _ h => h) (Or.inl ⟨by rfl, ?_⟩) ?_ ?_
        rotate_left
        · intro w'
          go_simp
          with_reducible rfl
        rotate_left
        · simp only [Act.put, List.setIfInBounds_toArray, List.set_cons_zero, List.set_cons_succ, i64_w, i32_w]
          rfl
        refine pure_ (i := 17) (N := some 39) (v := ?_) (a' := ?_) #[true, true, true, true, true, true, true, true, true, true, true, true, true, true, true, true, true, true, false, false, false] rfl rfl (by kernel_rfl) (fun _ _ _ h => h) (Or.inl ⟨by rfl, ?_⟩) ?_ ?_
        rotate_left
        · intro w'
          go_simp
          with_reducible rfl
        rotate_left
        · simp only [Act.put, List.setIfInBounds_toArray, List.set_cons_zero, List.set_cons_succ, i64_w, i32_w]
          rfl
        refine pure_ (i := 18) (N := some 40) (v := ?_) (a' := ?_) #[true, true, true, true, true, true, true, true, true, true, true, true, true, true, true, true, true, true, true, false, false] rfl rfl (by kernel_rfl) (fun _ _ _ h => h) (Or.inl ⟨by rfl, ?_⟩) ?_ ?_
        rotate_left
        · intro w'
          go_simp
          with_reducible rfl
        rotate_left
        · simp only [Act.put, List.setIfInBounds_toArray, List.set_cons_zero, List.set_cons_succ, i64_w, i32_w]
          rfl
        refine pure_ (i := 19) (N := some 41) (v := ?_) (a' := ?_) #[true, true, true, true, true, true, true, true, true, true, true, true, true, true, true, true, true, true, true, true, false] rfl rfl (by kernel_rfl) (fun _ _ _ h => h) (Or.inl ⟨by rfl, ?_⟩) ?_ ?_
        rotate_left
        · intro w'
          go_simp
          with_reducible rfl
        rotate_left
        · simp only [Act.put, List.setIfInBounds_toArray, List.set_cons_zero, List.set_cons_succ, i64_w, i32_w]
          rfl
        refine last_ (i := 20) (N := none) #[true, true, true, true, true, true, true, true, true, true, true, true, true, true, true, true, true, true, true, true, true] rfl rfl (by kernel_rfl) (by decide) (fun K hK => ?_)
        refine skip_ (w1 := ?_) (by rfl) rfl ?_ ?_
        rotate_left
        · go_simp
          rfl
        refine hK.out _ _ ?_
        clear hK K
        refine done_ (by kernel_rfl) ?_
        go_wp2
        go_ret
        exact ⟨rfl, ⟨_, (blk_put (blk_put (blk_put HX2.out 6 _ rfl) 3 _ rfl) 4 _ rfl), Kd.R_far (Kd.R_far (Kd.R_far HR2.out (fun _ h => h) _) (fun _ h => h) _) (fun _ h => h) _⟩, ((HK2.out.setCell (.inl rfl) _).setCell (.inl rfl) _).setCell (.inl rfl) _, ((HB2.out.setCell hg _).setCell hg _).setCell hg _⟩
      · rw [if_neg h3] at h
        simp only [Option.some.injEq, Prod.mk.injEq] at h
        obtain ⟨rfl, rfl, rfl, rfl⟩ := h
        have q3 := decide_eq_false h3
        clear h1 h2 h3
        go_enter Try.func77, Try.ntmps77
        go_wp2_with (go_at_call 73; refine (account_roll.within month 0 2399 _).mono ?_; rintro e w1 ⟨rfl, hb1⟩; rw [q1]; have HK1 := Aside0.mk (Kept.of_below hb1 (fun k => k = g)); have HX1 := Aside0.mk (blk_below HX.out hb1); have HR1 := Aside0.mk (Kd.R_below HR.out hb1); have HB1 := Aside0.mk (below_then HB.out HB.out.size hb1); obtain ⟨x0, x1, x2, x3, x4, x5, x6, x7, x8, x9, x10, x11⟩ := clerk.get HX1.out; clear hb1)
        go_ret
        exact ⟨rfl, ⟨_, HX1.out, HR1.out⟩, HK1.out, HB1.out⟩
  · rw [if_neg h1] at h
    simp only [Option.some.injEq, Prod.mk.injEq] at h
    obtain ⟨rfl, rfl, rfl, rfl⟩ := h
    have q1 : decide (0 ≤ month ∧ month ≤ 2399) = false := decide_eq_false h1
    clear h1
    go_enter Try.func77, Try.ntmps77
    go_wp2_with (go_at_call 73; refine (account_roll.within month 0 2399 _).mono ?_; rintro e w1 ⟨rfl, hb1⟩; rw [q1]; have HK1 := Aside0.mk (Kept.of_below hb1 (fun k => k = g)); have HX1 := Aside0.mk (blk_below HX.out hb1); have HR1 := Aside0.mk (Kd.R_below HR.out hb1); have HB1 := Aside0.mk (below_then HB.out HB.out.size hb1); clear hb1)
    go_ret
    exact ⟨rfl, ⟨_, HX1.out, HR1.out⟩, HK1.out, HB1.out⟩
set_option maxHeartbeats 8000000 in
set_option maxRecDepth 100000 in
theorem account_open.calls (k : Nat) (me rev nx mo bo fr : Int) (A6 : Option Addr) (c6 : Nat) (l : List S76) (At : Option Addr) (ct : Nat) (t : List S125) (a b c d : Int) (r : Int) (w : World) (hr0 : Kd.C k76 w A6 l.length l) (hc0 : l.length ≤ c6) (ht0 : Kd.C k125 w At t.length t) (hct : t.length ≤ ct) (h : account_open.f k me rev nx mo bo fr l t a b c d = some r) :
    Calls Try.prog 76 #[.agg #[.int .i64 me, .int .i64 rev, .int .i64 nx, .int .i64 mo, .int .i64 bo, .int .i64 fr, .slice A6 l.length c6], .agg #[.slice At t.length ct, .int .i64 a, .int .i64 b, .int .i64 c, .int .i64 d]] w fun e w' => ∃ v0, e = .returned (.tuple #[v0, .int .i64 r]) ∧ (r = 0 → ∃ g v1, v0 = .pointer (some ⟨g, 0, none⟩) ∧ w.heap.size ≤ g ∧ w'.heap[g]? = some (.cells (clerk.cells me rev nx mo bo fr v1 At t.length ct a b c d) 128 (0, 0)) ∧ Kd.R k76 76 w' w.heap.size (fun k => k ≠ g) v1 l) ∧ Below w.heap.size w w' := by
  have HR0 := Aside0.mk hr0
  have HC0 := Aside0.mk hc0
  have HT0 := Aside0.mk ht0
  have HCT := Aside0.mk hct
  have HB := Aside0.mk (Below.refl w.heap.size w)
  have hu60 := Try.underlying60
  have hu53 := Try.underlying53
  have hu128 := Try.underlying128
  clear hr0 hc0 ht0 hct
  unfold account_open.f at h
  obtain ⟨m, hm, h⟩ := Option.bind_eq_some_iff.mp h
  have HM := Aside0.mk hm
  clear hm
  by_cases h1 : m = true
  · rw [if_pos h1] at h
    subst h1
    obtain ⟨e0, he, h⟩ := Option.bind_eq_some_iff.mp h
    have HE := Aside0.mk he
    clear he
    by_cases h2 : e0 = 0
    · rw [if_pos h2] at h
      subst h2
      by_cases h3 : l.length < 8796093022208
      · rw [if_pos h3] at h
        obtain rfl := Option.some.inj h
        have HL := Aside0.mk h3
        clear h h3
        go_enter Try.func76, Try.ntmps76
        go_wp2_with (first | ((with_reducible refine gate_dst (N := 2) rfl ?_); refine box_event ?hg (N := 2) ?hd (cs := #[.int .i64 me, .int .i64 rev, .int .i64 nx, .int .i64 mo, .int .i64 bo, .int .i64 fr, .slice A6 l.length c6]) (t := 60) ?hr ?_; (case hd => rfl); (case hg => rfl); (case hr => first | (go_simp; done) | (go_simp; rfl)); intro g1 hgq w1 hbox hb; have HB_ := Aside0.mk (below_step HB.out hb); have G1 := Aside0.mk (by rw [hgq]; exact below_size HB.out : w.heap.size ≤ g1); have B1 := Aside0.mk hbox; clear HB ; have HB := HB_; clear HB_; clear hb hbox hgq) | ((with_reducible refine gate_dst (N := 3) rfl ?_); refine box_event ?hg (N := 3) ?hd (cs := #[.slice At t.length ct, .int .i64 a, .int .i64 b, .int .i64 c, .int .i64 d]) (t := 53) ?hr ?_; (case hd => rfl); (case hg => rfl); (case hr => first | (go_simp; done) | (go_simp; rfl)); intro g2 hgq w2 hbox hb; have B1_ := Aside0.mk (blk_below B1.out hb); have NB1g2 := Aside0.mk (by rw [hgq]; exact Nat.ne_of_lt (blk_lt B1.out) : g1 ≠ g2); have HB_ := Aside0.mk (below_step HB.out hb); have G2 := Aside0.mk (by rw [hgq]; exact below_size HB.out : w.heap.size ≤ g2); have B2 := Aside0.mk hbox; clear HB B1; have HB := HB_; clear HB_; have B1 := B1_; clear B1_; clear hb hbox hgq; have xg10 : w2.cell? ⟨g1, 0, none⟩ = some (.int .i64 me) := (blk_cell B1.out 0).trans rfl; have xg11 : w2.cell? ⟨g1, 1, none⟩ = some (.int .i64 rev) := (blk_cell B1.out 1).trans rfl; have xg12 : w2.cell? ⟨g1, 2, none⟩ = some (.int .i64 nx) := (blk_cell B1.out 2).trans rfl; have xg13 : w2.cell? ⟨g1, 3, none⟩ = some (.int .i64 mo) := (blk_cell B1.out 3).trans rfl; have xg14 : w2.cell? ⟨g1, 4, none⟩ = some (.int .i64 bo) := (blk_cell B1.out 4).trans rfl; have xg15 : w2.cell? ⟨g1, 5, none⟩ = some (.int .i64 fr) := (blk_cell B1.out 5).trans rfl; have xg16 : w2.cell? ⟨g1, 6, none⟩ = some (.slice A6 l.length c6) := (blk_cell B1.out 6).trans rfl; have xg20 : w2.cell? ⟨g2, 0, none⟩ = some (.slice At t.length ct) := (blk_cell B2.out 0).trans rfl; have xg21 : w2.cell? ⟨g2, 1, none⟩ = some (.int .i64 a) := (blk_cell B2.out 1).trans rfl; have xg22 : w2.cell? ⟨g2, 2, none⟩ = some (.int .i64 b) := (blk_cell B2.out 2).trans rfl; have xg23 : w2.cell? ⟨g2, 3, none⟩ = some (.int .i64 c) := (blk_cell B2.out 3).trans rfl; have xg24 : w2.cell? ⟨g2, 4, none⟩ = some (.int .i64 d) := (blk_cell B2.out 4).trans rfl; skip) | (go_at_call 85; refine (account_may.calls k me rev nx mo bo fr A6 c6 l true _ (Kd.C_below HR0.out HB.out) HC0.out HM.out).mono ?_; rintro e w3 ⟨rfl, hb1⟩; clear xg10 xg11 xg12 xg13 xg14 xg15 xg16; clear xg20 xg21 xg22 xg23 xg24; have B1_ := Aside0.mk (blk_below B1.out hb1); have B2_ := Aside0.mk (blk_below B2.out hb1); have HB_ := Aside0.mk (below_step HB.out hb1); clear HB B1 B2; have HB := HB_; clear HB_; have B1 := B1_; clear B1_; have B2 := B2_; clear B2_; have xg10 : w3.cell? ⟨g1, 0, none⟩ = some (.int .i64 me) := (blk_cell B1.out 0).trans rfl; have xg11 : w3.cell? ⟨g1, 1, none⟩ = some (.int .i64 rev) := (blk_cell B1.out 1).trans rfl; have xg12 : w3.cell? ⟨g1, 2, none⟩ = some (.int .i64 nx) := (blk_cell B1.out 2).trans rfl; have xg13 : w3.cell? ⟨g1, 3, none⟩ = some (.int .i64 mo) := (blk_cell B1.out 3).trans rfl; have xg14 : w3.cell? ⟨g1, 4, none⟩ = some (.int .i64 bo) := (blk_cell B1.out 4).trans rfl; have xg15 : w3.cell? ⟨g1, 5, none⟩ = some (.int .i64 fr) := (blk_cell B1.out 5).trans rfl; have xg16 : w3.cell? ⟨g1, 6, none⟩ = some (.slice A6 l.length c6) := (blk_cell B1.out 6).trans rfl; have xg20 : w3.cell? ⟨g2, 0, none⟩ = some (.slice At t.length ct) := (blk_cell B2.out 0).trans rfl; have xg21 : w3.cell? ⟨g2, 1, none⟩ = some (.int .i64 a) := (blk_cell B2.out 1).trans rfl; have xg22 : w3.cell? ⟨g2, 2, none⟩ = some (.int .i64 b) := (blk_cell B2.out 2).trans rfl; have xg23 : w3.cell? ⟨g2, 3, none⟩ = some (.int .i64 c) := (blk_cell B2.out 3).trans rfl; have xg24 : w3.cell? ⟨g2, 4, none⟩ = some (.int .i64 d) := (blk_cell B2.out 4).trans rfl; clear hb1) | (go_at_call 28; refine (account_Check.calls At ct t a b c d 0 _ (Kd.C_below HT0.out HB.out) HCT.out HE.out).mono ?_; rintro e w4 ⟨rfl, hb1⟩; have B1_ := Aside0.mk (blk_below B1.out hb1); have B2_ := Aside0.mk (blk_below B2.out hb1); have HB_ := Aside0.mk (below_step HB.out hb1); clear HB B1 B2; have HB := HB_; clear HB_; have B1 := B1_; clear B1_; have B2 := B2_; clear B2_; clear xg10 xg11 xg12 xg13 xg14 xg15 xg16; clear xg20 xg21 xg22 xg23 xg24; have xg10 : w4.cell? ⟨g1, 0, none⟩ = some (.int .i64 me) := (blk_cell B1.out 0).trans rfl; have xg11 : w4.cell? ⟨g1, 1, none⟩ = some (.int .i64 rev) := (blk_cell B1.out 1).trans rfl; have xg12 : w4.cell? ⟨g1, 2, none⟩ = some (.int .i64 nx) := (blk_cell B1.out 2).trans rfl; have xg13 : w4.cell? ⟨g1, 3, none⟩ = some (.int .i64 mo) := (blk_cell B1.out 3).trans rfl; have xg14 : w4.cell? ⟨g1, 4, none⟩ = some (.int .i64 bo) := (blk_cell B1.out 4).trans rfl; have xg15 : w4.cell? ⟨g1, 5, none⟩ = some (.int .i64 fr) := (blk_cell B1.out 5).trans rfl; have xg16 : w4.cell? ⟨g1, 6, none⟩ = some (.slice A6 l.length c6) := (blk_cell B1.out 6).trans rfl; have xg20 : w4.cell? ⟨g2, 0, none⟩ = some (.slice At t.length ct) := (blk_cell B2.out 0).trans rfl; have xg21 : w4.cell? ⟨g2, 1, none⟩ = some (.int .i64 a) := (blk_cell B2.out 1).trans rfl; have xg22 : w4.cell? ⟨g2, 2, none⟩ = some (.int .i64 b) := (blk_cell B2.out 2).trans rfl; have xg23 : w4.cell? ⟨g2, 3, none⟩ = some (.int .i64 c) := (blk_cell B2.out 3).trans rfl; have xg24 : w4.cell? ⟨g2, 4, none⟩ = some (.int .i64 d) := (blk_cell B2.out 4).trans rfl; have f6 := blk_frozen B1.out 6; clear hb1) | ((with_reducible refine gate_builtin (b := .append) (xs := #[.const (.slice none 0 0), .tmp 16]) rfl ?_); at_builtin; refine Kd.R_append_rows k76 (w0 := w) w.heap.size rfl (.const (.slice none 0 0)) (.tmp 16) 58 76 (.agg #[.int .i64 0, .int .i64 0]) 16 rfl Try.underlying58 info76 rfl (by decide) (by omega) (.slice none 0 0) ([] : List S76) l _ _ _ (fun _ => True) (fun _ => False) rfl rfl (Kd.R_nil _ _ _ _ _) (Kd.C_below HR0.out HB.out) (fun _ _ h => h) (fun _ h => h.elim) (fun _ _ => trivial) HB.out HB.out.size (by have := HL.out; simp; omega) ?_; intro v5 w5 ho hb hg5 hat; rw [List.nil_append] at ho; obtain ⟨A5, c5, he5⟩ := Kd.R_slice ho; subst he5; have HO5 := Aside0.mk ho; have B1_ := Aside0.mk (blk_grown B1.out hg5 (by simp [Value.ownBlock])); have B2_ := Aside0.mk (blk_grown B2.out hg5 (by simp [Value.ownBlock])); clear HB B1 B2; have HB := Aside0.mk hb; have B1 := B1_; have B2 := B2_; clear B1_ B2_; clear xg10 xg11 xg12 xg13 xg14 xg15 xg16; clear xg20 xg21 xg22 xg23 xg24; clear f6; have xg10 : w5.cell? ⟨g1, 0, none⟩ = some (.int .i64 me) := (blk_cell B1.out 0).trans rfl; have xg11 : w5.cell? ⟨g1, 1, none⟩ = some (.int .i64 rev) := (blk_cell B1.out 1).trans rfl; have xg12 : w5.cell? ⟨g1, 2, none⟩ = some (.int .i64 nx) := (blk_cell B1.out 2).trans rfl; have xg13 : w5.cell? ⟨g1, 3, none⟩ = some (.int .i64 mo) := (blk_cell B1.out 3).trans rfl; have xg14 : w5.cell? ⟨g1, 4, none⟩ = some (.int .i64 bo) := (blk_cell B1.out 4).trans rfl; have xg15 : w5.cell? ⟨g1, 5, none⟩ = some (.int .i64 fr) := (blk_cell B1.out 5).trans rfl; have xg16 : w5.cell? ⟨g1, 6, none⟩ = some (.slice A6 l.length c6) := (blk_cell B1.out 6).trans rfl; have xg20 : w5.cell? ⟨g2, 0, none⟩ = some (.slice At t.length ct) := (blk_cell B2.out 0).trans rfl; have xg21 : w5.cell? ⟨g2, 1, none⟩ = some (.int .i64 a) := (blk_cell B2.out 1).trans rfl; have xg22 : w5.cell? ⟨g2, 2, none⟩ = some (.int .i64 b) := (blk_cell B2.out 2).trans rfl; have xg23 : w5.cell? ⟨g2, 3, none⟩ = some (.int .i64 c) := (blk_cell B2.out 3).trans rfl; have xg24 : w5.cell? ⟨g2, 4, none⟩ = some (.int .i64 d) := (blk_cell B2.out 4).trans rfl;  have f6 := blk_frozen B1.out 6; have B1s := Aside0.mk (blk_put B1.out 6 (.slice A5 l.length c5) rfl); have B2s := Aside0.mk (blk_far B2.out (p := ⟨g1, 6, none⟩) (Ne.symm NB1g2.out) (.slice A5 l.length c5)); have yg10 : (w5.setCell ⟨g1, 6, none⟩ (.slice A5 l.length c5)).cell? ⟨g1, 0, none⟩ = some (.int .i64 me) := (blk_cell B1s.out 0).trans rfl; have yg11 : (w5.setCell ⟨g1, 6, none⟩ (.slice A5 l.length c5)).cell? ⟨g1, 1, none⟩ = some (.int .i64 rev) := (blk_cell B1s.out 1).trans rfl; have yg12 : (w5.setCell ⟨g1, 6, none⟩ (.slice A5 l.length c5)).cell? ⟨g1, 2, none⟩ = some (.int .i64 nx) := (blk_cell B1s.out 2).trans rfl; have yg13 : (w5.setCell ⟨g1, 6, none⟩ (.slice A5 l.length c5)).cell? ⟨g1, 3, none⟩ = some (.int .i64 mo) := (blk_cell B1s.out 3).trans rfl; have yg14 : (w5.setCell ⟨g1, 6, none⟩ (.slice A5 l.length c5)).cell? ⟨g1, 4, none⟩ = some (.int .i64 bo) := (blk_cell B1s.out 4).trans rfl; have yg15 : (w5.setCell ⟨g1, 6, none⟩ (.slice A5 l.length c5)).cell? ⟨g1, 5, none⟩ = some (.int .i64 fr) := (blk_cell B1s.out 5).trans rfl; have yg16 : (w5.setCell ⟨g1, 6, none⟩ (.slice A5 l.length c5)).cell? ⟨g1, 6, none⟩ = some (.slice A5 l.length c5) := (blk_cell B1s.out 6).trans rfl; have yg20 : (w5.setCell ⟨g1, 6, none⟩ (.slice A5 l.length c5)).cell? ⟨g2, 0, none⟩ = some (.slice At t.length ct) := (blk_cell B2s.out 0).trans rfl; have yg21 : (w5.setCell ⟨g1, 6, none⟩ (.slice A5 l.length c5)).cell? ⟨g2, 1, none⟩ = some (.int .i64 a) := (blk_cell B2s.out 1).trans rfl; have yg22 : (w5.setCell ⟨g1, 6, none⟩ (.slice A5 l.length c5)).cell? ⟨g2, 2, none⟩ = some (.int .i64 b) := (blk_cell B2s.out 2).trans rfl; have yg23 : (w5.setCell ⟨g1, 6, none⟩ (.slice A5 l.length c5)).cell? ⟨g2, 3, none⟩ = some (.int .i64 c) := (blk_cell B2s.out 3).trans rfl; have yg24 : (w5.setCell ⟨g1, 6, none⟩ (.slice A5 l.length c5)).cell? ⟨g2, 4, none⟩ = some (.int .i64 d) := (blk_cell B2s.out 4).trans rfl;  clear ho hb hg5 hat) | ((with_reducible refine gate_dst (N := 22) rfl ?_); refine box_event ?hg (N := 22) ?hd (cs := #[.int .i64 me, .int .i64 rev, .int .i64 nx, .int .i64 mo, .int .i64 bo, .int .i64 fr, .slice A5 l.length c5, .slice At t.length ct, .int .i64 a, .int .i64 b, .int .i64 c, .int .i64 d]) (t := 128) ?hr ?_; (case hd => rfl); (case hg => rfl); (case hr => first | (go_simp; done) | (go_simp; rfl)); intro g3 hgq w6 hbox hb; have G3 := Aside0.mk (by rw [hgq]; exact (below_set HB.out G1.out).size : w.heap.size ≤ g3); have B3 := Aside0.mk hbox; have HR5 := Aside0.mk (Kd.R_below (Kd.R_mono (Kd.R_bound (Kd.R_set HO5.out B1.out (by decide) 6 (.slice A5 l.length c5))) (fun k hk => (by have := hk.2.2.1; omega : k ≠ g3))) hb); have HB_ := Aside0.mk (below_step (below_set HB.out G1.out) hb); clear HB; have HB := HB_; clear HB_ hb hbox hgq))
        go_ret2
        exact ⟨_, rfl, fun _ => ⟨g3, _, rfl, G3.out, B3.out, HR5.out⟩, HB.out⟩
      · rw [if_neg h3] at h; cases h
    · rw [if_neg h2] at h
      obtain rfl := Option.some.inj h
      have q2 : (e0 != 0) = true := bne_iff_ne.mpr h2
      clear h
      go_enter Try.func76, Try.ntmps76
      go_wp2_with (first | ((with_reducible refine gate_dst (N := 2) rfl ?_); refine box_event ?hg (N := 2) ?hd (cs := #[.int .i64 me, .int .i64 rev, .int .i64 nx, .int .i64 mo, .int .i64 bo, .int .i64 fr, .slice A6 l.length c6]) (t := 60) ?hr ?_; (case hd => rfl); (case hg => rfl); (case hr => first | (go_simp; done) | (go_simp; rfl)); intro g1 hgq w1 hbox hb; have HB_ := Aside0.mk (below_step HB.out hb); have G1 := Aside0.mk (by rw [hgq]; exact below_size HB.out : w.heap.size ≤ g1); have B1 := Aside0.mk hbox; clear HB ; have HB := HB_; clear HB_; clear hb hbox hgq) | ((with_reducible refine gate_dst (N := 3) rfl ?_); refine box_event ?hg (N := 3) ?hd (cs := #[.slice At t.length ct, .int .i64 a, .int .i64 b, .int .i64 c, .int .i64 d]) (t := 53) ?hr ?_; (case hd => rfl); (case hg => rfl); (case hr => first | (go_simp; done) | (go_simp; rfl)); intro g2 hgq w2 hbox hb; have B1_ := Aside0.mk (blk_below B1.out hb); have NB1g2 := Aside0.mk (by rw [hgq]; exact Nat.ne_of_lt (blk_lt B1.out) : g1 ≠ g2); have HB_ := Aside0.mk (below_step HB.out hb); have G2 := Aside0.mk (by rw [hgq]; exact below_size HB.out : w.heap.size ≤ g2); have B2 := Aside0.mk hbox; clear HB B1; have HB := HB_; clear HB_; have B1 := B1_; clear B1_; clear hb hbox hgq; have xg10 : w2.cell? ⟨g1, 0, none⟩ = some (.int .i64 me) := (blk_cell B1.out 0).trans rfl; have xg11 : w2.cell? ⟨g1, 1, none⟩ = some (.int .i64 rev) := (blk_cell B1.out 1).trans rfl; have xg12 : w2.cell? ⟨g1, 2, none⟩ = some (.int .i64 nx) := (blk_cell B1.out 2).trans rfl; have xg13 : w2.cell? ⟨g1, 3, none⟩ = some (.int .i64 mo) := (blk_cell B1.out 3).trans rfl; have xg14 : w2.cell? ⟨g1, 4, none⟩ = some (.int .i64 bo) := (blk_cell B1.out 4).trans rfl; have xg15 : w2.cell? ⟨g1, 5, none⟩ = some (.int .i64 fr) := (blk_cell B1.out 5).trans rfl; have xg16 : w2.cell? ⟨g1, 6, none⟩ = some (.slice A6 l.length c6) := (blk_cell B1.out 6).trans rfl; have xg20 : w2.cell? ⟨g2, 0, none⟩ = some (.slice At t.length ct) := (blk_cell B2.out 0).trans rfl; have xg21 : w2.cell? ⟨g2, 1, none⟩ = some (.int .i64 a) := (blk_cell B2.out 1).trans rfl; have xg22 : w2.cell? ⟨g2, 2, none⟩ = some (.int .i64 b) := (blk_cell B2.out 2).trans rfl; have xg23 : w2.cell? ⟨g2, 3, none⟩ = some (.int .i64 c) := (blk_cell B2.out 3).trans rfl; have xg24 : w2.cell? ⟨g2, 4, none⟩ = some (.int .i64 d) := (blk_cell B2.out 4).trans rfl; skip) | (go_at_call 85; refine (account_may.calls k me rev nx mo bo fr A6 c6 l true _ (Kd.C_below HR0.out HB.out) HC0.out HM.out).mono ?_; rintro e w3 ⟨rfl, hb1⟩; clear xg10 xg11 xg12 xg13 xg14 xg15 xg16; clear xg20 xg21 xg22 xg23 xg24; have B1_ := Aside0.mk (blk_below B1.out hb1); have B2_ := Aside0.mk (blk_below B2.out hb1); have HB_ := Aside0.mk (below_step HB.out hb1); clear HB B1 B2; have HB := HB_; clear HB_; have B1 := B1_; clear B1_; have B2 := B2_; clear B2_; have xg10 : w3.cell? ⟨g1, 0, none⟩ = some (.int .i64 me) := (blk_cell B1.out 0).trans rfl; have xg11 : w3.cell? ⟨g1, 1, none⟩ = some (.int .i64 rev) := (blk_cell B1.out 1).trans rfl; have xg12 : w3.cell? ⟨g1, 2, none⟩ = some (.int .i64 nx) := (blk_cell B1.out 2).trans rfl; have xg13 : w3.cell? ⟨g1, 3, none⟩ = some (.int .i64 mo) := (blk_cell B1.out 3).trans rfl; have xg14 : w3.cell? ⟨g1, 4, none⟩ = some (.int .i64 bo) := (blk_cell B1.out 4).trans rfl; have xg15 : w3.cell? ⟨g1, 5, none⟩ = some (.int .i64 fr) := (blk_cell B1.out 5).trans rfl; have xg16 : w3.cell? ⟨g1, 6, none⟩ = some (.slice A6 l.length c6) := (blk_cell B1.out 6).trans rfl; have xg20 : w3.cell? ⟨g2, 0, none⟩ = some (.slice At t.length ct) := (blk_cell B2.out 0).trans rfl; have xg21 : w3.cell? ⟨g2, 1, none⟩ = some (.int .i64 a) := (blk_cell B2.out 1).trans rfl; have xg22 : w3.cell? ⟨g2, 2, none⟩ = some (.int .i64 b) := (blk_cell B2.out 2).trans rfl; have xg23 : w3.cell? ⟨g2, 3, none⟩ = some (.int .i64 c) := (blk_cell B2.out 3).trans rfl; have xg24 : w3.cell? ⟨g2, 4, none⟩ = some (.int .i64 d) := (blk_cell B2.out 4).trans rfl; clear hb1) | (go_at_call 28; refine (account_Check.calls At ct t a b c d e0 _ (Kd.C_below HT0.out HB.out) HCT.out HE.out).mono ?_; rintro e w4 ⟨rfl, hb1⟩; have B1_ := Aside0.mk (blk_below B1.out hb1); have B2_ := Aside0.mk (blk_below B2.out hb1); have HB_ := Aside0.mk (below_step HB.out hb1); clear HB B1 B2; have HB := HB_; clear HB_; have B1 := B1_; clear B1_; have B2 := B2_; clear B2_; clear xg10 xg11 xg12 xg13 xg14 xg15 xg16; clear xg20 xg21 xg22 xg23 xg24; have xg10 : w4.cell? ⟨g1, 0, none⟩ = some (.int .i64 me) := (blk_cell B1.out 0).trans rfl; have xg11 : w4.cell? ⟨g1, 1, none⟩ = some (.int .i64 rev) := (blk_cell B1.out 1).trans rfl; have xg12 : w4.cell? ⟨g1, 2, none⟩ = some (.int .i64 nx) := (blk_cell B1.out 2).trans rfl; have xg13 : w4.cell? ⟨g1, 3, none⟩ = some (.int .i64 mo) := (blk_cell B1.out 3).trans rfl; have xg14 : w4.cell? ⟨g1, 4, none⟩ = some (.int .i64 bo) := (blk_cell B1.out 4).trans rfl; have xg15 : w4.cell? ⟨g1, 5, none⟩ = some (.int .i64 fr) := (blk_cell B1.out 5).trans rfl; have xg16 : w4.cell? ⟨g1, 6, none⟩ = some (.slice A6 l.length c6) := (blk_cell B1.out 6).trans rfl; have xg20 : w4.cell? ⟨g2, 0, none⟩ = some (.slice At t.length ct) := (blk_cell B2.out 0).trans rfl; have xg21 : w4.cell? ⟨g2, 1, none⟩ = some (.int .i64 a) := (blk_cell B2.out 1).trans rfl; have xg22 : w4.cell? ⟨g2, 2, none⟩ = some (.int .i64 b) := (blk_cell B2.out 2).trans rfl; have xg23 : w4.cell? ⟨g2, 3, none⟩ = some (.int .i64 c) := (blk_cell B2.out 3).trans rfl; have xg24 : w4.cell? ⟨g2, 4, none⟩ = some (.int .i64 d) := (blk_cell B2.out 4).trans rfl; have f6 := blk_frozen B1.out 6; clear hb1))
      go_ret2
      exact ⟨_, rfl, fun h => absurd h h2, HB.out⟩
  · rw [if_neg h1] at h
    obtain rfl := Option.some.inj h
    replace h1 := Bool.eq_false_iff.mpr h1
    subst h1
    clear h
    go_enter Try.func76, Try.ntmps76
    go_wp2_with (first | ((with_reducible refine gate_dst (N := 2) rfl ?_); refine box_event ?hg (N := 2) ?hd (cs := #[.int .i64 me, .int .i64 rev, .int .i64 nx, .int .i64 mo, .int .i64 bo, .int .i64 fr, .slice A6 l.length c6]) (t := 60) ?hr ?_; (case hd => rfl); (case hg => rfl); (case hr => first | (go_simp; done) | (go_simp; rfl)); intro g1 hgq w1 hbox hb; have HB_ := Aside0.mk (below_step HB.out hb); have G1 := Aside0.mk (by rw [hgq]; exact below_size HB.out : w.heap.size ≤ g1); have B1 := Aside0.mk hbox; clear HB ; have HB := HB_; clear HB_; clear hb hbox hgq) | ((with_reducible refine gate_dst (N := 3) rfl ?_); refine box_event ?hg (N := 3) ?hd (cs := #[.slice At t.length ct, .int .i64 a, .int .i64 b, .int .i64 c, .int .i64 d]) (t := 53) ?hr ?_; (case hd => rfl); (case hg => rfl); (case hr => first | (go_simp; done) | (go_simp; rfl)); intro g2 hgq w2 hbox hb; have B1_ := Aside0.mk (blk_below B1.out hb); have NB1g2 := Aside0.mk (by rw [hgq]; exact Nat.ne_of_lt (blk_lt B1.out) : g1 ≠ g2); have HB_ := Aside0.mk (below_step HB.out hb); have G2 := Aside0.mk (by rw [hgq]; exact below_size HB.out : w.heap.size ≤ g2); have B2 := Aside0.mk hbox; clear HB B1; have HB := HB_; clear HB_; have B1 := B1_; clear B1_; clear hb hbox hgq; have xg10 : w2.cell? ⟨g1, 0, none⟩ = some (.int .i64 me) := (blk_cell B1.out 0).trans rfl; have xg11 : w2.cell? ⟨g1, 1, none⟩ = some (.int .i64 rev) := (blk_cell B1.out 1).trans rfl; have xg12 : w2.cell? ⟨g1, 2, none⟩ = some (.int .i64 nx) := (blk_cell B1.out 2).trans rfl; have xg13 : w2.cell? ⟨g1, 3, none⟩ = some (.int .i64 mo) := (blk_cell B1.out 3).trans rfl; have xg14 : w2.cell? ⟨g1, 4, none⟩ = some (.int .i64 bo) := (blk_cell B1.out 4).trans rfl; have xg15 : w2.cell? ⟨g1, 5, none⟩ = some (.int .i64 fr) := (blk_cell B1.out 5).trans rfl; have xg16 : w2.cell? ⟨g1, 6, none⟩ = some (.slice A6 l.length c6) := (blk_cell B1.out 6).trans rfl; have xg20 : w2.cell? ⟨g2, 0, none⟩ = some (.slice At t.length ct) := (blk_cell B2.out 0).trans rfl; have xg21 : w2.cell? ⟨g2, 1, none⟩ = some (.int .i64 a) := (blk_cell B2.out 1).trans rfl; have xg22 : w2.cell? ⟨g2, 2, none⟩ = some (.int .i64 b) := (blk_cell B2.out 2).trans rfl; have xg23 : w2.cell? ⟨g2, 3, none⟩ = some (.int .i64 c) := (blk_cell B2.out 3).trans rfl; have xg24 : w2.cell? ⟨g2, 4, none⟩ = some (.int .i64 d) := (blk_cell B2.out 4).trans rfl; skip) | (go_at_call 85; refine (account_may.calls k me rev nx mo bo fr A6 c6 l false _ (Kd.C_below HR0.out HB.out) HC0.out HM.out).mono ?_; rintro e w3 ⟨rfl, hb1⟩; clear xg10 xg11 xg12 xg13 xg14 xg15 xg16; clear xg20 xg21 xg22 xg23 xg24; have B1_ := Aside0.mk (blk_below B1.out hb1); have B2_ := Aside0.mk (blk_below B2.out hb1); have HB_ := Aside0.mk (below_step HB.out hb1); clear HB B1 B2; have HB := HB_; clear HB_; have B1 := B1_; clear B1_; have B2 := B2_; clear B2_; have xg10 : w3.cell? ⟨g1, 0, none⟩ = some (.int .i64 me) := (blk_cell B1.out 0).trans rfl; have xg11 : w3.cell? ⟨g1, 1, none⟩ = some (.int .i64 rev) := (blk_cell B1.out 1).trans rfl; have xg12 : w3.cell? ⟨g1, 2, none⟩ = some (.int .i64 nx) := (blk_cell B1.out 2).trans rfl; have xg13 : w3.cell? ⟨g1, 3, none⟩ = some (.int .i64 mo) := (blk_cell B1.out 3).trans rfl; have xg14 : w3.cell? ⟨g1, 4, none⟩ = some (.int .i64 bo) := (blk_cell B1.out 4).trans rfl; have xg15 : w3.cell? ⟨g1, 5, none⟩ = some (.int .i64 fr) := (blk_cell B1.out 5).trans rfl; have xg16 : w3.cell? ⟨g1, 6, none⟩ = some (.slice A6 l.length c6) := (blk_cell B1.out 6).trans rfl; have xg20 : w3.cell? ⟨g2, 0, none⟩ = some (.slice At t.length ct) := (blk_cell B2.out 0).trans rfl; have xg21 : w3.cell? ⟨g2, 1, none⟩ = some (.int .i64 a) := (blk_cell B2.out 1).trans rfl; have xg22 : w3.cell? ⟨g2, 2, none⟩ = some (.int .i64 b) := (blk_cell B2.out 2).trans rfl; have xg23 : w3.cell? ⟨g2, 3, none⟩ = some (.int .i64 c) := (blk_cell B2.out 3).trans rfl; have xg24 : w3.cell? ⟨g2, 4, none⟩ = some (.int .i64 d) := (blk_cell B2.out 4).trans rfl; clear hb1))
    go_ret2
    exact ⟨_, rfl, fun h => absurd h (by decide), HB.out⟩
theorem clerk.put7 {w : World} {g : Nat} {t : TypeId} {x0 x1 x2 x3 x4 x5 x6 v0 v1 v2 v3 v4 v5 v6 : Value} (h : w.heap[g]? = some (.cells #[x0, x1, x2, x3, x4, x5, x6] t (0, 0))) : (((((((w.setCell ⟨g, 0, none⟩ (v0)).setCell ⟨g, 1, none⟩ (v1)).setCell ⟨g, 2, none⟩ (v2)).setCell ⟨g, 3, none⟩ (v3)).setCell ⟨g, 4, none⟩ (v4)).setCell ⟨g, 5, none⟩ (v5)).setCell ⟨g, 6, none⟩ (v6)).heap[g]? = some (.cells #[v0, v1, v2, v3, v4, v5, v6] t (0, 0)) := by
  refine blk_put (cs := #[v0, v1, v2, v3, v4, v5, x6]) ?_ 6 _ rfl
  refine blk_put (cs := #[v0, v1, v2, v3, v4, x5, x6]) ?_ 5 _ rfl
  refine blk_put (cs := #[v0, v1, v2, v3, x4, x5, x6]) ?_ 4 _ rfl
  refine blk_put (cs := #[v0, v1, v2, x3, x4, x5, x6]) ?_ 3 _ rfl
  refine blk_put (cs := #[v0, v1, x2, x3, x4, x5, x6]) ?_ 2 _ rfl
  refine blk_put (cs := #[v0, x1, x2, x3, x4, x5, x6]) ?_ 1 _ rfl
  refine blk_put (cs := #[x0, x1, x2, x3, x4, x5, x6]) ?_ 0 _ rfl
  exact h
theorem clerk.far7 {w : World} {g h : Nat} {t : TypeId} {cs : Array Value} (v0 v1 v2 v3 v4 v5 v6 : Value) (hh : w.heap[h]? = some (.cells cs t (0, 0))) (hne : h ≠ g) : (((((((w.setCell ⟨g, 0, none⟩ (v0)).setCell ⟨g, 1, none⟩ (v1)).setCell ⟨g, 2, none⟩ (v2)).setCell ⟨g, 3, none⟩ (v3)).setCell ⟨g, 4, none⟩ (v4)).setCell ⟨g, 5, none⟩ (v5)).setCell ⟨g, 6, none⟩ (v6)).heap[h]? = some (.cells cs t (0, 0)) := (blk_far (blk_far (blk_far (blk_far (blk_far (blk_far (blk_far hh hne _) hne _) hne _) hne _) hne _) hne _) hne _)
theorem clerk.R7 {α : Type} {d : Kd α} {e base : Nat} {ok : Nat → Prop} {w : World} {v : Value} {xs : List α} {g : Nat} (v0 v1 v2 v3 v4 v5 v6 : Value) (h : d.R e w base ok v xs) (hok : ∀ k, ok k → k ≠ g) : d.R e (((((((w.setCell ⟨g, 0, none⟩ (v0)).setCell ⟨g, 1, none⟩ (v1)).setCell ⟨g, 2, none⟩ (v2)).setCell ⟨g, 3, none⟩ (v3)).setCell ⟨g, 4, none⟩ (v4)).setCell ⟨g, 5, none⟩ (v5)).setCell ⟨g, 6, none⟩ (v6)) base ok v xs := (Kd.R_far (Kd.R_far (Kd.R_far (Kd.R_far (Kd.R_far (Kd.R_far (Kd.R_far h hok _) hok _) hok _) hok _) hok _) hok _) hok _)
theorem clerk.below7 {w W : World} {g : Nat} (v0 v1 v2 v3 v4 v5 v6 : Value) (h : Below w.heap.size w W) (hg : w.heap.size ≤ g) : Below w.heap.size w (((((((W.setCell ⟨g, 0, none⟩ (v0)).setCell ⟨g, 1, none⟩ (v1)).setCell ⟨g, 2, none⟩ (v2)).setCell ⟨g, 3, none⟩ (v3)).setCell ⟨g, 4, none⟩ (v4)).setCell ⟨g, 5, none⟩ (v5)).setCell ⟨g, 6, none⟩ (v6)) := (below_set (below_set (below_set (below_set (below_set (below_set (below_set h hg) hg) hg) hg) hg) hg) hg)
theorem clerk.one {W : World} {g : Nat} {x y : Int} (h : W.heap[g]? = some (.cells #[.int .i64 x, .int .i64 y] 125 (0, 0))) : Kd.C k125 W (some ⟨g, 0, none⟩) [(⟨x, y⟩ : S125)].length [⟨x, y⟩] := by
  refine ⟨rfl, by simp, fun _ => ⟨_, rfl, fun j p hj => ?_⟩⟩
  match j with
  | 0 =>
    obtain rfl := Option.some.inj hj
    refine ⟨[.int .i64 x, .int .i64 y], rfl, k125_mk _ ⟨x, y⟩, fun i u hu => ?_⟩
    match i with
    | 0 => obtain rfl := Option.some.inj hu; exact (blk_cell h 0).trans rfl
    | 1 => obtain rfl := Option.some.inj hu; exact (blk_cell h 1).trans rfl
    | i + 2 => simp at hu
  | j + 1 => simp at hj

section
variable {P : Program} {ops : Array Oper} {o : Oper} {a : Act} {Q : Exit → Act → World → Prop} {W : World}
theorem store.run {t : TypeId} {e : TypeId} {g : Nat} {cur : Array Value} {u : Value} (cs : Array Value) (hu : u.cells = cs) (ht : (P.info? t).map (·.size) = some cs.size) (h1 : ∀ q ∈ cs.toList, q.oneCell' = true) (hh : W.heap[g]? = some (.cells cur e (0, 0))) (hsz : cs.size = cur.size) :
    (Instr.storeAt t (.pointer (some ⟨g, 0, none⟩)) u).run P W = .ok () (W.setCells g 0 cs.toList) ∧ (W.setCells g 0 cs.toList).heap[g]? = some (.cells cs e (0, 0)) ∧ W.grownBy (W.setCells g 0 cs.toList) (some g) := by
  have hl : cs.toList.length = cs.size := Array.length_toList
  refine ⟨run_store_run t u cs.toList hh (by rw [hu]) (by rw [hl]; exact ht) (by rw [hl]; omega) h1, ?_, ?_⟩
  · obtain ⟨cur', h2, h3, h4⟩ := setCells_row cs.toList 0 W cur hh (by rw [hl]; omega)
    rw [h2]
    have : cur' = cs := by
      apply Array.toList_inj.1
      rw [h4, List.take_zero, List.nil_append, List.drop_of_length_le (by rw [Array.length_toList, hl]; omega), List.append_nil]
    rw [this]
  · obtain ⟨q1, q2, q3, q4⟩ := setCells_same g cs.toList 0 W
    exact ⟨q1, q2, q3, by rw [q4]; exact Nat.le_refl _, fun k _ hk => setCells_far _ _ k (fun h => hk (by rw [h]))⟩
theorem store.list {rest : List Oper} (hN : o.dst = none) (hgd : o.guard = none) (t : TypeId) (p x : Operand) (ho : o.op = .store t p x) (e : TypeId) (g : Nat) (cur : Array Value) (cs : Array Value) (haddr : a.eval p = .pointer (some ⟨g, 0, none⟩)) (hu : (a.eval x).cells = cs) (ht : (P.info? t).map (·.size) = some cs.size) (h1 : ∀ q ∈ cs.toList, q.oneCell' = true) (hh : W.heap[g]? = some (.cells cur e (0, 0))) (hsz : cs.size = cur.size)
    (h : ∀ w1, w1.heap[g]? = some (.cells cs e (0, 0)) → W.grownBy w1 (some g) → wpList P ops Q rest a w1) : wpList P ops Q (o :: rest) a W := by
  obtain ⟨hrun, hb, hg⟩ := store.run (P := P) (t := t) cs hu ht h1 hh hsz
  refine wpList_plain hgd fun K hK => ?_
  unfold Oper.wp execOp
  simp only [ho, haddr, Sem.run_bind, Sem.run_pure, Result.andThen_ok, hrun]
  show K (a.put o.dst undef) _
  rw [hN]
  exact hK a _ (h _ hb hg)
theorem store.step {Kc : Act → World → Prop} (hw : Region.wanted o (yielded ops a.tmps) = true) (hN : o.dst = none) (t : TypeId) (p x : Operand) (ho : o.op = .store t p x) (e : TypeId) (g : Nat) (cur : Array Value) (cs : Array Value) (haddr : a.eval p = .pointer (some ⟨g, 0, none⟩)) (hu : (a.eval x).cells = cs) (ht : (P.info? t).map (·.size) = some cs.size) (h1 : ∀ q ∈ cs.toList, q.oneCell' = true) (hh : W.heap[g]? = some (.cells cur e (0, 0))) (hsz : cs.size = cur.size)
    (h : ∀ w1, w1.heap[g]? = some (.cells cs e (0, 0)) → W.grownBy w1 (some g) → Kc (a.put o.dst undef) w1) :
    if Region.wanted o (yielded ops a.tmps) = true then Oper.wp P o a W Kc Q else Kc (a.put o.dst undef) W := by
  obtain ⟨hrun, hb, hg⟩ := store.run (P := P) (t := t) cs hu ht h1 hh hsz
  rw [if_pos hw]
  unfold Oper.wp execOp
  simp only [ho, haddr, Sem.run_bind, Sem.run_pure, Result.andThen_ok, hrun]
  exact h _ hb hg
end
theorem store.below {w W w1 : World} {g : Nat} (h : Below w.heap.size w W) (hg : W.grownBy w1 (some g)) (hl : w.heap.size ≤ g) : Below w.heap.size w w1 := pw_below_grown h (some g) h.size hg (fun k hk => by cases hk; exact hl)
theorem store.far {W w1 : World} {g h : Nat} {ob : Obj} (hb : W.heap[h]? = some ob) (hg : W.grownBy w1 (some g)) (hne : h ≠ g) : w1.heap[h]? = some ob := blk_grown hb hg (fun e => hne (Option.some.inj e))
theorem store.R {α : Type} {d : Kd α} {e base : Nat} {ok : Nat → Prop} {W w1 : World} {v : Value} {xs : List α} {g : Nat} (h : d.R e W base ok v xs) (hg : W.grownBy w1 (some g)) (hok : ∀ k, ok k → k ≠ g) : d.R e w1 base ok v xs := Kd.R_grown h hg (fun k hk e => hok k hk (Option.some.inj e))

/-! ### account_Grant: by hand -/
def account_Grant.no (e : Int) : Int × Int × Int × Int × Int × Int × List S76 × Int × Int × Int × Int × Int × Int × Int × Int := (0, 0, 0, 0, 0, 0, [], 0, 0, 0, 0, 0, 0, 0, e)
def account_Grant.f (k : Nat) (me rev nx mo bo fr : Int) (l : List S76) (t : List S125) (a b c d month : Int) : Option (Int × Int × Int × Int × Int × Int × List S76 × Int × Int × Int × Int × Int × Int × Int × Int) :=
  (account_open.f k me rev nx mo bo fr l t a b c d).bind fun e => if e = 0 then ((account_roll.f k mo bo l month).bind fun p => if p.2.2.2 = 0 then (if d = 0 then some (account_Grant.no 22) else if fr = month then some (account_Grant.no 21) else if nx > 1048575 then some (account_Grant.no 20) else some (me, rev, wrap64 (nx + 1), p.2.1, p.2.2.1, month, p.1, wrap64 (wrap64 (nx + 1) - 1), 0, 0, 0, 0, 0, d, 0)) else some (account_Grant.no p.2.2.2)) else some (account_Grant.no e)
theorem account_Grant.mono : ∀ a0 a1 a2 a3 a4 a5 a6 a7 a8 a9 a10 a11 a12 k, LeO (account_Grant.f k a0 a1 a2 a3 a4 a5 a6 a7 a8 a9 a10 a11 a12) (account_Grant.f (k + 1) a0 a1 a2 a3 a4 a5 a6 a7 a8 a9 a10 a11 a12) := by
  intro a0 a1 a2 a3 a4 a5 a6 a7 a8 a9 a10 a11 a12 k
  unfold account_Grant.f
  exact LeO.bind (account_open.mono _ _ _ _ _ _ _ _ _ _ _ _ _) (fun _ => LeO.ite (LeO.bind (account_roll.mono _ _ _ _ _) (fun _ => LeO.refl _)) (LeO.refl _))
set_option maxHeartbeats 16000000 in
set_option maxRecDepth 100000 in
theorem account_Grant.calls (k : Nat) (me rev nx mo bo fr : Int) (A6 : Option Addr) (c6 : Nat) (l : List S76) (At : Option Addr) (ct : Nat) (t : List S125) (a b c d month : Int) (r1 r2 r3 r4 r5 r6 : Int) (r7 : List S76) (r8 r9 r10 r11 r12 r13 r14 r15 : Int) (w : World) (hr0 : Kd.C k76 w A6 l.length l) (hc0 : l.length ≤ c6) (ht0 : Kd.C k125 w At t.length t) (hct : t.length ≤ ct) (h : account_Grant.f k me rev nx mo bo fr l t a b c d month = some (r1, r2, r3, r4, r5, r6, r7, r8, r9, r10, r11, r12, r13, r14, r15)) :
    Calls Try.prog 35 #[.agg #[.int .i64 me, .int .i64 rev, .int .i64 nx, .int .i64 mo, .int .i64 bo, .int .i64 fr, .slice A6 l.length c6], .agg #[.slice At t.length ct, .int .i64 a, .int .i64 b, .int .i64 c, .int .i64 d], .int .i64 month] w fun e w' => ∃ v6_ : Value, e = .returned (.tuple #[.agg #[.int .i64 r1, .int .i64 r2, .int .i64 r3, .int .i64 r4, .int .i64 r5, .int .i64 r6, v6_], .agg #[.int .i64 r8, .int .i64 r9, .int .i64 r10, .int .i64 r11, .int .i64 r12, .int .i64 r13, .int .i64 r14], .int .i64 r15]) ∧ Kd.R k76 76 w' w.heap.size (fun _ => True) v6_ r7 ∧ Below w.heap.size w w' := by
  have HR0 := Aside0.mk hr0
  have HC0 := Aside0.mk hc0
  have HT0 := Aside0.mk ht0
  have HCT := Aside0.mk hct
  have HB := Aside0.mk (Below.refl w.heap.size w)
  have hu60 := Try.underlying60
  have hu53 := Try.underlying53
  have hu67 := Try.underlying67
  have hu128 := Try.underlying128
  clear hr0 hc0 ht0 hct
  unfold account_Grant.f at h
  obtain ⟨e0, ho, h⟩ := Option.bind_eq_some_iff.mp h
  have HO := Aside0.mk ho
  clear ho
  by_cases h1 : e0 = 0
  · rw [if_pos h1] at h
    subst h1
    obtain ⟨⟨l1, mo1, bo1, e1⟩, hp, h⟩ := Option.bind_eq_some_iff.mp h
    have HP := Aside0.mk hp
    clear hp
    by_cases h2 : e1 = 0
    · rw [if_pos h2] at h
      subst h2
      by_cases h3 : d = 0
      · rw [if_pos h3] at h
        simp only [account_Grant.no, Option.some.injEq, Prod.mk.injEq] at h
        obtain ⟨rfl, rfl, rfl, rfl, rfl, rfl, rfl, rfl, rfl, rfl, rfl, rfl, rfl, rfl, rfl⟩ := h
        have q3 : (d == 0) = true := beq_iff_eq.mpr h3
        clear h3
        go_enter Try.func35, Try.ntmps35
        go_wp2_with (first | ((with_reducible refine gate_dst (N := 3) rfl ?_); refine box_event ?hg (N := 3) ?hd (cs := #[.int .i64 me, .int .i64 rev, .int .i64 nx, .int .i64 mo, .int .i64 bo, .int .i64 fr, .slice A6 l.length c6]) (t := 60) ?hr ?_; (case hd => rfl); (case hg => rfl); (case hr => first | (go_simp; done) | (go_simp; rfl)); intro g1 hgq w1 hbox hb; have HB_ := Aside0.mk (below_step HB.out hb); have G1 := Aside0.mk (by rw [hgq]; exact below_size HB.out : w.heap.size ≤ g1); have B1 := Aside0.mk hbox; clear HB ; have HB := HB_; clear HB_; clear hb hbox hgq) | ((with_reducible refine gate_dst (N := 4) rfl ?_); refine box_event ?hg (N := 4) ?hd (cs := #[.slice At t.length ct, .int .i64 a, .int .i64 b, .int .i64 c, .int .i64 d]) (t := 53) ?hr ?_; (case hd => rfl); (case hg => rfl); (case hr => first | (go_simp; done) | (go_simp; rfl)); intro g2 hgq w2 hbox hb; have B1_ := Aside0.mk (blk_below B1.out hb); have NB1g2 := Aside0.mk (by rw [hgq]; exact Nat.ne_of_lt (blk_lt B1.out) : g1 ≠ g2); have HB_ := Aside0.mk (below_step HB.out hb); have G2 := Aside0.mk (by rw [hgq]; exact below_size HB.out : w.heap.size ≤ g2); have B2 := Aside0.mk hbox; clear HB B1; have HB := HB_; clear HB_; have B1 := B1_; clear B1_; clear hb hbox hgq) | ((with_reducible refine gate_dst (N := 6) rfl ?_); refine box_event ?hg (N := 6) ?hd (cs := #[.int .i64 0, .int .i64 0, .int .i64 0, .int .i64 0, .int .i64 0, .int .i64 0, .slice none 0 0]) (t := 60) ?hr ?_; (case hd => rfl); (case hg => rfl); (case hr => first | (go_simp; done) | (go_simp; rfl)); intro g3 hgq w3 hbox hb; have B1_ := Aside0.mk (blk_below B1.out hb); have B2_ := Aside0.mk (blk_below B2.out hb); have NB1g3 := Aside0.mk (by rw [hgq]; exact Nat.ne_of_lt (blk_lt B1.out) : g1 ≠ g3); have NB2g3 := Aside0.mk (by rw [hgq]; exact Nat.ne_of_lt (blk_lt B2.out) : g2 ≠ g3); have HB_ := Aside0.mk (below_step HB.out hb); have G3 := Aside0.mk (by rw [hgq]; exact below_size HB.out : w.heap.size ≤ g3); have B3 := Aside0.mk hbox; clear HB B1 B2; have HB := HB_; clear HB_; have B1 := B1_; have B2 := B2_; clear B1_; clear B2_; clear hb hbox hgq) | ((with_reducible refine gate_dst (N := 7) rfl ?_); refine box_event ?hg (N := 7) ?hd (cs := #[.int .i64 0, .int .i64 0, .int .i64 0, .int .i64 0, .int .i64 0, .int .i64 0, .int .i64 0]) (t := 67) ?hr ?_; (case hd => rfl); (case hg => rfl); (case hr => first | (go_simp; done) | (go_simp; rfl)); intro g4 hgq w4 hbox hb; have B1_ := Aside0.mk (blk_below B1.out hb); have B2_ := Aside0.mk (blk_below B2.out hb); have B3_ := Aside0.mk (blk_below B3.out hb); have NB1g4 := Aside0.mk (by rw [hgq]; exact Nat.ne_of_lt (blk_lt B1.out) : g1 ≠ g4); have NB2g4 := Aside0.mk (by rw [hgq]; exact Nat.ne_of_lt (blk_lt B2.out) : g2 ≠ g4); have NB3g4 := Aside0.mk (by rw [hgq]; exact Nat.ne_of_lt (blk_lt B3.out) : g3 ≠ g4); have HB_ := Aside0.mk (below_step HB.out hb); have G4 := Aside0.mk (by rw [hgq]; exact below_size HB.out : w.heap.size ≤ g4); have B4 := Aside0.mk hbox; clear HB B1 B2 B3; have HB := HB_; clear HB_; have B1 := B1_; have B2 := B2_; have B3 := B3_; clear B1_; clear B2_; clear B3_; clear hb hbox hgq; have xg10 : w4.cell? ⟨g1, 0, none⟩ = some (.int .i64 me) := (blk_cell B1.out 0).trans rfl; have xg11 : w4.cell? ⟨g1, 1, none⟩ = some (.int .i64 rev) := (blk_cell B1.out 1).trans rfl; have xg12 : w4.cell? ⟨g1, 2, none⟩ = some (.int .i64 nx) := (blk_cell B1.out 2).trans rfl; have xg13 : w4.cell? ⟨g1, 3, none⟩ = some (.int .i64 mo) := (blk_cell B1.out 3).trans rfl; have xg14 : w4.cell? ⟨g1, 4, none⟩ = some (.int .i64 bo) := (blk_cell B1.out 4).trans rfl; have xg15 : w4.cell? ⟨g1, 5, none⟩ = some (.int .i64 fr) := (blk_cell B1.out 5).trans rfl; have xg16 : w4.cell? ⟨g1, 6, none⟩ = some (.slice A6 l.length c6) := (blk_cell B1.out 6).trans rfl; have xg20 : w4.cell? ⟨g2, 0, none⟩ = some (.slice At t.length ct) := (blk_cell B2.out 0).trans rfl; have xg21 : w4.cell? ⟨g2, 1, none⟩ = some (.int .i64 a) := (blk_cell B2.out 1).trans rfl; have xg22 : w4.cell? ⟨g2, 2, none⟩ = some (.int .i64 b) := (blk_cell B2.out 2).trans rfl; have xg23 : w4.cell? ⟨g2, 3, none⟩ = some (.int .i64 c) := (blk_cell B2.out 3).trans rfl; have xg24 : w4.cell? ⟨g2, 4, none⟩ = some (.int .i64 d) := (blk_cell B2.out 4).trans rfl; skip) | (go_at_call 76; refine (account_open.calls k me rev nx mo bo fr A6 c6 l At ct t a b c d 0 _ (Kd.C_below HR0.out HB.out) HC0.out (Kd.C_below HT0.out HB.out) HCT.out HO.out).mono ?_; rintro e w5 ⟨v0, rfl, hop, hb1⟩; clear xg10 xg11 xg12 xg13 xg14 xg15 xg16; clear xg20 xg21 xg22 xg23 xg24; obtain ⟨g5, v1, rfl, hg5, hx5, hr5⟩ := hop rfl; clear hop; have L2 := Aside0.mk (Nat.lt_of_lt_of_le (blk_lt B2.out) hg5); have L3 := Aside0.mk (Nat.lt_of_lt_of_le (blk_lt B3.out) hg5); have L4 := Aside0.mk (Nat.lt_of_lt_of_le (blk_lt B4.out) hg5); have G5 := Aside0.mk (Nat.le_trans (below_size HB.out) hg5 : w.heap.size ≤ g5); have R5 := Aside0.mk (Kd.R_lower hr5 (below_size HB.out)); have B2_ := Aside0.mk (blk_below B2.out hb1); have B3_ := Aside0.mk (blk_below B3.out hb1); have B4_ := Aside0.mk (blk_below B4.out hb1); clear B2 B3 B4; have B2 := B2_; clear B2_; have B3 := B3_; clear B3_; have B4 := B4_; clear B4_; have HB_ := Aside0.mk (below_step HB.out hb1); clear HB; have HB := HB_; clear HB_; have B5 := Aside0.mk hx5; clear hb1 hg5 hx5 hr5) | (go_at_call 77; refine (account_roll.calls k g5 me rev nx mo bo fr v1 l At t.length ct a b c d month l1 mo1 bo1 0 w _ G5.out HB.out B5.out R5.out HP.out).mono ?_; rintro e w6 ⟨rfl, ⟨v2, hx4, hr4⟩, hk4, hb4⟩; have B2_ := Aside0.mk (blk_kept B2.out hk4 (Nat.ne_of_lt L2.out)); clear B2; have B2 := B2_; clear B2_; have B3_ := Aside0.mk (blk_kept B3.out hk4 (Nat.ne_of_lt L3.out)); clear B3; have B3 := B3_; clear B3_; have B4_ := Aside0.mk (blk_kept B4.out hk4 (Nat.ne_of_lt L4.out)); clear B4; have B4 := B4_; clear B4_; obtain ⟨A8, c8, rfl⟩ := Kd.R_slice hr4; clear HB B5 R5; have HB := Aside0.mk hb4; have B5 := Aside0.mk hx4; have R6 := Aside0.mk (Kd.R_types (Kd.R_types hr4 B3.out (by decide)) B4.out (by decide)); obtain ⟨x0, x1, x2, x3, x4, x5, x6, x7, x8, x9, x10, x11⟩ := clerk.get B5.out; have xd : w6.cell? ⟨g2, 4, none⟩ = some (.int .i64 d) := (blk_cell B2.out 4).trans rfl; clear hb4 hx4 hr4 hk4) | ((with_reducible refine gate_store (t := 60) (p := 6) rfl ?_); refine store.list rfl rfl 60 (.tmp 6) _ rfl 60 g3 #[.int .i64 0, .int .i64 0, .int .i64 0, .int .i64 0, .int .i64 0, .int .i64 0, .slice none 0 0] #[.int .i64 0, .int .i64 0, .int .i64 0, .int .i64 0, .int .i64 0, .int .i64 0, .slice none 0 0] rfl rfl (by kernel_rfl) (by simp [Value.oneCell']) B3.out rfl ?_; intro w7 bx hg7; have B4_ := Aside0.mk (store.far B4.out hg7 (Ne.symm NB3g4.out)); have HB_ := Aside0.mk (store.below HB.out hg7 G3.out); clear B3 B4 HB; have B3 := Aside0.mk bx; have B4 := B4_; have HB := HB_; clear B4_ HB_ bx hg7) | ((with_reducible refine gate_store (t := 67) (p := 7) rfl ?_); refine store.list rfl rfl 67 (.tmp 7) _ rfl 67 g4 #[.int .i64 0, .int .i64 0, .int .i64 0, .int .i64 0, .int .i64 0, .int .i64 0, .int .i64 0] #[.int .i64 0, .int .i64 0, .int .i64 0, .int .i64 0, .int .i64 0, .int .i64 0, .int .i64 0] rfl rfl (by kernel_rfl) (by simp [Value.oneCell']) B4.out rfl ?_; intro w8 bx hg8; have B3_ := Aside0.mk (store.far B3.out hg8 NB3g4.out); have HB_ := Aside0.mk (store.below HB.out hg8 G4.out); clear B3 B4 HB; have B4 := Aside0.mk bx; have B3 := B3_; have HB := HB_; clear B3_ HB_ bx hg8))
        refine bodyPost_ret (results_list (rs := [.cell 6 60, .cell 7 67, .tmp 8]) rfl (by simp) (.cell g3 60 #[.int .i64 0, .int .i64 0, .int .i64 0, .int .i64 0, .int .i64 0, .int .i64 0, .slice none 0 0] (0, 0) _ rfl B3.out Try.underlying60 rfl (by kernel_rfl) (.cell g4 67 #[.int .i64 0, .int .i64 0, .int .i64 0, .int .i64 0, .int .i64 0, .int .i64 0, .int .i64 0] (0, 0) _ rfl B4.out Try.underlying67 rfl (by kernel_rfl) (.tmp .nil)))) rfl ?_
        exact ⟨_, rfl, Kd.R_nil _ _ _ _ _, HB.out⟩
      · rw [if_neg h3] at h
        have q3 : (d == 0) = false := beq_eq_false_iff_ne.mpr h3
        by_cases h4 : fr = month
        · rw [if_pos h4] at h
          simp only [account_Grant.no, Option.some.injEq, Prod.mk.injEq] at h
          obtain ⟨rfl, rfl, rfl, rfl, rfl, rfl, rfl, rfl, rfl, rfl, rfl, rfl, rfl, rfl, rfl⟩ := h
          have q4 : (fr == month) = true := beq_iff_eq.mpr h4
          clear h3 h4
          go_enter Try.func35, Try.ntmps35
          go_wp2_with (first | ((with_reducible refine gate_dst (N := 3) rfl ?_); refine box_event ?hg (N := 3) ?hd (cs := #[.int .i64 me, .int .i64 rev, .int .i64 nx, .int .i64 mo, .int .i64 bo, .int .i64 fr, .slice A6 l.length c6]) (t := 60) ?hr ?_; (case hd => rfl); (case hg => rfl); (case hr => first | (go_simp; done) | (go_simp; rfl)); intro g1 hgq w1 hbox hb; have HB_ := Aside0.mk (below_step HB.out hb); have G1 := Aside0.mk (by rw [hgq]; exact below_size HB.out : w.heap.size ≤ g1); have B1 := Aside0.mk hbox; clear HB ; have HB := HB_; clear HB_; clear hb hbox hgq) | ((with_reducible refine gate_dst (N := 4) rfl ?_); refine box_event ?hg (N := 4) ?hd (cs := #[.slice At t.length ct, .int .i64 a, .int .i64 b, .int .i64 c, .int .i64 d]) (t := 53) ?hr ?_; (case hd => rfl); (case hg => rfl); (case hr => first | (go_simp; done) | (go_simp; rfl)); intro g2 hgq w2 hbox hb; have B1_ := Aside0.mk (blk_below B1.out hb); have NB1g2 := Aside0.mk (by rw [hgq]; exact Nat.ne_of_lt (blk_lt B1.out) : g1 ≠ g2); have HB_ := Aside0.mk (below_step HB.out hb); have G2 := Aside0.mk (by rw [hgq]; exact below_size HB.out : w.heap.size ≤ g2); have B2 := Aside0.mk hbox; clear HB B1; have HB := HB_; clear HB_; have B1 := B1_; clear B1_; clear hb hbox hgq) | ((with_reducible refine gate_dst (N := 6) rfl ?_); refine box_event ?hg (N := 6) ?hd (cs := #[.int .i64 0, .int .i64 0, .int .i64 0, .int .i64 0, .int .i64 0, .int .i64 0, .slice none 0 0]) (t := 60) ?hr ?_; (case hd => rfl); (case hg => rfl); (case hr => first | (go_simp; done) | (go_simp; rfl)); intro g3 hgq w3 hbox hb; have B1_ := Aside0.mk (blk_below B1.out hb); have B2_ := Aside0.mk (blk_below B2.out hb); have NB1g3 := Aside0.mk (by rw [hgq]; exact Nat.ne_of_lt (blk_lt B1.out) : g1 ≠ g3); have NB2g3 := Aside0.mk (by rw [hgq]; exact Nat.ne_of_lt (blk_lt B2.out) : g2 ≠ g3); have HB_ := Aside0.mk (below_step HB.out hb); have G3 := Aside0.mk (by rw [hgq]; exact below_size HB.out : w.heap.size ≤ g3); have B3 := Aside0.mk hbox; clear HB B1 B2; have HB := HB_; clear HB_; have B1 := B1_; have B2 := B2_; clear B1_; clear B2_; clear hb hbox hgq) | ((with_reducible refine gate_dst (N := 7) rfl ?_); refine box_event ?hg (N := 7) ?hd (cs := #[.int .i64 0, .int .i64 0, .int .i64 0, .int .i64 0, .int .i64 0, .int .i64 0, .int .i64 0]) (t := 67) ?hr ?_; (case hd => rfl); (case hg => rfl); (case hr => first | (go_simp; done) | (go_simp; rfl)); intro g4 hgq w4 hbox hb; have B1_ := Aside0.mk (blk_below B1.out hb); have B2_ := Aside0.mk (blk_below B2.out hb); have B3_ := Aside0.mk (blk_below B3.out hb); have NB1g4 := Aside0.mk (by rw [hgq]; exact Nat.ne_of_lt (blk_lt B1.out) : g1 ≠ g4); have NB2g4 := Aside0.mk (by rw [hgq]; exact Nat.ne_of_lt (blk_lt B2.out) : g2 ≠ g4); have NB3g4 := Aside0.mk (by rw [hgq]; exact Nat.ne_of_lt (blk_lt B3.out) : g3 ≠ g4); have HB_ := Aside0.mk (below_step HB.out hb); have G4 := Aside0.mk (by rw [hgq]; exact below_size HB.out : w.heap.size ≤ g4); have B4 := Aside0.mk hbox; clear HB B1 B2 B3; have HB := HB_; clear HB_; have B1 := B1_; have B2 := B2_; have B3 := B3_; clear B1_; clear B2_; clear B3_; clear hb hbox hgq; have xg10 : w4.cell? ⟨g1, 0, none⟩ = some (.int .i64 me) := (blk_cell B1.out 0).trans rfl; have xg11 : w4.cell? ⟨g1, 1, none⟩ = some (.int .i64 rev) := (blk_cell B1.out 1).trans rfl; have xg12 : w4.cell? ⟨g1, 2, none⟩ = some (.int .i64 nx) := (blk_cell B1.out 2).trans rfl; have xg13 : w4.cell? ⟨g1, 3, none⟩ = some (.int .i64 mo) := (blk_cell B1.out 3).trans rfl; have xg14 : w4.cell? ⟨g1, 4, none⟩ = some (.int .i64 bo) := (blk_cell B1.out 4).trans rfl; have xg15 : w4.cell? ⟨g1, 5, none⟩ = some (.int .i64 fr) := (blk_cell B1.out 5).trans rfl; have xg16 : w4.cell? ⟨g1, 6, none⟩ = some (.slice A6 l.length c6) := (blk_cell B1.out 6).trans rfl; have xg20 : w4.cell? ⟨g2, 0, none⟩ = some (.slice At t.length ct) := (blk_cell B2.out 0).trans rfl; have xg21 : w4.cell? ⟨g2, 1, none⟩ = some (.int .i64 a) := (blk_cell B2.out 1).trans rfl; have xg22 : w4.cell? ⟨g2, 2, none⟩ = some (.int .i64 b) := (blk_cell B2.out 2).trans rfl; have xg23 : w4.cell? ⟨g2, 3, none⟩ = some (.int .i64 c) := (blk_cell B2.out 3).trans rfl; have xg24 : w4.cell? ⟨g2, 4, none⟩ = some (.int .i64 d) := (blk_cell B2.out 4).trans rfl; skip) | (go_at_call 76; refine (account_open.calls k me rev nx mo bo fr A6 c6 l At ct t a b c d 0 _ (Kd.C_below HR0.out HB.out) HC0.out (Kd.C_below HT0.out HB.out) HCT.out HO.out).mono ?_; rintro e w5 ⟨v0, rfl, hop, hb1⟩; clear xg10 xg11 xg12 xg13 xg14 xg15 xg16; clear xg20 xg21 xg22 xg23 xg24; obtain ⟨g5, v1, rfl, hg5, hx5, hr5⟩ := hop rfl; clear hop; have L2 := Aside0.mk (Nat.lt_of_lt_of_le (blk_lt B2.out) hg5); have L3 := Aside0.mk (Nat.lt_of_lt_of_le (blk_lt B3.out) hg5); have L4 := Aside0.mk (Nat.lt_of_lt_of_le (blk_lt B4.out) hg5); have G5 := Aside0.mk (Nat.le_trans (below_size HB.out) hg5 : w.heap.size ≤ g5); have R5 := Aside0.mk (Kd.R_lower hr5 (below_size HB.out)); have B2_ := Aside0.mk (blk_below B2.out hb1); have B3_ := Aside0.mk (blk_below B3.out hb1); have B4_ := Aside0.mk (blk_below B4.out hb1); clear B2 B3 B4; have B2 := B2_; clear B2_; have B3 := B3_; clear B3_; have B4 := B4_; clear B4_; have HB_ := Aside0.mk (below_step HB.out hb1); clear HB; have HB := HB_; clear HB_; have B5 := Aside0.mk hx5; clear hb1 hg5 hx5 hr5) | (go_at_call 77; refine (account_roll.calls k g5 me rev nx mo bo fr v1 l At t.length ct a b c d month l1 mo1 bo1 0 w _ G5.out HB.out B5.out R5.out HP.out).mono ?_; rintro e w6 ⟨rfl, ⟨v2, hx4, hr4⟩, hk4, hb4⟩; have B2_ := Aside0.mk (blk_kept B2.out hk4 (Nat.ne_of_lt L2.out)); clear B2; have B2 := B2_; clear B2_; have B3_ := Aside0.mk (blk_kept B3.out hk4 (Nat.ne_of_lt L3.out)); clear B3; have B3 := B3_; clear B3_; have B4_ := Aside0.mk (blk_kept B4.out hk4 (Nat.ne_of_lt L4.out)); clear B4; have B4 := B4_; clear B4_; obtain ⟨A8, c8, rfl⟩ := Kd.R_slice hr4; clear HB B5 R5; have HB := Aside0.mk hb4; have B5 := Aside0.mk hx4; have R6 := Aside0.mk (Kd.R_types (Kd.R_types hr4 B3.out (by decide)) B4.out (by decide)); obtain ⟨x0, x1, x2, x3, x4, x5, x6, x7, x8, x9, x10, x11⟩ := clerk.get B5.out; have xd : w6.cell? ⟨g2, 4, none⟩ = some (.int .i64 d) := (blk_cell B2.out 4).trans rfl; clear hb4 hx4 hr4 hk4) | ((with_reducible refine gate_store (t := 60) (p := 6) rfl ?_); refine store.list rfl rfl 60 (.tmp 6) _ rfl 60 g3 #[.int .i64 0, .int .i64 0, .int .i64 0, .int .i64 0, .int .i64 0, .int .i64 0, .slice none 0 0] #[.int .i64 0, .int .i64 0, .int .i64 0, .int .i64 0, .int .i64 0, .int .i64 0, .slice none 0 0] rfl rfl (by kernel_rfl) (by simp [Value.oneCell']) B3.out rfl ?_; intro w7 bx hg7; have B4_ := Aside0.mk (store.far B4.out hg7 (Ne.symm NB3g4.out)); have HB_ := Aside0.mk (store.below HB.out hg7 G3.out); clear B3 B4 HB; have B3 := Aside0.mk bx; have B4 := B4_; have HB := HB_; clear B4_ HB_ bx hg7) | ((with_reducible refine gate_store (t := 67) (p := 7) rfl ?_); refine store.list rfl rfl 67 (.tmp 7) _ rfl 67 g4 #[.int .i64 0, .int .i64 0, .int .i64 0, .int .i64 0, .int .i64 0, .int .i64 0, .int .i64 0] #[.int .i64 0, .int .i64 0, .int .i64 0, .int .i64 0, .int .i64 0, .int .i64 0, .int .i64 0] rfl rfl (by kernel_rfl) (by simp [Value.oneCell']) B4.out rfl ?_; intro w8 bx hg8; have B3_ := Aside0.mk (store.far B3.out hg8 NB3g4.out); have HB_ := Aside0.mk (store.below HB.out hg8 G4.out); clear B3 B4 HB; have B4 := Aside0.mk bx; have B3 := B3_; have HB := HB_; clear B3_ HB_ bx hg8))
          refine bodyPost_ret (results_list (rs := [.cell 6 60, .cell 7 67, .tmp 8]) rfl (by simp) (.cell g3 60 #[.int .i64 0, .int .i64 0, .int .i64 0, .int .i64 0, .int .i64 0, .int .i64 0, .slice none 0 0] (0, 0) _ rfl B3.out Try.underlying60 rfl (by kernel_rfl) (.cell g4 67 #[.int .i64 0, .int .i64 0, .int .i64 0, .int .i64 0, .int .i64 0, .int .i64 0, .int .i64 0] (0, 0) _ rfl B4.out Try.underlying67 rfl (by kernel_rfl) (.tmp .nil)))) rfl ?_
          exact ⟨_, rfl, Kd.R_nil _ _ _ _ _, HB.out⟩
        · rw [if_neg h4] at h
          have q4 : (fr == month) = false := beq_eq_false_iff_ne.mpr h4
          by_cases h5 : nx > 1048575
          · rw [if_pos h5] at h
            simp only [account_Grant.no, Option.some.injEq, Prod.mk.injEq] at h
            obtain ⟨rfl, rfl, rfl, rfl, rfl, rfl, rfl, rfl, rfl, rfl, rfl, rfl, rfl, rfl, rfl⟩ := h
            have q5 := decide_eq_true h5
            clear h3 h4 h5
            go_enter Try.func35, Try.ntmps35
            go_wp2_with (first | ((with_reducible refine gate_dst (N := 3) rfl ?_); refine box_event ?hg (N := 3) ?hd (cs := #[.int .i64 me, .int .i64 rev, .int .i64 nx, .int .i64 mo, .int .i64 bo, .int .i64 fr, .slice A6 l.length c6]) (t := 60) ?hr ?_; (case hd => rfl); (case hg => rfl); (case hr => first | (go_simp; done) | (go_simp; rfl)); intro g1 hgq w1 hbox hb; have HB_ := Aside0.mk (below_step HB.out hb); have G1 := Aside0.mk (by rw [hgq]; exact below_size HB.out : w.heap.size ≤ g1); have B1 := Aside0.mk hbox; clear HB ; have HB := HB_; clear HB_; clear hb hbox hgq) | ((with_reducible refine gate_dst (N := 4) rfl ?_); refine box_event ?hg (N := 4) ?hd (cs := #[.slice At t.length ct, .int .i64 a, .int .i64 b, .int .i64 c, .int .i64 d]) (t := 53) ?hr ?_; (case hd => rfl); (case hg => rfl); (case hr => first | (go_simp; done) | (go_simp; rfl)); intro g2 hgq w2 hbox hb; have B1_ := Aside0.mk (blk_below B1.out hb); have NB1g2 := Aside0.mk (by rw [hgq]; exact Nat.ne_of_lt (blk_lt B1.out) : g1 ≠ g2); have HB_ := Aside0.mk (below_step HB.out hb); have G2 := Aside0.mk (by rw [hgq]; exact below_size HB.out : w.heap.size ≤ g2); have B2 := Aside0.mk hbox; clear HB B1; have HB := HB_; clear HB_; have B1 := B1_; clear B1_; clear hb hbox hgq) | ((with_reducible refine gate_dst (N := 6) rfl ?_); refine box_event ?hg (N := 6) ?hd (cs := #[.int .i64 0, .int .i64 0, .int .i64 0, .int .i64 0, .int .i64 0, .int .i64 0, .slice none 0 0]) (t := 60) ?hr ?_; (case hd => rfl); (case hg => rfl); (case hr => first | (go_simp; done) | (go_simp; rfl)); intro g3 hgq w3 hbox hb; have B1_ := Aside0.mk (blk_below B1.out hb); have B2_ := Aside0.mk (blk_below B2.out hb); have NB1g3 := Aside0.mk (by rw [hgq]; exact Nat.ne_of_lt (blk_lt B1.out) : g1 ≠ g3); have NB2g3 := Aside0.mk (by rw [hgq]; exact Nat.ne_of_lt (blk_lt B2.out) : g2 ≠ g3); have HB_ := Aside0.mk (below_step HB.out hb); have G3 := Aside0.mk (by rw [hgq]; exact below_size HB.out : w.heap.size ≤ g3); have B3 := Aside0.mk hbox; clear HB B1 B2; have HB := HB_; clear HB_; have B1 := B1_; have B2 := B2_; clear B1_; clear B2_; clear hb hbox hgq) | ((with_reducible refine gate_dst (N := 7) rfl ?_); refine box_event ?hg (N := 7) ?hd (cs := #[.int .i64 0, .int .i64 0, .int .i64 0, .int .i64 0, .int .i64 0, .int .i64 0, .int .i64 0]) (t := 67) ?hr ?_; (case hd => rfl); (case hg => rfl); (case hr => first | (go_simp; done) | (go_simp; rfl)); intro g4 hgq w4 hbox hb; have B1_ := Aside0.mk (blk_below B1.out hb); have B2_ := Aside0.mk (blk_below B2.out hb); have B3_ := Aside0.mk (blk_below B3.out hb); have NB1g4 := Aside0.mk (by rw [hgq]; exact Nat.ne_of_lt (blk_lt B1.out) : g1 ≠ g4); have NB2g4 := Aside0.mk (by rw [hgq]; exact Nat.ne_of_lt (blk_lt B2.out) : g2 ≠ g4); have NB3g4 := Aside0.mk (by rw [hgq]; exact Nat.ne_of_lt (blk_lt B3.out) : g3 ≠ g4); have HB_ := Aside0.mk (below_step HB.out hb); have G4 := Aside0.mk (by rw [hgq]; exact below_size HB.out : w.heap.size ≤ g4); have B4 := Aside0.mk hbox; clear HB B1 B2 B3; have HB := HB_; clear HB_; have B1 := B1_; have B2 := B2_; have B3 := B3_; clear B1_; clear B2_; clear B3_; clear hb hbox hgq; have xg10 : w4.cell? ⟨g1, 0, none⟩ = some (.int .i64 me) := (blk_cell B1.out 0).trans rfl; have xg11 : w4.cell? ⟨g1, 1, none⟩ = some (.int .i64 rev) := (blk_cell B1.out 1).trans rfl; have xg12 : w4.cell? ⟨g1, 2, none⟩ = some (.int .i64 nx) := (blk_cell B1.out 2).trans rfl; have xg13 : w4.cell? ⟨g1, 3, none⟩ = some (.int .i64 mo) := (blk_cell B1.out 3).trans rfl; have xg14 : w4.cell? ⟨g1, 4, none⟩ = some (.int .i64 bo) := (blk_cell B1.out 4).trans rfl; have xg15 : w4.cell? ⟨g1, 5, none⟩ = some (.int .i64 fr) := (blk_cell B1.out 5).trans rfl; have xg16 : w4.cell? ⟨g1, 6, none⟩ = some (.slice A6 l.length c6) := (blk_cell B1.out 6).trans rfl; have xg20 : w4.cell? ⟨g2, 0, none⟩ = some (.slice At t.length ct) := (blk_cell B2.out 0).trans rfl; have xg21 : w4.cell? ⟨g2, 1, none⟩ = some (.int .i64 a) := (blk_cell B2.out 1).trans rfl; have xg22 : w4.cell? ⟨g2, 2, none⟩ = some (.int .i64 b) := (blk_cell B2.out 2).trans rfl; have xg23 : w4.cell? ⟨g2, 3, none⟩ = some (.int .i64 c) := (blk_cell B2.out 3).trans rfl; have xg24 : w4.cell? ⟨g2, 4, none⟩ = some (.int .i64 d) := (blk_cell B2.out 4).trans rfl; skip) | (go_at_call 76; refine (account_open.calls k me rev nx mo bo fr A6 c6 l At ct t a b c d 0 _ (Kd.C_below HR0.out HB.out) HC0.out (Kd.C_below HT0.out HB.out) HCT.out HO.out).mono ?_; rintro e w5 ⟨v0, rfl, hop, hb1⟩; clear xg10 xg11 xg12 xg13 xg14 xg15 xg16; clear xg20 xg21 xg22 xg23 xg24; obtain ⟨g5, v1, rfl, hg5, hx5, hr5⟩ := hop rfl; clear hop; have L2 := Aside0.mk (Nat.lt_of_lt_of_le (blk_lt B2.out) hg5); have L3 := Aside0.mk (Nat.lt_of_lt_of_le (blk_lt B3.out) hg5); have L4 := Aside0.mk (Nat.lt_of_lt_of_le (blk_lt B4.out) hg5); have G5 := Aside0.mk (Nat.le_trans (below_size HB.out) hg5 : w.heap.size ≤ g5); have R5 := Aside0.mk (Kd.R_lower hr5 (below_size HB.out)); have B2_ := Aside0.mk (blk_below B2.out hb1); have B3_ := Aside0.mk (blk_below B3.out hb1); have B4_ := Aside0.mk (blk_below B4.out hb1); clear B2 B3 B4; have B2 := B2_; clear B2_; have B3 := B3_; clear B3_; have B4 := B4_; clear B4_; have HB_ := Aside0.mk (below_step HB.out hb1); clear HB; have HB := HB_; clear HB_; have B5 := Aside0.mk hx5; clear hb1 hg5 hx5 hr5) | (go_at_call 77; refine (account_roll.calls k g5 me rev nx mo bo fr v1 l At t.length ct a b c d month l1 mo1 bo1 0 w _ G5.out HB.out B5.out R5.out HP.out).mono ?_; rintro e w6 ⟨rfl, ⟨v2, hx4, hr4⟩, hk4, hb4⟩; have B2_ := Aside0.mk (blk_kept B2.out hk4 (Nat.ne_of_lt L2.out)); clear B2; have B2 := B2_; clear B2_; have B3_ := Aside0.mk (blk_kept B3.out hk4 (Nat.ne_of_lt L3.out)); clear B3; have B3 := B3_; clear B3_; have B4_ := Aside0.mk (blk_kept B4.out hk4 (Nat.ne_of_lt L4.out)); clear B4; have B4 := B4_; clear B4_; obtain ⟨A8, c8, rfl⟩ := Kd.R_slice hr4; clear HB B5 R5; have HB := Aside0.mk hb4; have B5 := Aside0.mk hx4; have R6 := Aside0.mk (Kd.R_types (Kd.R_types hr4 B3.out (by decide)) B4.out (by decide)); obtain ⟨x0, x1, x2, x3, x4, x5, x6, x7, x8, x9, x10, x11⟩ := clerk.get B5.out; have xd : w6.cell? ⟨g2, 4, none⟩ = some (.int .i64 d) := (blk_cell B2.out 4).trans rfl; clear hb4 hx4 hr4 hk4) | ((with_reducible refine gate_store (t := 60) (p := 6) rfl ?_); refine store.list rfl rfl 60 (.tmp 6) _ rfl 60 g3 #[.int .i64 0, .int .i64 0, .int .i64 0, .int .i64 0, .int .i64 0, .int .i64 0, .slice none 0 0] #[.int .i64 0, .int .i64 0, .int .i64 0, .int .i64 0, .int .i64 0, .int .i64 0, .slice none 0 0] rfl rfl (by kernel_rfl) (by simp [Value.oneCell']) B3.out rfl ?_; intro w7 bx hg7; have B4_ := Aside0.mk (store.far B4.out hg7 (Ne.symm NB3g4.out)); have HB_ := Aside0.mk (store.below HB.out hg7 G3.out); clear B3 B4 HB; have B3 := Aside0.mk bx; have B4 := B4_; have HB := HB_; clear B4_ HB_ bx hg7) | ((with_reducible refine gate_store (t := 67) (p := 7) rfl ?_); refine store.list rfl rfl 67 (.tmp 7) _ rfl 67 g4 #[.int .i64 0, .int .i64 0, .int .i64 0, .int .i64 0, .int .i64 0, .int .i64 0, .int .i64 0] #[.int .i64 0, .int .i64 0, .int .i64 0, .int .i64 0, .int .i64 0, .int .i64 0, .int .i64 0] rfl rfl (by kernel_rfl) (by simp [Value.oneCell']) B4.out rfl ?_; intro w8 bx hg8; have B3_ := Aside0.mk (store.far B3.out hg8 NB3g4.out); have HB_ := Aside0.mk (store.below HB.out hg8 G4.out); clear B3 B4 HB; have B4 := Aside0.mk bx; have B3 := B3_; have HB := HB_; clear B3_ HB_ bx hg8))
            refine bodyPost_ret (results_list (rs := [.cell 6 60, .cell 7 67, .tmp 8]) rfl (by simp) (.cell g3 60 #[.int .i64 0, .int .i64 0, .int .i64 0, .int .i64 0, .int .i64 0, .int .i64 0, .slice none 0 0] (0, 0) _ rfl B3.out Try.underlying60 rfl (by kernel_rfl) (.cell g4 67 #[.int .i64 0, .int .i64 0, .int .i64 0, .int .i64 0, .int .i64 0, .int .i64 0, .int .i64 0] (0, 0) _ rfl B4.out Try.underlying67 rfl (by kernel_rfl) (.tmp .nil)))) rfl ?_
            exact ⟨_, rfl, Kd.R_nil _ _ _ _ _, HB.out⟩
          · rw [if_neg h5] at h
            simp only [account_Grant.no, Option.some.injEq, Prod.mk.injEq] at h
            obtain ⟨rfl, rfl, rfl, rfl, rfl, rfl, rfl, rfl, rfl, rfl, rfl, rfl, rfl, rfl, rfl⟩ := h
            have q5 := decide_eq_false h5
            clear h3 h4 h5
            go_enter Try.func35, Try.ntmps35
            go_wp2_with (first | ((with_reducible refine gate_dst (N := 3) rfl ?_); refine box_event ?hg (N := 3) ?hd (cs := #[.int .i64 me, .int .i64 rev, .int .i64 nx, .int .i64 mo, .int .i64 bo, .int .i64 fr, .slice A6 l.length c6]) (t := 60) ?hr ?_; (case hd => rfl); (case hg => rfl); (case hr => first | (go_simp; done) | (go_simp; rfl)); intro g1 hgq w1 hbox hb; have HB_ := Aside0.mk (below_step HB.out hb); have G1 := Aside0.mk (by rw [hgq]; exact below_size HB.out : w.heap.size ≤ g1); have B1 := Aside0.mk hbox; clear HB ; have HB := HB_; clear HB_; clear hb hbox hgq) | ((with_reducible refine gate_dst (N := 4) rfl ?_); refine box_event ?hg (N := 4) ?hd (cs := #[.slice At t.length ct, .int .i64 a, .int .i64 b, .int .i64 c, .int .i64 d]) (t := 53) ?hr ?_; (case hd => rfl); (case hg => rfl); (case hr => first | (go_simp; done) | (go_simp; rfl)); intro g2 hgq w2 hbox hb; have B1_ := Aside0.mk (blk_below B1.out hb); have NB1g2 := Aside0.mk (by rw [hgq]; exact Nat.ne_of_lt (blk_lt B1.out) : g1 ≠ g2); have HB_ := Aside0.mk (below_step HB.out hb); have G2 := Aside0.mk (by rw [hgq]; exact below_size HB.out : w.heap.size ≤ g2); have B2 := Aside0.mk hbox; clear HB B1; have HB := HB_; clear HB_; have B1 := B1_; clear B1_; clear hb hbox hgq) | ((with_reducible refine gate_dst (N := 6) rfl ?_); refine box_event ?hg (N := 6) ?hd (cs := #[.int .i64 0, .int .i64 0, .int .i64 0, .int .i64 0, .int .i64 0, .int .i64 0, .slice none 0 0]) (t := 60) ?hr ?_; (case hd => rfl); (case hg => rfl); (case hr => first | (go_simp; done) | (go_simp; rfl)); intro g3 hgq w3 hbox hb; have B1_ := Aside0.mk (blk_below B1.out hb); have B2_ := Aside0.mk (blk_below B2.out hb); have NB1g3 := Aside0.mk (by rw [hgq]; exact Nat.ne_of_lt (blk_lt B1.out) : g1 ≠ g3); have NB2g3 := Aside0.mk (by rw [hgq]; exact Nat.ne_of_lt (blk_lt B2.out) : g2 ≠ g3); have HB_ := Aside0.mk (below_step HB.out hb); have G3 := Aside0.mk (by rw [hgq]; exact below_size HB.out : w.heap.size ≤ g3); have B3 := Aside0.mk hbox; clear HB B1 B2; have HB := HB_; clear HB_; have B1 := B1_; have B2 := B2_; clear B1_; clear B2_; clear hb hbox hgq) | ((with_reducible refine gate_dst (N := 7) rfl ?_); refine box_event ?hg (N := 7) ?hd (cs := #[.int .i64 0, .int .i64 0, .int .i64 0, .int .i64 0, .int .i64 0, .int .i64 0, .int .i64 0]) (t := 67) ?hr ?_; (case hd => rfl); (case hg => rfl); (case hr => first | (go_simp; done) | (go_simp; rfl)); intro g4 hgq w4 hbox hb; have B1_ := Aside0.mk (blk_below B1.out hb); have B2_ := Aside0.mk (blk_below B2.out hb); have B3_ := Aside0.mk (blk_below B3.out hb); have NB1g4 := Aside0.mk (by rw [hgq]; exact Nat.ne_of_lt (blk_lt B1.out) : g1 ≠ g4); have NB2g4 := Aside0.mk (by rw [hgq]; exact Nat.ne_of_lt (blk_lt B2.out) : g2 ≠ g4); have NB3g4 := Aside0.mk (by rw [hgq]; exact Nat.ne_of_lt (blk_lt B3.out) : g3 ≠ g4); have HB_ := Aside0.mk (below_step HB.out hb); have G4 := Aside0.mk (by rw [hgq]; exact below_size HB.out : w.heap.size ≤ g4); have B4 := Aside0.mk hbox; clear HB B1 B2 B3; have HB := HB_; clear HB_; have B1 := B1_; have B2 := B2_; have B3 := B3_; clear B1_; clear B2_; clear B3_; clear hb hbox hgq; have xg10 : w4.cell? ⟨g1, 0, none⟩ = some (.int .i64 me) := (blk_cell B1.out 0).trans rfl; have xg11 : w4.cell? ⟨g1, 1, none⟩ = some (.int .i64 rev) := (blk_cell B1.out 1).trans rfl; have xg12 : w4.cell? ⟨g1, 2, none⟩ = some (.int .i64 nx) := (blk_cell B1.out 2).trans rfl; have xg13 : w4.cell? ⟨g1, 3, none⟩ = some (.int .i64 mo) := (blk_cell B1.out 3).trans rfl; have xg14 : w4.cell? ⟨g1, 4, none⟩ = some (.int .i64 bo) := (blk_cell B1.out 4).trans rfl; have xg15 : w4.cell? ⟨g1, 5, none⟩ = some (.int .i64 fr) := (blk_cell B1.out 5).trans rfl; have xg16 : w4.cell? ⟨g1, 6, none⟩ = some (.slice A6 l.length c6) := (blk_cell B1.out 6).trans rfl; have xg20 : w4.cell? ⟨g2, 0, none⟩ = some (.slice At t.length ct) := (blk_cell B2.out 0).trans rfl; have xg21 : w4.cell? ⟨g2, 1, none⟩ = some (.int .i64 a) := (blk_cell B2.out 1).trans rfl; have xg22 : w4.cell? ⟨g2, 2, none⟩ = some (.int .i64 b) := (blk_cell B2.out 2).trans rfl; have xg23 : w4.cell? ⟨g2, 3, none⟩ = some (.int .i64 c) := (blk_cell B2.out 3).trans rfl; have xg24 : w4.cell? ⟨g2, 4, none⟩ = some (.int .i64 d) := (blk_cell B2.out 4).trans rfl; skip) | (go_at_call 76; refine (account_open.calls k me rev nx mo bo fr A6 c6 l At ct t a b c d 0 _ (Kd.C_below HR0.out HB.out) HC0.out (Kd.C_below HT0.out HB.out) HCT.out HO.out).mono ?_; rintro e w5 ⟨v0, rfl, hop, hb1⟩; clear xg10 xg11 xg12 xg13 xg14 xg15 xg16; clear xg20 xg21 xg22 xg23 xg24; obtain ⟨g5, v1, rfl, hg5, hx5, hr5⟩ := hop rfl; clear hop; have L2 := Aside0.mk (Nat.lt_of_lt_of_le (blk_lt B2.out) hg5); have L3 := Aside0.mk (Nat.lt_of_lt_of_le (blk_lt B3.out) hg5); have L4 := Aside0.mk (Nat.lt_of_lt_of_le (blk_lt B4.out) hg5); have G5 := Aside0.mk (Nat.le_trans (below_size HB.out) hg5 : w.heap.size ≤ g5); have R5 := Aside0.mk (Kd.R_lower hr5 (below_size HB.out)); have B2_ := Aside0.mk (blk_below B2.out hb1); have B3_ := Aside0.mk (blk_below B3.out hb1); have B4_ := Aside0.mk (blk_below B4.out hb1); clear B2 B3 B4; have B2 := B2_; clear B2_; have B3 := B3_; clear B3_; have B4 := B4_; clear B4_; have HB_ := Aside0.mk (below_step HB.out hb1); clear HB; have HB := HB_; clear HB_; have B5 := Aside0.mk hx5; clear hb1 hg5 hx5 hr5) | (go_at_call 77; refine (account_roll.calls k g5 me rev nx mo bo fr v1 l At t.length ct a b c d month l1 mo1 bo1 0 w _ G5.out HB.out B5.out R5.out HP.out).mono ?_; rintro e w6 ⟨rfl, ⟨v2, hx4, hr4⟩, hk4, hb4⟩; have B2_ := Aside0.mk (blk_kept B2.out hk4 (Nat.ne_of_lt L2.out)); clear B2; have B2 := B2_; clear B2_; have B3_ := Aside0.mk (blk_kept B3.out hk4 (Nat.ne_of_lt L3.out)); clear B3; have B3 := B3_; clear B3_; have B4_ := Aside0.mk (blk_kept B4.out hk4 (Nat.ne_of_lt L4.out)); clear B4; have B4 := B4_; clear B4_; obtain ⟨A8, c8, rfl⟩ := Kd.R_slice hr4; clear HB B5 R5; have HB := Aside0.mk hb4; have B5 := Aside0.mk hx4; have R6 := Aside0.mk (Kd.R_types (Kd.R_types hr4 B3.out (by decide)) B4.out (by decide)); obtain ⟨x0, x1, x2, x3, x4, x5, x6, x7, x8, x9, x10, x11⟩ := clerk.get B5.out; have xd : w6.cell? ⟨g2, 4, none⟩ = some (.int .i64 d) := (blk_cell B2.out 4).trans rfl; have C5 := Aside0.mk (blk_put B5.out 5 _ rfl : (w6.setCell ⟨g5, 5, none⟩ (.int .i64 month)).heap[g5]? = some (.cells (clerk.cells me rev nx mo1 bo1 month (.slice A8 l1.length c8) At t.length ct a b c d) 128 (0, 0))); have C6 := Aside0.mk (blk_put C5.out 2 _ rfl : ((w6.setCell ⟨g5, 5, none⟩ (.int .i64 month)).setCell ⟨g5, 2, none⟩ (.int .i64 (wrap64 (nx + 1)))).heap[g5]? = some (.cells (clerk.cells me rev (wrap64 (nx + 1)) mo1 bo1 month (.slice A8 l1.length c8) At t.length ct a b c d) 128 (0, 0))); have D2 := Aside0.mk (blk_far (blk_far B2.out (p := ⟨g5, 5, none⟩) (Nat.ne_of_lt L2.out) (.int .i64 month)) (p := ⟨g5, 2, none⟩) (Nat.ne_of_lt L2.out) (.int .i64 (wrap64 (nx + 1)))); obtain ⟨s0, s1, s2, s3, s4, s5, s6, s7, s8, s9, s10, s11⟩ := clerk.get C5.out; obtain ⟨u0, u1, u2, u3, u4, u5, u6, u7, u8, u9, u10, u11⟩ := clerk.get C6.out; have ud : ((w6.setCell ⟨g5, 5, none⟩ (.int .i64 month)).setCell ⟨g5, 2, none⟩ (.int .i64 (wrap64 (nx + 1)))).cell? ⟨g2, 4, none⟩ = some (.int .i64 d) := (blk_cell D2.out 4).trans rfl; have f5 := blk_frozen B5.out 5; have f2 := blk_frozen C5.out 2; have B3s := Aside0.mk (blk_far (blk_far B3.out (p := ⟨g5, 5, none⟩) (Nat.ne_of_lt L3.out) (.int .i64 month)) (p := ⟨g5, 2, none⟩) (Nat.ne_of_lt L3.out) (.int .i64 (wrap64 (nx + 1)))); have B4s := Aside0.mk (blk_far (blk_far B4.out (p := ⟨g5, 5, none⟩) (Nat.ne_of_lt L4.out) (.int .i64 month)) (p := ⟨g5, 2, none⟩) (Nat.ne_of_lt L4.out) (.int .i64 (wrap64 (nx + 1)))); have HBs := Aside0.mk (below_set (below_set HB.out G5.out) G5.out : Below w.heap.size w ((w6.setCell ⟨g5, 5, none⟩ (.int .i64 month)).setCell ⟨g5, 2, none⟩ (.int .i64 (wrap64 (nx + 1))))); have R6s := Aside0.mk (Kd.R_far (Kd.R_far R6.out (p := ⟨g5, 5, none⟩) (fun _ h => h.1.1) (.int .i64 month)) (p := ⟨g5, 2, none⟩) (fun _ h => h.1.1) (.int .i64 (wrap64 (nx + 1)))); clear HB B3 B4 R6; have HB := HBs; have B3 := B3s; have B4 := B4s; have R6 := R6s; clear HBs B3s B4s R6s; clear hb4 hx4 hr4 hk4) | ((with_reducible refine gate_store (t := 60) (p := 6) rfl ?_); refine store.list rfl rfl 60 (.tmp 6) _ rfl 60 g3 #[.int .i64 0, .int .i64 0, .int .i64 0, .int .i64 0, .int .i64 0, .int .i64 0, .slice none 0 0] #[.int .i64 0, .int .i64 0, .int .i64 0, .int .i64 0, .int .i64 0, .int .i64 0, .slice none 0 0] rfl rfl (by kernel_rfl) (by simp [Value.oneCell']) B3.out rfl ?_; intro w7 bx hg7; have B4_ := Aside0.mk (store.far B4.out hg7 (Ne.symm NB3g4.out)); have HB_ := Aside0.mk (store.below HB.out hg7 G3.out); clear B3 B4 HB; have B3 := Aside0.mk bx; have B4 := B4_; have HB := HB_; clear B4_ HB_ bx hg7) | ((with_reducible refine gate_store (t := 67) (p := 7) rfl ?_); refine store.list rfl rfl 67 (.tmp 7) _ rfl 67 g4 #[.int .i64 0, .int .i64 0, .int .i64 0, .int .i64 0, .int .i64 0, .int .i64 0, .int .i64 0] #[.int .i64 0, .int .i64 0, .int .i64 0, .int .i64 0, .int .i64 0, .int .i64 0, .int .i64 0] rfl rfl (by kernel_rfl) (by simp [Value.oneCell']) B4.out rfl ?_; intro w8 bx hg8; have B3_ := Aside0.mk (store.far B3.out hg8 NB3g4.out); have HB_ := Aside0.mk (store.below HB.out hg8 G4.out); clear B3 B4 HB; have B4 := Aside0.mk bx; have B3 := B3_; have HB := HB_; clear B3_ HB_ bx hg8))
            refine start_ (n := 16) (S := fun w' => w'.cell? ⟨g5, 0, none⟩ = some (.int .i64 me) ∧ w'.cell? ⟨g5, 1, none⟩ = some (.int .i64 rev) ∧ w'.cell? ⟨g5, 2, none⟩ = some (.int .i64 (wrap64 (nx + 1))) ∧ w'.cell? ⟨g5, 3, none⟩ = some (.int .i64 mo1) ∧ w'.cell? ⟨g5, 4, none⟩ = some (.int .i64 bo1) ∧ w'.cell? ⟨g5, 5, none⟩ = some (.int .i64 month) ∧ w'.cell? ⟨g5, 6, none⟩ = some (.slice A8 l1.length c8) ∧ w'.cell? ⟨g2, 4, none⟩ = some (.int .i64 d)) (ds := [14]) #[false, false, false, false, false, false, false, false, false, false, false, false, false, false, false, false] (by kernel_rfl) rfl rfl ⟨u0, u1, u2, u3, u4, u5, u6, ud⟩ (fun hHeld => ?_)
            refine pure_ (i := 0) (N := some 36) (v := ?_) (a' := ?_) #[true, false, false, false, false, false, false, false, false, false, false, false, false, false, false, false] rfl rfl (by kernel_rfl) (fun _ _ _ h => h) (Or.inl ⟨by rfl, ?_⟩) ?_ ?_
            rotate_left
            · intro w'
              go_simp
              with_reducible rfl
            rotate_left
            · simp only [Act.put, List.setIfInBounds_toArray, List.set_cons_zero, List.set_cons_succ, i64_w, i32_w]
              rfl
            refine pure_ (i := 1) (N := some 37) (v := ?_) (a' := ?_) #[true, true, false, false, false, false, false, false, false, false, false, false, false, false, false, false] rfl rfl (by kernel_rfl) (fun _ _ _ h => h) (Or.inl ⟨by rfl, ?_⟩) ?_ ?_
            rotate_left
            · intro w'
              go_simp
              with_reducible rfl
            rotate_left
            · simp only [Act.put, List.setIfInBounds_toArray, List.set_cons_zero, List.set_cons_succ, i64_w, i32_w]
              rfl
            refine pure_ (i := 2) (N := some 38) (v := ?_) (a' := ?_) #[true, true, true, false, false, false, false, false, false, false, false, false, false, false, false, false] rfl rfl (by kernel_rfl) (fun _ _ _ h => h) (Or.inl ⟨by rfl, ?_⟩) ?_ ?_
            rotate_left
            · intro w'
              go_simp
              with_reducible rfl
            rotate_left
            · simp only [Act.put, List.setIfInBounds_toArray, List.set_cons_zero, List.set_cons_succ, i64_w, i32_w]
              rfl
            refine pure_ (i := 4) (N := some 40) (v := ?_) (a' := ?_) #[true, true, true, false, true, false, false, false, false, false, false, false, false, false, false, false] rfl rfl (by kernel_rfl) (fun _ _ _ h => h) (Or.inl ⟨by rfl, ?_⟩) ?_ ?_
            rotate_left
            · intro w'
              go_simp
              with_reducible rfl
            rotate_left
            · simp only [Act.put, List.setIfInBounds_toArray, List.set_cons_zero, List.set_cons_succ, i64_w, i32_w]
              rfl
            refine pure_ (i := 5) (N := some 41) (v := ?_) (a' := ?_) #[true, true, true, false, true, true, false, false, false, false, false, false, false, false, false, false] rfl rfl (by kernel_rfl) (fun _ _ _ h => h) (Or.inl ⟨by rfl, ?_⟩) ?_ ?_
            rotate_left
            · intro w'
              go_simp
              with_reducible rfl
            rotate_left
            · simp only [Act.put, List.setIfInBounds_toArray, List.set_cons_zero, List.set_cons_succ, i64_w, i32_w]
              rfl
            refine pure_ (i := 6) (N := some 42) (v := ?_) (a' := ?_) #[true, true, true, false, true, true, true, false, false, false, false, false, false, false, false, false] rfl rfl (by kernel_rfl) (fun _ _ _ h => h) (Or.inl ⟨by rfl, ?_⟩) ?_ ?_
            rotate_left
            · intro w'
              go_simp
              with_reducible rfl
            rotate_left
            · simp only [Act.put, List.setIfInBounds_toArray, List.set_cons_zero, List.set_cons_succ, i64_w, i32_w]
              rfl
            refine pure_ (i := 7) (N := some 43) (v := ?_) (a' := ?_) #[true, true, true, false, true, true, true, true, false, false, false, false, false, false, false, false] rfl rfl (by kernel_rfl) (fun _ _ _ h => h) (Or.inl ⟨by rfl, ?_⟩) ?_ ?_
            rotate_left
            · intro w'
              go_simp
              with_reducible rfl
            rotate_left
            · simp only [Act.put, List.setIfInBounds_toArray, List.set_cons_zero, List.set_cons_succ, i64_w, i32_w]
              rfl
            refine pure_ (i := 10) (N := some 46) (v := ?_) (a' := ?_) #[true, true, true, false, true, true, true, true, false, false, true, false, false, false, false, false] rfl rfl (by kernel_rfl) (fun _ _ _ h => h) (Or.inl ⟨by rfl, ?_⟩) ?_ ?_
            rotate_left
            · intro w'
              go_simp
              with_reducible rfl
            rotate_left
            · simp only [Act.put, List.setIfInBounds_toArray, List.set_cons_zero, List.set_cons_succ, i64_w, i32_w]
              rfl
            refine take_ (i := 3) (N := some 39) (v := ?_) (a' := ?_) #[true, true, true, true, true, true, true, true, false, false, true, false, false, false, false, false] rfl rfl (by kernel_rfl) (fun _ _ _ h => h) (Or.inl ⟨by rfl, ?_⟩) hHeld ?_ ?_
            rotate_left
            · rintro w' ⟨s0, s1, s2, s3, s4, s5, s6, s7⟩
              go_simp
              with_reducible rfl
            rotate_left
            · simp only [Act.put, List.setIfInBounds_toArray, List.set_cons_zero, List.set_cons_succ, i64_w, i32_w]
              rfl
            refine take_ (i := 8) (N := some 44) (v := ?_) (a' := ?_) #[true, true, true, true, true, true, true, true, true, false, true, false, false, false, false, false] rfl rfl (by kernel_rfl) (fun _ _ _ h => h) (Or.inl ⟨by rfl, ?_⟩) hHeld ?_ ?_
            rotate_left
            · rintro w' ⟨s0, s1, s2, s3, s4, s5, s6, s7⟩
              go_simp
              with_reducible rfl
            rotate_left
            · simp only [Act.put, List.setIfInBounds_toArray, List.set_cons_zero, List.set_cons_succ, i64_w, i32_w]
              rfl
            refine pure_ (i := 9) (N := some 45) (v := ?_) (a' := ?_) #[true, true, true, true, true, true, true, true, true, true, true, false, false, false, false, false] rfl rfl (by kernel_rfl) (fun _ _ _ h => h) (Or.inl ⟨by rfl, ?_⟩) ?_ ?_
            rotate_left
            · intro w'
              go_simp
              with_reducible rfl
            rotate_left
            · simp only [Act.put, List.setIfInBounds_toArray, List.set_cons_zero, List.set_cons_succ, i64_w, i32_w]
              rfl
            refine take_ (i := 11) (N := some 47) (v := ?_) (a' := ?_) #[true, true, true, true, true, true, true, true, true, true, true, true, false, false, false, false] rfl rfl (by kernel_rfl) (fun _ _ _ h => h) (Or.inl ⟨by rfl, ?_⟩) hHeld ?_ ?_
            rotate_left
            · rintro w' ⟨s0, s1, s2, s3, s4, s5, s6, s7⟩
              go_simp
              with_reducible rfl
            rotate_left
            · simp only [Act.put, List.setIfInBounds_toArray, List.set_cons_zero, List.set_cons_succ, i64_w, i32_w]
              rfl
            refine pure_ (i := 12) (N := some 48) (v := ?_) (a' := ?_) #[true, true, true, true, true, true, true, true, true, true, true, true, true, false, false, false] rfl rfl (by kernel_rfl) (fun _ _ _ h => h) (Or.inl ⟨by rfl, ?_⟩) ?_ ?_
            rotate_left
            · intro w'
              go_simp
              with_reducible rfl
            rotate_left
            · simp only [Act.put, List.setIfInBounds_toArray, List.set_cons_zero, List.set_cons_succ, i64_w, i32_w]
              rfl
            refine one_ (i := 13) (N := none) #[true, true, true, true, true, true, true, true, true, true, true, true, true, true, false, false] rfl rfl (by kernel_rfl) (by decide) (fun K hK => ?_)
            refine store.step (by rfl) rfl 60 (.tmp 6) _ (by rfl) 60 g3 #[.int .i64 0, .int .i64 0, .int .i64 0, .int .i64 0, .int .i64 0, .int .i64 0, .slice none 0 0] #[.int .i64 me, .int .i64 rev, .int .i64 (wrap64 (nx + 1)), .int .i64 mo1, .int .i64 bo1, .int .i64 month, .slice A8 l1.length c8] (by rfl) (by rfl) (by kernel_rfl) (by simp [Value.oneCell']) (blk_drew B3.out) rfl ?_
            intro w7 bx hg7
            have C7 := Aside0.mk (store.far (blk_drew C6.out) hg7 (Nat.ne_of_gt L3.out))
            have D7 := Aside0.mk (store.far (blk_drew D2.out) hg7 NB2g3.out)
            have B4_ := Aside0.mk (store.far (blk_drew B4.out) hg7 (Ne.symm NB3g4.out))
            have HB_ := Aside0.mk (store.below (below_drew1 HB.out) hg7 G3.out)
            have R7 := Aside0.mk (store.R (Kd.R_drew R6.out) hg7 (fun _ h => h.1.2))
            clear B3 B4 HB
            have B3 := Aside0.mk bx
            have B4 := B4_
            have HB := HB_
            clear B4_ HB_ bx hg7
            refine hK.out _ _ ⟨(blk_cell C7.out 0).trans rfl, (blk_cell C7.out 1).trans rfl, (blk_cell C7.out 2).trans rfl, (blk_cell C7.out 3).trans rfl, (blk_cell C7.out 4).trans rfl, (blk_cell C7.out 5).trans rfl, (blk_cell C7.out 6).trans rfl, (blk_cell D7.out 4).trans rfl⟩ (fun hHeld => ?_)
            clear hK K
            refine last_ (i := 14) (N := none) #[true, true, true, true, true, true, true, true, true, true, true, true, true, true, true, false] rfl rfl (by kernel_rfl) (by decide) (fun K hK => ?_)
            refine store.step (by rfl) rfl 67 (.tmp 7) _ (by rfl) 67 g4 #[.int .i64 0, .int .i64 0, .int .i64 0, .int .i64 0, .int .i64 0, .int .i64 0, .int .i64 0] #[.int .i64 (wrap64 (wrap64 (nx + 1) - 1)), .int .i64 0, .int .i64 0, .int .i64 0, .int .i64 0, .int .i64 0, .int .i64 d] (by rfl) (by rfl) (by kernel_rfl) (by simp [Value.oneCell']) B4.out rfl ?_
            intro w8 bx hg8
            have B3_ := Aside0.mk (store.far B3.out hg8 NB3g4.out)
            have HB_ := Aside0.mk (store.below HB.out hg8 G4.out)
            have R8 := Aside0.mk (store.R R7.out hg8 (fun _ h => h.2))
            clear B3 B4 HB
            have B4 := Aside0.mk bx
            have B3 := B3_
            have HB := HB_
            clear B3_ HB_ bx hg8
            refine hK.out _ _ ?_
            clear hK K
            refine pure_ (i := 15) (N := some 8) (v := ?_) (a' := ?_) #[true, true, true, true, true, true, true, true, true, true, true, true, true, true, true, true] rfl rfl (by kernel_rfl) (fun _ _ _ h => h) (Or.inl ⟨by rfl, ?_⟩) ?_ ?_
            rotate_left
            · intro w'
              go_simp
              with_reducible rfl
            rotate_left
            · simp only [Act.put, List.setIfInBounds_toArray, List.set_cons_zero, List.set_cons_succ, i64_w, i32_w]
              rfl
            refine done_ (by kernel_rfl) ?_
            go_wp2
            refine bodyPost_ret (results_list (rs := [.cell 6 60, .cell 7 67, .tmp 8]) rfl (by simp) (.cell g3 60 #[.int .i64 me, .int .i64 rev, .int .i64 (wrap64 (nx + 1)), .int .i64 mo1, .int .i64 bo1, .int .i64 month, .slice A8 l1.length c8] (0, 0) _ rfl B3.out Try.underlying60 rfl (by kernel_rfl) (.cell g4 67 #[.int .i64 (wrap64 (wrap64 (nx + 1) - 1)), .int .i64 0, .int .i64 0, .int .i64 0, .int .i64 0, .int .i64 0, .int .i64 d] (0, 0) _ rfl B4.out Try.underlying67 rfl (by kernel_rfl) (.tmp .nil)))) rfl ?_
            exact ⟨_, rfl, Kd.R_mono R8.out (fun _ _ => trivial), HB.out⟩
    · rw [if_neg h2] at h
      simp only [account_Grant.no, Option.some.injEq, Prod.mk.injEq] at h
      obtain ⟨rfl, rfl, rfl, rfl, rfl, rfl, rfl, rfl, rfl, rfl, rfl, rfl, rfl, rfl, rfl⟩ := h
      have q2 : (e1 != 0) = true := bne_iff_ne.mpr h2
      clear h2
      go_enter Try.func35, Try.ntmps35
      go_wp2_with (first | ((with_reducible refine gate_dst (N := 3) rfl ?_); refine box_event ?hg (N := 3) ?hd (cs := #[.int .i64 me, .int .i64 rev, .int .i64 nx, .int .i64 mo, .int .i64 bo, .int .i64 fr, .slice A6 l.length c6]) (t := 60) ?hr ?_; (case hd => rfl); (case hg => rfl); (case hr => first | (go_simp; done) | (go_simp; rfl)); intro g1 hgq w1 hbox hb; have HB_ := Aside0.mk (below_step HB.out hb); have G1 := Aside0.mk (by rw [hgq]; exact below_size HB.out : w.heap.size ≤ g1); have B1 := Aside0.mk hbox; clear HB ; have HB := HB_; clear HB_; clear hb hbox hgq) | ((with_reducible refine gate_dst (N := 4) rfl ?_); refine box_event ?hg (N := 4) ?hd (cs := #[.slice At t.length ct, .int .i64 a, .int .i64 b, .int .i64 c, .int .i64 d]) (t := 53) ?hr ?_; (case hd => rfl); (case hg => rfl); (case hr => first | (go_simp; done) | (go_simp; rfl)); intro g2 hgq w2 hbox hb; have B1_ := Aside0.mk (blk_below B1.out hb); have NB1g2 := Aside0.mk (by rw [hgq]; exact Nat.ne_of_lt (blk_lt B1.out) : g1 ≠ g2); have HB_ := Aside0.mk (below_step HB.out hb); have G2 := Aside0.mk (by rw [hgq]; exact below_size HB.out : w.heap.size ≤ g2); have B2 := Aside0.mk hbox; clear HB B1; have HB := HB_; clear HB_; have B1 := B1_; clear B1_; clear hb hbox hgq) | ((with_reducible refine gate_dst (N := 6) rfl ?_); refine box_event ?hg (N := 6) ?hd (cs := #[.int .i64 0, .int .i64 0, .int .i64 0, .int .i64 0, .int .i64 0, .int .i64 0, .slice none 0 0]) (t := 60) ?hr ?_; (case hd => rfl); (case hg => rfl); (case hr => first | (go_simp; done) | (go_simp; rfl)); intro g3 hgq w3 hbox hb; have B1_ := Aside0.mk (blk_below B1.out hb); have B2_ := Aside0.mk (blk_below B2.out hb); have NB1g3 := Aside0.mk (by rw [hgq]; exact Nat.ne_of_lt (blk_lt B1.out) : g1 ≠ g3); have NB2g3 := Aside0.mk (by rw [hgq]; exact Nat.ne_of_lt (blk_lt B2.out) : g2 ≠ g3); have HB_ := Aside0.mk (below_step HB.out hb); have G3 := Aside0.mk (by rw [hgq]; exact below_size HB.out : w.heap.size ≤ g3); have B3 := Aside0.mk hbox; clear HB B1 B2; have HB := HB_; clear HB_; have B1 := B1_; have B2 := B2_; clear B1_; clear B2_; clear hb hbox hgq) | ((with_reducible refine gate_dst (N := 7) rfl ?_); refine box_event ?hg (N := 7) ?hd (cs := #[.int .i64 0, .int .i64 0, .int .i64 0, .int .i64 0, .int .i64 0, .int .i64 0, .int .i64 0]) (t := 67) ?hr ?_; (case hd => rfl); (case hg => rfl); (case hr => first | (go_simp; done) | (go_simp; rfl)); intro g4 hgq w4 hbox hb; have B1_ := Aside0.mk (blk_below B1.out hb); have B2_ := Aside0.mk (blk_below B2.out hb); have B3_ := Aside0.mk (blk_below B3.out hb); have NB1g4 := Aside0.mk (by rw [hgq]; exact Nat.ne_of_lt (blk_lt B1.out) : g1 ≠ g4); have NB2g4 := Aside0.mk (by rw [hgq]; exact Nat.ne_of_lt (blk_lt B2.out) : g2 ≠ g4); have NB3g4 := Aside0.mk (by rw [hgq]; exact Nat.ne_of_lt (blk_lt B3.out) : g3 ≠ g4); have HB_ := Aside0.mk (below_step HB.out hb); have G4 := Aside0.mk (by rw [hgq]; exact below_size HB.out : w.heap.size ≤ g4); have B4 := Aside0.mk hbox; clear HB B1 B2 B3; have HB := HB_; clear HB_; have B1 := B1_; have B2 := B2_; have B3 := B3_; clear B1_; clear B2_; clear B3_; clear hb hbox hgq; have xg10 : w4.cell? ⟨g1, 0, none⟩ = some (.int .i64 me) := (blk_cell B1.out 0).trans rfl; have xg11 : w4.cell? ⟨g1, 1, none⟩ = some (.int .i64 rev) := (blk_cell B1.out 1).trans rfl; have xg12 : w4.cell? ⟨g1, 2, none⟩ = some (.int .i64 nx) := (blk_cell B1.out 2).trans rfl; have xg13 : w4.cell? ⟨g1, 3, none⟩ = some (.int .i64 mo) := (blk_cell B1.out 3).trans rfl; have xg14 : w4.cell? ⟨g1, 4, none⟩ = some (.int .i64 bo) := (blk_cell B1.out 4).trans rfl; have xg15 : w4.cell? ⟨g1, 5, none⟩ = some (.int .i64 fr) := (blk_cell B1.out 5).trans rfl; have xg16 : w4.cell? ⟨g1, 6, none⟩ = some (.slice A6 l.length c6) := (blk_cell B1.out 6).trans rfl; have xg20 : w4.cell? ⟨g2, 0, none⟩ = some (.slice At t.length ct) := (blk_cell B2.out 0).trans rfl; have xg21 : w4.cell? ⟨g2, 1, none⟩ = some (.int .i64 a) := (blk_cell B2.out 1).trans rfl; have xg22 : w4.cell? ⟨g2, 2, none⟩ = some (.int .i64 b) := (blk_cell B2.out 2).trans rfl; have xg23 : w4.cell? ⟨g2, 3, none⟩ = some (.int .i64 c) := (blk_cell B2.out 3).trans rfl; have xg24 : w4.cell? ⟨g2, 4, none⟩ = some (.int .i64 d) := (blk_cell B2.out 4).trans rfl; skip) | (go_at_call 76; refine (account_open.calls k me rev nx mo bo fr A6 c6 l At ct t a b c d 0 _ (Kd.C_below HR0.out HB.out) HC0.out (Kd.C_below HT0.out HB.out) HCT.out HO.out).mono ?_; rintro e w5 ⟨v0, rfl, hop, hb1⟩; clear xg10 xg11 xg12 xg13 xg14 xg15 xg16; clear xg20 xg21 xg22 xg23 xg24; obtain ⟨g5, v1, rfl, hg5, hx5, hr5⟩ := hop rfl; clear hop; have L2 := Aside0.mk (Nat.lt_of_lt_of_le (blk_lt B2.out) hg5); have L3 := Aside0.mk (Nat.lt_of_lt_of_le (blk_lt B3.out) hg5); have L4 := Aside0.mk (Nat.lt_of_lt_of_le (blk_lt B4.out) hg5); have G5 := Aside0.mk (Nat.le_trans (below_size HB.out) hg5 : w.heap.size ≤ g5); have R5 := Aside0.mk (Kd.R_lower hr5 (below_size HB.out)); have B2_ := Aside0.mk (blk_below B2.out hb1); have B3_ := Aside0.mk (blk_below B3.out hb1); have B4_ := Aside0.mk (blk_below B4.out hb1); clear B2 B3 B4; have B2 := B2_; clear B2_; have B3 := B3_; clear B3_; have B4 := B4_; clear B4_; have HB_ := Aside0.mk (below_step HB.out hb1); clear HB; have HB := HB_; clear HB_; have B5 := Aside0.mk hx5; clear hb1 hg5 hx5 hr5) | (go_at_call 77; refine (account_roll.calls k g5 me rev nx mo bo fr v1 l At t.length ct a b c d month l1 mo1 bo1 e1 w _ G5.out HB.out B5.out R5.out HP.out).mono ?_; rintro e w6 ⟨rfl, ⟨v2, hx4, hr4⟩, hk4, hb4⟩; have B2_ := Aside0.mk (blk_kept B2.out hk4 (Nat.ne_of_lt L2.out)); clear B2; have B2 := B2_; clear B2_; have B3_ := Aside0.mk (blk_kept B3.out hk4 (Nat.ne_of_lt L3.out)); clear B3; have B3 := B3_; clear B3_; have B4_ := Aside0.mk (blk_kept B4.out hk4 (Nat.ne_of_lt L4.out)); clear B4; have B4 := B4_; clear B4_; obtain ⟨A8, c8, rfl⟩ := Kd.R_slice hr4; clear HB B5 R5; have HB := Aside0.mk hb4; have B5 := Aside0.mk hx4; have R6 := Aside0.mk (Kd.R_types (Kd.R_types hr4 B3.out (by decide)) B4.out (by decide)); obtain ⟨x0, x1, x2, x3, x4, x5, x6, x7, x8, x9, x10, x11⟩ := clerk.get B5.out; have xd : w6.cell? ⟨g2, 4, none⟩ = some (.int .i64 d) := (blk_cell B2.out 4).trans rfl; clear hb4 hx4 hr4 hk4) | ((with_reducible refine gate_store (t := 60) (p := 6) rfl ?_); refine store.list rfl rfl 60 (.tmp 6) _ rfl 60 g3 #[.int .i64 0, .int .i64 0, .int .i64 0, .int .i64 0, .int .i64 0, .int .i64 0, .slice none 0 0] #[.int .i64 0, .int .i64 0, .int .i64 0, .int .i64 0, .int .i64 0, .int .i64 0, .slice none 0 0] rfl rfl (by kernel_rfl) (by simp [Value.oneCell']) B3.out rfl ?_; intro w7 bx hg7; have B4_ := Aside0.mk (store.far B4.out hg7 (Ne.symm NB3g4.out)); have HB_ := Aside0.mk (store.below HB.out hg7 G3.out); clear B3 B4 HB; have B3 := Aside0.mk bx; have B4 := B4_; have HB := HB_; clear B4_ HB_ bx hg7) | ((with_reducible refine gate_store (t := 67) (p := 7) rfl ?_); refine store.list rfl rfl 67 (.tmp 7) _ rfl 67 g4 #[.int .i64 0, .int .i64 0, .int .i64 0, .int .i64 0, .int .i64 0, .int .i64 0, .int .i64 0] #[.int .i64 0, .int .i64 0, .int .i64 0, .int .i64 0, .int .i64 0, .int .i64 0, .int .i64 0] rfl rfl (by kernel_rfl) (by simp [Value.oneCell']) B4.out rfl ?_; intro w8 bx hg8; have B3_ := Aside0.mk (store.far B3.out hg8 NB3g4.out); have HB_ := Aside0.mk (store.below HB.out hg8 G4.out); clear B3 B4 HB; have B4 := Aside0.mk bx; have B3 := B3_; have HB := HB_; clear B3_ HB_ bx hg8))
      refine bodyPost_ret (results_list (rs := [.cell 6 60, .cell 7 67, .tmp 8]) rfl (by simp) (.cell g3 60 #[.int .i64 0, .int .i64 0, .int .i64 0, .int .i64 0, .int .i64 0, .int .i64 0, .slice none 0 0] (0, 0) _ rfl B3.out Try.underlying60 rfl (by kernel_rfl) (.cell g4 67 #[.int .i64 0, .int .i64 0, .int .i64 0, .int .i64 0, .int .i64 0, .int .i64 0, .int .i64 0] (0, 0) _ rfl B4.out Try.underlying67 rfl (by kernel_rfl) (.tmp .nil)))) rfl ?_
      exact ⟨_, rfl, Kd.R_nil _ _ _ _ _, HB.out⟩
  · rw [if_neg h1] at h
    simp only [account_Grant.no, Option.some.injEq, Prod.mk.injEq] at h
    obtain ⟨rfl, rfl, rfl, rfl, rfl, rfl, rfl, rfl, rfl, rfl, rfl, rfl, rfl, rfl, rfl⟩ := h
    have q1 : (e0 == 0) = false := beq_eq_false_iff_ne.mpr h1
    have q2 : (e0 != 0) = true := bne_iff_ne.mpr h1
    clear h1
    go_enter Try.func35, Try.ntmps35
    go_wp2_with (first | ((with_reducible refine gate_dst (N := 3) rfl ?_); refine box_event ?hg (N := 3) ?hd (cs := #[.int .i64 me, .int .i64 rev, .int .i64 nx, .int .i64 mo, .int .i64 bo, .int .i64 fr, .slice A6 l.length c6]) (t := 60) ?hr ?_; (case hd => rfl); (case hg => rfl); (case hr => first | (go_simp; done) | (go_simp; rfl)); intro g1 hgq w1 hbox hb; have HB_ := Aside0.mk (below_step HB.out hb); have G1 := Aside0.mk (by rw [hgq]; exact below_size HB.out : w.heap.size ≤ g1); have B1 := Aside0.mk hbox; clear HB ; have HB := HB_; clear HB_; clear hb hbox hgq) | ((with_reducible refine gate_dst (N := 4) rfl ?_); refine box_event ?hg (N := 4) ?hd (cs := #[.slice At t.length ct, .int .i64 a, .int .i64 b, .int .i64 c, .int .i64 d]) (t := 53) ?hr ?_; (case hd => rfl); (case hg => rfl); (case hr => first | (go_simp; done) | (go_simp; rfl)); intro g2 hgq w2 hbox hb; have B1_ := Aside0.mk (blk_below B1.out hb); have NB1g2 := Aside0.mk (by rw [hgq]; exact Nat.ne_of_lt (blk_lt B1.out) : g1 ≠ g2); have HB_ := Aside0.mk (below_step HB.out hb); have G2 := Aside0.mk (by rw [hgq]; exact below_size HB.out : w.heap.size ≤ g2); have B2 := Aside0.mk hbox; clear HB B1; have HB := HB_; clear HB_; have B1 := B1_; clear B1_; clear hb hbox hgq) | ((with_reducible refine gate_dst (N := 6) rfl ?_); refine box_event ?hg (N := 6) ?hd (cs := #[.int .i64 0, .int .i64 0, .int .i64 0, .int .i64 0, .int .i64 0, .int .i64 0, .slice none 0 0]) (t := 60) ?hr ?_; (case hd => rfl); (case hg => rfl); (case hr => first | (go_simp; done) | (go_simp; rfl)); intro g3 hgq w3 hbox hb; have B1_ := Aside0.mk (blk_below B1.out hb); have B2_ := Aside0.mk (blk_below B2.out hb); have NB1g3 := Aside0.mk (by rw [hgq]; exact Nat.ne_of_lt (blk_lt B1.out) : g1 ≠ g3); have NB2g3 := Aside0.mk (by rw [hgq]; exact Nat.ne_of_lt (blk_lt B2.out) : g2 ≠ g3); have HB_ := Aside0.mk (below_step HB.out hb); have G3 := Aside0.mk (by rw [hgq]; exact below_size HB.out : w.heap.size ≤ g3); have B3 := Aside0.mk hbox; clear HB B1 B2; have HB := HB_; clear HB_; have B1 := B1_; have B2 := B2_; clear B1_; clear B2_; clear hb hbox hgq) | ((with_reducible refine gate_dst (N := 7) rfl ?_); refine box_event ?hg (N := 7) ?hd (cs := #[.int .i64 0, .int .i64 0, .int .i64 0, .int .i64 0, .int .i64 0, .int .i64 0, .int .i64 0]) (t := 67) ?hr ?_; (case hd => rfl); (case hg => rfl); (case hr => first | (go_simp; done) | (go_simp; rfl)); intro g4 hgq w4 hbox hb; have B1_ := Aside0.mk (blk_below B1.out hb); have B2_ := Aside0.mk (blk_below B2.out hb); have B3_ := Aside0.mk (blk_below B3.out hb); have NB1g4 := Aside0.mk (by rw [hgq]; exact Nat.ne_of_lt (blk_lt B1.out) : g1 ≠ g4); have NB2g4 := Aside0.mk (by rw [hgq]; exact Nat.ne_of_lt (blk_lt B2.out) : g2 ≠ g4); have NB3g4 := Aside0.mk (by rw [hgq]; exact Nat.ne_of_lt (blk_lt B3.out) : g3 ≠ g4); have HB_ := Aside0.mk (below_step HB.out hb); have G4 := Aside0.mk (by rw [hgq]; exact below_size HB.out : w.heap.size ≤ g4); have B4 := Aside0.mk hbox; clear HB B1 B2 B3; have HB := HB_; clear HB_; have B1 := B1_; have B2 := B2_; have B3 := B3_; clear B1_; clear B2_; clear B3_; clear hb hbox hgq; have xg10 : w4.cell? ⟨g1, 0, none⟩ = some (.int .i64 me) := (blk_cell B1.out 0).trans rfl; have xg11 : w4.cell? ⟨g1, 1, none⟩ = some (.int .i64 rev) := (blk_cell B1.out 1).trans rfl; have xg12 : w4.cell? ⟨g1, 2, none⟩ = some (.int .i64 nx) := (blk_cell B1.out 2).trans rfl; have xg13 : w4.cell? ⟨g1, 3, none⟩ = some (.int .i64 mo) := (blk_cell B1.out 3).trans rfl; have xg14 : w4.cell? ⟨g1, 4, none⟩ = some (.int .i64 bo) := (blk_cell B1.out 4).trans rfl; have xg15 : w4.cell? ⟨g1, 5, none⟩ = some (.int .i64 fr) := (blk_cell B1.out 5).trans rfl; have xg16 : w4.cell? ⟨g1, 6, none⟩ = some (.slice A6 l.length c6) := (blk_cell B1.out 6).trans rfl; have xg20 : w4.cell? ⟨g2, 0, none⟩ = some (.slice At t.length ct) := (blk_cell B2.out 0).trans rfl; have xg21 : w4.cell? ⟨g2, 1, none⟩ = some (.int .i64 a) := (blk_cell B2.out 1).trans rfl; have xg22 : w4.cell? ⟨g2, 2, none⟩ = some (.int .i64 b) := (blk_cell B2.out 2).trans rfl; have xg23 : w4.cell? ⟨g2, 3, none⟩ = some (.int .i64 c) := (blk_cell B2.out 3).trans rfl; have xg24 : w4.cell? ⟨g2, 4, none⟩ = some (.int .i64 d) := (blk_cell B2.out 4).trans rfl; skip) | (go_at_call 76; refine (account_open.calls k me rev nx mo bo fr A6 c6 l At ct t a b c d e0 _ (Kd.C_below HR0.out HB.out) HC0.out (Kd.C_below HT0.out HB.out) HCT.out HO.out).mono ?_; rintro e w5 ⟨v0, rfl, hop, hb1⟩; clear xg10 xg11 xg12 xg13 xg14 xg15 xg16; clear xg20 xg21 xg22 xg23 xg24; clear hop; have B2_ := Aside0.mk (blk_below B2.out hb1); have B3_ := Aside0.mk (blk_below B3.out hb1); have B4_ := Aside0.mk (blk_below B4.out hb1); clear B2 B3 B4; have B2 := B2_; clear B2_; have B3 := B3_; clear B3_; have B4 := B4_; clear B4_; have HB_ := Aside0.mk (below_step HB.out hb1); clear HB; have HB := HB_; clear HB_; clear hb1) | ((with_reducible refine gate_store (t := 60) (p := 6) rfl ?_); refine store.list rfl rfl 60 (.tmp 6) _ rfl 60 g3 #[.int .i64 0, .int .i64 0, .int .i64 0, .int .i64 0, .int .i64 0, .int .i64 0, .slice none 0 0] #[.int .i64 0, .int .i64 0, .int .i64 0, .int .i64 0, .int .i64 0, .int .i64 0, .slice none 0 0] rfl rfl (by kernel_rfl) (by simp [Value.oneCell']) B3.out rfl ?_; intro w7 bx hg7; have B4_ := Aside0.mk (store.far B4.out hg7 (Ne.symm NB3g4.out)); have HB_ := Aside0.mk (store.below HB.out hg7 G3.out); clear B3 B4 HB; have B3 := Aside0.mk bx; have B4 := B4_; have HB := HB_; clear B4_ HB_ bx hg7) | ((with_reducible refine gate_store (t := 67) (p := 7) rfl ?_); refine store.list rfl rfl 67 (.tmp 7) _ rfl 67 g4 #[.int .i64 0, .int .i64 0, .int .i64 0, .int .i64 0, .int .i64 0, .int .i64 0, .int .i64 0] #[.int .i64 0, .int .i64 0, .int .i64 0, .int .i64 0, .int .i64 0, .int .i64 0, .int .i64 0] rfl rfl (by kernel_rfl) (by simp [Value.oneCell']) B4.out rfl ?_; intro w8 bx hg8; have B3_ := Aside0.mk (store.far B3.out hg8 NB3g4.out); have HB_ := Aside0.mk (store.below HB.out hg8 G4.out); clear B3 B4 HB; have B4 := Aside0.mk bx; have B3 := B3_; have HB := HB_; clear B3_ HB_ bx hg8))
    refine bodyPost_ret (results_list (rs := [.cell 6 60, .cell 7 67, .tmp 8]) rfl (by simp) (.cell g3 60 #[.int .i64 0, .int .i64 0, .int .i64 0, .int .i64 0, .int .i64 0, .int .i64 0, .slice none 0 0] (0, 0) _ rfl B3.out Try.underlying60 rfl (by kernel_rfl) (.cell g4 67 #[.int .i64 0, .int .i64 0, .int .i64 0, .int .i64 0, .int .i64 0, .int .i64 0, .int .i64 0] (0, 0) _ rfl B4.out Try.underlying67 rfl (by kernel_rfl) (.tmp .nil)))) rfl ?_
    exact ⟨_, rfl, Kd.R_nil _ _ _ _ _, HB.out⟩

/-! ### vendmeterref_In: function 54 -/
def vendmeterref_In.f (a0 : Int) (a1 : Int) (a2 : Int) : Option (Bool) := if a0 ≥ a1 then (some (decide (a0 ≤ a2))) else (some false)
set_option maxHeartbeats 8000000 in
set_option maxRecDepth 100000 in
theorem vendmeterref_In.calls (a0 : Int) (a1 : Int) (a2 : Int) (r : Bool) (w : World) (h : vendmeterref_In.f a0 a1 a2 = some r) :
    Calls Try.prog 54 #[.int .i64 a0, .int .i64 a1, .int .i64 a2] w fun e w' => e = .returned (.bool r) ∧ Drawn0 w w' := by
  have H : (if a0 ≥ a1 then (some (decide (a0 ≤ a2))) else (some false)) = some r := h
  clear h
  by_cases c4 : a0 ≥ a1
  · rw [if_pos c4] at H
    have c4b0 : decide (a1 ≤ a0) = true := decide_eq_true c4
    clear c4
    obtain rfl := Option.some.inj H
    go_enter Try.func54, Try.ntmps54
    go_wp2
    go_ret
    exact ⟨by first | rfl | (simp; done) | (simp [*]; done), by repeat (first | exact Drawn0.refl _ | apply Drawn0.step)⟩
  · rw [if_neg c4] at H
    have c4b0 : decide (a1 ≤ a0) = false := decide_eq_false c4
    clear c4
    obtain rfl := Option.some.inj H
    go_enter Try.func54, Try.ntmps54
    go_wp2
    go_ret
    exact ⟨by first | rfl | (simp; done) | (simp [*]; done), by repeat (first | exact Drawn0.refl _ | apply Drawn0.step)⟩

end Go.Proofs.Ythmmadniaakapaa.PAccountGrants
