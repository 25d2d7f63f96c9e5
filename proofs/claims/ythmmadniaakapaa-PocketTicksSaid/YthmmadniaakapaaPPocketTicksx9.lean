-- written by this session's program wip/xp/xprint.py (it drives the kit's print and adds to it)
import Derived.Test.YthmmadniaakapaaPPocketTicksx0
import Derived.Test.YthmmadniaakapaaPPocketTicksx6
import Derived.Test.YthmmadniaakapaaPPocketTicksx7
import Derived.Test.YthmmadniaakapaaPPocketTicksx8
namespace Go.Proofs.Ythmmadniaakapaa.PPocketTicks
open Go.RowKit Go.Proofs.YthmmadniaakapaaW.PrintWords Go.Proofs.YthmmadniaakapaaW.PrintLast Go.Proofs.YthmmadniaakapaaW.PrintMore
attribute [local go_sem] max2_int min2_int max_two min_two max_three min_three max_four min_four   -- for this text's walks alone
set_option linter.unusedVariables false
set_option linter.unusedSimpArgs false

section
variable {P : Program} {ops : Array Oper} {o : Oper} {a : Act} {Q : Exit → Act → World → Prop} {W : World}
theorem seg.run {t : TypeId} {e : TypeId} {g : Nat} {cur new : Array Value} {u : Value} (i : Nat) (cs : List Value) (hu : u.cells.toList = cs) (ht : (P.info? t).map (·.size) = some cs.length) (h1 : ∀ q ∈ cs, q.oneCell' = true) (hh : W.heap[g]? = some (.cells cur e (0, 0))) (hsz : i + cs.length ≤ cur.size) (hnew : cur.toList.take i ++ cs ++ cur.toList.drop (i + cs.length) = new.toList) :
    (Instr.storeAt t (.pointer (some ⟨g, i, none⟩)) u).run P W = .ok () (W.setCells g i cs) ∧ (W.setCells g i cs).heap[g]? = some (.cells new e (0, 0)) ∧ W.grownBy (W.setCells g i cs) (some g) := by
  refine ⟨run_store_run t u cs hh hu ht hsz h1, ?_, ?_⟩
  · obtain ⟨cur', h2, h3, h4⟩ := setCells_row cs i W cur hh hsz
    rw [h2]
    have : cur' = new := Array.toList_inj.1 (h4.trans hnew)
    rw [this]
  · obtain ⟨q1, q2, q3, q4⟩ := setCells_same g cs i W
    exact ⟨q1, q2, q3, by rw [q4]; exact Nat.le_refl _, fun k _ hk => setCells_far _ _ k (fun h => hk (by rw [h]))⟩
theorem seg.list {rest : List Oper} (hN : o.dst = none) (hgd : o.guard = none) (t : TypeId) (p x : Operand) (ho : o.op = .store t p x) (e : TypeId) (g i : Nat) (cur new : Array Value) (cs : List Value) (haddr : a.eval p = .pointer (some ⟨g, i, none⟩)) (hu : (a.eval x).cells.toList = cs) (ht : (P.info? t).map (·.size) = some cs.length) (h1 : ∀ q ∈ cs, q.oneCell' = true) (hh : W.heap[g]? = some (.cells cur e (0, 0))) (hsz : i + cs.length ≤ cur.size) (hnew : cur.toList.take i ++ cs ++ cur.toList.drop (i + cs.length) = new.toList)
    (h : ∀ w1, w1.heap[g]? = some (.cells new e (0, 0)) → W.grownBy w1 (some g) → wpList P ops Q rest a w1) : wpList P ops Q (o :: rest) a W := by
  obtain ⟨hrun, hb, hg⟩ := seg.run (P := P) (t := t) i cs hu ht h1 hh hsz hnew
  refine wpList_plain hgd fun K hK => ?_
  unfold Oper.wp execOp
  simp only [ho, haddr, Sem.run_bind, Sem.run_pure, Result.andThen_ok, hrun]
  show K (a.put o.dst undef) _
  rw [hN]
  exact hK a _ (h _ hb hg)
theorem seg.step {Kc : Act → World → Prop} (hw : Region.wanted o (yielded ops a.tmps) = true) (hN : o.dst = none) (t : TypeId) (p x : Operand) (ho : o.op = .store t p x) (e : TypeId) (g i : Nat) (cur new : Array Value) (cs : List Value) (haddr : a.eval p = .pointer (some ⟨g, i, none⟩)) (hu : (a.eval x).cells.toList = cs) (ht : (P.info? t).map (·.size) = some cs.length) (h1 : ∀ q ∈ cs, q.oneCell' = true) (hh : W.heap[g]? = some (.cells cur e (0, 0))) (hsz : i + cs.length ≤ cur.size) (hnew : cur.toList.take i ++ cs ++ cur.toList.drop (i + cs.length) = new.toList)
    (h : ∀ w1, w1.heap[g]? = some (.cells new e (0, 0)) → W.grownBy w1 (some g) → Kc (a.put o.dst undef) w1) :
    if Region.wanted o (yielded ops a.tmps) = true then Oper.wp P o a W Kc Q else Kc (a.put o.dst undef) W := by
  obtain ⟨hrun, hb, hg⟩ := seg.run (P := P) (t := t) i cs hu ht h1 hh hsz hnew
  rw [if_pos hw]
  unfold Oper.wp execOp
  simp only [ho, haddr, Sem.run_bind, Sem.run_pure, Result.andThen_ok, hrun]
  exact h _ hb hg
end
theorem seg.below {w W w1 : World} {g : Nat} (h : Below w.heap.size w W) (hg : W.grownBy w1 (some g)) (hl : w.heap.size ≤ g) : Below w.heap.size w w1 := pw_below_grown h (some g) h.size hg (fun k hk => by cases hk; exact hl)
theorem seg.far {W w1 : World} {g h : Nat} {ob : Obj} (hb : W.heap[h]? = some ob) (hg : W.grownBy w1 (some g)) (hne : h ≠ g) : w1.heap[h]? = some ob := blk_grown hb hg (fun e => hne (Option.some.inj e))
theorem seg.R {α : Type} {d : Kd α} {e base : Nat} {ok : Nat → Prop} {W w1 : World} {v : Value} {xs : List α} {g : Nat} (h : d.R e W base ok v xs) (hg : W.grownBy w1 (some g)) (hok : ∀ k, ok k → k ≠ g) : d.R e w1 base ok v xs := Kd.R_grown h hg (fun k hk e => hok k hk (Option.some.inj e))

/-! ### vendmeterref_MeterRead: by hand -/
theorem vendmeterref_MeterRead.word {w : World} {A : Option Addr} {n : Nat} {xs : List Int} (h : Kd.C (Kd.int .u32) w A n xs) (i : Nat) (h1 : i < n) : ∃ ad, A = some ad ∧ w.cell? (ad.add i) = some (.int .u32 (rd xs (i : Int))) := by
  obtain ⟨ad, c, e, hl, hK, hc⟩ := Kd.C_get h 0 (i : Int) (by omega) (by omega)
  obtain rfl : c = [.int .u32 (xs.getD (i : Int).toNat 0)] := hK
  have := hc 0 _ rfl
  simp only [show (Kd.int IntKind.u32).sz = 1 from rfl, Int.toNat_natCast, Nat.mul_one, Nat.add_zero] at this
  exact ⟨ad, e, this⟩
def vendmeterref_MeterRead.f (k : Nat) (l0 : List Int) : Option (Int × Int × Int × Int × Int × Int × Int × Int) := if (l0.length : Int) = 5 then (if 1 < (l0.length : Int) then (if 0 < (l0.length : Int) then (if 2 < (l0.length : Int) then (if 4 < (l0.length : Int) then (if 3 < (l0.length : Int) then ((vendmeterref_MeterMay.f k (Int.tmod (wrap64 (rd l0 1)) 256) (Int.tmod (wrap64 (Int.tdiv (wrap64 (rd l0 1)) 256)) 256) (wrap64 (rd l0 0)) (wrap64 (rd l0 2)) (IntKind.u64.wrap ((IntKind.u64.wrap ((IntKind.u64.wrap (rd l0 4)) * 4294967296)) + (IntKind.u64.wrap (rd l0 3)))) (Int.tmod (wrap64 (Int.tdiv (wrap64 (rd l0 1)) 65536)) 256) (wrap64 (Int.tdiv (wrap64 (rd l0 1)) 16777216))).bind fun t241 => (if t241 = true then (some (Int.tmod (wrap64 (rd l0 1)) 256, Int.tmod (wrap64 (Int.tdiv (wrap64 (rd l0 1)) 256)) 256, wrap64 (rd l0 0), wrap64 (rd l0 2), IntKind.u64.wrap ((IntKind.u64.wrap ((IntKind.u64.wrap (rd l0 4)) * 4294967296)) + (IntKind.u64.wrap (rd l0 3))), Int.tmod (wrap64 (Int.tdiv (wrap64 (rd l0 1)) 65536)) 256, wrap64 (Int.tdiv (wrap64 (rd l0 1)) 16777216), 0)) else (some (0, 0, 0, 0, 0, 0, 0, 5)))) else (none)) else (none)) else (none)) else (none)) else (none)) else (some (0, 0, 0, 0, 0, 0, 0, 1))
theorem vendmeterref_MeterRead.mono : ∀ a0 k, LeO (vendmeterref_MeterRead.f k a0) (vendmeterref_MeterRead.f (k + 1) a0) := by
  intro a0 k
  unfold vendmeterref_MeterRead.f
  exact LeO.ite (LeO.ite (LeO.ite (LeO.ite (LeO.ite (LeO.ite (LeO.bind (vendmeterref_MeterMay.mono _ _ _ _ _ _ _ _) (fun _ => LeO.refl _)) (LeO.refl _)) (LeO.refl _)) (LeO.refl _)) (LeO.refl _)) (LeO.refl _)) (LeO.refl _)
set_option maxHeartbeats 8000000 in
set_option maxRecDepth 100000 in
theorem vendmeterref_MeterRead.calls (k : Nat) (A0 : Option Addr) (c0 : Nat) (l0 : List Int) (r1 : Int) (r2 : Int) (r3 : Int) (r4 : Int) (r5 : Int) (r6 : Int) (r7 : Int) (r8 : Int) (w : World) (hr0 : Kd.C (Kd.int .u32) w A0 l0.length l0) (hc0 : l0.length ≤ c0) (h : vendmeterref_MeterRead.f k l0 = some (r1, r2, r3, r4, r5, r6, r7, r8)) :
    Calls Try.prog 103 #[.slice A0 l0.length c0] w fun e w' => e = .returned (.tuple #[.agg #[.int .i64 r1, .int .i64 r2, .int .i64 r3, .int .i64 r4, .int .u64 r5, .int .i64 r6, .int .i64 r7], .int .i64 r8]) ∧ Below w.heap.size w w' := by
  have hu40 := Try.underlying40
  have hu38 := Try.underlying38
  have HR0 := Aside0.mk hr0
  have HC0 := Aside0.mk hc0
  clear hr0 hc0
  have HB := Aside0.mk (Below.refl w.heap.size w)
  unfold vendmeterref_MeterRead.f at h
  by_cases c1 : (l0.length : Int) = 5
  · rw [if_pos c1, if_pos (by omega), if_pos (by omega), if_pos (by omega), if_pos (by omega), if_pos (by omega)] at h
    have c5 : l0.length = 5 := by omega
    obtain ⟨ad, rfl, x0⟩ := vendmeterref_MeterRead.word HR0.out 0 (by omega)
    obtain ⟨_, e1, x1⟩ := vendmeterref_MeterRead.word HR0.out 1 (by omega)
    cases e1
    obtain ⟨_, e1, x2⟩ := vendmeterref_MeterRead.word HR0.out 2 (by omega)
    cases e1
    obtain ⟨_, e1, x3⟩ := vendmeterref_MeterRead.word HR0.out 3 (by omega)
    cases e1
    obtain ⟨_, e1, x4⟩ := vendmeterref_MeterRead.word HR0.out 4 (by omega)
    cases e1
    rw [c5]
    have X0 : Aside0 (w.cell? ad = some (.int .u32 (rd l0 0))) := ⟨by simpa [Addr.add] using x0⟩
    have X1 : Aside0 (w.cell? ⟨ad.block, ad.off + 1, none⟩ = some (.int .u32 (rd l0 1))) := ⟨by simpa [Addr.add] using x1⟩
    have X2 : Aside0 (w.cell? ⟨ad.block, ad.off + 2, none⟩ = some (.int .u32 (rd l0 2))) := ⟨by simpa [Addr.add] using x2⟩
    have X3 : Aside0 (w.cell? ⟨ad.block, ad.off + 3, none⟩ = some (.int .u32 (rd l0 3))) := ⟨by simpa [Addr.add] using x3⟩
    have X4 : Aside0 (w.cell? ⟨ad.block, ad.off + 4, none⟩ = some (.int .u32 (rd l0 4))) := ⟨by simpa [Addr.add] using x4⟩
    clear x0 x1 x2 x3 x4 c1 c5
    obtain ⟨t, hm, h⟩ := Option.bind_eq_some_iff.mp h
    have HM := Aside0.mk hm
    clear hm
    by_cases h1 : t = true
    · rw [if_pos h1] at h
      subst h1
      simp only [Option.some.injEq, Prod.mk.injEq] at h
      obtain ⟨rfl, rfl, rfl, rfl, rfl, rfl, rfl, rfl⟩ := h
      go_enter Try.func103, Try.ntmps103
      go_wp2_with (first | ((with_reducible refine gate_dst (N := 2) rfl ?_); refine box_event ?hg (N := 2) ?hd (cs := #[.int .i64 0, .int .i64 0, .int .i64 0, .int .i64 0, .int .u64 0, .int .i64 0, .int .i64 0]) (t := 40) ?hr ?_; (case hd => rfl); (case hg => rfl); (case hr => first | (go_simp; done) | (go_simp; rfl)); intro g1 hgq W1 hbox hb; have Gg1 := Aside0.mk (by rw [hgq]; exact below_size HB.out : w.heap.size ≤ g1); have HB_ := Aside0.mk (below_step HB.out hb); clear HB; have HB := HB_; clear HB_; have Bg1 := Aside0.mk hbox; clear hb hbox hgq; have y0 := pw_cell_below HB.out X0.out; have y1 := pw_cell_below HB.out X1.out; have y2 := pw_cell_below HB.out X2.out; have y3 := pw_cell_below HB.out X3.out; have y4 := pw_cell_below HB.out X4.out; skip) | ((with_reducible refine gate_dst (N := 5) rfl ?_); refine box_event ?hg (N := 5) ?hd (cs := #[.int .i64 0, .int .i64 0, .int .i64 0, .int .i64 0, .int .u64 0, .int .i64 0, .int .i64 0]) (t := 40) ?hr ?_; (case hd => rfl); (case hg => rfl); (case hr => first | (go_simp; done) | (go_simp; rfl)); intro g2 hgq W2 hbox hb; have Ng1g2 := Aside0.mk (by rw [hgq]; exact Nat.ne_of_lt (blk_lt Bg1.out) : g1 ≠ g2); have Gg2 := Aside0.mk (by rw [hgq]; exact below_size HB.out : w.heap.size ≤ g2); have Bg1_ := Aside0.mk (blk_below Bg1.out hb); have HB_ := Aside0.mk (below_step HB.out hb); clear Bg1 HB; have Bg1 := Bg1_; clear Bg1_; have HB := HB_; clear HB_; have Bg2 := Aside0.mk hbox; clear hb hbox hgq; clear y0 y1 y2 y3 y4; have y0 := pw_cell_below HB.out X0.out; have y1 := pw_cell_below HB.out X1.out; have y2 := pw_cell_below HB.out X2.out; have y3 := pw_cell_below HB.out X3.out; have y4 := pw_cell_below HB.out X4.out; skip) | ((with_reducible refine gate_store (t := 40) (p := 5) rfl ?_); refine seg.list rfl rfl 40 (.tmp 5) _ rfl 40 g2 0 #[.int .i64 0, .int .i64 0, .int .i64 0, .int .i64 0, .int .u64 0, .int .i64 0, .int .i64 0] #[.int .i64 (Int.tmod (wrap64 (rd l0 1)) 256), .int .i64 (Int.tmod (wrap64 (Int.tdiv (wrap64 (rd l0 1)) 256)) 256), .int .i64 (wrap64 (rd l0 0)), .int .i64 0, .int .u64 0, .int .i64 (Int.tmod (wrap64 (Int.tdiv (wrap64 (rd l0 1)) 65536)) 256), .int .i64 (wrap64 (Int.tdiv (wrap64 (rd l0 1)) 16777216))] [.int .i64 (Int.tmod (wrap64 (rd l0 1)) 256), .int .i64 (Int.tmod (wrap64 (Int.tdiv (wrap64 (rd l0 1)) 256)) 256), .int .i64 (wrap64 (rd l0 0)), .int .i64 0, .int .u64 0, .int .i64 (Int.tmod (wrap64 (Int.tdiv (wrap64 (rd l0 1)) 65536)) 256), .int .i64 (wrap64 (Int.tdiv (wrap64 (rd l0 1)) 16777216))] rfl rfl (by kernel_rfl) (by simp [Value.oneCell']) Bg2.out (by simp) rfl ?_; intro W3 bx hgr; have Bg1_ := Aside0.mk (seg.far Bg1.out hgr Ng1g2.out); have HB_ := Aside0.mk (seg.below HB.out hgr Gg2.out); clear Bg1 HB; have Bg1 := Bg1_; clear Bg1_; have HB := HB_; clear HB_; clear Bg2; have Bg2 := Aside0.mk bx; clear bx hgr; clear y0 y1 y2 y3 y4; have y0 := pw_cell_below HB.out X0.out; have y1 := pw_cell_below HB.out X1.out; have y2 := pw_cell_below HB.out X2.out; have y3 := pw_cell_below HB.out X3.out; have y4 := pw_cell_below HB.out X4.out; skip))
      refine start_ (n := 17) (S := fun w' => w'.cell? ⟨ad.block, ad.off + 2, none⟩ = some (.int .u32 (rd l0 2)) ∧ w'.cell? ⟨ad.block, ad.off + 4, none⟩ = some (.int .u32 (rd l0 4)) ∧ w'.cell? ⟨ad.block, ad.off + 3, none⟩ = some (.int .u32 (rd l0 3))) (ds := [16]) #[false, false, false, false, false, false, false, false, false, false, false, false, false, false, false, false, false] (by kernel_rfl) rfl rfl ⟨y2, y4, y3⟩ (fun hHeld => ?_)
      refine pure_ (i := 0) (N := some 29) (v := ?_) (a' := ?_) #[true, false, false, false, false, false, false, false, false, false, false, false, false, false, false, false, false] rfl rfl (by kernel_rfl) (fun _ _ _ h => h) (Or.inl ⟨by rfl, ?_⟩) ?_ ?_
      rotate_left
      · intro w'
        go_simp
        with_reducible rfl
      rotate_left
      · simp only [Act.put, List.setIfInBounds_toArray, List.set_cons_zero, List.set_cons_succ, i64_w, i32_w]
        rfl
      refine pure_ (i := 1) (N := some 30) (v := ?_) (a' := ?_) #[true, true, false, false, false, false, false, false, false, false, false, false, false, false, false, false, false] rfl rfl (by kernel_rfl) (fun _ _ _ h => h) (Or.inl ⟨by rfl, ?_⟩) ?_ ?_
      rotate_left
      · intro w'
        go_simp
        with_reducible rfl
      rotate_left
      · simp only [Act.put, List.setIfInBounds_toArray, List.set_cons_zero, List.set_cons_succ, i64_w, i32_w]
        rfl
      refine pure_ (i := 4) (N := some 33) (v := ?_) (a' := ?_) #[true, true, false, false, true, false, false, false, false, false, false, false, false, false, false, false, false] rfl rfl (by kernel_rfl) (fun _ _ _ h => h) (Or.inl ⟨by rfl, ?_⟩) ?_ ?_
      rotate_left
      · intro w'
        go_simp
        with_reducible rfl
      rotate_left
      · simp only [Act.put, List.setIfInBounds_toArray, List.set_cons_zero, List.set_cons_succ, i64_w, i32_w]
        rfl
      refine pure_ (i := 5) (N := some 34) (v := ?_) (a' := ?_) #[true, true, false, false, true, true, false, false, false, false, false, false, false, false, false, false, false] rfl rfl (by kernel_rfl) (fun _ _ _ h => h) (Or.inl ⟨by rfl, ?_⟩) ?_ ?_
      rotate_left
      · intro w'
        go_simp
        with_reducible rfl
      rotate_left
      · simp only [Act.put, List.setIfInBounds_toArray, List.set_cons_zero, List.set_cons_succ, i64_w, i32_w]
        rfl
      refine pure_ (i := 9) (N := some 38) (v := ?_) (a' := ?_) #[true, true, false, false, true, true, false, false, false, true, false, false, false, false, false, false, false] rfl rfl (by kernel_rfl) (fun _ _ _ h => h) (Or.inl ⟨by rfl, ?_⟩) ?_ ?_
      rotate_left
      · intro w'
        go_simp
        with_reducible rfl
      rotate_left
      · simp only [Act.put, List.setIfInBounds_toArray, List.set_cons_zero, List.set_cons_succ, i64_w, i32_w]
        rfl
      refine pure_ (i := 10) (N := some 39) (v := ?_) (a' := ?_) #[true, true, false, false, true, true, false, false, false, true, true, false, false, false, false, false, false] rfl rfl (by kernel_rfl) (fun _ _ _ h => h) (Or.inl ⟨by rfl, ?_⟩) ?_ ?_
      rotate_left
      · intro w'
        go_simp
        with_reducible rfl
      rotate_left
      · simp only [Act.put, List.setIfInBounds_toArray, List.set_cons_zero, List.set_cons_succ, i64_w, i32_w]
        rfl
      refine take_ (i := 2) (N := some 31) (v := ?_) (a' := ?_) #[true, true, true, false, true, true, false, false, false, true, true, false, false, false, false, false, false] rfl rfl (by kernel_rfl) (fun _ _ _ h => h) (Or.inl ⟨by rfl, ?_⟩) hHeld ?_ ?_
      rotate_left
      · rintro w' ⟨s0, s1, s2⟩
        go_simp
        with_reducible rfl
      rotate_left
      · simp only [Act.put, List.setIfInBounds_toArray, List.set_cons_zero, List.set_cons_succ, i64_w, i32_w]
        rfl
      refine pure_ (i := 3) (N := some 32) (v := ?_) (a' := ?_) #[true, true, true, true, true, true, false, false, false, true, true, false, false, false, false, false, false] rfl rfl (by kernel_rfl) (fun _ _ _ h => h) (Or.inl ⟨by rfl, ?_⟩) ?_ ?_
      rotate_left
      · intro w'
        go_simp
        with_reducible rfl
      rotate_left
      · simp only [Act.put, List.setIfInBounds_toArray, List.set_cons_zero, List.set_cons_succ, i64_w, i32_w]
        rfl
      refine take_ (i := 6) (N := some 35) (v := ?_) (a' := ?_) #[true, true, true, true, true, true, true, false, false, true, true, false, false, false, false, false, false] rfl rfl (by kernel_rfl) (fun _ _ _ h => h) (Or.inl ⟨by rfl, ?_⟩) hHeld ?_ ?_
      rotate_left
      · rintro w' ⟨s0, s1, s2⟩
        go_simp
        with_reducible rfl
      rotate_left
      · simp only [Act.put, List.setIfInBounds_toArray, List.set_cons_zero, List.set_cons_succ, i64_w, i32_w]
        rfl
      refine pure_ (i := 7) (N := some 36) (v := ?_) (a' := ?_) #[true, true, true, true, true, true, true, true, false, true, true, false, false, false, false, false, false] rfl rfl (by kernel_rfl) (fun _ _ _ h => h) (Or.inl ⟨by rfl, ?_⟩) ?_ ?_
      rotate_left
      · intro w'
        go_simp
        with_reducible rfl
      rotate_left
      · simp only [Act.put, List.setIfInBounds_toArray, List.set_cons_zero, List.set_cons_succ, i64_w, i32_w]
        rfl
      refine pure_ (i := 8) (N := some 37) (v := ?_) (a' := ?_) #[true, true, true, true, true, true, true, true, true, true, true, false, false, false, false, false, false] rfl rfl (by kernel_rfl) (fun _ _ _ h => h) (Or.inl ⟨by rfl, ?_⟩) ?_ ?_
      rotate_left
      · intro w'
        go_simp
        with_reducible rfl
      rotate_left
      · simp only [Act.put, List.setIfInBounds_toArray, List.set_cons_zero, List.set_cons_succ, i64_w, i32_w]
        rfl
      refine take_ (i := 11) (N := some 40) (v := ?_) (a' := ?_) #[true, true, true, true, true, true, true, true, true, true, true, true, false, false, false, false, false] rfl rfl (by kernel_rfl) (fun _ _ _ h => h) (Or.inl ⟨by rfl, ?_⟩) hHeld ?_ ?_
      rotate_left
      · rintro w' ⟨s0, s1, s2⟩
        go_simp
        with_reducible rfl
      rotate_left
      · simp only [Act.put, List.setIfInBounds_toArray, List.set_cons_zero, List.set_cons_succ, i64_w, i32_w]
        rfl
      refine pure_ (i := 12) (N := some 41) (v := ?_) (a' := ?_) #[true, true, true, true, true, true, true, true, true, true, true, true, true, false, false, false, false] rfl rfl (by kernel_rfl) (fun _ _ _ h => h) (Or.inl ⟨by rfl, ?_⟩) ?_ ?_
      rotate_left
      · intro w'
        go_simp
        with_reducible rfl
      rotate_left
      · simp only [Act.put, List.setIfInBounds_toArray, List.set_cons_zero, List.set_cons_succ, i64_w, i32_w]
        rfl
      refine pure_ (i := 13) (N := some 42) (v := ?_) (a' := ?_) #[true, true, true, true, true, true, true, true, true, true, true, true, true, true, false, false, false] rfl rfl (by kernel_rfl) (fun _ _ _ h => h) (Or.inl ⟨by rfl, ?_⟩) ?_ ?_
      rotate_left
      · intro w'
        go_simp
        with_reducible rfl
      rotate_left
      · simp only [Act.put, List.setIfInBounds_toArray, List.set_cons_zero, List.set_cons_succ, i64_w, i32_w]
        rfl
      refine pure_ (i := 14) (N := some 43) (v := ?_) (a' := ?_) #[true, true, true, true, true, true, true, true, true, true, true, true, true, true, true, false, false] rfl rfl (by kernel_rfl) (fun _ _ _ h => h) (Or.inl ⟨by rfl, ?_⟩) ?_ ?_
      rotate_left
      · intro w'
        go_simp
        with_reducible rfl
      rotate_left
      · simp only [Act.put, List.setIfInBounds_toArray, List.set_cons_zero, List.set_cons_succ, i64_w, i32_w]
        rfl
      refine pure_ (i := 15) (N := some 44) (v := ?_) (a' := ?_) #[true, true, true, true, true, true, true, true, true, true, true, true, true, true, true, true, false] rfl rfl (by kernel_rfl) (fun _ _ _ h => h) (Or.inl ⟨by rfl, ?_⟩) ?_ ?_
      rotate_left
      · intro w'
        go_simp
        with_reducible rfl
      rotate_left
      · simp only [Act.put, List.setIfInBounds_toArray, List.set_cons_zero, List.set_cons_succ, i64_w, i32_w]
        rfl
      refine last_ (i := 16) (N := none) #[true, true, true, true, true, true, true, true, true, true, true, true, true, true, true, true, true] rfl rfl (by kernel_rfl) (by decide) (fun K hK => ?_)
      refine seg.step (by rfl) rfl 38 (.tmp 44) _ (by rfl) 40 g2 3 #[.int .i64 (Int.tmod (wrap64 (rd l0 1)) 256), .int .i64 (Int.tmod (wrap64 (Int.tdiv (wrap64 (rd l0 1)) 256)) 256), .int .i64 (wrap64 (rd l0 0)), .int .i64 0, .int .u64 0, .int .i64 (Int.tmod (wrap64 (Int.tdiv (wrap64 (rd l0 1)) 65536)) 256), .int .i64 (wrap64 (Int.tdiv (wrap64 (rd l0 1)) 16777216))] #[.int .i64 (Int.tmod (wrap64 (rd l0 1)) 256), .int .i64 (Int.tmod (wrap64 (Int.tdiv (wrap64 (rd l0 1)) 256)) 256), .int .i64 (wrap64 (rd l0 0)), .int .i64 (wrap64 (rd l0 2)), .int .u64 (IntKind.u64.wrap ((IntKind.u64.wrap ((IntKind.u64.wrap (rd l0 4)) * 4294967296)) + (IntKind.u64.wrap (rd l0 3)))), .int .i64 (Int.tmod (wrap64 (Int.tdiv (wrap64 (rd l0 1)) 65536)) 256), .int .i64 (wrap64 (Int.tdiv (wrap64 (rd l0 1)) 16777216))] [.int .i64 (wrap64 (rd l0 2)), .int .u64 (IntKind.u64.wrap ((IntKind.u64.wrap ((IntKind.u64.wrap (rd l0 4)) * 4294967296)) + (IntKind.u64.wrap (rd l0 3))))] (by rfl) (by rfl) (by kernel_rfl) (by simp [Value.oneCell']) (blk_drew Bg2.out) (by simp) rfl ?_
      intro W4 bx hgr
      have Bg1_ := Aside0.mk (seg.far (blk_drew Bg1.out) hgr Ng1g2.out)
      have HB_ := Aside0.mk (seg.below (below_drew1 HB.out) hgr Gg2.out)
      clear Bg1 HB
      have Bg1 := Bg1_
      clear Bg1_
      have HB := HB_
      clear HB_
      clear Bg2
      have Bg2 := Aside0.mk bx
      clear bx hgr
      have xg20 : W4.cell? ⟨g2, 0, none⟩ = some (.int .i64 (Int.tmod (wrap64 (rd l0 1)) 256)) := (blk_cell Bg2.out 0).trans rfl
      have xg21 : W4.cell? ⟨g2, 1, none⟩ = some (.int .i64 (Int.tmod (wrap64 (Int.tdiv (wrap64 (rd l0 1)) 256)) 256)) := (blk_cell Bg2.out 1).trans rfl
      have xg22 : W4.cell? ⟨g2, 2, none⟩ = some (.int .i64 (wrap64 (rd l0 0))) := (blk_cell Bg2.out 2).trans rfl
      have xg23 : W4.cell? ⟨g2, 3, none⟩ = some (.int .i64 (wrap64 (rd l0 2))) := (blk_cell Bg2.out 3).trans rfl
      have xg24 : W4.cell? ⟨g2, 4, none⟩ = some (.int .u64 (IntKind.u64.wrap ((IntKind.u64.wrap ((IntKind.u64.wrap (rd l0 4)) * 4294967296)) + (IntKind.u64.wrap (rd l0 3))))) := (blk_cell Bg2.out 4).trans rfl
      have xg25 : W4.cell? ⟨g2, 5, none⟩ = some (.int .i64 (Int.tmod (wrap64 (Int.tdiv (wrap64 (rd l0 1)) 65536)) 256)) := (blk_cell Bg2.out 5).trans rfl
      have xg26 : W4.cell? ⟨g2, 6, none⟩ = some (.int .i64 (wrap64 (Int.tdiv (wrap64 (rd l0 1)) 16777216))) := (blk_cell Bg2.out 6).trans rfl
      refine hK.out _ _ ?_
      clear hK K
      refine done_ (by kernel_rfl) ?_
      go_wp2_with (first | (go_at_call 67; refine (vendmeterref_MeterMay.calls k (Int.tmod (wrap64 (rd l0 1)) 256) (Int.tmod (wrap64 (Int.tdiv (wrap64 (rd l0 1)) 256)) 256) (wrap64 (rd l0 0)) (wrap64 (rd l0 2)) (IntKind.u64.wrap ((IntKind.u64.wrap ((IntKind.u64.wrap (rd l0 4)) * 4294967296)) + (IntKind.u64.wrap (rd l0 3)))) (Int.tmod (wrap64 (Int.tdiv (wrap64 (rd l0 1)) 65536)) 256) (wrap64 (Int.tdiv (wrap64 (rd l0 1)) 16777216)) true _ HM.out).mono ?_; rintro e wa ⟨rfl, hb1⟩; clear xg20 xg21 xg22 xg23 xg24 xg25 xg26; have Bg1_ := Aside0.mk (blk_below Bg1.out hb1); have Bg2_ := Aside0.mk (blk_below Bg2.out hb1); have HB_ := Aside0.mk (below_step HB.out hb1); clear Bg1 Bg2 HB; have Bg1 := Bg1_; clear Bg1_; have Bg2 := Bg2_; clear Bg2_; have HB := HB_; clear HB_; have xg20 : wa.cell? ⟨g2, 0, none⟩ = some (.int .i64 (Int.tmod (wrap64 (rd l0 1)) 256)) := (blk_cell Bg2.out 0).trans rfl; have xg21 : wa.cell? ⟨g2, 1, none⟩ = some (.int .i64 (Int.tmod (wrap64 (Int.tdiv (wrap64 (rd l0 1)) 256)) 256)) := (blk_cell Bg2.out 1).trans rfl; have xg22 : wa.cell? ⟨g2, 2, none⟩ = some (.int .i64 (wrap64 (rd l0 0))) := (blk_cell Bg2.out 2).trans rfl; have xg23 : wa.cell? ⟨g2, 3, none⟩ = some (.int .i64 (wrap64 (rd l0 2))) := (blk_cell Bg2.out 3).trans rfl; have xg24 : wa.cell? ⟨g2, 4, none⟩ = some (.int .u64 (IntKind.u64.wrap ((IntKind.u64.wrap ((IntKind.u64.wrap (rd l0 4)) * 4294967296)) + (IntKind.u64.wrap (rd l0 3))))) := (blk_cell Bg2.out 4).trans rfl; have xg25 : wa.cell? ⟨g2, 5, none⟩ = some (.int .i64 (Int.tmod (wrap64 (Int.tdiv (wrap64 (rd l0 1)) 65536)) 256)) := (blk_cell Bg2.out 5).trans rfl; have xg26 : wa.cell? ⟨g2, 6, none⟩ = some (.int .i64 (wrap64 (Int.tdiv (wrap64 (rd l0 1)) 16777216))) := (blk_cell Bg2.out 6).trans rfl; clear hb1) | ((with_reducible refine gate_store (t := 40) (p := 2) rfl ?_); refine seg.list rfl rfl 40 (.tmp 2) _ rfl 40 g1 0 #[.int .i64 0, .int .i64 0, .int .i64 0, .int .i64 0, .int .u64 0, .int .i64 0, .int .i64 0] #[.int .i64 (Int.tmod (wrap64 (rd l0 1)) 256), .int .i64 (Int.tmod (wrap64 (Int.tdiv (wrap64 (rd l0 1)) 256)) 256), .int .i64 (wrap64 (rd l0 0)), .int .i64 (wrap64 (rd l0 2)), .int .u64 (IntKind.u64.wrap ((IntKind.u64.wrap ((IntKind.u64.wrap (rd l0 4)) * 4294967296)) + (IntKind.u64.wrap (rd l0 3)))), .int .i64 (Int.tmod (wrap64 (Int.tdiv (wrap64 (rd l0 1)) 65536)) 256), .int .i64 (wrap64 (Int.tdiv (wrap64 (rd l0 1)) 16777216))] [.int .i64 (Int.tmod (wrap64 (rd l0 1)) 256), .int .i64 (Int.tmod (wrap64 (Int.tdiv (wrap64 (rd l0 1)) 256)) 256), .int .i64 (wrap64 (rd l0 0)), .int .i64 (wrap64 (rd l0 2)), .int .u64 (IntKind.u64.wrap ((IntKind.u64.wrap ((IntKind.u64.wrap (rd l0 4)) * 4294967296)) + (IntKind.u64.wrap (rd l0 3)))), .int .i64 (Int.tmod (wrap64 (Int.tdiv (wrap64 (rd l0 1)) 65536)) 256), .int .i64 (wrap64 (Int.tdiv (wrap64 (rd l0 1)) 16777216))] rfl rfl (by kernel_rfl) (by simp [Value.oneCell']) Bg1.out (by simp) rfl ?_; intro W5 bx hgr; clear xg20 xg21 xg22 xg23 xg24 xg25 xg26; have Bg2_ := Aside0.mk (seg.far Bg2.out hgr (Ne.symm Ng1g2.out)); have HB_ := Aside0.mk (seg.below HB.out hgr Gg1.out); clear Bg2 HB; have Bg2 := Bg2_; clear Bg2_; have HB := HB_; clear HB_; clear Bg1; have Bg1 := Aside0.mk bx; clear bx hgr; skip))
      refine bodyPost_ret (results_list (rs := [.cell 2 40, .tmp 3]) rfl (by simp) (.cell g1 40 #[.int .i64 (Int.tmod (wrap64 (rd l0 1)) 256), .int .i64 (Int.tmod (wrap64 (Int.tdiv (wrap64 (rd l0 1)) 256)) 256), .int .i64 (wrap64 (rd l0 0)), .int .i64 (wrap64 (rd l0 2)), .int .u64 (IntKind.u64.wrap ((IntKind.u64.wrap ((IntKind.u64.wrap (rd l0 4)) * 4294967296)) + (IntKind.u64.wrap (rd l0 3)))), .int .i64 (Int.tmod (wrap64 (Int.tdiv (wrap64 (rd l0 1)) 65536)) 256), .int .i64 (wrap64 (Int.tdiv (wrap64 (rd l0 1)) 16777216))] (0, 0) _ rfl Bg1.out Try.underlying40 rfl (by kernel_rfl) (.tmp .nil))) rfl ?_
      exact ⟨rfl, HB.out⟩
    · rw [if_neg h1] at h
      replace h1 := Bool.eq_false_iff.mpr h1
      subst h1
      simp only [Option.some.injEq, Prod.mk.injEq] at h
      obtain ⟨rfl, rfl, rfl, rfl, rfl, rfl, rfl, rfl⟩ := h
      go_enter Try.func103, Try.ntmps103
      go_wp2_with (first | ((with_reducible refine gate_dst (N := 2) rfl ?_); refine box_event ?hg (N := 2) ?hd (cs := #[.int .i64 0, .int .i64 0, .int .i64 0, .int .i64 0, .int .u64 0, .int .i64 0, .int .i64 0]) (t := 40) ?hr ?_; (case hd => rfl); (case hg => rfl); (case hr => first | (go_simp; done) | (go_simp; rfl)); intro g1 hgq W1 hbox hb; have Gg1 := Aside0.mk (by rw [hgq]; exact below_size HB.out : w.heap.size ≤ g1); have HB_ := Aside0.mk (below_step HB.out hb); clear HB; have HB := HB_; clear HB_; have Bg1 := Aside0.mk hbox; clear hb hbox hgq; have y0 := pw_cell_below HB.out X0.out; have y1 := pw_cell_below HB.out X1.out; have y2 := pw_cell_below HB.out X2.out; have y3 := pw_cell_below HB.out X3.out; have y4 := pw_cell_below HB.out X4.out; skip) | ((with_reducible refine gate_dst (N := 5) rfl ?_); refine box_event ?hg (N := 5) ?hd (cs := #[.int .i64 0, .int .i64 0, .int .i64 0, .int .i64 0, .int .u64 0, .int .i64 0, .int .i64 0]) (t := 40) ?hr ?_; (case hd => rfl); (case hg => rfl); (case hr => first | (go_simp; done) | (go_simp; rfl)); intro g2 hgq W2 hbox hb; have Ng1g2 := Aside0.mk (by rw [hgq]; exact Nat.ne_of_lt (blk_lt Bg1.out) : g1 ≠ g2); have Gg2 := Aside0.mk (by rw [hgq]; exact below_size HB.out : w.heap.size ≤ g2); have Bg1_ := Aside0.mk (blk_below Bg1.out hb); have HB_ := Aside0.mk (below_step HB.out hb); clear Bg1 HB; have Bg1 := Bg1_; clear Bg1_; have HB := HB_; clear HB_; have Bg2 := Aside0.mk hbox; clear hb hbox hgq; clear y0 y1 y2 y3 y4; have y0 := pw_cell_below HB.out X0.out; have y1 := pw_cell_below HB.out X1.out; have y2 := pw_cell_below HB.out X2.out; have y3 := pw_cell_below HB.out X3.out; have y4 := pw_cell_below HB.out X4.out; skip) | ((with_reducible refine gate_store (t := 40) (p := 5) rfl ?_); refine seg.list rfl rfl 40 (.tmp 5) _ rfl 40 g2 0 #[.int .i64 0, .int .i64 0, .int .i64 0, .int .i64 0, .int .u64 0, .int .i64 0, .int .i64 0] #[.int .i64 (Int.tmod (wrap64 (rd l0 1)) 256), .int .i64 (Int.tmod (wrap64 (Int.tdiv (wrap64 (rd l0 1)) 256)) 256), .int .i64 (wrap64 (rd l0 0)), .int .i64 0, .int .u64 0, .int .i64 (Int.tmod (wrap64 (Int.tdiv (wrap64 (rd l0 1)) 65536)) 256), .int .i64 (wrap64 (Int.tdiv (wrap64 (rd l0 1)) 16777216))] [.int .i64 (Int.tmod (wrap64 (rd l0 1)) 256), .int .i64 (Int.tmod (wrap64 (Int.tdiv (wrap64 (rd l0 1)) 256)) 256), .int .i64 (wrap64 (rd l0 0)), .int .i64 0, .int .u64 0, .int .i64 (Int.tmod (wrap64 (Int.tdiv (wrap64 (rd l0 1)) 65536)) 256), .int .i64 (wrap64 (Int.tdiv (wrap64 (rd l0 1)) 16777216))] rfl rfl (by kernel_rfl) (by simp [Value.oneCell']) Bg2.out (by simp) rfl ?_; intro W3 bx hgr; have Bg1_ := Aside0.mk (seg.far Bg1.out hgr Ng1g2.out); have HB_ := Aside0.mk (seg.below HB.out hgr Gg2.out); clear Bg1 HB; have Bg1 := Bg1_; clear Bg1_; have HB := HB_; clear HB_; clear Bg2; have Bg2 := Aside0.mk bx; clear bx hgr; clear y0 y1 y2 y3 y4; have y0 := pw_cell_below HB.out X0.out; have y1 := pw_cell_below HB.out X1.out; have y2 := pw_cell_below HB.out X2.out; have y3 := pw_cell_below HB.out X3.out; have y4 := pw_cell_below HB.out X4.out; skip))
      refine start_ (n := 17) (S := fun w' => w'.cell? ⟨ad.block, ad.off + 2, none⟩ = some (.int .u32 (rd l0 2)) ∧ w'.cell? ⟨ad.block, ad.off + 4, none⟩ = some (.int .u32 (rd l0 4)) ∧ w'.cell? ⟨ad.block, ad.off + 3, none⟩ = some (.int .u32 (rd l0 3))) (ds := [16]) #[false, false, false, false, false, false, false, false, false, false, false, false, false, false, false, false, false] (by kernel_rfl) rfl rfl ⟨y2, y4, y3⟩ (fun hHeld => ?_)
      refine pure_ (i := 0) (N := some 29) (v := ?_) (a' := ?_) #[true, false, false, false, false, false, false, false, false, false, false, false, false, false, false, false, false] rfl rfl (by kernel_rfl) (fun _ _ _ h => h) (Or.inl ⟨by rfl, ?_⟩) ?_ ?_
      rotate_left
      · intro w'
        go_simp
        with_reducible rfl
      rotate_left
      · simp only [Act.put, List.setIfInBounds_toArray, List.set_cons_zero, List.set_cons_succ, i64_w, i32_w]
        rfl
      refine pure_ (i := 1) (N := some 30) (v := ?_) (a' := ?_) #[true, true, false, false, false, false, false, false, false, false, false, false, false, false, false, false, false] rfl rfl (by kernel_rfl) (fun _ _ _ h => h) (Or.inl ⟨by rfl, ?_⟩) ?_ ?_
      rotate_left
      · intro w'
        go_simp
        with_reducible rfl
      rotate_left
      · simp only [Act.put, List.setIfInBounds_toArray, List.set_cons_zero, List.set_cons_succ, i64_w, i32_w]
        rfl
      refine pure_ (i := 4) (N := some 33) (v := ?_) (a' := ?_) #[true, true, false, false, true, false, false, false, false, false, false, false, false, false, false, false, false] rfl rfl (by kernel_rfl) (fun _ _ _ h => h) (Or.inl ⟨by rfl, ?_⟩) ?_ ?_
      rotate_left
      · intro w'
        go_simp
        with_reducible rfl
      rotate_left
      · simp only [Act.put, List.setIfInBounds_toArray, List.set_cons_zero, List.set_cons_succ, i64_w, i32_w]
        rfl
      refine pure_ (i := 5) (N := some 34) (v := ?_) (a' := ?_) #[true, true, false, false, true, true, false, false, false, false, false, false, false, false, false, false, false] rfl rfl (by kernel_rfl) (fun _ _ _ h => h) (Or.inl ⟨by rfl, ?_⟩) ?_ ?_
      rotate_left
      · intro w'
        go_simp
        with_reducible rfl
      rotate_left
      · simp only [Act.put, List.setIfInBounds_toArray, List.set_cons_zero, List.set_cons_succ, i64_w, i32_w]
        rfl
      refine pure_ (i := 9) (N := some 38) (v := ?_) (a' := ?_) #[true, true, false, false, true, true, false, false, false, true, false, false, false, false, false, false, false] rfl rfl (by kernel_rfl) (fun _ _ _ h => h) (Or.inl ⟨by rfl, ?_⟩) ?_ ?_
      rotate_left
      · intro w'
        go_simp
        with_reducible rfl
      rotate_left
      · simp only [Act.put, List.setIfInBounds_toArray, List.set_cons_zero, List.set_cons_succ, i64_w, i32_w]
        rfl
      refine pure_ (i := 10) (N := some 39) (v := ?_) (a' := ?_) #[true, true, false, false, true, true, false, false, false, true, true, false, false, false, false, false, false] rfl rfl (by kernel_rfl) (fun _ _ _ h => h) (Or.inl ⟨by rfl, ?_⟩) ?_ ?_
      rotate_left
      · intro w'
        go_simp
        with_reducible rfl
      rotate_left
      · simp only [Act.put, List.setIfInBounds_toArray, List.set_cons_zero, List.set_cons_succ, i64_w, i32_w]
        rfl
      refine take_ (i := 2) (N := some 31) (v := ?_) (a' := ?_) #[true, true, true, false, true, true, false, false, false, true, true, false, false, false, false, false, false] rfl rfl (by kernel_rfl) (fun _ _ _ h => h) (Or.inl ⟨by rfl, ?_⟩) hHeld ?_ ?_
      rotate_left
      · rintro w' ⟨s0, s1, s2⟩
        go_simp
        with_reducible rfl
      rotate_left
      · simp only [Act.put, List.setIfInBounds_toArray, List.set_cons_zero, List.set_cons_succ, i64_w, i32_w]
        rfl
      refine pure_ (i := 3) (N := some 32) (v := ?_) (a' := ?_) #[true, true, true, true, true, true, false, false, false, true, true, false, false, false, false, false, false] rfl rfl (by kernel_rfl) (fun _ _ _ h => h) (Or.inl ⟨by rfl, ?_⟩) ?_ ?_
      rotate_left
      · intro w'
        go_simp
        with_reducible rfl
      rotate_left
      · simp only [Act.put, List.setIfInBounds_toArray, List.set_cons_zero, List.set_cons_succ, i64_w, i32_w]
        rfl
      refine take_ (i := 6) (N := some 35) (v := ?_) (a' := ?_) #[true, true, true, true, true, true, true, false, false, true, true, false, false, false, false, false, false] rfl rfl (by kernel_rfl) (fun _ _ _ h => h) (Or.inl ⟨by rfl, ?_⟩) hHeld ?_ ?_
      rotate_left
      · rintro w' ⟨s0, s1, s2⟩
        go_simp
        with_reducible rfl
      rotate_left
      · simp only [Act.put, List.setIfInBounds_toArray, List.set_cons_zero, List.set_cons_succ, i64_w, i32_w]
        rfl
      refine pure_ (i := 7) (N := some 36) (v := ?_) (a' := ?_) #[true, true, true, true, true, true, true, true, false, true, true, false, false, false, false, false, false] rfl rfl (by kernel_rfl) (fun _ _ _ h => h) (Or.inl ⟨by rfl, ?_⟩) ?_ ?_
      rotate_left
      · intro w'
        go_simp
        with_reducible rfl
      rotate_left
      · simp only [Act.put, List.setIfInBounds_toArray, List.set_cons_zero, List.set_cons_succ, i64_w, i32_w]
        rfl
      refine pure_ (i := 8) (N := some 37) (v := ?_) (a' := ?_) #[true, true, true, true, true, true, true, true, true, true, true, false, false, false, false, false, false] rfl rfl (by kernel_rfl) (fun _ _ _ h => h) (Or.inl ⟨by rfl, ?_⟩) ?_ ?_
      rotate_left
      · intro w'
        go_simp
        with_reducible rfl
      rotate_left
      · simp only [Act.put, List.setIfInBounds_toArray, List.set_cons_zero, List.set_cons_succ, i64_w, i32_w]
        rfl
      refine take_ (i := 11) (N := some 40) (v := ?_) (a' := ?_) #[true, true, true, true, true, true, true, true, true, true, true, true, false, false, false, false, false] rfl rfl (by kernel_rfl) (fun _ _ _ h => h) (Or.inl ⟨by rfl, ?_⟩) hHeld ?_ ?_
      rotate_left
      · rintro w' ⟨s0, s1, s2⟩
        go_simp
        with_reducible rfl
      rotate_left
      · simp only [Act.put, List.setIfInBounds_toArray, List.set_cons_zero, List.set_cons_succ, i64_w, i32_w]
        rfl
      refine pure_ (i := 12) (N := some 41) (v := ?_) (a' := ?_) #[true, true, true, true, true, true, true, true, true, true, true, true, true, false, false, false, false] rfl rfl (by kernel_rfl) (fun _ _ _ h => h) (Or.inl ⟨by rfl, ?_⟩) ?_ ?_
      rotate_left
      · intro w'
        go_simp
        with_reducible rfl
      rotate_left
      · simp only [Act.put, List.setIfInBounds_toArray, List.set_cons_zero, List.set_cons_succ, i64_w, i32_w]
        rfl
      refine pure_ (i := 13) (N := some 42) (v := ?_) (a' := ?_) #[true, true, true, true, true, true, true, true, true, true, true, true, true, true, false, false, false] rfl rfl (by kernel_rfl) (fun _ _ _ h => h) (Or.inl ⟨by rfl, ?_⟩) ?_ ?_
      rotate_left
      · intro w'
        go_simp
        with_reducible rfl
      rotate_left
      · simp only [Act.put, List.setIfInBounds_toArray, List.set_cons_zero, List.set_cons_succ, i64_w, i32_w]
        rfl
      refine pure_ (i := 14) (N := some 43) (v := ?_) (a' := ?_) #[true, true, true, true, true, true, true, true, true, true, true, true, true, true, true, false, false] rfl rfl (by kernel_rfl) (fun _ _ _ h => h) (Or.inl ⟨by rfl, ?_⟩) ?_ ?_
      rotate_left
      · intro w'
        go_simp
        with_reducible rfl
      rotate_left
      · simp only [Act.put, List.setIfInBounds_toArray, List.set_cons_zero, List.set_cons_succ, i64_w, i32_w]
        rfl
      refine pure_ (i := 15) (N := some 44) (v := ?_) (a' := ?_) #[true, true, true, true, true, true, true, true, true, true, true, true, true, true, true, true, false] rfl rfl (by kernel_rfl) (fun _ _ _ h => h) (Or.inl ⟨by rfl, ?_⟩) ?_ ?_
      rotate_left
      · intro w'
        go_simp
        with_reducible rfl
      rotate_left
      · simp only [Act.put, List.setIfInBounds_toArray, List.set_cons_zero, List.set_cons_succ, i64_w, i32_w]
        rfl
      refine last_ (i := 16) (N := none) #[true, true, true, true, true, true, true, true, true, true, true, true, true, true, true, true, true] rfl rfl (by kernel_rfl) (by decide) (fun K hK => ?_)
      refine seg.step (by rfl) rfl 38 (.tmp 44) _ (by rfl) 40 g2 3 #[.int .i64 (Int.tmod (wrap64 (rd l0 1)) 256), .int .i64 (Int.tmod (wrap64 (Int.tdiv (wrap64 (rd l0 1)) 256)) 256), .int .i64 (wrap64 (rd l0 0)), .int .i64 0, .int .u64 0, .int .i64 (Int.tmod (wrap64 (Int.tdiv (wrap64 (rd l0 1)) 65536)) 256), .int .i64 (wrap64 (Int.tdiv (wrap64 (rd l0 1)) 16777216))] #[.int .i64 (Int.tmod (wrap64 (rd l0 1)) 256), .int .i64 (Int.tmod (wrap64 (Int.tdiv (wrap64 (rd l0 1)) 256)) 256), .int .i64 (wrap64 (rd l0 0)), .int .i64 (wrap64 (rd l0 2)), .int .u64 (IntKind.u64.wrap ((IntKind.u64.wrap ((IntKind.u64.wrap (rd l0 4)) * 4294967296)) + (IntKind.u64.wrap (rd l0 3)))), .int .i64 (Int.tmod (wrap64 (Int.tdiv (wrap64 (rd l0 1)) 65536)) 256), .int .i64 (wrap64 (Int.tdiv (wrap64 (rd l0 1)) 16777216))] [.int .i64 (wrap64 (rd l0 2)), .int .u64 (IntKind.u64.wrap ((IntKind.u64.wrap ((IntKind.u64.wrap (rd l0 4)) * 4294967296)) + (IntKind.u64.wrap (rd l0 3))))] (by rfl) (by rfl) (by kernel_rfl) (by simp [Value.oneCell']) (blk_drew Bg2.out) (by simp) rfl ?_
      intro W4 bx hgr
      have Bg1_ := Aside0.mk (seg.far (blk_drew Bg1.out) hgr Ng1g2.out)
      have HB_ := Aside0.mk (seg.below (below_drew1 HB.out) hgr Gg2.out)
      clear Bg1 HB
      have Bg1 := Bg1_
      clear Bg1_
      have HB := HB_
      clear HB_
      clear Bg2
      have Bg2 := Aside0.mk bx
      clear bx hgr
      have xg20 : W4.cell? ⟨g2, 0, none⟩ = some (.int .i64 (Int.tmod (wrap64 (rd l0 1)) 256)) := (blk_cell Bg2.out 0).trans rfl
      have xg21 : W4.cell? ⟨g2, 1, none⟩ = some (.int .i64 (Int.tmod (wrap64 (Int.tdiv (wrap64 (rd l0 1)) 256)) 256)) := (blk_cell Bg2.out 1).trans rfl
      have xg22 : W4.cell? ⟨g2, 2, none⟩ = some (.int .i64 (wrap64 (rd l0 0))) := (blk_cell Bg2.out 2).trans rfl
      have xg23 : W4.cell? ⟨g2, 3, none⟩ = some (.int .i64 (wrap64 (rd l0 2))) := (blk_cell Bg2.out 3).trans rfl
      have xg24 : W4.cell? ⟨g2, 4, none⟩ = some (.int .u64 (IntKind.u64.wrap ((IntKind.u64.wrap ((IntKind.u64.wrap (rd l0 4)) * 4294967296)) + (IntKind.u64.wrap (rd l0 3))))) := (blk_cell Bg2.out 4).trans rfl
      have xg25 : W4.cell? ⟨g2, 5, none⟩ = some (.int .i64 (Int.tmod (wrap64 (Int.tdiv (wrap64 (rd l0 1)) 65536)) 256)) := (blk_cell Bg2.out 5).trans rfl
      have xg26 : W4.cell? ⟨g2, 6, none⟩ = some (.int .i64 (wrap64 (Int.tdiv (wrap64 (rd l0 1)) 16777216))) := (blk_cell Bg2.out 6).trans rfl
      refine hK.out _ _ ?_
      clear hK K
      refine done_ (by kernel_rfl) ?_
      go_wp2_with (first | (go_at_call 67; refine (vendmeterref_MeterMay.calls k (Int.tmod (wrap64 (rd l0 1)) 256) (Int.tmod (wrap64 (Int.tdiv (wrap64 (rd l0 1)) 256)) 256) (wrap64 (rd l0 0)) (wrap64 (rd l0 2)) (IntKind.u64.wrap ((IntKind.u64.wrap ((IntKind.u64.wrap (rd l0 4)) * 4294967296)) + (IntKind.u64.wrap (rd l0 3)))) (Int.tmod (wrap64 (Int.tdiv (wrap64 (rd l0 1)) 65536)) 256) (wrap64 (Int.tdiv (wrap64 (rd l0 1)) 16777216)) false _ HM.out).mono ?_; rintro e wa ⟨rfl, hb1⟩; clear xg20 xg21 xg22 xg23 xg24 xg25 xg26; have Bg1_ := Aside0.mk (blk_below Bg1.out hb1); have Bg2_ := Aside0.mk (blk_below Bg2.out hb1); have HB_ := Aside0.mk (below_step HB.out hb1); clear Bg1 Bg2 HB; have Bg1 := Bg1_; clear Bg1_; have Bg2 := Bg2_; clear Bg2_; have HB := HB_; clear HB_; have xg20 : wa.cell? ⟨g2, 0, none⟩ = some (.int .i64 (Int.tmod (wrap64 (rd l0 1)) 256)) := (blk_cell Bg2.out 0).trans rfl; have xg21 : wa.cell? ⟨g2, 1, none⟩ = some (.int .i64 (Int.tmod (wrap64 (Int.tdiv (wrap64 (rd l0 1)) 256)) 256)) := (blk_cell Bg2.out 1).trans rfl; have xg22 : wa.cell? ⟨g2, 2, none⟩ = some (.int .i64 (wrap64 (rd l0 0))) := (blk_cell Bg2.out 2).trans rfl; have xg23 : wa.cell? ⟨g2, 3, none⟩ = some (.int .i64 (wrap64 (rd l0 2))) := (blk_cell Bg2.out 3).trans rfl; have xg24 : wa.cell? ⟨g2, 4, none⟩ = some (.int .u64 (IntKind.u64.wrap ((IntKind.u64.wrap ((IntKind.u64.wrap (rd l0 4)) * 4294967296)) + (IntKind.u64.wrap (rd l0 3))))) := (blk_cell Bg2.out 4).trans rfl; have xg25 : wa.cell? ⟨g2, 5, none⟩ = some (.int .i64 (Int.tmod (wrap64 (Int.tdiv (wrap64 (rd l0 1)) 65536)) 256)) := (blk_cell Bg2.out 5).trans rfl; have xg26 : wa.cell? ⟨g2, 6, none⟩ = some (.int .i64 (wrap64 (Int.tdiv (wrap64 (rd l0 1)) 16777216))) := (blk_cell Bg2.out 6).trans rfl; clear hb1) | ((with_reducible refine gate_store (t := 40) (p := 2) rfl ?_); refine seg.list rfl rfl 40 (.tmp 2) _ rfl 40 g1 0 #[.int .i64 0, .int .i64 0, .int .i64 0, .int .i64 0, .int .u64 0, .int .i64 0, .int .i64 0] #[.int .i64 0, .int .i64 0, .int .i64 0, .int .i64 0, .int .u64 0, .int .i64 0, .int .i64 0] [.int .i64 0, .int .i64 0, .int .i64 0, .int .i64 0, .int .u64 0, .int .i64 0, .int .i64 0] rfl rfl (by kernel_rfl) (by simp [Value.oneCell']) Bg1.out (by simp) rfl ?_; intro W5 bx hgr; clear xg20 xg21 xg22 xg23 xg24 xg25 xg26; have Bg2_ := Aside0.mk (seg.far Bg2.out hgr (Ne.symm Ng1g2.out)); have HB_ := Aside0.mk (seg.below HB.out hgr Gg1.out); clear Bg2 HB; have Bg2 := Bg2_; clear Bg2_; have HB := HB_; clear HB_; clear Bg1; have Bg1 := Aside0.mk bx; clear bx hgr; skip))
      refine bodyPost_ret (results_list (rs := [.cell 2 40, .tmp 3]) rfl (by simp) (.cell g1 40 #[.int .i64 0, .int .i64 0, .int .i64 0, .int .i64 0, .int .u64 0, .int .i64 0, .int .i64 0] (0, 0) _ rfl Bg1.out Try.underlying40 rfl (by kernel_rfl) (.tmp .nil))) rfl ?_
      exact ⟨rfl, HB.out⟩
  · rw [if_neg c1] at h
    simp only [Option.some.injEq, Prod.mk.injEq] at h
    obtain ⟨rfl, rfl, rfl, rfl, rfl, rfl, rfl, rfl⟩ := h
    have q1 : ((l0.length : Int) != 5) = true := bne_iff_ne.mpr c1
    clear c1
    go_enter Try.func103, Try.ntmps103
    go_wp2_with (first | ((with_reducible refine gate_dst (N := 2) rfl ?_); refine box_event ?hg (N := 2) ?hd (cs := #[.int .i64 0, .int .i64 0, .int .i64 0, .int .i64 0, .int .u64 0, .int .i64 0, .int .i64 0]) (t := 40) ?hr ?_; (case hd => rfl); (case hg => rfl); (case hr => first | (go_simp; done) | (go_simp; rfl)); intro g1 hgq W1 hbox hb; have Gg1 := Aside0.mk (by rw [hgq]; exact below_size HB.out : w.heap.size ≤ g1); have HB_ := Aside0.mk (below_step HB.out hb); clear HB; have HB := HB_; clear HB_; have Bg1 := Aside0.mk hbox; clear hb hbox hgq; skip) | ((with_reducible refine gate_store (t := 40) (p := 2) rfl ?_); refine seg.list rfl rfl 40 (.tmp 2) _ rfl 40 g1 0 #[.int .i64 0, .int .i64 0, .int .i64 0, .int .i64 0, .int .u64 0, .int .i64 0, .int .i64 0] #[.int .i64 0, .int .i64 0, .int .i64 0, .int .i64 0, .int .u64 0, .int .i64 0, .int .i64 0] [.int .i64 0, .int .i64 0, .int .i64 0, .int .i64 0, .int .u64 0, .int .i64 0, .int .i64 0] rfl rfl (by kernel_rfl) (by simp [Value.oneCell']) Bg1.out (by simp) rfl ?_; intro W2 bx hgr; have HB_ := Aside0.mk (seg.below HB.out hgr Gg1.out); clear HB; have HB := HB_; clear HB_; clear Bg1; have Bg1 := Aside0.mk bx; clear bx hgr; skip))
    refine bodyPost_ret (results_list (rs := [.cell 2 40, .tmp 3]) rfl (by simp) (.cell g1 40 #[.int .i64 0, .int .i64 0, .int .i64 0, .int .i64 0, .int .u64 0, .int .i64 0, .int .i64 0] (0, 0) _ rfl Bg1.out Try.underlying40 rfl (by kernel_rfl) (.tmp .nil))) rfl ?_
    exact ⟨rfl, HB.out⟩

/-! ### vendmeterref_Booted: function 59 -/
def vendmeterref_Booted.f (k : Nat) (l0 : List Int) : Option (Int × Int × Int × Int × Int × Int × Int × Int) := (vendmeterref_SlotLoaded.f k l0 5).bind fun bt235 => (if bt235.2 = 0 then ((vendmeterref_MeterRead.f k bt235.1).bind fun bt239 => (some (bt239.1, bt239.2.1, bt239.2.2.1, bt239.2.2.2.1, bt239.2.2.2.2.1, bt239.2.2.2.2.2.1, bt239.2.2.2.2.2.2.1, bt239.2.2.2.2.2.2.2))) else (some (0, 0, 0, 0, 0, 0, 0, bt235.2)))
theorem vendmeterref_Booted.mono : ∀ a0 k, LeO (vendmeterref_Booted.f k a0) (vendmeterref_Booted.f (k + 1) a0) := by
  intro a0 k
  unfold vendmeterref_Booted.f
  repeat' first
      | (with_reducible exact vendmeterref_MeterRead.mono _ _)
      | (with_reducible exact vendmeterref_SlotLoaded.mono _ _ _)
      | (with_reducible exact LeO.refl _)
      | (with_reducible exact LeO.none _)
      | (with_reducible refine LeO.ite ?_ ?_)
      | (with_reducible refine LeO.bind ?_ (fun _ => ?_))
      | exact vendmeterref_MeterRead.mono _ _
      | exact vendmeterref_SlotLoaded.mono _ _ _
      | exact LeO.none _
      | refine LeO.ite ?_ ?_
      | refine LeO.bind ?_ (fun _ => ?_)
set_option maxHeartbeats 8000000 in
set_option maxRecDepth 100000 in
theorem vendmeterref_Booted.calls (k : Nat) (A0 : Option Addr) (c0 : Nat) (l0 : List Int) (r1 : Int) (r2 : Int) (r3 : Int) (r4 : Int) (r5 : Int) (r6 : Int) (r7 : Int) (r8 : Int) (w : World) (hr0 : Kd.C (Kd.int .u32) w A0 l0.length l0) (hc0 : l0.length ≤ c0) (h : vendmeterref_Booted.f k l0 = some (r1, r2, r3, r4, r5, r6, r7, r8)) :
    Calls Try.prog 59 #[.slice A0 l0.length c0] w fun e w' => e = .returned (.tuple #[.agg #[.int .i64 r1, .int .i64 r2, .int .i64 r3, .int .i64 r4, .int .u64 r5, .int .i64 r6, .int .i64 r7], .int .i64 r8]) ∧ Below w.heap.size w w' := by
  have hu40 := Try.underlying40
  have HR0 := Aside0.mk hr0
  have HC0 := Aside0.mk hc0
  clear hr0 hc0
  have HB := Aside0.mk (Below.refl w.heap.size w)
  have H : ((vendmeterref_SlotLoaded.f k l0 5).bind fun bt235 => (if bt235.2 = 0 then ((vendmeterref_MeterRead.f k bt235.1).bind fun bt239 => (some (bt239.1, bt239.2.1, bt239.2.2.1, bt239.2.2.2.1, bt239.2.2.2.2.1, bt239.2.2.2.2.2.1, bt239.2.2.2.2.2.2.1, bt239.2.2.2.2.2.2.2))) else (some (0, 0, 0, 0, 0, 0, 0, bt235.2)))) = some (r1, r2, r3, r4, r5, r6, r7, r8) := h
  clear h
  replace H := Option.bind_eq_some_iff.mp H
  obtain ⟨⟨t235, t236⟩, A20, H⟩ := H
  replace H : (if t236 = 0 then ((vendmeterref_MeterRead.f k t235).bind fun bt239 => (some (bt239.1, bt239.2.1, bt239.2.2.1, bt239.2.2.2.1, bt239.2.2.2.2.1, bt239.2.2.2.2.2.1, bt239.2.2.2.2.2.2.1, bt239.2.2.2.2.2.2.2))) else (some (0, 0, 0, 0, 0, 0, 0, t236))) = some (r1, r2, r3, r4, r5, r6, r7, r8) := H
  have A2 := Aside0.mk A20
  clear A20
  by_cases c3 : t236 = 0
  · rw [if_pos c3] at H
    have c3b0 : (t236 == 0) = true := beq_iff_eq.mpr c3
    have c3b1 : (t236 != 0) = false := bne_eq_false_iff_eq.mpr c3
    clear c3
    replace H := Option.bind_eq_some_iff.mp H
    obtain ⟨⟨t239, t240, t241, t242, t243, t244, t245, t246⟩, A40, H⟩ := H
    replace H : (some (t239, t240, t241, t242, t243, t244, t245, t246)) = some (r1, r2, r3, r4, r5, r6, r7, r8) := H
    have A4 := Aside0.mk A40
    clear A40
    simp only [Option.some.injEq, Prod.mk.injEq] at H
    obtain ⟨rfl, rfl, rfl, rfl, rfl, rfl, rfl, rfl⟩ := H
    go_enter Try.func59, Try.ntmps59
    go_wp2_with (first | ((with_reducible refine gate_dst (N := 2) rfl ?_); refine box_event ?hg (N := 2) ?hd (cs := #[.int .i64 0, .int .i64 0, .int .i64 0, .int .i64 0, .int .u64 0, .int .i64 0, .int .i64 0]) (t := 40) ?hr ?_; (case hd => rfl); (case hg => rfl); (case hr => first | (go_simp; done) | (go_simp; rfl)); intro gb234 hg w5 hbox hb; have n0_ := Aside0.mk (below_step (by repeat (first | (with_reducible first | exact HB.out | apply below_alloc | apply pw_below_drewN | apply below_drew1) | exact HB.out)) hb); have n1_ := Aside0.mk (hbox); have n2_ := Aside0.mk ((by rw [hg]; exact (below_size (by repeat (first | (with_reducible first | exact HB.out | apply below_alloc | apply pw_below_drewN | apply below_drew1) | exact HB.out))) : w.heap.size ≤ gb234)); have n3_ := Aside0.mk ((by rw [hg]; exact (below_size (by repeat (first | (with_reducible first | exact HB.out | apply below_alloc | apply pw_below_drewN | apply below_drew1) | exact HB.out))) : w.heap.size ≤ gb234)); clear HB; have HB := n0_; have BK234 := n1_; have GW234 := n2_; have GE234 := n3_; clear n0_ n1_ n2_ n3_; clear hb hbox hg) | ((with_reducible refine gate_callee (f := 102) rfl ?_); refine goesL_ (some 10) rfl rfl Try.func102 (by kernel_rfl) rfl #[.slice A0 l0.length c0, .int .i64 5] rfl (by (try simp only [List.map_toArray, List.map_cons, List.map_nil]); first | done | rfl | (simp only [List.length_drop, List.length_take]; rfl)) ?_; (with_reducible refine (vendmeterref_SlotLoaded.calls k _ _ l0 5 t235 t236 _ ?side1 ?side2 A2.out).mono ?_); (case side1 => repeat (first | exact (Kd.C_below HR0.out HB.out) | (with_reducible refine Kd.C_alloc ?_ _) | (with_reducible refine Kd.C_drewN ?_ _) | (with_reducible refine Kd.C_drew ?_))); (case side2 => exact HC0.out); rintro e w6 ⟨v237, rfl, ho0, hb⟩; refine ⟨_, rfl, ?_⟩; have n0_ := Aside0.mk (Kd.R_lower ho0 (below_size (by repeat (first | (with_reducible first | exact HB.out | apply below_alloc | apply pw_below_drewN | apply below_drew1 | refine below_set ?_ GE234.out) | exact HB.out)))); have n1_ := Aside0.mk (blk_below (g := gb234) (o := .cells #[.int .i64 0, .int .i64 0, .int .i64 0, .int .i64 0, .int .u64 0, .int .i64 0, .int .i64 0] 40 (0, 0)) (by (with_reducible repeat (first | refine blk_drewN ?_ _ | refine blk_drew ?_ | refine blk_alloc ?_ _)); exact BK234.out) hb); have n2_ := Aside0.mk (below_step (by repeat (first | (with_reducible first | exact HB.out | apply below_alloc | apply pw_below_drewN | apply below_drew1 | refine below_set ?_ GE234.out) | exact HB.out)) hb); clear BK234; clear HB; have HO238 := n0_; have BK234 := n1_; have HB := n2_; clear n0_ n1_ n2_; (try clear hb); (try clear hb2); (try clear hk); (try clear hi); (try clear ho0); obtain ⟨Ao7, co7, eo7⟩ := Kd.R_slice HO238.out; subst eo7) | ((with_reducible refine gate_callee (f := 103) rfl ?_); refine goesL_ (some 19) rfl rfl Try.func103 (by kernel_rfl) rfl #[.slice Ao7 t235.length co7] rfl (by (try simp only [List.map_toArray, List.map_cons, List.map_nil]); first | done | rfl | (simp only [List.length_drop, List.length_take]; rfl)) ?_; (with_reducible refine (vendmeterref_MeterRead.calls k _ _ t235 t239 t240 t241 t242 t243 t244 t245 t246 _ ?side1 ?side2 A4.out).mono ?_); (case side1 => repeat (first | exact (Kd.R_reads' HO238.out).2.2 | (with_reducible refine Kd.C_alloc ?_ _) | (with_reducible refine Kd.C_drewN ?_ _) | (with_reducible refine Kd.C_drew ?_))); (case side2 => exact (Kd.R_reads' HO238.out).2.1); rintro e w8 ⟨rfl, hb⟩; refine ⟨_, rfl, ?_⟩; have n0_ := Aside0.mk (Kd.R_below (by (with_reducible repeat (first | apply Kd.R_alloc | apply Kd.R_drewN | apply Kd.R_drew)); exact HO238.out) hb); have n1_ := Aside0.mk (blk_below (g := gb234) (o := .cells #[.int .i64 0, .int .i64 0, .int .i64 0, .int .i64 0, .int .u64 0, .int .i64 0, .int .i64 0] 40 (0, 0)) (by (with_reducible repeat (first | refine blk_drewN ?_ _ | refine blk_drew ?_ | refine blk_alloc ?_ _)); exact BK234.out) hb); have n2_ := Aside0.mk (below_step (by repeat (first | (with_reducible first | exact HB.out | apply below_alloc | apply pw_below_drewN | apply below_drew1 | refine below_set ?_ GE234.out) | exact HB.out)) hb); clear HO238; clear BK234; clear HB; have HO238 := n0_; have BK234 := n1_; have HB := n2_; clear n0_ n1_ n2_; (try clear hb); (try clear hb2); (try clear hk); (try clear hi)) | ((with_reducible refine gate_dst (N := 6) rfl ?_); refine box_event ?hg (N := 6) ?hd (cs := #[.int .i64 0, .int .i64 0, .int .i64 0, .int .i64 0, .int .u64 0, .int .i64 0, .int .i64 0]) (t := 40) ?hr ?_; (case hd => rfl); (case hg => rfl); (case hr => first | (go_simp; done) | (go_simp; rfl)); intro gb247 hg w9 hbox hb; have n0_ := Aside0.mk (Kd.R_below (by (with_reducible repeat (first | apply Kd.R_alloc | apply Kd.R_drewN | apply Kd.R_drew)); exact HO238.out) hb); have n1_ := Aside0.mk (blk_below (g := gb234) (o := .cells #[.int .i64 0, .int .i64 0, .int .i64 0, .int .i64 0, .int .u64 0, .int .i64 0, .int .i64 0] 40 (0, 0)) (by (with_reducible repeat (first | refine blk_drewN ?_ _ | refine blk_drew ?_ | refine blk_alloc ?_ _)); exact BK234.out) hb); have n2_ := Aside0.mk (below_step (by repeat (first | (with_reducible first | exact HB.out | apply below_alloc | apply pw_below_drewN | apply below_drew1 | refine below_set ?_ GE234.out) | exact HB.out)) hb); have n3_ := Aside0.mk (hbox); have n4_ := Aside0.mk ((by rw [hg]; exact (below_size (by repeat (first | (with_reducible first | exact HB.out | apply below_alloc | apply pw_below_drewN | apply below_drew1 | refine below_set ?_ GE234.out) | exact HB.out))) : w.heap.size ≤ gb247)); have n5_ := Aside0.mk ((by rw [hg]; exact (below_size (by repeat (first | (with_reducible first | exact HB.out | apply below_alloc | apply pw_below_drewN | apply below_drew1 | refine below_set ?_ GE234.out) | exact HB.out))) : w.heap.size ≤ gb247)); have n6_ := Aside0.mk ((by rw [hg]; exact Nat.ne_of_lt (blk_lt (g := gb234) (o := .cells #[.int .i64 0, .int .i64 0, .int .i64 0, .int .i64 0, .int .u64 0, .int .i64 0, .int .i64 0] 40 (0, 0)) (by (with_reducible repeat (first | refine blk_drewN ?_ _ | refine blk_drew ?_ | refine blk_alloc ?_ _)); exact BK234.out)) : gb234 ≠ gb247)); have n7_ := Aside0.mk ((by rw [hg]; exact Nat.ne_of_gt (blk_lt (g := gb234) (o := .cells #[.int .i64 0, .int .i64 0, .int .i64 0, .int .i64 0, .int .u64 0, .int .i64 0, .int .i64 0] 40 (0, 0)) (by (with_reducible repeat (first | refine blk_drewN ?_ _ | refine blk_drew ?_ | refine blk_alloc ?_ _)); exact BK234.out)) : gb247 ≠ gb234)); clear HO238; clear BK234; clear HB; have HO238 := n0_; have BK234 := n1_; have HB := n2_; have BK247 := n3_; have GW247 := n4_; have GE247 := n5_; have NB234_247 := n6_; have NB247_234 := n7_; clear n0_ n1_ n2_ n3_ n4_ n5_ n6_ n7_; clear hb hbox hg; have hnb10 := NB247_234.out; have hnc10 := NB234_247.out; have hcz11_0 : w9.cell? ⟨gb247, 0, none⟩ = some (.int .i64 0) := (blk_cell BK247.out 0).trans rfl; have hcz11_1 : w9.cell? ⟨gb247, 1, none⟩ = some (.int .i64 0) := (blk_cell BK247.out 1).trans rfl; have hcz11_2 : w9.cell? ⟨gb247, 2, none⟩ = some (.int .i64 0) := (blk_cell BK247.out 2).trans rfl; have hcz11_3 : w9.cell? ⟨gb247, 3, none⟩ = some (.int .i64 0) := (blk_cell BK247.out 3).trans rfl; have hcz11_4 : w9.cell? ⟨gb247, 4, none⟩ = some (.int .u64 0) := (blk_cell BK247.out 4).trans rfl; have hcz11_5 : w9.cell? ⟨gb247, 5, none⟩ = some (.int .i64 0) := (blk_cell BK247.out 5).trans rfl; have hcz11_6 : w9.cell? ⟨gb247, 6, none⟩ = some (.int .i64 0) := (blk_cell BK247.out 6).trans rfl; have hfz11_0 := blk_frozen BK247.out 0; have hfz11_1 := blk_frozen BK247.out 1; have hfz11_2 := blk_frozen BK247.out 2; have hfz11_3 := blk_frozen BK247.out 3; have hfz11_4 := blk_frozen BK247.out 4; have hfz11_5 := blk_frozen BK247.out 5; have hfz11_6 := blk_frozen BK247.out 6; have hcz12_0 : w9.cell? ⟨gb234, 0, none⟩ = some (.int .i64 0) := (blk_cell BK234.out 0).trans rfl; have hcz12_1 : w9.cell? ⟨gb234, 1, none⟩ = some (.int .i64 0) := (blk_cell BK234.out 1).trans rfl; have hcz12_2 : w9.cell? ⟨gb234, 2, none⟩ = some (.int .i64 0) := (blk_cell BK234.out 2).trans rfl; have hcz12_3 : w9.cell? ⟨gb234, 3, none⟩ = some (.int .i64 0) := (blk_cell BK234.out 3).trans rfl; have hcz12_4 : w9.cell? ⟨gb234, 4, none⟩ = some (.int .u64 0) := (blk_cell BK234.out 4).trans rfl; have hcz12_5 : w9.cell? ⟨gb234, 5, none⟩ = some (.int .i64 0) := (blk_cell BK234.out 5).trans rfl; have hcz12_6 : w9.cell? ⟨gb234, 6, none⟩ = some (.int .i64 0) := (blk_cell BK234.out 6).trans rfl; have hfz12_0 := blk_frozen BK234.out 0; have hfz12_1 := blk_frozen BK234.out 1; have hfz12_2 := blk_frozen BK234.out 2; have hfz12_3 := blk_frozen BK234.out 3; have hfz12_4 := blk_frozen BK234.out 4; have hfz12_5 := blk_frozen BK234.out 5; have hfz12_6 := blk_frozen BK234.out 6))
    refine bodyPost_ret (results_ct rfl _ _ gb234 40 #[.int .i64 t239, .int .i64 t240, .int .i64 t241, .int .i64 t242, .int .u64 t243, .int .i64 t244, .int .i64 t245] (0, 0) _ rfl (by (with_reducible repeat (first | refine blk_drewN ?_ _ | refine blk_drew ?_ | refine blk_alloc ?_ _)); refine blk_put (cs := #[.int .i64 t239, .int .i64 t240, .int .i64 t241, .int .i64 t242, .int .u64 t243, .int .i64 t244, .int .i64 0]) ?_ 6 _ rfl; (with_reducible repeat (first | refine blk_drewN ?_ _ | refine blk_drew ?_ | refine blk_alloc ?_ _)); refine blk_put (cs := #[.int .i64 t239, .int .i64 t240, .int .i64 t241, .int .i64 t242, .int .u64 t243, .int .i64 0, .int .i64 0]) ?_ 5 _ rfl; (with_reducible repeat (first | refine blk_drewN ?_ _ | refine blk_drew ?_ | refine blk_alloc ?_ _)); refine blk_put (cs := #[.int .i64 t239, .int .i64 t240, .int .i64 t241, .int .i64 t242, .int .u64 0, .int .i64 0, .int .i64 0]) ?_ 4 _ rfl; (with_reducible repeat (first | refine blk_drewN ?_ _ | refine blk_drew ?_ | refine blk_alloc ?_ _)); refine blk_put (cs := #[.int .i64 t239, .int .i64 t240, .int .i64 t241, .int .i64 0, .int .u64 0, .int .i64 0, .int .i64 0]) ?_ 3 _ rfl; (with_reducible repeat (first | refine blk_drewN ?_ _ | refine blk_drew ?_ | refine blk_alloc ?_ _)); refine blk_put (cs := #[.int .i64 t239, .int .i64 t240, .int .i64 0, .int .i64 0, .int .u64 0, .int .i64 0, .int .i64 0]) ?_ 2 _ rfl; (with_reducible repeat (first | refine blk_drewN ?_ _ | refine blk_drew ?_ | refine blk_alloc ?_ _)); refine blk_put (cs := #[.int .i64 t239, .int .i64 0, .int .i64 0, .int .i64 0, .int .u64 0, .int .i64 0, .int .i64 0]) ?_ 1 _ rfl; (with_reducible repeat (first | refine blk_drewN ?_ _ | refine blk_drew ?_ | refine blk_alloc ?_ _)); refine blk_put (cs := #[.int .i64 0, .int .i64 0, .int .i64 0, .int .i64 0, .int .u64 0, .int .i64 0, .int .i64 0]) ?_ 0 _ rfl; (with_reducible repeat (first | refine blk_drewN ?_ _ | refine blk_drew ?_ | refine blk_alloc ?_ _)); refine blk_far ?_ NB234_247.out _; (with_reducible repeat (first | refine blk_drewN ?_ _ | refine blk_drew ?_ | refine blk_alloc ?_ _)); refine blk_far ?_ NB234_247.out _; (with_reducible repeat (first | refine blk_drewN ?_ _ | refine blk_drew ?_ | refine blk_alloc ?_ _)); refine blk_far ?_ NB234_247.out _; (with_reducible repeat (first | refine blk_drewN ?_ _ | refine blk_drew ?_ | refine blk_alloc ?_ _)); refine blk_far ?_ NB234_247.out _; (with_reducible repeat (first | refine blk_drewN ?_ _ | refine blk_drew ?_ | refine blk_alloc ?_ _)); refine blk_far ?_ NB234_247.out _; (with_reducible repeat (first | refine blk_drewN ?_ _ | refine blk_drew ?_ | refine blk_alloc ?_ _)); refine blk_far ?_ NB234_247.out _; (with_reducible repeat (first | refine blk_drewN ?_ _ | refine blk_drew ?_ | refine blk_alloc ?_ _)); refine blk_far ?_ NB234_247.out _; (with_reducible repeat (first | refine blk_drewN ?_ _ | refine blk_drew ?_ | refine blk_alloc ?_ _)); exact BK234.out) Try.underlying40 rfl (by kernel_rfl)) rfl ?_
    exact ⟨by first | rfl | (simp [errW_none, errW_some] <;> rfl) | (simp [*, errW_none, errW_some] <;> rfl), by repeat (first | (with_reducible first | exact HB.out | apply below_alloc | apply pw_below_drewN | apply below_drew1 | refine below_set ?_ GE234.out | refine below_set ?_ GE247.out) | exact HB.out)⟩
  · rw [if_neg c3] at H
    have c3b0 : (t236 == 0) = false := beq_eq_false_iff_ne.mpr c3
    have c3b1 : (t236 != 0) = true := bne_iff_ne.mpr c3
    simp only [Option.some.injEq, Prod.mk.injEq] at H
    obtain ⟨rfl, rfl, rfl, rfl, rfl, rfl, rfl, rfl⟩ := H
    go_enter Try.func59, Try.ntmps59
    go_wp2_with (first | ((with_reducible refine gate_dst (N := 2) rfl ?_); refine box_event ?hg (N := 2) ?hd (cs := #[.int .i64 0, .int .i64 0, .int .i64 0, .int .i64 0, .int .u64 0, .int .i64 0, .int .i64 0]) (t := 40) ?hr ?_; (case hd => rfl); (case hg => rfl); (case hr => first | (go_simp; done) | (go_simp; rfl)); intro gb234 hg w13 hbox hb; have n0_ := Aside0.mk (below_step (by repeat (first | (with_reducible first | exact HB.out | apply below_alloc | apply pw_below_drewN | apply below_drew1) | exact HB.out)) hb); have n1_ := Aside0.mk (hbox); have n2_ := Aside0.mk ((by rw [hg]; exact (below_size (by repeat (first | (with_reducible first | exact HB.out | apply below_alloc | apply pw_below_drewN | apply below_drew1) | exact HB.out))) : w.heap.size ≤ gb234)); have n3_ := Aside0.mk ((by rw [hg]; exact (below_size (by repeat (first | (with_reducible first | exact HB.out | apply below_alloc | apply pw_below_drewN | apply below_drew1) | exact HB.out))) : w.heap.size ≤ gb234)); clear HB; have HB := n0_; have BK234 := n1_; have GW234 := n2_; have GE234 := n3_; clear n0_ n1_ n2_ n3_; clear hb hbox hg) | ((with_reducible refine gate_callee (f := 102) rfl ?_); refine goesL_ (some 10) rfl rfl Try.func102 (by kernel_rfl) rfl #[.slice A0 l0.length c0, .int .i64 5] rfl (by (try simp only [List.map_toArray, List.map_cons, List.map_nil]); first | done | rfl | (simp only [List.length_drop, List.length_take]; rfl)) ?_; (with_reducible refine (vendmeterref_SlotLoaded.calls k _ _ l0 5 t235 t236 _ ?side1 ?side2 A2.out).mono ?_); (case side1 => repeat (first | exact (Kd.C_below HR0.out HB.out) | (with_reducible refine Kd.C_alloc ?_ _) | (with_reducible refine Kd.C_drewN ?_ _) | (with_reducible refine Kd.C_drew ?_))); (case side2 => exact HC0.out); rintro e w14 ⟨v237, rfl, ho0, hb⟩; refine ⟨_, rfl, ?_⟩; have n0_ := Aside0.mk (Kd.R_lower ho0 (below_size (by repeat (first | (with_reducible first | exact HB.out | apply below_alloc | apply pw_below_drewN | apply below_drew1 | refine below_set ?_ GE234.out) | exact HB.out)))); have n1_ := Aside0.mk (blk_below (g := gb234) (o := .cells #[.int .i64 0, .int .i64 0, .int .i64 0, .int .i64 0, .int .u64 0, .int .i64 0, .int .i64 0] 40 (0, 0)) (by (with_reducible repeat (first | refine blk_drewN ?_ _ | refine blk_drew ?_ | refine blk_alloc ?_ _)); exact BK234.out) hb); have n2_ := Aside0.mk (below_step (by repeat (first | (with_reducible first | exact HB.out | apply below_alloc | apply pw_below_drewN | apply below_drew1 | refine below_set ?_ GE234.out) | exact HB.out)) hb); clear BK234; clear HB; have HO238 := n0_; have BK234 := n1_; have HB := n2_; clear n0_ n1_ n2_; (try clear hb); (try clear hb2); (try clear hk); (try clear hi); (try clear ho0); have hcz15_0 : w14.cell? ⟨gb234, 0, none⟩ = some (.int .i64 0) := (blk_cell BK234.out 0).trans rfl; have hcz15_1 : w14.cell? ⟨gb234, 1, none⟩ = some (.int .i64 0) := (blk_cell BK234.out 1).trans rfl; have hcz15_2 : w14.cell? ⟨gb234, 2, none⟩ = some (.int .i64 0) := (blk_cell BK234.out 2).trans rfl; have hcz15_3 : w14.cell? ⟨gb234, 3, none⟩ = some (.int .i64 0) := (blk_cell BK234.out 3).trans rfl; have hcz15_4 : w14.cell? ⟨gb234, 4, none⟩ = some (.int .u64 0) := (blk_cell BK234.out 4).trans rfl; have hcz15_5 : w14.cell? ⟨gb234, 5, none⟩ = some (.int .i64 0) := (blk_cell BK234.out 5).trans rfl; have hcz15_6 : w14.cell? ⟨gb234, 6, none⟩ = some (.int .i64 0) := (blk_cell BK234.out 6).trans rfl; have hfz15_0 := blk_frozen BK234.out 0; have hfz15_1 := blk_frozen BK234.out 1; have hfz15_2 := blk_frozen BK234.out 2; have hfz15_3 := blk_frozen BK234.out 3; have hfz15_4 := blk_frozen BK234.out 4; have hfz15_5 := blk_frozen BK234.out 5; have hfz15_6 := blk_frozen BK234.out 6))
    refine bodyPost_ret (results_ct rfl _ _ gb234 40 #[.int .i64 0, .int .i64 0, .int .i64 0, .int .i64 0, .int .u64 0, .int .i64 0, .int .i64 0] (0, 0) _ rfl (by (with_reducible repeat (first | refine blk_drewN ?_ _ | refine blk_drew ?_ | refine blk_alloc ?_ _)); refine blk_put (cs := #[.int .i64 0, .int .i64 0, .int .i64 0, .int .i64 0, .int .u64 0, .int .i64 0, .int .i64 0]) ?_ 6 _ rfl; (with_reducible repeat (first | refine blk_drewN ?_ _ | refine blk_drew ?_ | refine blk_alloc ?_ _)); refine blk_put (cs := #[.int .i64 0, .int .i64 0, .int .i64 0, .int .i64 0, .int .u64 0, .int .i64 0, .int .i64 0]) ?_ 5 _ rfl; (with_reducible repeat (first | refine blk_drewN ?_ _ | refine blk_drew ?_ | refine blk_alloc ?_ _)); refine blk_put (cs := #[.int .i64 0, .int .i64 0, .int .i64 0, .int .i64 0, .int .u64 0, .int .i64 0, .int .i64 0]) ?_ 4 _ rfl; (with_reducible repeat (first | refine blk_drewN ?_ _ | refine blk_drew ?_ | refine blk_alloc ?_ _)); refine blk_put (cs := #[.int .i64 0, .int .i64 0, .int .i64 0, .int .i64 0, .int .u64 0, .int .i64 0, .int .i64 0]) ?_ 3 _ rfl; (with_reducible repeat (first | refine blk_drewN ?_ _ | refine blk_drew ?_ | refine blk_alloc ?_ _)); refine blk_put (cs := #[.int .i64 0, .int .i64 0, .int .i64 0, .int .i64 0, .int .u64 0, .int .i64 0, .int .i64 0]) ?_ 2 _ rfl; (with_reducible repeat (first | refine blk_drewN ?_ _ | refine blk_drew ?_ | refine blk_alloc ?_ _)); refine blk_put (cs := #[.int .i64 0, .int .i64 0, .int .i64 0, .int .i64 0, .int .u64 0, .int .i64 0, .int .i64 0]) ?_ 1 _ rfl; (with_reducible repeat (first | refine blk_drewN ?_ _ | refine blk_drew ?_ | refine blk_alloc ?_ _)); refine blk_put (cs := #[.int .i64 0, .int .i64 0, .int .i64 0, .int .i64 0, .int .u64 0, .int .i64 0, .int .i64 0]) ?_ 0 _ rfl; (with_reducible repeat (first | refine blk_drewN ?_ _ | refine blk_drew ?_ | refine blk_alloc ?_ _)); exact BK234.out) Try.underlying40 rfl (by kernel_rfl)) rfl ?_
    exact ⟨by first | rfl | (simp [errW_none, errW_some] <;> rfl) | (simp [*, errW_none, errW_some] <;> rfl), by repeat (first | (with_reducible first | exact HB.out | apply below_alloc | apply pw_below_drewN | apply below_drew1 | refine below_set ?_ GE234.out) | exact HB.out)⟩

/-! ### vendmeterref_MeterTicked: by hand -/
def vendmeterref_MeterTicked.f (k : Nat) (a0 a1 a2 a3 a4 a5 a6 s : Int) : Option (Int × Int × Int × Int × Int × Int × Int × Int × Int) := (vendmeterref_MeterMay.f k a0 a1 a2 a3 a4 a5 a6).bind fun t258 => (if t258 = true then ((vendmeterref_In.f s 0 1000).bind fun t259 => (if t259 = true then (if a6 > 0 then (if s ≥ a2 then (some (a0, a1, 0, a3, a4, a5, wrap64 (a6 - 1), a2, 0)) else (some (a0, a1, wrap64 (a2 - s), a3, a4, a5, wrap64 (a6 - 1), s, 0))) else (if s ≥ a2 then (some (a0, a1, 0, a3, a4, a5, a6, a2, 0)) else (some (a0, a1, wrap64 (a2 - s), a3, a4, a5, a6, s, 0)))) else (some (a0, a1, a2, a3, a4, a5, a6, 0, 2)))) else (some (0, 0, 0, 0, 0, 0, 0, 0, 5)))
theorem vendmeterref_MeterTicked.mono : ∀ a0 a1 a2 a3 a4 a5 a6 s k, LeO (vendmeterref_MeterTicked.f k a0 a1 a2 a3 a4 a5 a6 s) (vendmeterref_MeterTicked.f (k + 1) a0 a1 a2 a3 a4 a5 a6 s) := by
  intro a0 a1 a2 a3 a4 a5 a6 s k
  unfold vendmeterref_MeterTicked.f
  exact LeO.bind (vendmeterref_MeterMay.mono _ _ _ _ _ _ _ _) (fun _ => LeO.refl _)
theorem vendmeterref_MeterTicked.inn (a b c : Int) (r : Bool) (w : World) (h : vendmeterref_In.f a b c = some r) : Calls Try.prog 54 #[.int .i64 a, .int .i64 b, .int .i64 c] w fun e w' => e = .returned (.bool r) ∧ Below w.heap.size w w' :=
  (vendmeterref_In.calls a b c r w h).mono (by rintro e w' ⟨rfl, nd, rfl⟩; exact ⟨rfl, pw_below_drewN (Below.refl _ _) _⟩)
set_option maxHeartbeats 16000000 in
set_option maxRecDepth 100000 in
theorem vendmeterref_MeterTicked.calls (k : Nat) (a0 a1 a2 a3 a4 a5 a6 s : Int) (r1 r2 r3 r4 r5 r6 r7 r8 r9 : Int) (w : World) (h : vendmeterref_MeterTicked.f k a0 a1 a2 a3 a4 a5 a6 s = some (r1, r2, r3, r4, r5, r6, r7, r8, r9)) :
    Calls Try.prog 60 #[.agg #[.int .i64 a0, .int .i64 a1, .int .i64 a2, .int .i64 a3, .int .u64 a4, .int .i64 a5, .int .i64 a6], .int .i64 s] w fun e w' => e = .returned (.tuple #[.agg #[.int .i64 r1, .int .i64 r2, .int .i64 r3, .int .i64 r4, .int .u64 r5, .int .i64 r6, .int .i64 r7], .int .i64 r8, .int .i64 r9]) ∧ Below w.heap.size w w' := by
  have HB := Aside0.mk (Below.refl w.heap.size w)
  have hu40 := Try.underlying40
  have hu38 := Try.underlying38
  unfold vendmeterref_MeterTicked.f at h
  obtain ⟨m, hm, h⟩ := Option.bind_eq_some_iff.mp h
  have HM := Aside0.mk hm
  clear hm
  by_cases h0 : m = true
  · rw [if_pos h0] at h
    subst h0
    obtain ⟨i, hi, h⟩ := Option.bind_eq_some_iff.mp h
    have HI := Aside0.mk hi
    clear hi
    by_cases h1 : i = true
    · rw [if_pos h1] at h
      subst h1
      by_cases h2 : a6 > 0
      · rw [if_pos h2] at h
        have q2 := decide_eq_true h2
        by_cases h3 : s ≥ a2
        · rw [if_pos h3] at h
          simp only [Option.some.injEq, Prod.mk.injEq] at h
          obtain ⟨rfl, rfl, rfl, rfl, rfl, rfl, rfl, rfl, rfl⟩ := h
          have q3 := decide_eq_true h3
          clear h2 h3
          go_enter Try.func60, Try.ntmps60
          go_wp2_with (first | ((with_reducible refine gate_dst (N := 2) rfl ?_); refine box_event ?hg (N := 2) ?hd (cs := #[.int .i64 a0, .int .i64 a1, .int .i64 a2, .int .i64 a3, .int .u64 a4, .int .i64 a5, .int .i64 a6]) (t := 40) ?hr ?_; (case hd => rfl); (case hg => rfl); (case hr => first | (go_simp; done) | (go_simp; rfl)); intro g1 hgq W1 hbox hb; have Gg1 := Aside0.mk (by rw [hgq]; exact below_size HB.out : w.heap.size ≤ g1); have HB_ := Aside0.mk (below_step HB.out hb); clear HB; have HB := HB_; clear HB_; have Bg1 := Aside0.mk hbox; clear hb hbox hgq; skip) | ((with_reducible refine gate_dst (N := 4) rfl ?_); refine box_event ?hg (N := 4) ?hd (cs := #[.int .i64 0, .int .i64 0, .int .i64 0, .int .i64 0, .int .u64 0, .int .i64 0, .int .i64 0]) (t := 40) ?hr ?_; (case hd => rfl); (case hg => rfl); (case hr => first | (go_simp; done) | (go_simp; rfl)); intro g2 hgq W2 hbox hb; have Ng1g2 := Aside0.mk (by rw [hgq]; exact Nat.ne_of_lt (blk_lt Bg1.out) : g1 ≠ g2); have Gg2 := Aside0.mk (by rw [hgq]; exact below_size HB.out : w.heap.size ≤ g2); have Bg1_ := Aside0.mk (blk_below Bg1.out hb); have HB_ := Aside0.mk (below_step HB.out hb); clear Bg1 HB; have Bg1 := Bg1_; clear Bg1_; have HB := HB_; clear HB_; have Bg2 := Aside0.mk hbox; clear hb hbox hgq; have xg10 : W2.cell? ⟨g1, 0, none⟩ = some (.int .i64 a0) := (blk_cell Bg1.out 0).trans rfl; have xg11 : W2.cell? ⟨g1, 1, none⟩ = some (.int .i64 a1) := (blk_cell Bg1.out 1).trans rfl; have xg12 : W2.cell? ⟨g1, 2, none⟩ = some (.int .i64 a2) := (blk_cell Bg1.out 2).trans rfl; have xg13 : W2.cell? ⟨g1, 3, none⟩ = some (.int .i64 a3) := (blk_cell Bg1.out 3).trans rfl; have xg14 : W2.cell? ⟨g1, 4, none⟩ = some (.int .u64 a4) := (blk_cell Bg1.out 4).trans rfl; have xg15 : W2.cell? ⟨g1, 5, none⟩ = some (.int .i64 a5) := (blk_cell Bg1.out 5).trans rfl; have xg16 : W2.cell? ⟨g1, 6, none⟩ = some (.int .i64 a6) := (blk_cell Bg1.out 6).trans rfl; skip) | (go_at_call 67; refine (vendmeterref_MeterMay.calls k a0 a1 a2 a3 a4 a5 a6 true _ HM.out).mono ?_; rintro e wa ⟨rfl, hb1⟩; clear xg10 xg11 xg12 xg13 xg14 xg15 xg16; have Bg1_ := Aside0.mk (blk_below Bg1.out hb1); have Bg2_ := Aside0.mk (blk_below Bg2.out hb1); have HB_ := Aside0.mk (below_step HB.out hb1); clear Bg1 Bg2 HB; have Bg1 := Bg1_; clear Bg1_; have Bg2 := Bg2_; clear Bg2_; have HB := HB_; clear HB_; have xg10 : wa.cell? ⟨g1, 0, none⟩ = some (.int .i64 a0) := (blk_cell Bg1.out 0).trans rfl; have xg11 : wa.cell? ⟨g1, 1, none⟩ = some (.int .i64 a1) := (blk_cell Bg1.out 1).trans rfl; have xg12 : wa.cell? ⟨g1, 2, none⟩ = some (.int .i64 a2) := (blk_cell Bg1.out 2).trans rfl; have xg13 : wa.cell? ⟨g1, 3, none⟩ = some (.int .i64 a3) := (blk_cell Bg1.out 3).trans rfl; have xg14 : wa.cell? ⟨g1, 4, none⟩ = some (.int .u64 a4) := (blk_cell Bg1.out 4).trans rfl; have xg15 : wa.cell? ⟨g1, 5, none⟩ = some (.int .i64 a5) := (blk_cell Bg1.out 5).trans rfl; have xg16 : wa.cell? ⟨g1, 6, none⟩ = some (.int .i64 a6) := (blk_cell Bg1.out 6).trans rfl; clear hb1) | (go_at_call 54; refine (vendmeterref_MeterTicked.inn s 0 1000 true _ HI.out).mono ?_; rintro e wb ⟨rfl, hb1⟩; clear xg10 xg11 xg12 xg13 xg14 xg15 xg16; have Bg1_ := Aside0.mk (blk_below Bg1.out hb1); have Bg2_ := Aside0.mk (blk_below Bg2.out hb1); have HB_ := Aside0.mk (below_step HB.out hb1); clear Bg1 Bg2 HB; have Bg1 := Bg1_; clear Bg1_; have Bg2 := Bg2_; clear Bg2_; have HB := HB_; clear HB_; have xg10 : wb.cell? ⟨g1, 0, none⟩ = some (.int .i64 a0) := (blk_cell Bg1.out 0).trans rfl; have xg11 : wb.cell? ⟨g1, 1, none⟩ = some (.int .i64 a1) := (blk_cell Bg1.out 1).trans rfl; have xg12 : wb.cell? ⟨g1, 2, none⟩ = some (.int .i64 a2) := (blk_cell Bg1.out 2).trans rfl; have xg13 : wb.cell? ⟨g1, 3, none⟩ = some (.int .i64 a3) := (blk_cell Bg1.out 3).trans rfl; have xg14 : wb.cell? ⟨g1, 4, none⟩ = some (.int .u64 a4) := (blk_cell Bg1.out 4).trans rfl; have xg15 : wb.cell? ⟨g1, 5, none⟩ = some (.int .i64 a5) := (blk_cell Bg1.out 5).trans rfl; have xg16 : wb.cell? ⟨g1, 6, none⟩ = some (.int .i64 a6) := (blk_cell Bg1.out 6).trans rfl; clear hb1) | ((with_reducible refine gate_dst (N := 7) rfl ?_); refine box_event ?hg (N := 7) ?hd (cs := #[.int .i64 0, .int .i64 0, .int .i64 0, .int .i64 0, .int .u64 0, .int .i64 0, .int .i64 0]) (t := 40) ?hr ?_; (case hd => rfl); (case hg => rfl); (case hr => first | (go_simp; done) | (go_simp; rfl)); intro g3 hgq W3 hbox hb; clear xg10 xg11 xg12 xg13 xg14 xg15 xg16; have Ng1g3 := Aside0.mk (by rw [hgq]; exact Nat.ne_of_lt (blk_lt Bg1.out) : g1 ≠ g3); have Ng2g3 := Aside0.mk (by rw [hgq]; exact Nat.ne_of_lt (blk_lt Bg2.out) : g2 ≠ g3); have Gg3 := Aside0.mk (by rw [hgq]; exact below_size HB.out : w.heap.size ≤ g3); have Bg1_ := Aside0.mk (blk_below Bg1.out hb); have Bg2_ := Aside0.mk (blk_below Bg2.out hb); have HB_ := Aside0.mk (below_step HB.out hb); clear Bg1 Bg2 HB; have Bg1 := Bg1_; clear Bg1_; have Bg2 := Bg2_; clear Bg2_; have HB := HB_; clear HB_; have Bg3 := Aside0.mk hbox; clear hb hbox hgq; have xg12 : W3.cell? ⟨g1, 2, none⟩ = some (.int .i64 a2) := (blk_cell Bg1.out 2).trans rfl; skip) | ((with_reducible refine gate_store (t := 40) (p := 7) rfl ?_); refine seg.list rfl rfl 40 (.tmp 7) _ rfl 40 g3 0 #[.int .i64 0, .int .i64 0, .int .i64 0, .int .i64 0, .int .u64 0, .int .i64 0, .int .i64 0] #[.int .i64 a0, .int .i64 a1, .int .i64 a2, .int .i64 a3, .int .u64 a4, .int .i64 a5, .int .i64 a6] [.int .i64 a0, .int .i64 a1, .int .i64 a2, .int .i64 a3, .int .u64 a4, .int .i64 a5, .int .i64 a6] rfl rfl (by kernel_rfl) (by simp [Value.oneCell']) Bg3.out (by simp) rfl ?_; intro W4 bx hgr; clear xg12; have Bg1_ := Aside0.mk (seg.far Bg1.out hgr Ng1g3.out); have Bg2_ := Aside0.mk (seg.far Bg2.out hgr Ng2g3.out); have HB_ := Aside0.mk (seg.below HB.out hgr Gg3.out); clear Bg1 Bg2 HB; have Bg1 := Bg1_; clear Bg1_; have Bg2 := Bg2_; clear Bg2_; have HB := HB_; clear HB_; clear Bg3; have Bg3 := Aside0.mk bx; clear bx hgr; have xg12 : W4.cell? ⟨g1, 2, none⟩ = some (.int .i64 a2) := (blk_cell Bg1.out 2).trans rfl; have xg36 : W4.cell? ⟨g3, 6, none⟩ = some (.int .i64 a6) := (blk_cell Bg3.out 6).trans rfl; skip) | ((with_reducible refine gate_store (t := 3) (p := 23) rfl ?_); refine seg.list rfl rfl 3 (.tmp 23) _ rfl 40 g3 6 #[.int .i64 a0, .int .i64 a1, .int .i64 a2, .int .i64 a3, .int .u64 a4, .int .i64 a5, .int .i64 a6] #[.int .i64 a0, .int .i64 a1, .int .i64 a2, .int .i64 a3, .int .u64 a4, .int .i64 a5, .int .i64 (wrap64 (a6 - 1))] [.int .i64 (wrap64 (a6 - 1))] rfl rfl (by kernel_rfl) (by simp [Value.oneCell']) Bg3.out (by simp) rfl ?_; intro W5 bx hgr; clear xg12 xg36; have Bg1_ := Aside0.mk (seg.far Bg1.out hgr Ng1g3.out); have Bg2_ := Aside0.mk (seg.far Bg2.out hgr Ng2g3.out); have HB_ := Aside0.mk (seg.below HB.out hgr Gg3.out); clear Bg1 Bg2 HB; have Bg1 := Bg1_; clear Bg1_; have Bg2 := Bg2_; clear Bg2_; have HB := HB_; clear HB_; clear Bg3; have Bg3 := Aside0.mk bx; clear bx hgr; have xg12 : W5.cell? ⟨g1, 2, none⟩ = some (.int .i64 a2) := (blk_cell Bg1.out 2).trans rfl; have xg36 : W5.cell? ⟨g3, 6, none⟩ = some (.int .i64 (wrap64 (a6 - 1))) := (blk_cell Bg3.out 6).trans rfl; skip) | ((with_reducible refine gate_store (t := 3) (p := 28) rfl ?_); refine seg.list rfl rfl 3 (.tmp 28) _ rfl 40 g3 2 #[.int .i64 a0, .int .i64 a1, .int .i64 a2, .int .i64 a3, .int .u64 a4, .int .i64 a5, .int .i64 (wrap64 (a6 - 1))] #[.int .i64 a0, .int .i64 a1, .int .i64 0, .int .i64 a3, .int .u64 a4, .int .i64 a5, .int .i64 (wrap64 (a6 - 1))] [.int .i64 0] rfl rfl (by kernel_rfl) (by simp [Value.oneCell']) Bg3.out (by simp) rfl ?_; intro W6 bx hgr; clear xg12 xg36; have Bg1_ := Aside0.mk (seg.far Bg1.out hgr Ng1g3.out); have Bg2_ := Aside0.mk (seg.far Bg2.out hgr Ng2g3.out); have HB_ := Aside0.mk (seg.below HB.out hgr Gg3.out); clear Bg1 Bg2 HB; have Bg1 := Bg1_; clear Bg1_; have Bg2 := Bg2_; clear Bg2_; have HB := HB_; clear HB_; clear Bg3; have Bg3 := Aside0.mk bx; clear bx hgr; have xg12 : W6.cell? ⟨g1, 2, none⟩ = some (.int .i64 a2) := (blk_cell Bg1.out 2).trans rfl; have xg30 : W6.cell? ⟨g3, 0, none⟩ = some (.int .i64 a0) := (blk_cell Bg3.out 0).trans rfl; have xg31 : W6.cell? ⟨g3, 1, none⟩ = some (.int .i64 a1) := (blk_cell Bg3.out 1).trans rfl; have xg32 : W6.cell? ⟨g3, 2, none⟩ = some (.int .i64 0) := (blk_cell Bg3.out 2).trans rfl; have xg33 : W6.cell? ⟨g3, 3, none⟩ = some (.int .i64 a3) := (blk_cell Bg3.out 3).trans rfl; have xg34 : W6.cell? ⟨g3, 4, none⟩ = some (.int .u64 a4) := (blk_cell Bg3.out 4).trans rfl; have xg35 : W6.cell? ⟨g3, 5, none⟩ = some (.int .i64 a5) := (blk_cell Bg3.out 5).trans rfl; have xg36 : W6.cell? ⟨g3, 6, none⟩ = some (.int .i64 (wrap64 (a6 - 1))) := (blk_cell Bg3.out 6).trans rfl; skip))
          refine start_ (n := 6) (S := fun w' => w'.cell? ⟨g3, 0, none⟩ = some (.int .i64 a0) ∧ w'.cell? ⟨g3, 1, none⟩ = some (.int .i64 a1) ∧ w'.cell? ⟨g3, 2, none⟩ = some (.int .i64 0) ∧ w'.cell? ⟨g3, 3, none⟩ = some (.int .i64 a3) ∧ w'.cell? ⟨g3, 4, none⟩ = some (.int .u64 a4) ∧ w'.cell? ⟨g3, 5, none⟩ = some (.int .i64 a5) ∧ w'.cell? ⟨g3, 6, none⟩ = some (.int .i64 (wrap64 (a6 - 1))) ∧ w'.cell? ⟨g1, 2, none⟩ = some (.int .i64 a2)) (ds := []) #[false, false, false, false, false, false] (by kernel_rfl) rfl rfl ⟨xg30, xg31, xg32, xg33, xg34, xg35, xg36, xg12⟩ (fun hHeld => ?_)
          refine pure_ (i := 1) (N := some 30) (v := ?_) (a' := ?_) #[false, true, false, false, false, false] rfl rfl (by kernel_rfl) (fun _ _ _ h => h) (Or.inl ⟨by rfl, ?_⟩) ?_ ?_
          rotate_left
          · intro w'
            go_simp
            with_reducible rfl
          rotate_left
          · simp only [Act.put, List.setIfInBounds_toArray, List.set_cons_zero, List.set_cons_succ, i64_w, i32_w]
            rfl
          refine take_ (i := 0) (N := some 29) (v := ?_) (a' := ?_) #[true, true, false, false, false, false] rfl rfl (by kernel_rfl) (fun _ _ _ h => h) (Or.inl ⟨by rfl, ?_⟩) hHeld ?_ ?_
          rotate_left
          · rintro w' ⟨s0, s1, s2, s3, s4, s5, s6, s7⟩
            go_simp
            with_reducible rfl
          rotate_left
          · simp only [Act.put, List.setIfInBounds_toArray, List.set_cons_zero, List.set_cons_succ, i64_w, i32_w]
            rfl
          refine take_ (i := 2) (N := some 31) (v := ?_) (a' := ?_) #[true, true, true, false, false, false] rfl rfl (by kernel_rfl) (fun _ _ _ h => h) (Or.inl ⟨by rfl, ?_⟩) hHeld ?_ ?_
          rotate_left
          · rintro w' ⟨s0, s1, s2, s3, s4, s5, s6, s7⟩
            go_simp
            with_reducible rfl
          rotate_left
          · simp only [Act.put, List.setIfInBounds_toArray, List.set_cons_zero, List.set_cons_succ, i64_w, i32_w]
            rfl
          refine one_ (i := 3) (N := none) #[true, true, true, true, false, false] rfl rfl (by kernel_rfl) (by decide) (fun K hK => ?_)
          refine seg.step (by rfl) rfl 40 (.tmp 4) _ (by rfl) 40 g2 0 #[.int .i64 0, .int .i64 0, .int .i64 0, .int .i64 0, .int .u64 0, .int .i64 0, .int .i64 0] #[.int .i64 a0, .int .i64 a1, .int .i64 0, .int .i64 a3, .int .u64 a4, .int .i64 a5, .int .i64 (wrap64 (a6 - 1))] [.int .i64 a0, .int .i64 a1, .int .i64 0, .int .i64 a3, .int .u64 a4, .int .i64 a5, .int .i64 (wrap64 (a6 - 1))] (by rfl) (by rfl) (by kernel_rfl) (by simp [Value.oneCell']) (blk_drew Bg2.out) (by simp) rfl ?_
          intro W7 bx hgr
          clear xg12 xg30 xg31 xg32 xg33 xg34 xg35 xg36
          have Bg1_ := Aside0.mk (seg.far (blk_drew Bg1.out) hgr Ng1g2.out)
          have Bg3_ := Aside0.mk (seg.far (blk_drew Bg3.out) hgr (Ne.symm Ng2g3.out))
          have HB_ := Aside0.mk (seg.below (below_drew1 HB.out) hgr Gg2.out)
          clear Bg1 Bg3 HB
          have Bg1 := Bg1_
          clear Bg1_
          have Bg3 := Bg3_
          clear Bg3_
          have HB := HB_
          clear HB_
          clear Bg2
          have Bg2 := Aside0.mk bx
          clear bx hgr
          have xg12 : W7.cell? ⟨g1, 2, none⟩ = some (.int .i64 a2) := (blk_cell Bg1.out 2).trans rfl
          have xg30 : W7.cell? ⟨g3, 0, none⟩ = some (.int .i64 a0) := (blk_cell Bg3.out 0).trans rfl
          have xg31 : W7.cell? ⟨g3, 1, none⟩ = some (.int .i64 a1) := (blk_cell Bg3.out 1).trans rfl
          have xg32 : W7.cell? ⟨g3, 2, none⟩ = some (.int .i64 0) := (blk_cell Bg3.out 2).trans rfl
          have xg33 : W7.cell? ⟨g3, 3, none⟩ = some (.int .i64 a3) := (blk_cell Bg3.out 3).trans rfl
          have xg34 : W7.cell? ⟨g3, 4, none⟩ = some (.int .u64 a4) := (blk_cell Bg3.out 4).trans rfl
          have xg35 : W7.cell? ⟨g3, 5, none⟩ = some (.int .i64 a5) := (blk_cell Bg3.out 5).trans rfl
          have xg36 : W7.cell? ⟨g3, 6, none⟩ = some (.int .i64 (wrap64 (a6 - 1))) := (blk_cell Bg3.out 6).trans rfl
          refine hK.out _ _ ⟨xg30, xg31, xg32, xg33, xg34, xg35, xg36, xg12⟩ (fun hHeld => ?_)
          clear hK K
          refine pure_ (i := 4) (N := some 5) (v := ?_) (a' := ?_) #[true, true, true, true, true, false] rfl rfl (by kernel_rfl) (fun _ _ _ h => h) (Or.inl ⟨by rfl, ?_⟩) ?_ ?_
          rotate_left
          · intro w'
            go_simp
            with_reducible rfl
          rotate_left
          · simp only [Act.put, List.setIfInBounds_toArray, List.set_cons_zero, List.set_cons_succ, i64_w, i32_w]
            rfl
          refine pure_ (i := 5) (N := some 6) (v := ?_) (a' := ?_) #[true, true, true, true, true, true] rfl rfl (by kernel_rfl) (fun _ _ _ h => h) (Or.inl ⟨by rfl, ?_⟩) ?_ ?_
          rotate_left
          · intro w'
            go_simp
            with_reducible rfl
          rotate_left
          · simp only [Act.put, List.setIfInBounds_toArray, List.set_cons_zero, List.set_cons_succ, i64_w, i32_w]
            rfl
          refine done_ (by kernel_rfl) ?_
          go_wp2
          refine bodyPost_ret (results_list (rs := [.cell 4 40, .tmp 5, .tmp 6]) rfl (by simp) (.cell g2 40 #[.int .i64 a0, .int .i64 a1, .int .i64 0, .int .i64 a3, .int .u64 a4, .int .i64 a5, .int .i64 (wrap64 (a6 - 1))] (0, 0) _ rfl Bg2.out Try.underlying40 rfl (by kernel_rfl) (.tmp (.tmp .nil)))) rfl ?_
          exact ⟨rfl, HB.out⟩
        · rw [if_neg h3] at h
          simp only [Option.some.injEq, Prod.mk.injEq] at h
          obtain ⟨rfl, rfl, rfl, rfl, rfl, rfl, rfl, rfl, rfl⟩ := h
          have q3 := decide_eq_false h3
          clear h2 h3
          go_enter Try.func60, Try.ntmps60
          go_wp2_with (first | ((with_reducible refine gate_dst (N := 2) rfl ?_); refine box_event ?hg (N := 2) ?hd (cs := #[.int .i64 a0, .int .i64 a1, .int .i64 a2, .int .i64 a3, .int .u64 a4, .int .i64 a5, .int .i64 a6]) (t := 40) ?hr ?_; (case hd => rfl); (case hg => rfl); (case hr => first | (go_simp; done) | (go_simp; rfl)); intro g1 hgq W1 hbox hb; have Gg1 := Aside0.mk (by rw [hgq]; exact below_size HB.out : w.heap.size ≤ g1); have HB_ := Aside0.mk (below_step HB.out hb); clear HB; have HB := HB_; clear HB_; have Bg1 := Aside0.mk hbox; clear hb hbox hgq; skip) | ((with_reducible refine gate_dst (N := 4) rfl ?_); refine box_event ?hg (N := 4) ?hd (cs := #[.int .i64 0, .int .i64 0, .int .i64 0, .int .i64 0, .int .u64 0, .int .i64 0, .int .i64 0]) (t := 40) ?hr ?_; (case hd => rfl); (case hg => rfl); (case hr => first | (go_simp; done) | (go_simp; rfl)); intro g2 hgq W2 hbox hb; have Ng1g2 := Aside0.mk (by rw [hgq]; exact Nat.ne_of_lt (blk_lt Bg1.out) : g1 ≠ g2); have Gg2 := Aside0.mk (by rw [hgq]; exact below_size HB.out : w.heap.size ≤ g2); have Bg1_ := Aside0.mk (blk_below Bg1.out hb); have HB_ := Aside0.mk (below_step HB.out hb); clear Bg1 HB; have Bg1 := Bg1_; clear Bg1_; have HB := HB_; clear HB_; have Bg2 := Aside0.mk hbox; clear hb hbox hgq; have xg10 : W2.cell? ⟨g1, 0, none⟩ = some (.int .i64 a0) := (blk_cell Bg1.out 0).trans rfl; have xg11 : W2.cell? ⟨g1, 1, none⟩ = some (.int .i64 a1) := (blk_cell Bg1.out 1).trans rfl; have xg12 : W2.cell? ⟨g1, 2, none⟩ = some (.int .i64 a2) := (blk_cell Bg1.out 2).trans rfl; have xg13 : W2.cell? ⟨g1, 3, none⟩ = some (.int .i64 a3) := (blk_cell Bg1.out 3).trans rfl; have xg14 : W2.cell? ⟨g1, 4, none⟩ = some (.int .u64 a4) := (blk_cell Bg1.out 4).trans rfl; have xg15 : W2.cell? ⟨g1, 5, none⟩ = some (.int .i64 a5) := (blk_cell Bg1.out 5).trans rfl; have xg16 : W2.cell? ⟨g1, 6, none⟩ = some (.int .i64 a6) := (blk_cell Bg1.out 6).trans rfl; skip) | (go_at_call 67; refine (vendmeterref_MeterMay.calls k a0 a1 a2 a3 a4 a5 a6 true _ HM.out).mono ?_; rintro e wa ⟨rfl, hb1⟩; clear xg10 xg11 xg12 xg13 xg14 xg15 xg16; have Bg1_ := Aside0.mk (blk_below Bg1.out hb1); have Bg2_ := Aside0.mk (blk_below Bg2.out hb1); have HB_ := Aside0.mk (below_step HB.out hb1); clear Bg1 Bg2 HB; have Bg1 := Bg1_; clear Bg1_; have Bg2 := Bg2_; clear Bg2_; have HB := HB_; clear HB_; have xg10 : wa.cell? ⟨g1, 0, none⟩ = some (.int .i64 a0) := (blk_cell Bg1.out 0).trans rfl; have xg11 : wa.cell? ⟨g1, 1, none⟩ = some (.int .i64 a1) := (blk_cell Bg1.out 1).trans rfl; have xg12 : wa.cell? ⟨g1, 2, none⟩ = some (.int .i64 a2) := (blk_cell Bg1.out 2).trans rfl; have xg13 : wa.cell? ⟨g1, 3, none⟩ = some (.int .i64 a3) := (blk_cell Bg1.out 3).trans rfl; have xg14 : wa.cell? ⟨g1, 4, none⟩ = some (.int .u64 a4) := (blk_cell Bg1.out 4).trans rfl; have xg15 : wa.cell? ⟨g1, 5, none⟩ = some (.int .i64 a5) := (blk_cell Bg1.out 5).trans rfl; have xg16 : wa.cell? ⟨g1, 6, none⟩ = some (.int .i64 a6) := (blk_cell Bg1.out 6).trans rfl; clear hb1) | (go_at_call 54; refine (vendmeterref_MeterTicked.inn s 0 1000 true _ HI.out).mono ?_; rintro e wb ⟨rfl, hb1⟩; clear xg10 xg11 xg12 xg13 xg14 xg15 xg16; have Bg1_ := Aside0.mk (blk_below Bg1.out hb1); have Bg2_ := Aside0.mk (blk_below Bg2.out hb1); have HB_ := Aside0.mk (below_step HB.out hb1); clear Bg1 Bg2 HB; have Bg1 := Bg1_; clear Bg1_; have Bg2 := Bg2_; clear Bg2_; have HB := HB_; clear HB_; have xg10 : wb.cell? ⟨g1, 0, none⟩ = some (.int .i64 a0) := (blk_cell Bg1.out 0).trans rfl; have xg11 : wb.cell? ⟨g1, 1, none⟩ = some (.int .i64 a1) := (blk_cell Bg1.out 1).trans rfl; have xg12 : wb.cell? ⟨g1, 2, none⟩ = some (.int .i64 a2) := (blk_cell Bg1.out 2).trans rfl; have xg13 : wb.cell? ⟨g1, 3, none⟩ = some (.int .i64 a3) := (blk_cell Bg1.out 3).trans rfl; have xg14 : wb.cell? ⟨g1, 4, none⟩ = some (.int .u64 a4) := (blk_cell Bg1.out 4).trans rfl; have xg15 : wb.cell? ⟨g1, 5, none⟩ = some (.int .i64 a5) := (blk_cell Bg1.out 5).trans rfl; have xg16 : wb.cell? ⟨g1, 6, none⟩ = some (.int .i64 a6) := (blk_cell Bg1.out 6).trans rfl; clear hb1) | ((with_reducible refine gate_dst (N := 7) rfl ?_); refine box_event ?hg (N := 7) ?hd (cs := #[.int .i64 0, .int .i64 0, .int .i64 0, .int .i64 0, .int .u64 0, .int .i64 0, .int .i64 0]) (t := 40) ?hr ?_; (case hd => rfl); (case hg => rfl); (case hr => first | (go_simp; done) | (go_simp; rfl)); intro g3 hgq W3 hbox hb; clear xg10 xg11 xg12 xg13 xg14 xg15 xg16; have Ng1g3 := Aside0.mk (by rw [hgq]; exact Nat.ne_of_lt (blk_lt Bg1.out) : g1 ≠ g3); have Ng2g3 := Aside0.mk (by rw [hgq]; exact Nat.ne_of_lt (blk_lt Bg2.out) : g2 ≠ g3); have Gg3 := Aside0.mk (by rw [hgq]; exact below_size HB.out : w.heap.size ≤ g3); have Bg1_ := Aside0.mk (blk_below Bg1.out hb); have Bg2_ := Aside0.mk (blk_below Bg2.out hb); have HB_ := Aside0.mk (below_step HB.out hb); clear Bg1 Bg2 HB; have Bg1 := Bg1_; clear Bg1_; have Bg2 := Bg2_; clear Bg2_; have HB := HB_; clear HB_; have Bg3 := Aside0.mk hbox; clear hb hbox hgq; have xg12 : W3.cell? ⟨g1, 2, none⟩ = some (.int .i64 a2) := (blk_cell Bg1.out 2).trans rfl; skip) | ((with_reducible refine gate_store (t := 40) (p := 7) rfl ?_); refine seg.list rfl rfl 40 (.tmp 7) _ rfl 40 g3 0 #[.int .i64 0, .int .i64 0, .int .i64 0, .int .i64 0, .int .u64 0, .int .i64 0, .int .i64 0] #[.int .i64 a0, .int .i64 a1, .int .i64 a2, .int .i64 a3, .int .u64 a4, .int .i64 a5, .int .i64 a6] [.int .i64 a0, .int .i64 a1, .int .i64 a2, .int .i64 a3, .int .u64 a4, .int .i64 a5, .int .i64 a6] rfl rfl (by kernel_rfl) (by simp [Value.oneCell']) Bg3.out (by simp) rfl ?_; intro W4 bx hgr; clear xg12; have Bg1_ := Aside0.mk (seg.far Bg1.out hgr Ng1g3.out); have Bg2_ := Aside0.mk (seg.far Bg2.out hgr Ng2g3.out); have HB_ := Aside0.mk (seg.below HB.out hgr Gg3.out); clear Bg1 Bg2 HB; have Bg1 := Bg1_; clear Bg1_; have Bg2 := Bg2_; clear Bg2_; have HB := HB_; clear HB_; clear Bg3; have Bg3 := Aside0.mk bx; clear bx hgr; have xg12 : W4.cell? ⟨g1, 2, none⟩ = some (.int .i64 a2) := (blk_cell Bg1.out 2).trans rfl; have xg36 : W4.cell? ⟨g3, 6, none⟩ = some (.int .i64 a6) := (blk_cell Bg3.out 6).trans rfl; skip) | ((with_reducible refine gate_store (t := 3) (p := 23) rfl ?_); refine seg.list rfl rfl 3 (.tmp 23) _ rfl 40 g3 6 #[.int .i64 a0, .int .i64 a1, .int .i64 a2, .int .i64 a3, .int .u64 a4, .int .i64 a5, .int .i64 a6] #[.int .i64 a0, .int .i64 a1, .int .i64 a2, .int .i64 a3, .int .u64 a4, .int .i64 a5, .int .i64 (wrap64 (a6 - 1))] [.int .i64 (wrap64 (a6 - 1))] rfl rfl (by kernel_rfl) (by simp [Value.oneCell']) Bg3.out (by simp) rfl ?_; intro W5 bx hgr; clear xg12 xg36; have Bg1_ := Aside0.mk (seg.far Bg1.out hgr Ng1g3.out); have Bg2_ := Aside0.mk (seg.far Bg2.out hgr Ng2g3.out); have HB_ := Aside0.mk (seg.below HB.out hgr Gg3.out); clear Bg1 Bg2 HB; have Bg1 := Bg1_; clear Bg1_; have Bg2 := Bg2_; clear Bg2_; have HB := HB_; clear HB_; clear Bg3; have Bg3 := Aside0.mk bx; clear bx hgr; have xg12 : W5.cell? ⟨g1, 2, none⟩ = some (.int .i64 a2) := (blk_cell Bg1.out 2).trans rfl; have xg36 : W5.cell? ⟨g3, 6, none⟩ = some (.int .i64 (wrap64 (a6 - 1))) := (blk_cell Bg3.out 6).trans rfl; skip) | ((with_reducible refine gate_store (t := 3) (p := 36) rfl ?_); refine seg.list rfl rfl 3 (.tmp 36) _ rfl 40 g3 2 #[.int .i64 a0, .int .i64 a1, .int .i64 a2, .int .i64 a3, .int .u64 a4, .int .i64 a5, .int .i64 (wrap64 (a6 - 1))] #[.int .i64 a0, .int .i64 a1, .int .i64 (wrap64 (a2 - s)), .int .i64 a3, .int .u64 a4, .int .i64 a5, .int .i64 (wrap64 (a6 - 1))] [.int .i64 (wrap64 (a2 - s))] rfl rfl (by kernel_rfl) (by simp [Value.oneCell']) Bg3.out (by simp) rfl ?_; intro W6 bx hgr; clear xg12 xg36; have Bg1_ := Aside0.mk (seg.far Bg1.out hgr Ng1g3.out); have Bg2_ := Aside0.mk (seg.far Bg2.out hgr Ng2g3.out); have HB_ := Aside0.mk (seg.below HB.out hgr Gg3.out); clear Bg1 Bg2 HB; have Bg1 := Bg1_; clear Bg1_; have Bg2 := Bg2_; clear Bg2_; have HB := HB_; clear HB_; clear Bg3; have Bg3 := Aside0.mk bx; clear bx hgr; have xg12 : W6.cell? ⟨g1, 2, none⟩ = some (.int .i64 a2) := (blk_cell Bg1.out 2).trans rfl; have xg30 : W6.cell? ⟨g3, 0, none⟩ = some (.int .i64 a0) := (blk_cell Bg3.out 0).trans rfl; have xg31 : W6.cell? ⟨g3, 1, none⟩ = some (.int .i64 a1) := (blk_cell Bg3.out 1).trans rfl; have xg32 : W6.cell? ⟨g3, 2, none⟩ = some (.int .i64 (wrap64 (a2 - s))) := (blk_cell Bg3.out 2).trans rfl; have xg33 : W6.cell? ⟨g3, 3, none⟩ = some (.int .i64 a3) := (blk_cell Bg3.out 3).trans rfl; have xg34 : W6.cell? ⟨g3, 4, none⟩ = some (.int .u64 a4) := (blk_cell Bg3.out 4).trans rfl; have xg35 : W6.cell? ⟨g3, 5, none⟩ = some (.int .i64 a5) := (blk_cell Bg3.out 5).trans rfl; have xg36 : W6.cell? ⟨g3, 6, none⟩ = some (.int .i64 (wrap64 (a6 - 1))) := (blk_cell Bg3.out 6).trans rfl; skip) | ((with_reducible refine gate_store (t := 40) (p := 4) rfl ?_); refine seg.list rfl rfl 40 (.tmp 4) _ rfl 40 g2 0 #[.int .i64 0, .int .i64 0, .int .i64 0, .int .i64 0, .int .u64 0, .int .i64 0, .int .i64 0] #[.int .i64 a0, .int .i64 a1, .int .i64 (wrap64 (a2 - s)), .int .i64 a3, .int .u64 a4, .int .i64 a5, .int .i64 (wrap64 (a6 - 1))] [.int .i64 a0, .int .i64 a1, .int .i64 (wrap64 (a2 - s)), .int .i64 a3, .int .u64 a4, .int .i64 a5, .int .i64 (wrap64 (a6 - 1))] rfl rfl (by kernel_rfl) (by simp [Value.oneCell']) Bg2.out (by simp) rfl ?_; intro W7 bx hgr; clear xg12 xg30 xg31 xg32 xg33 xg34 xg35 xg36; have Bg1_ := Aside0.mk (seg.far Bg1.out hgr Ng1g2.out); have Bg3_ := Aside0.mk (seg.far Bg3.out hgr (Ne.symm Ng2g3.out)); have HB_ := Aside0.mk (seg.below HB.out hgr Gg2.out); clear Bg1 Bg3 HB; have Bg1 := Bg1_; clear Bg1_; have Bg3 := Bg3_; clear Bg3_; have HB := HB_; clear HB_; clear Bg2; have Bg2 := Aside0.mk bx; clear bx hgr; skip))
          refine bodyPost_ret (results_list (rs := [.cell 4 40, .tmp 5, .tmp 6]) rfl (by simp) (.cell g2 40 #[.int .i64 a0, .int .i64 a1, .int .i64 (wrap64 (a2 - s)), .int .i64 a3, .int .u64 a4, .int .i64 a5, .int .i64 (wrap64 (a6 - 1))] (0, 0) _ rfl Bg2.out Try.underlying40 rfl (by kernel_rfl) (.tmp (.tmp .nil)))) rfl ?_
          exact ⟨rfl, HB.out⟩
      · rw [if_neg h2] at h
        have q2 := decide_eq_false h2
        by_cases h3 : s ≥ a2
        · rw [if_pos h3] at h
          simp only [Option.some.injEq, Prod.mk.injEq] at h
          obtain ⟨rfl, rfl, rfl, rfl, rfl, rfl, rfl, rfl, rfl⟩ := h
          have q3 := decide_eq_true h3
          clear h2 h3
          go_enter Try.func60, Try.ntmps60
          go_wp2_with (first | ((with_reducible refine gate_dst (N := 2) rfl ?_); refine box_event ?hg (N := 2) ?hd (cs := #[.int .i64 a0, .int .i64 a1, .int .i64 a2, .int .i64 a3, .int .u64 a4, .int .i64 a5, .int .i64 a6]) (t := 40) ?hr ?_; (case hd => rfl); (case hg => rfl); (case hr => first | (go_simp; done) | (go_simp; rfl)); intro g1 hgq W1 hbox hb; have Gg1 := Aside0.mk (by rw [hgq]; exact below_size HB.out : w.heap.size ≤ g1); have HB_ := Aside0.mk (below_step HB.out hb); clear HB; have HB := HB_; clear HB_; have Bg1 := Aside0.mk hbox; clear hb hbox hgq; skip) | ((with_reducible refine gate_dst (N := 4) rfl ?_); refine box_event ?hg (N := 4) ?hd (cs := #[.int .i64 0, .int .i64 0, .int .i64 0, .int .i64 0, .int .u64 0, .int .i64 0, .int .i64 0]) (t := 40) ?hr ?_; (case hd => rfl); (case hg => rfl); (case hr => first | (go_simp; done) | (go_simp; rfl)); intro g2 hgq W2 hbox hb; have Ng1g2 := Aside0.mk (by rw [hgq]; exact Nat.ne_of_lt (blk_lt Bg1.out) : g1 ≠ g2); have Gg2 := Aside0.mk (by rw [hgq]; exact below_size HB.out : w.heap.size ≤ g2); have Bg1_ := Aside0.mk (blk_below Bg1.out hb); have HB_ := Aside0.mk (below_step HB.out hb); clear Bg1 HB; have Bg1 := Bg1_; clear Bg1_; have HB := HB_; clear HB_; have Bg2 := Aside0.mk hbox; clear hb hbox hgq; have xg10 : W2.cell? ⟨g1, 0, none⟩ = some (.int .i64 a0) := (blk_cell Bg1.out 0).trans rfl; have xg11 : W2.cell? ⟨g1, 1, none⟩ = some (.int .i64 a1) := (blk_cell Bg1.out 1).trans rfl; have xg12 : W2.cell? ⟨g1, 2, none⟩ = some (.int .i64 a2) := (blk_cell Bg1.out 2).trans rfl; have xg13 : W2.cell? ⟨g1, 3, none⟩ = some (.int .i64 a3) := (blk_cell Bg1.out 3).trans rfl; have xg14 : W2.cell? ⟨g1, 4, none⟩ = some (.int .u64 a4) := (blk_cell Bg1.out 4).trans rfl; have xg15 : W2.cell? ⟨g1, 5, none⟩ = some (.int .i64 a5) := (blk_cell Bg1.out 5).trans rfl; have xg16 : W2.cell? ⟨g1, 6, none⟩ = some (.int .i64 a6) := (blk_cell Bg1.out 6).trans rfl; skip) | (go_at_call 67; refine (vendmeterref_MeterMay.calls k a0 a1 a2 a3 a4 a5 a6 true _ HM.out).mono ?_; rintro e wa ⟨rfl, hb1⟩; clear xg10 xg11 xg12 xg13 xg14 xg15 xg16; have Bg1_ := Aside0.mk (blk_below Bg1.out hb1); have Bg2_ := Aside0.mk (blk_below Bg2.out hb1); have HB_ := Aside0.mk (below_step HB.out hb1); clear Bg1 Bg2 HB; have Bg1 := Bg1_; clear Bg1_; have Bg2 := Bg2_; clear Bg2_; have HB := HB_; clear HB_; have xg10 : wa.cell? ⟨g1, 0, none⟩ = some (.int .i64 a0) := (blk_cell Bg1.out 0).trans rfl; have xg11 : wa.cell? ⟨g1, 1, none⟩ = some (.int .i64 a1) := (blk_cell Bg1.out 1).trans rfl; have xg12 : wa.cell? ⟨g1, 2, none⟩ = some (.int .i64 a2) := (blk_cell Bg1.out 2).trans rfl; have xg13 : wa.cell? ⟨g1, 3, none⟩ = some (.int .i64 a3) := (blk_cell Bg1.out 3).trans rfl; have xg14 : wa.cell? ⟨g1, 4, none⟩ = some (.int .u64 a4) := (blk_cell Bg1.out 4).trans rfl; have xg15 : wa.cell? ⟨g1, 5, none⟩ = some (.int .i64 a5) := (blk_cell Bg1.out 5).trans rfl; have xg16 : wa.cell? ⟨g1, 6, none⟩ = some (.int .i64 a6) := (blk_cell Bg1.out 6).trans rfl; clear hb1) | (go_at_call 54; refine (vendmeterref_MeterTicked.inn s 0 1000 true _ HI.out).mono ?_; rintro e wb ⟨rfl, hb1⟩; clear xg10 xg11 xg12 xg13 xg14 xg15 xg16; have Bg1_ := Aside0.mk (blk_below Bg1.out hb1); have Bg2_ := Aside0.mk (blk_below Bg2.out hb1); have HB_ := Aside0.mk (below_step HB.out hb1); clear Bg1 Bg2 HB; have Bg1 := Bg1_; clear Bg1_; have Bg2 := Bg2_; clear Bg2_; have HB := HB_; clear HB_; have xg10 : wb.cell? ⟨g1, 0, none⟩ = some (.int .i64 a0) := (blk_cell Bg1.out 0).trans rfl; have xg11 : wb.cell? ⟨g1, 1, none⟩ = some (.int .i64 a1) := (blk_cell Bg1.out 1).trans rfl; have xg12 : wb.cell? ⟨g1, 2, none⟩ = some (.int .i64 a2) := (blk_cell Bg1.out 2).trans rfl; have xg13 : wb.cell? ⟨g1, 3, none⟩ = some (.int .i64 a3) := (blk_cell Bg1.out 3).trans rfl; have xg14 : wb.cell? ⟨g1, 4, none⟩ = some (.int .u64 a4) := (blk_cell Bg1.out 4).trans rfl; have xg15 : wb.cell? ⟨g1, 5, none⟩ = some (.int .i64 a5) := (blk_cell Bg1.out 5).trans rfl; have xg16 : wb.cell? ⟨g1, 6, none⟩ = some (.int .i64 a6) := (blk_cell Bg1.out 6).trans rfl; clear hb1) | ((with_reducible refine gate_dst (N := 7) rfl ?_); refine box_event ?hg (N := 7) ?hd (cs := #[.int .i64 0, .int .i64 0, .int .i64 0, .int .i64 0, .int .u64 0, .int .i64 0, .int .i64 0]) (t := 40) ?hr ?_; (case hd => rfl); (case hg => rfl); (case hr => first | (go_simp; done) | (go_simp; rfl)); intro g3 hgq W3 hbox hb; clear xg10 xg11 xg12 xg13 xg14 xg15 xg16; have Ng1g3 := Aside0.mk (by rw [hgq]; exact Nat.ne_of_lt (blk_lt Bg1.out) : g1 ≠ g3); have Ng2g3 := Aside0.mk (by rw [hgq]; exact Nat.ne_of_lt (blk_lt Bg2.out) : g2 ≠ g3); have Gg3 := Aside0.mk (by rw [hgq]; exact below_size HB.out : w.heap.size ≤ g3); have Bg1_ := Aside0.mk (blk_below Bg1.out hb); have Bg2_ := Aside0.mk (blk_below Bg2.out hb); have HB_ := Aside0.mk (below_step HB.out hb); clear Bg1 Bg2 HB; have Bg1 := Bg1_; clear Bg1_; have Bg2 := Bg2_; clear Bg2_; have HB := HB_; clear HB_; have Bg3 := Aside0.mk hbox; clear hb hbox hgq; have xg12 : W3.cell? ⟨g1, 2, none⟩ = some (.int .i64 a2) := (blk_cell Bg1.out 2).trans rfl; skip) | ((with_reducible refine gate_store (t := 40) (p := 7) rfl ?_); refine seg.list rfl rfl 40 (.tmp 7) _ rfl 40 g3 0 #[.int .i64 0, .int .i64 0, .int .i64 0, .int .i64 0, .int .u64 0, .int .i64 0, .int .i64 0] #[.int .i64 a0, .int .i64 a1, .int .i64 a2, .int .i64 a3, .int .u64 a4, .int .i64 a5, .int .i64 a6] [.int .i64 a0, .int .i64 a1, .int .i64 a2, .int .i64 a3, .int .u64 a4, .int .i64 a5, .int .i64 a6] rfl rfl (by kernel_rfl) (by simp [Value.oneCell']) Bg3.out (by simp) rfl ?_; intro W4 bx hgr; clear xg12; have Bg1_ := Aside0.mk (seg.far Bg1.out hgr Ng1g3.out); have Bg2_ := Aside0.mk (seg.far Bg2.out hgr Ng2g3.out); have HB_ := Aside0.mk (seg.below HB.out hgr Gg3.out); clear Bg1 Bg2 HB; have Bg1 := Bg1_; clear Bg1_; have Bg2 := Bg2_; clear Bg2_; have HB := HB_; clear HB_; clear Bg3; have Bg3 := Aside0.mk bx; clear bx hgr; have xg12 : W4.cell? ⟨g1, 2, none⟩ = some (.int .i64 a2) := (blk_cell Bg1.out 2).trans rfl; have xg36 : W4.cell? ⟨g3, 6, none⟩ = some (.int .i64 a6) := (blk_cell Bg3.out 6).trans rfl; skip) | ((with_reducible refine gate_store (t := 3) (p := 28) rfl ?_); refine seg.list rfl rfl 3 (.tmp 28) _ rfl 40 g3 2 #[.int .i64 a0, .int .i64 a1, .int .i64 a2, .int .i64 a3, .int .u64 a4, .int .i64 a5, .int .i64 a6] #[.int .i64 a0, .int .i64 a1, .int .i64 0, .int .i64 a3, .int .u64 a4, .int .i64 a5, .int .i64 a6] [.int .i64 0] rfl rfl (by kernel_rfl) (by simp [Value.oneCell']) Bg3.out (by simp) rfl ?_; intro W5 bx hgr; clear xg12 xg36; have Bg1_ := Aside0.mk (seg.far Bg1.out hgr Ng1g3.out); have Bg2_ := Aside0.mk (seg.far Bg2.out hgr Ng2g3.out); have HB_ := Aside0.mk (seg.below HB.out hgr Gg3.out); clear Bg1 Bg2 HB; have Bg1 := Bg1_; clear Bg1_; have Bg2 := Bg2_; clear Bg2_; have HB := HB_; clear HB_; clear Bg3; have Bg3 := Aside0.mk bx; clear bx hgr; have xg12 : W5.cell? ⟨g1, 2, none⟩ = some (.int .i64 a2) := (blk_cell Bg1.out 2).trans rfl; have xg30 : W5.cell? ⟨g3, 0, none⟩ = some (.int .i64 a0) := (blk_cell Bg3.out 0).trans rfl; have xg31 : W5.cell? ⟨g3, 1, none⟩ = some (.int .i64 a1) := (blk_cell Bg3.out 1).trans rfl; have xg32 : W5.cell? ⟨g3, 2, none⟩ = some (.int .i64 0) := (blk_cell Bg3.out 2).trans rfl; have xg33 : W5.cell? ⟨g3, 3, none⟩ = some (.int .i64 a3) := (blk_cell Bg3.out 3).trans rfl; have xg34 : W5.cell? ⟨g3, 4, none⟩ = some (.int .u64 a4) := (blk_cell Bg3.out 4).trans rfl; have xg35 : W5.cell? ⟨g3, 5, none⟩ = some (.int .i64 a5) := (blk_cell Bg3.out 5).trans rfl; have xg36 : W5.cell? ⟨g3, 6, none⟩ = some (.int .i64 a6) := (blk_cell Bg3.out 6).trans rfl; skip))
          refine start_ (n := 6) (S := fun w' => w'.cell? ⟨g3, 0, none⟩ = some (.int .i64 a0) ∧ w'.cell? ⟨g3, 1, none⟩ = some (.int .i64 a1) ∧ w'.cell? ⟨g3, 2, none⟩ = some (.int .i64 0) ∧ w'.cell? ⟨g3, 3, none⟩ = some (.int .i64 a3) ∧ w'.cell? ⟨g3, 4, none⟩ = some (.int .u64 a4) ∧ w'.cell? ⟨g3, 5, none⟩ = some (.int .i64 a5) ∧ w'.cell? ⟨g3, 6, none⟩ = some (.int .i64 a6) ∧ w'.cell? ⟨g1, 2, none⟩ = some (.int .i64 a2)) (ds := []) #[false, false, false, false, false, false] (by kernel_rfl) rfl rfl ⟨xg30, xg31, xg32, xg33, xg34, xg35, xg36, xg12⟩ (fun hHeld => ?_)
          refine pure_ (i := 1) (N := some 30) (v := ?_) (a' := ?_) #[false, true, false, false, false, false] rfl rfl (by kernel_rfl) (fun _ _ _ h => h) (Or.inl ⟨by rfl, ?_⟩) ?_ ?_
          rotate_left
          · intro w'
            go_simp
            with_reducible rfl
          rotate_left
          · simp only [Act.put, List.setIfInBounds_toArray, List.set_cons_zero, List.set_cons_succ, i64_w, i32_w]
            rfl
          refine take_ (i := 0) (N := some 29) (v := ?_) (a' := ?_) #[true, true, false, false, false, false] rfl rfl (by kernel_rfl) (fun _ _ _ h => h) (Or.inl ⟨by rfl, ?_⟩) hHeld ?_ ?_
          rotate_left
          · rintro w' ⟨s0, s1, s2, s3, s4, s5, s6, s7⟩
            go_simp
            with_reducible rfl
          rotate_left
          · simp only [Act.put, List.setIfInBounds_toArray, List.set_cons_zero, List.set_cons_succ, i64_w, i32_w]
            rfl
          refine take_ (i := 2) (N := some 31) (v := ?_) (a' := ?_) #[true, true, true, false, false, false] rfl rfl (by kernel_rfl) (fun _ _ _ h => h) (Or.inl ⟨by rfl, ?_⟩) hHeld ?_ ?_
          rotate_left
          · rintro w' ⟨s0, s1, s2, s3, s4, s5, s6, s7⟩
            go_simp
            with_reducible rfl
          rotate_left
          · simp only [Act.put, List.setIfInBounds_toArray, List.set_cons_zero, List.set_cons_succ, i64_w, i32_w]
            rfl
          refine one_ (i := 3) (N := none) #[true, true, true, true, false, false] rfl rfl (by kernel_rfl) (by decide) (fun K hK => ?_)
          refine seg.step (by rfl) rfl 40 (.tmp 4) _ (by rfl) 40 g2 0 #[.int .i64 0, .int .i64 0, .int .i64 0, .int .i64 0, .int .u64 0, .int .i64 0, .int .i64 0] #[.int .i64 a0, .int .i64 a1, .int .i64 0, .int .i64 a3, .int .u64 a4, .int .i64 a5, .int .i64 a6] [.int .i64 a0, .int .i64 a1, .int .i64 0, .int .i64 a3, .int .u64 a4, .int .i64 a5, .int .i64 a6] (by rfl) (by rfl) (by kernel_rfl) (by simp [Value.oneCell']) (blk_drew Bg2.out) (by simp) rfl ?_
          intro W6 bx hgr
          clear xg12 xg30 xg31 xg32 xg33 xg34 xg35 xg36
          have Bg1_ := Aside0.mk (seg.far (blk_drew Bg1.out) hgr Ng1g2.out)
          have Bg3_ := Aside0.mk (seg.far (blk_drew Bg3.out) hgr (Ne.symm Ng2g3.out))
          have HB_ := Aside0.mk (seg.below (below_drew1 HB.out) hgr Gg2.out)
          clear Bg1 Bg3 HB
          have Bg1 := Bg1_
          clear Bg1_
          have Bg3 := Bg3_
          clear Bg3_
          have HB := HB_
          clear HB_
          clear Bg2
          have Bg2 := Aside0.mk bx
          clear bx hgr
          have xg12 : W6.cell? ⟨g1, 2, none⟩ = some (.int .i64 a2) := (blk_cell Bg1.out 2).trans rfl
          have xg30 : W6.cell? ⟨g3, 0, none⟩ = some (.int .i64 a0) := (blk_cell Bg3.out 0).trans rfl
          have xg31 : W6.cell? ⟨g3, 1, none⟩ = some (.int .i64 a1) := (blk_cell Bg3.out 1).trans rfl
          have xg32 : W6.cell? ⟨g3, 2, none⟩ = some (.int .i64 0) := (blk_cell Bg3.out 2).trans rfl
          have xg33 : W6.cell? ⟨g3, 3, none⟩ = some (.int .i64 a3) := (blk_cell Bg3.out 3).trans rfl
          have xg34 : W6.cell? ⟨g3, 4, none⟩ = some (.int .u64 a4) := (blk_cell Bg3.out 4).trans rfl
          have xg35 : W6.cell? ⟨g3, 5, none⟩ = some (.int .i64 a5) := (blk_cell Bg3.out 5).trans rfl
          have xg36 : W6.cell? ⟨g3, 6, none⟩ = some (.int .i64 a6) := (blk_cell Bg3.out 6).trans rfl
          refine hK.out _ _ ⟨xg30, xg31, xg32, xg33, xg34, xg35, xg36, xg12⟩ (fun hHeld => ?_)
          clear hK K
          refine pure_ (i := 4) (N := some 5) (v := ?_) (a' := ?_) #[true, true, true, true, true, false] rfl rfl (by kernel_rfl) (fun _ _ _ h => h) (Or.inl ⟨by rfl, ?_⟩) ?_ ?_
          rotate_left
          · intro w'
            go_simp
            with_reducible rfl
          rotate_left
          · simp only [Act.put, List.setIfInBounds_toArray, List.set_cons_zero, List.set_cons_succ, i64_w, i32_w]
            rfl
          refine pure_ (i := 5) (N := some 6) (v := ?_) (a' := ?_) #[true, true, true, true, true, true] rfl rfl (by kernel_rfl) (fun _ _ _ h => h) (Or.inl ⟨by rfl, ?_⟩) ?_ ?_
          rotate_left
          · intro w'
            go_simp
            with_reducible rfl
          rotate_left
          · simp only [Act.put, List.setIfInBounds_toArray, List.set_cons_zero, List.set_cons_succ, i64_w, i32_w]
            rfl
          refine done_ (by kernel_rfl) ?_
          go_wp2
          refine bodyPost_ret (results_list (rs := [.cell 4 40, .tmp 5, .tmp 6]) rfl (by simp) (.cell g2 40 #[.int .i64 a0, .int .i64 a1, .int .i64 0, .int .i64 a3, .int .u64 a4, .int .i64 a5, .int .i64 a6] (0, 0) _ rfl Bg2.out Try.underlying40 rfl (by kernel_rfl) (.tmp (.tmp .nil)))) rfl ?_
          exact ⟨rfl, HB.out⟩
        · rw [if_neg h3] at h
          simp only [Option.some.injEq, Prod.mk.injEq] at h
          obtain ⟨rfl, rfl, rfl, rfl, rfl, rfl, rfl, rfl, rfl⟩ := h
          have q3 := decide_eq_false h3
          clear h2 h3
          go_enter Try.func60, Try.ntmps60
          go_wp2_with (first | ((with_reducible refine gate_dst (N := 2) rfl ?_); refine box_event ?hg (N := 2) ?hd (cs := #[.int .i64 a0, .int .i64 a1, .int .i64 a2, .int .i64 a3, .int .u64 a4, .int .i64 a5, .int .i64 a6]) (t := 40) ?hr ?_; (case hd => rfl); (case hg => rfl); (case hr => first | (go_simp; done) | (go_simp; rfl)); intro g1 hgq W1 hbox hb; have Gg1 := Aside0.mk (by rw [hgq]; exact below_size HB.out : w.heap.size ≤ g1); have HB_ := Aside0.mk (below_step HB.out hb); clear HB; have HB := HB_; clear HB_; have Bg1 := Aside0.mk hbox; clear hb hbox hgq; skip) | ((with_reducible refine gate_dst (N := 4) rfl ?_); refine box_event ?hg (N := 4) ?hd (cs := #[.int .i64 0, .int .i64 0, .int .i64 0, .int .i64 0, .int .u64 0, .int .i64 0, .int .i64 0]) (t := 40) ?hr ?_; (case hd => rfl); (case hg => rfl); (case hr => first | (go_simp; done) | (go_simp; rfl)); intro g2 hgq W2 hbox hb; have Ng1g2 := Aside0.mk (by rw [hgq]; exact Nat.ne_of_lt (blk_lt Bg1.out) : g1 ≠ g2); have Gg2 := Aside0.mk (by rw [hgq]; exact below_size HB.out : w.heap.size ≤ g2); have Bg1_ := Aside0.mk (blk_below Bg1.out hb); have HB_ := Aside0.mk (below_step HB.out hb); clear Bg1 HB; have Bg1 := Bg1_; clear Bg1_; have HB := HB_; clear HB_; have Bg2 := Aside0.mk hbox; clear hb hbox hgq; have xg10 : W2.cell? ⟨g1, 0, none⟩ = some (.int .i64 a0) := (blk_cell Bg1.out 0).trans rfl; have xg11 : W2.cell? ⟨g1, 1, none⟩ = some (.int .i64 a1) := (blk_cell Bg1.out 1).trans rfl; have xg12 : W2.cell? ⟨g1, 2, none⟩ = some (.int .i64 a2) := (blk_cell Bg1.out 2).trans rfl; have xg13 : W2.cell? ⟨g1, 3, none⟩ = some (.int .i64 a3) := (blk_cell Bg1.out 3).trans rfl; have xg14 : W2.cell? ⟨g1, 4, none⟩ = some (.int .u64 a4) := (blk_cell Bg1.out 4).trans rfl; have xg15 : W2.cell? ⟨g1, 5, none⟩ = some (.int .i64 a5) := (blk_cell Bg1.out 5).trans rfl; have xg16 : W2.cell? ⟨g1, 6, none⟩ = some (.int .i64 a6) := (blk_cell Bg1.out 6).trans rfl; skip) | (go_at_call 67; refine (vendmeterref_MeterMay.calls k a0 a1 a2 a3 a4 a5 a6 true _ HM.out).mono ?_; rintro e wa ⟨rfl, hb1⟩; clear xg10 xg11 xg12 xg13 xg14 xg15 xg16; have Bg1_ := Aside0.mk (blk_below Bg1.out hb1); have Bg2_ := Aside0.mk (blk_below Bg2.out hb1); have HB_ := Aside0.mk (below_step HB.out hb1); clear Bg1 Bg2 HB; have Bg1 := Bg1_; clear Bg1_; have Bg2 := Bg2_; clear Bg2_; have HB := HB_; clear HB_; have xg10 : wa.cell? ⟨g1, 0, none⟩ = some (.int .i64 a0) := (blk_cell Bg1.out 0).trans rfl; have xg11 : wa.cell? ⟨g1, 1, none⟩ = some (.int .i64 a1) := (blk_cell Bg1.out 1).trans rfl; have xg12 : wa.cell? ⟨g1, 2, none⟩ = some (.int .i64 a2) := (blk_cell Bg1.out 2).trans rfl; have xg13 : wa.cell? ⟨g1, 3, none⟩ = some (.int .i64 a3) := (blk_cell Bg1.out 3).trans rfl; have xg14 : wa.cell? ⟨g1, 4, none⟩ = some (.int .u64 a4) := (blk_cell Bg1.out 4).trans rfl; have xg15 : wa.cell? ⟨g1, 5, none⟩ = some (.int .i64 a5) := (blk_cell Bg1.out 5).trans rfl; have xg16 : wa.cell? ⟨g1, 6, none⟩ = some (.int .i64 a6) := (blk_cell Bg1.out 6).trans rfl; clear hb1) | (go_at_call 54; refine (vendmeterref_MeterTicked.inn s 0 1000 true _ HI.out).mono ?_; rintro e wb ⟨rfl, hb1⟩; clear xg10 xg11 xg12 xg13 xg14 xg15 xg16; have Bg1_ := Aside0.mk (blk_below Bg1.out hb1); have Bg2_ := Aside0.mk (blk_below Bg2.out hb1); have HB_ := Aside0.mk (below_step HB.out hb1); clear Bg1 Bg2 HB; have Bg1 := Bg1_; clear Bg1_; have Bg2 := Bg2_; clear Bg2_; have HB := HB_; clear HB_; have xg10 : wb.cell? ⟨g1, 0, none⟩ = some (.int .i64 a0) := (blk_cell Bg1.out 0).trans rfl; have xg11 : wb.cell? ⟨g1, 1, none⟩ = some (.int .i64 a1) := (blk_cell Bg1.out 1).trans rfl; have xg12 : wb.cell? ⟨g1, 2, none⟩ = some (.int .i64 a2) := (blk_cell Bg1.out 2).trans rfl; have xg13 : wb.cell? ⟨g1, 3, none⟩ = some (.int .i64 a3) := (blk_cell Bg1.out 3).trans rfl; have xg14 : wb.cell? ⟨g1, 4, none⟩ = some (.int .u64 a4) := (blk_cell Bg1.out 4).trans rfl; have xg15 : wb.cell? ⟨g1, 5, none⟩ = some (.int .i64 a5) := (blk_cell Bg1.out 5).trans rfl; have xg16 : wb.cell? ⟨g1, 6, none⟩ = some (.int .i64 a6) := (blk_cell Bg1.out 6).trans rfl; clear hb1) | ((with_reducible refine gate_dst (N := 7) rfl ?_); refine box_event ?hg (N := 7) ?hd (cs := #[.int .i64 0, .int .i64 0, .int .i64 0, .int .i64 0, .int .u64 0, .int .i64 0, .int .i64 0]) (t := 40) ?hr ?_; (case hd => rfl); (case hg => rfl); (case hr => first | (go_simp; done) | (go_simp; rfl)); intro g3 hgq W3 hbox hb; clear xg10 xg11 xg12 xg13 xg14 xg15 xg16; have Ng1g3 := Aside0.mk (by rw [hgq]; exact Nat.ne_of_lt (blk_lt Bg1.out) : g1 ≠ g3); have Ng2g3 := Aside0.mk (by rw [hgq]; exact Nat.ne_of_lt (blk_lt Bg2.out) : g2 ≠ g3); have Gg3 := Aside0.mk (by rw [hgq]; exact below_size HB.out : w.heap.size ≤ g3); have Bg1_ := Aside0.mk (blk_below Bg1.out hb); have Bg2_ := Aside0.mk (blk_below Bg2.out hb); have HB_ := Aside0.mk (below_step HB.out hb); clear Bg1 Bg2 HB; have Bg1 := Bg1_; clear Bg1_; have Bg2 := Bg2_; clear Bg2_; have HB := HB_; clear HB_; have Bg3 := Aside0.mk hbox; clear hb hbox hgq; have xg12 : W3.cell? ⟨g1, 2, none⟩ = some (.int .i64 a2) := (blk_cell Bg1.out 2).trans rfl; skip) | ((with_reducible refine gate_store (t := 40) (p := 7) rfl ?_); refine seg.list rfl rfl 40 (.tmp 7) _ rfl 40 g3 0 #[.int .i64 0, .int .i64 0, .int .i64 0, .int .i64 0, .int .u64 0, .int .i64 0, .int .i64 0] #[.int .i64 a0, .int .i64 a1, .int .i64 a2, .int .i64 a3, .int .u64 a4, .int .i64 a5, .int .i64 a6] [.int .i64 a0, .int .i64 a1, .int .i64 a2, .int .i64 a3, .int .u64 a4, .int .i64 a5, .int .i64 a6] rfl rfl (by kernel_rfl) (by simp [Value.oneCell']) Bg3.out (by simp) rfl ?_; intro W4 bx hgr; clear xg12; have Bg1_ := Aside0.mk (seg.far Bg1.out hgr Ng1g3.out); have Bg2_ := Aside0.mk (seg.far Bg2.out hgr Ng2g3.out); have HB_ := Aside0.mk (seg.below HB.out hgr Gg3.out); clear Bg1 Bg2 HB; have Bg1 := Bg1_; clear Bg1_; have Bg2 := Bg2_; clear Bg2_; have HB := HB_; clear HB_; clear Bg3; have Bg3 := Aside0.mk bx; clear bx hgr; have xg12 : W4.cell? ⟨g1, 2, none⟩ = some (.int .i64 a2) := (blk_cell Bg1.out 2).trans rfl; have xg36 : W4.cell? ⟨g3, 6, none⟩ = some (.int .i64 a6) := (blk_cell Bg3.out 6).trans rfl; skip) | ((with_reducible refine gate_store (t := 3) (p := 36) rfl ?_); refine seg.list rfl rfl 3 (.tmp 36) _ rfl 40 g3 2 #[.int .i64 a0, .int .i64 a1, .int .i64 a2, .int .i64 a3, .int .u64 a4, .int .i64 a5, .int .i64 a6] #[.int .i64 a0, .int .i64 a1, .int .i64 (wrap64 (a2 - s)), .int .i64 a3, .int .u64 a4, .int .i64 a5, .int .i64 a6] [.int .i64 (wrap64 (a2 - s))] rfl rfl (by kernel_rfl) (by simp [Value.oneCell']) Bg3.out (by simp) rfl ?_; intro W5 bx hgr; clear xg12 xg36; have Bg1_ := Aside0.mk (seg.far Bg1.out hgr Ng1g3.out); have Bg2_ := Aside0.mk (seg.far Bg2.out hgr Ng2g3.out); have HB_ := Aside0.mk (seg.below HB.out hgr Gg3.out); clear Bg1 Bg2 HB; have Bg1 := Bg1_; clear Bg1_; have Bg2 := Bg2_; clear Bg2_; have HB := HB_; clear HB_; clear Bg3; have Bg3 := Aside0.mk bx; clear bx hgr; have xg12 : W5.cell? ⟨g1, 2, none⟩ = some (.int .i64 a2) := (blk_cell Bg1.out 2).trans rfl; have xg30 : W5.cell? ⟨g3, 0, none⟩ = some (.int .i64 a0) := (blk_cell Bg3.out 0).trans rfl; have xg31 : W5.cell? ⟨g3, 1, none⟩ = some (.int .i64 a1) := (blk_cell Bg3.out 1).trans rfl; have xg32 : W5.cell? ⟨g3, 2, none⟩ = some (.int .i64 (wrap64 (a2 - s))) := (blk_cell Bg3.out 2).trans rfl; have xg33 : W5.cell? ⟨g3, 3, none⟩ = some (.int .i64 a3) := (blk_cell Bg3.out 3).trans rfl; have xg34 : W5.cell? ⟨g3, 4, none⟩ = some (.int .u64 a4) := (blk_cell Bg3.out 4).trans rfl; have xg35 : W5.cell? ⟨g3, 5, none⟩ = some (.int .i64 a5) := (blk_cell Bg3.out 5).trans rfl; have xg36 : W5.cell? ⟨g3, 6, none⟩ = some (.int .i64 a6) := (blk_cell Bg3.out 6).trans rfl; skip) | ((with_reducible refine gate_store (t := 40) (p := 4) rfl ?_); refine seg.list rfl rfl 40 (.tmp 4) _ rfl 40 g2 0 #[.int .i64 0, .int .i64 0, .int .i64 0, .int .i64 0, .int .u64 0, .int .i64 0, .int .i64 0] #[.int .i64 a0, .int .i64 a1, .int .i64 (wrap64 (a2 - s)), .int .i64 a3, .int .u64 a4, .int .i64 a5, .int .i64 a6] [.int .i64 a0, .int .i64 a1, .int .i64 (wrap64 (a2 - s)), .int .i64 a3, .int .u64 a4, .int .i64 a5, .int .i64 a6] rfl rfl (by kernel_rfl) (by simp [Value.oneCell']) Bg2.out (by simp) rfl ?_; intro W6 bx hgr; clear xg12 xg30 xg31 xg32 xg33 xg34 xg35 xg36; have Bg1_ := Aside0.mk (seg.far Bg1.out hgr Ng1g2.out); have Bg3_ := Aside0.mk (seg.far Bg3.out hgr (Ne.symm Ng2g3.out)); have HB_ := Aside0.mk (seg.below HB.out hgr Gg2.out); clear Bg1 Bg3 HB; have Bg1 := Bg1_; clear Bg1_; have Bg3 := Bg3_; clear Bg3_; have HB := HB_; clear HB_; clear Bg2; have Bg2 := Aside0.mk bx; clear bx hgr; skip))
          refine bodyPost_ret (results_list (rs := [.cell 4 40, .tmp 5, .tmp 6]) rfl (by simp) (.cell g2 40 #[.int .i64 a0, .int .i64 a1, .int .i64 (wrap64 (a2 - s)), .int .i64 a3, .int .u64 a4, .int .i64 a5, .int .i64 a6] (0, 0) _ rfl Bg2.out Try.underlying40 rfl (by kernel_rfl) (.tmp (.tmp .nil)))) rfl ?_
          exact ⟨rfl, HB.out⟩
    · rw [if_neg h1] at h
      simp only [Option.some.injEq, Prod.mk.injEq] at h
      obtain ⟨rfl, rfl, rfl, rfl, rfl, rfl, rfl, rfl, rfl⟩ := h
      replace h1 := Bool.eq_false_iff.mpr h1
      subst h1
      go_enter Try.func60, Try.ntmps60
      go_wp2_with (first | ((with_reducible refine gate_dst (N := 2) rfl ?_); refine box_event ?hg (N := 2) ?hd (cs := #[.int .i64 a0, .int .i64 a1, .int .i64 a2, .int .i64 a3, .int .u64 a4, .int .i64 a5, .int .i64 a6]) (t := 40) ?hr ?_; (case hd => rfl); (case hg => rfl); (case hr => first | (go_simp; done) | (go_simp; rfl)); intro g1 hgq W1 hbox hb; have Gg1 := Aside0.mk (by rw [hgq]; exact below_size HB.out : w.heap.size ≤ g1); have HB_ := Aside0.mk (below_step HB.out hb); clear HB; have HB := HB_; clear HB_; have Bg1 := Aside0.mk hbox; clear hb hbox hgq; skip) | ((with_reducible refine gate_dst (N := 4) rfl ?_); refine box_event ?hg (N := 4) ?hd (cs := #[.int .i64 0, .int .i64 0, .int .i64 0, .int .i64 0, .int .u64 0, .int .i64 0, .int .i64 0]) (t := 40) ?hr ?_; (case hd => rfl); (case hg => rfl); (case hr => first | (go_simp; done) | (go_simp; rfl)); intro g2 hgq W2 hbox hb; have Ng1g2 := Aside0.mk (by rw [hgq]; exact Nat.ne_of_lt (blk_lt Bg1.out) : g1 ≠ g2); have Gg2 := Aside0.mk (by rw [hgq]; exact below_size HB.out : w.heap.size ≤ g2); have Bg1_ := Aside0.mk (blk_below Bg1.out hb); have HB_ := Aside0.mk (below_step HB.out hb); clear Bg1 HB; have Bg1 := Bg1_; clear Bg1_; have HB := HB_; clear HB_; have Bg2 := Aside0.mk hbox; clear hb hbox hgq; have xg10 : W2.cell? ⟨g1, 0, none⟩ = some (.int .i64 a0) := (blk_cell Bg1.out 0).trans rfl; have xg11 : W2.cell? ⟨g1, 1, none⟩ = some (.int .i64 a1) := (blk_cell Bg1.out 1).trans rfl; have xg12 : W2.cell? ⟨g1, 2, none⟩ = some (.int .i64 a2) := (blk_cell Bg1.out 2).trans rfl; have xg13 : W2.cell? ⟨g1, 3, none⟩ = some (.int .i64 a3) := (blk_cell Bg1.out 3).trans rfl; have xg14 : W2.cell? ⟨g1, 4, none⟩ = some (.int .u64 a4) := (blk_cell Bg1.out 4).trans rfl; have xg15 : W2.cell? ⟨g1, 5, none⟩ = some (.int .i64 a5) := (blk_cell Bg1.out 5).trans rfl; have xg16 : W2.cell? ⟨g1, 6, none⟩ = some (.int .i64 a6) := (blk_cell Bg1.out 6).trans rfl; skip) | (go_at_call 67; refine (vendmeterref_MeterMay.calls k a0 a1 a2 a3 a4 a5 a6 true _ HM.out).mono ?_; rintro e wa ⟨rfl, hb1⟩; clear xg10 xg11 xg12 xg13 xg14 xg15 xg16; have Bg1_ := Aside0.mk (blk_below Bg1.out hb1); have Bg2_ := Aside0.mk (blk_below Bg2.out hb1); have HB_ := Aside0.mk (below_step HB.out hb1); clear Bg1 Bg2 HB; have Bg1 := Bg1_; clear Bg1_; have Bg2 := Bg2_; clear Bg2_; have HB := HB_; clear HB_; have xg10 : wa.cell? ⟨g1, 0, none⟩ = some (.int .i64 a0) := (blk_cell Bg1.out 0).trans rfl; have xg11 : wa.cell? ⟨g1, 1, none⟩ = some (.int .i64 a1) := (blk_cell Bg1.out 1).trans rfl; have xg12 : wa.cell? ⟨g1, 2, none⟩ = some (.int .i64 a2) := (blk_cell Bg1.out 2).trans rfl; have xg13 : wa.cell? ⟨g1, 3, none⟩ = some (.int .i64 a3) := (blk_cell Bg1.out 3).trans rfl; have xg14 : wa.cell? ⟨g1, 4, none⟩ = some (.int .u64 a4) := (blk_cell Bg1.out 4).trans rfl; have xg15 : wa.cell? ⟨g1, 5, none⟩ = some (.int .i64 a5) := (blk_cell Bg1.out 5).trans rfl; have xg16 : wa.cell? ⟨g1, 6, none⟩ = some (.int .i64 a6) := (blk_cell Bg1.out 6).trans rfl; clear hb1) | (go_at_call 54; refine (vendmeterref_MeterTicked.inn s 0 1000 false _ HI.out).mono ?_; rintro e wb ⟨rfl, hb1⟩; clear xg10 xg11 xg12 xg13 xg14 xg15 xg16; have Bg1_ := Aside0.mk (blk_below Bg1.out hb1); have Bg2_ := Aside0.mk (blk_below Bg2.out hb1); have HB_ := Aside0.mk (below_step HB.out hb1); clear Bg1 Bg2 HB; have Bg1 := Bg1_; clear Bg1_; have Bg2 := Bg2_; clear Bg2_; have HB := HB_; clear HB_; have xg10 : wb.cell? ⟨g1, 0, none⟩ = some (.int .i64 a0) := (blk_cell Bg1.out 0).trans rfl; have xg11 : wb.cell? ⟨g1, 1, none⟩ = some (.int .i64 a1) := (blk_cell Bg1.out 1).trans rfl; have xg12 : wb.cell? ⟨g1, 2, none⟩ = some (.int .i64 a2) := (blk_cell Bg1.out 2).trans rfl; have xg13 : wb.cell? ⟨g1, 3, none⟩ = some (.int .i64 a3) := (blk_cell Bg1.out 3).trans rfl; have xg14 : wb.cell? ⟨g1, 4, none⟩ = some (.int .u64 a4) := (blk_cell Bg1.out 4).trans rfl; have xg15 : wb.cell? ⟨g1, 5, none⟩ = some (.int .i64 a5) := (blk_cell Bg1.out 5).trans rfl; have xg16 : wb.cell? ⟨g1, 6, none⟩ = some (.int .i64 a6) := (blk_cell Bg1.out 6).trans rfl; clear hb1) | ((with_reducible refine gate_store (t := 40) (p := 4) rfl ?_); refine seg.list rfl rfl 40 (.tmp 4) _ rfl 40 g2 0 #[.int .i64 0, .int .i64 0, .int .i64 0, .int .i64 0, .int .u64 0, .int .i64 0, .int .i64 0] #[.int .i64 a0, .int .i64 a1, .int .i64 a2, .int .i64 a3, .int .u64 a4, .int .i64 a5, .int .i64 a6] [.int .i64 a0, .int .i64 a1, .int .i64 a2, .int .i64 a3, .int .u64 a4, .int .i64 a5, .int .i64 a6] rfl rfl (by kernel_rfl) (by simp [Value.oneCell']) Bg2.out (by simp) rfl ?_; intro W3 bx hgr; clear xg10 xg11 xg12 xg13 xg14 xg15 xg16; have Bg1_ := Aside0.mk (seg.far Bg1.out hgr Ng1g2.out); have HB_ := Aside0.mk (seg.below HB.out hgr Gg2.out); clear Bg1 HB; have Bg1 := Bg1_; clear Bg1_; have HB := HB_; clear HB_; clear Bg2; have Bg2 := Aside0.mk bx; clear bx hgr; skip))
      refine bodyPost_ret (results_list (rs := [.cell 4 40, .tmp 5, .tmp 6]) rfl (by simp) (.cell g2 40 #[.int .i64 a0, .int .i64 a1, .int .i64 a2, .int .i64 a3, .int .u64 a4, .int .i64 a5, .int .i64 a6] (0, 0) _ rfl Bg2.out Try.underlying40 rfl (by kernel_rfl) (.tmp (.tmp .nil)))) rfl ?_
      exact ⟨rfl, HB.out⟩
  · rw [if_neg h0] at h
    simp only [Option.some.injEq, Prod.mk.injEq] at h
    obtain ⟨rfl, rfl, rfl, rfl, rfl, rfl, rfl, rfl, rfl⟩ := h
    replace h0 := Bool.eq_false_iff.mpr h0
    subst h0
    go_enter Try.func60, Try.ntmps60
    go_wp2_with (first | ((with_reducible refine gate_dst (N := 2) rfl ?_); refine box_event ?hg (N := 2) ?hd (cs := #[.int .i64 a0, .int .i64 a1, .int .i64 a2, .int .i64 a3, .int .u64 a4, .int .i64 a5, .int .i64 a6]) (t := 40) ?hr ?_; (case hd => rfl); (case hg => rfl); (case hr => first | (go_simp; done) | (go_simp; rfl)); intro g1 hgq W1 hbox hb; have Gg1 := Aside0.mk (by rw [hgq]; exact below_size HB.out : w.heap.size ≤ g1); have HB_ := Aside0.mk (below_step HB.out hb); clear HB; have HB := HB_; clear HB_; have Bg1 := Aside0.mk hbox; clear hb hbox hgq; skip) | ((with_reducible refine gate_dst (N := 4) rfl ?_); refine box_event ?hg (N := 4) ?hd (cs := #[.int .i64 0, .int .i64 0, .int .i64 0, .int .i64 0, .int .u64 0, .int .i64 0, .int .i64 0]) (t := 40) ?hr ?_; (case hd => rfl); (case hg => rfl); (case hr => first | (go_simp; done) | (go_simp; rfl)); intro g2 hgq W2 hbox hb; have Ng1g2 := Aside0.mk (by rw [hgq]; exact Nat.ne_of_lt (blk_lt Bg1.out) : g1 ≠ g2); have Gg2 := Aside0.mk (by rw [hgq]; exact below_size HB.out : w.heap.size ≤ g2); have Bg1_ := Aside0.mk (blk_below Bg1.out hb); have HB_ := Aside0.mk (below_step HB.out hb); clear Bg1 HB; have Bg1 := Bg1_; clear Bg1_; have HB := HB_; clear HB_; have Bg2 := Aside0.mk hbox; clear hb hbox hgq; have xg10 : W2.cell? ⟨g1, 0, none⟩ = some (.int .i64 a0) := (blk_cell Bg1.out 0).trans rfl; have xg11 : W2.cell? ⟨g1, 1, none⟩ = some (.int .i64 a1) := (blk_cell Bg1.out 1).trans rfl; have xg12 : W2.cell? ⟨g1, 2, none⟩ = some (.int .i64 a2) := (blk_cell Bg1.out 2).trans rfl; have xg13 : W2.cell? ⟨g1, 3, none⟩ = some (.int .i64 a3) := (blk_cell Bg1.out 3).trans rfl; have xg14 : W2.cell? ⟨g1, 4, none⟩ = some (.int .u64 a4) := (blk_cell Bg1.out 4).trans rfl; have xg15 : W2.cell? ⟨g1, 5, none⟩ = some (.int .i64 a5) := (blk_cell Bg1.out 5).trans rfl; have xg16 : W2.cell? ⟨g1, 6, none⟩ = some (.int .i64 a6) := (blk_cell Bg1.out 6).trans rfl; skip) | (go_at_call 67; refine (vendmeterref_MeterMay.calls k a0 a1 a2 a3 a4 a5 a6 false _ HM.out).mono ?_; rintro e wa ⟨rfl, hb1⟩; clear xg10 xg11 xg12 xg13 xg14 xg15 xg16; have Bg1_ := Aside0.mk (blk_below Bg1.out hb1); have Bg2_ := Aside0.mk (blk_below Bg2.out hb1); have HB_ := Aside0.mk (below_step HB.out hb1); clear Bg1 Bg2 HB; have Bg1 := Bg1_; clear Bg1_; have Bg2 := Bg2_; clear Bg2_; have HB := HB_; clear HB_; have xg10 : wa.cell? ⟨g1, 0, none⟩ = some (.int .i64 a0) := (blk_cell Bg1.out 0).trans rfl; have xg11 : wa.cell? ⟨g1, 1, none⟩ = some (.int .i64 a1) := (blk_cell Bg1.out 1).trans rfl; have xg12 : wa.cell? ⟨g1, 2, none⟩ = some (.int .i64 a2) := (blk_cell Bg1.out 2).trans rfl; have xg13 : wa.cell? ⟨g1, 3, none⟩ = some (.int .i64 a3) := (blk_cell Bg1.out 3).trans rfl; have xg14 : wa.cell? ⟨g1, 4, none⟩ = some (.int .u64 a4) := (blk_cell Bg1.out 4).trans rfl; have xg15 : wa.cell? ⟨g1, 5, none⟩ = some (.int .i64 a5) := (blk_cell Bg1.out 5).trans rfl; have xg16 : wa.cell? ⟨g1, 6, none⟩ = some (.int .i64 a6) := (blk_cell Bg1.out 6).trans rfl; clear hb1) | ((with_reducible refine gate_store (t := 40) (p := 4) rfl ?_); refine seg.list rfl rfl 40 (.tmp 4) _ rfl 40 g2 0 #[.int .i64 0, .int .i64 0, .int .i64 0, .int .i64 0, .int .u64 0, .int .i64 0, .int .i64 0] #[.int .i64 0, .int .i64 0, .int .i64 0, .int .i64 0, .int .u64 0, .int .i64 0, .int .i64 0] [.int .i64 0, .int .i64 0, .int .i64 0, .int .i64 0, .int .u64 0, .int .i64 0, .int .i64 0] rfl rfl (by kernel_rfl) (by simp [Value.oneCell']) Bg2.out (by simp) rfl ?_; intro W3 bx hgr; clear xg10 xg11 xg12 xg13 xg14 xg15 xg16; have Bg1_ := Aside0.mk (seg.far Bg1.out hgr Ng1g2.out); have HB_ := Aside0.mk (seg.below HB.out hgr Gg2.out); clear Bg1 HB; have Bg1 := Bg1_; clear Bg1_; have HB := HB_; clear HB_; clear Bg2; have Bg2 := Aside0.mk bx; clear bx hgr; skip))
    refine bodyPost_ret (results_list (rs := [.cell 4 40, .tmp 5, .tmp 6]) rfl (by simp) (.cell g2 40 #[.int .i64 0, .int .i64 0, .int .i64 0, .int .i64 0, .int .u64 0, .int .i64 0, .int .i64 0] (0, 0) _ rfl Bg2.out Try.underlying40 rfl (by kernel_rfl) (.tmp (.tmp .nil)))) rfl ?_
    exact ⟨rfl, HB.out⟩

/-! ### vendmeterref_MeterWorded: function 104 -/
def vendmeterref_MeterWorded.f (k : Nat) (a0_0 : Int) (a0_1 : Int) (a0_2 : Int) (a0_3 : Int) (a0_4 : Int) (a0_5 : Int) (a0_6 : Int) : Option (List Int × Int) := (vendmeterref_MeterMay.f k a0_0 a0_1 a0_2 a0_3 a0_4 a0_5 a0_6).bind fun t249 => (if t249 = true then (some ((([(a0_2) % 4294967296, (wrap64 (a0_0 + (wrap64 (256 * (wrap64 (a0_1 + (wrap64 (256 * (wrap64 (a0_5 + (wrap64 (256 * a0_6)))))))))))) % 4294967296, (a0_3) % 4294967296, (Int.tmod a0_4 4294967296) % 4294967296, (IntKind.u64.wrap (Int.tdiv a0_4 4294967296)) % 4294967296] : List Int)), 0)) else (some (([] : List Int), 5)))
theorem vendmeterref_MeterWorded.mono : ∀ a0 a1 a2 a3 a4 a5 a6 k, LeO (vendmeterref_MeterWorded.f k a0 a1 a2 a3 a4 a5 a6) (vendmeterref_MeterWorded.f (k + 1) a0 a1 a2 a3 a4 a5 a6) := by
  intro a0 a1 a2 a3 a4 a5 a6 k
  unfold vendmeterref_MeterWorded.f
  repeat' first
      | (with_reducible exact vendmeterref_MeterMay.mono _ _ _ _ _ _ _ _)
      | (with_reducible exact LeO.refl _)
      | (with_reducible exact LeO.none _)
      | (with_reducible refine LeO.ite ?_ ?_)
      | (with_reducible refine LeO.bind ?_ (fun _ => ?_))
      | exact vendmeterref_MeterMay.mono _ _ _ _ _ _ _ _
      | exact LeO.none _
      | refine LeO.ite ?_ ?_
      | refine LeO.bind ?_ (fun _ => ?_)
set_option maxHeartbeats 8000000 in
set_option maxRecDepth 100000 in
theorem vendmeterref_MeterWorded.calls (k : Nat) (a0_0 : Int) (a0_1 : Int) (a0_2 : Int) (a0_3 : Int) (a0_4 : Int) (a0_5 : Int) (a0_6 : Int) (r1 : List Int) (r2 : Int) (w : World) (h : vendmeterref_MeterWorded.f k a0_0 a0_1 a0_2 a0_3 a0_4 a0_5 a0_6 = some (r1, r2)) :
    Calls Try.prog 104 #[.agg #[.int .i64 a0_0, .int .i64 a0_1, .int .i64 a0_2, .int .i64 a0_3, .int .u64 a0_4, .int .i64 a0_5, .int .i64 a0_6]] w fun e w' => ∃ v0_ : Value, e = .returned (.tuple #[v0_, .int .i64 r2]) ∧ Kd.R (Kd.int .u32) 99 w' w.heap.size (fun _ => True) v0_ r1 ∧ Below w.heap.size w w' := by
  have hu40 := Try.underlying40
  have HB := Aside0.mk (Below.refl w.heap.size w)
  have H : ((vendmeterref_MeterMay.f k a0_0 a0_1 a0_2 a0_3 a0_4 a0_5 a0_6).bind fun t249 => (if t249 = true then (some ((([(a0_2) % 4294967296, (wrap64 (a0_0 + (wrap64 (256 * (wrap64 (a0_1 + (wrap64 (256 * (wrap64 (a0_5 + (wrap64 (256 * a0_6)))))))))))) % 4294967296, (a0_3) % 4294967296, (Int.tmod a0_4 4294967296) % 4294967296, (IntKind.u64.wrap (Int.tdiv a0_4 4294967296)) % 4294967296] : List Int)), 0)) else (some (([] : List Int), 5)))) = some (r1, r2) := h
  clear h
  replace H := Option.bind_eq_some_iff.mp H
  obtain ⟨t249, A20, H⟩ := H
  replace H : (if t249 = true then (some ((([(a0_2) % 4294967296, (wrap64 (a0_0 + (wrap64 (256 * (wrap64 (a0_1 + (wrap64 (256 * (wrap64 (a0_5 + (wrap64 (256 * a0_6)))))))))))) % 4294967296, (a0_3) % 4294967296, (Int.tmod a0_4 4294967296) % 4294967296, (IntKind.u64.wrap (Int.tdiv a0_4 4294967296)) % 4294967296] : List Int)), 0)) else (some (([] : List Int), 5))) = some (r1, r2) := H
  have A2 := Aside0.mk A20
  clear A20
  by_cases c3 : t249 = true
  · subst c3
    have H1 : (some ((([(a0_2) % 4294967296, (wrap64 (a0_0 + (wrap64 (256 * (wrap64 (a0_1 + (wrap64 (256 * (wrap64 (a0_5 + (wrap64 (256 * a0_6)))))))))))) % 4294967296, (a0_3) % 4294967296, (Int.tmod a0_4 4294967296) % 4294967296, (IntKind.u64.wrap (Int.tdiv a0_4 4294967296)) % 4294967296] : List Int)), 0)) = some (r1, r2) := by rw [if_pos rfl] at H; exact H
    clear H
    have H := H1
    clear H1
    obtain ⟨y250, hy250⟩ : ∃ y_ : List Int, y_ = (([(a0_2) % 4294967296, (wrap64 (a0_0 + (wrap64 (256 * (wrap64 (a0_1 + (wrap64 (256 * (wrap64 (a0_5 + (wrap64 (256 * a0_6)))))))))))) % 4294967296, (a0_3) % 4294967296, (Int.tmod a0_4 4294967296) % 4294967296, (IntKind.u64.wrap (Int.tdiv a0_4 4294967296)) % 4294967296] : List Int)) := ⟨_, rfl⟩
    replace H : (some (y250, 0)) = some (r1, r2) := by first | (rw [hy250]; with_reducible exact H) | (have H2_ := (Option.bind_some _ _).symm.trans H; rw [hy250]; with_reducible exact H2_) | (have H2_ := (Option.bind_some _ _).symm.trans H; with_reducible exact H2_) | with_reducible exact H | (rw [hy250]; exact H) | exact H
    have Ny250 := Aside0.mk hy250
    clear hy250
    simp only [Option.some.injEq, Prod.mk.injEq] at H
    obtain ⟨rfl, rfl⟩ := H
    go_enter Try.func104, Try.ntmps104
    go_wp2_with (first | ((with_reducible refine gate_dst (N := 1) rfl ?_); refine box_event ?hg (N := 1) ?hd (cs := #[.int .i64 a0_0, .int .i64 a0_1, .int .i64 a0_2, .int .i64 a0_3, .int .u64 a0_4, .int .i64 a0_5, .int .i64 a0_6]) (t := 40) ?hr ?_; (case hd => rfl); (case hg => rfl); (case hr => first | (go_simp; done) | (go_simp; rfl)); intro gb248 hg w4 hbox hb; have n0_ := Aside0.mk (below_step (by repeat (first | (with_reducible first | exact HB.out | apply below_alloc | apply pw_below_drewN | apply below_drew1) | exact HB.out)) hb); have n1_ := Aside0.mk (hbox); have n2_ := Aside0.mk ((by rw [hg]; exact (below_size (by repeat (first | (with_reducible first | exact HB.out | apply below_alloc | apply pw_below_drewN | apply below_drew1) | exact HB.out))) : w.heap.size ≤ gb248)); have n3_ := Aside0.mk ((by rw [hg]; exact (below_size (by repeat (first | (with_reducible first | exact HB.out | apply below_alloc | apply pw_below_drewN | apply below_drew1) | exact HB.out))) : w.heap.size ≤ gb248)); clear HB; have HB := n0_; have BK248 := n1_; have GW248 := n2_; have GE248 := n3_; clear n0_ n1_ n2_ n3_; clear hb hbox hg; have hcz5_0 : w4.cell? ⟨gb248, 0, none⟩ = some (.int .i64 a0_0) := (blk_cell BK248.out 0).trans rfl; have hcz5_1 : w4.cell? ⟨gb248, 1, none⟩ = some (.int .i64 a0_1) := (blk_cell BK248.out 1).trans rfl; have hcz5_2 : w4.cell? ⟨gb248, 2, none⟩ = some (.int .i64 a0_2) := (blk_cell BK248.out 2).trans rfl; have hcz5_3 : w4.cell? ⟨gb248, 3, none⟩ = some (.int .i64 a0_3) := (blk_cell BK248.out 3).trans rfl; have hcz5_4 : w4.cell? ⟨gb248, 4, none⟩ = some (.int .u64 a0_4) := (blk_cell BK248.out 4).trans rfl; have hcz5_5 : w4.cell? ⟨gb248, 5, none⟩ = some (.int .i64 a0_5) := (blk_cell BK248.out 5).trans rfl; have hcz5_6 : w4.cell? ⟨gb248, 6, none⟩ = some (.int .i64 a0_6) := (blk_cell BK248.out 6).trans rfl; have hfz5_0 := blk_frozen BK248.out 0; have hfz5_1 := blk_frozen BK248.out 1; have hfz5_2 := blk_frozen BK248.out 2; have hfz5_3 := blk_frozen BK248.out 3; have hfz5_4 := blk_frozen BK248.out 4; have hfz5_5 := blk_frozen BK248.out 5; have hfz5_6 := blk_frozen BK248.out 6) | ((with_reducible refine gate_callee (f := 67) rfl ?_); refine goesL_ (some 8) rfl rfl Try.func67 (by kernel_rfl) rfl #[.agg #[.int .i64 a0_0, .int .i64 a0_1, .int .i64 a0_2, .int .i64 a0_3, .int .u64 a0_4, .int .i64 a0_5, .int .i64 a0_6]] rfl (by (try simp only [List.map_toArray, List.map_cons, List.map_nil]); first | done | rfl | (simp only [List.length_drop, List.length_take]; rfl)) ?_; (with_reducible refine (vendmeterref_MeterMay.calls k a0_0 a0_1 a0_2 a0_3 a0_4 a0_5 a0_6 true _ A2.out).mono ?_); rintro e w6 ⟨rfl, hb⟩; refine ⟨_, rfl, ?_⟩; have n0_ := Aside0.mk (blk_below (g := gb248) (o := .cells #[.int .i64 a0_0, .int .i64 a0_1, .int .i64 a0_2, .int .i64 a0_3, .int .u64 a0_4, .int .i64 a0_5, .int .i64 a0_6] 40 (0, 0)) (by (with_reducible repeat (first | refine blk_drewN ?_ _ | refine blk_drew ?_ | refine blk_alloc ?_ _)); exact BK248.out) hb); have n1_ := Aside0.mk (below_step (by repeat (first | (with_reducible first | exact HB.out | apply below_alloc | apply pw_below_drewN | apply below_drew1 | refine below_set ?_ GE248.out) | exact HB.out)) hb); clear BK248; clear HB; have BK248 := n0_; have HB := n1_; clear n0_ n1_; (try clear hb); (try clear hb2); (try clear hk); (try clear hi); have hcz7_0 : w6.cell? ⟨gb248, 0, none⟩ = some (.int .i64 a0_0) := (blk_cell BK248.out 0).trans rfl; have hcz7_1 : w6.cell? ⟨gb248, 1, none⟩ = some (.int .i64 a0_1) := (blk_cell BK248.out 1).trans rfl; have hcz7_2 : w6.cell? ⟨gb248, 2, none⟩ = some (.int .i64 a0_2) := (blk_cell BK248.out 2).trans rfl; have hcz7_3 : w6.cell? ⟨gb248, 3, none⟩ = some (.int .i64 a0_3) := (blk_cell BK248.out 3).trans rfl; have hcz7_4 : w6.cell? ⟨gb248, 4, none⟩ = some (.int .u64 a0_4) := (blk_cell BK248.out 4).trans rfl; have hcz7_5 : w6.cell? ⟨gb248, 5, none⟩ = some (.int .i64 a0_5) := (blk_cell BK248.out 5).trans rfl; have hcz7_6 : w6.cell? ⟨gb248, 6, none⟩ = some (.int .i64 a0_6) := (blk_cell BK248.out 6).trans rfl; have hfz7_0 := blk_frozen BK248.out 0; have hfz7_1 := blk_frozen BK248.out 1; have hfz7_2 := blk_frozen BK248.out 2; have hfz7_3 := blk_frozen BK248.out 3; have hfz7_4 := blk_frozen BK248.out 4; have hfz7_5 := blk_frozen BK248.out 5; have hfz7_6 := blk_frozen BK248.out 6) | ((with_reducible refine gate_dst (N := 45) rfl ?_); refine Kd.R_lit (Kd.int .u32) _ 99 ?hg (N := 45) ?hd (xs := ([(a0_2) % 4294967296, (wrap64 (a0_0 + (wrap64 (256 * (wrap64 (a0_1 + (wrap64 (256 * (wrap64 (a0_5 + (wrap64 (256 * a0_6)))))))))))) % 4294967296, (a0_3) % 4294967296, (Int.tmod a0_4 4294967296) % 4294967296, (IntKind.u64.wrap (Int.tdiv a0_4 4294967296)) % 4294967296] : List Int)) (inner := [.int .u32 ((a0_2) % 4294967296), .int .u32 ((wrap64 (a0_0 + (wrap64 (256 * (wrap64 (a0_1 + (wrap64 (256 * (wrap64 (a0_5 + (wrap64 (256 * a0_6)))))))))))) % 4294967296), .int .u32 ((a0_3) % 4294967296), .int .u32 ((Int.tmod a0_4 4294967296) % 4294967296), .int .u32 ((IntKind.u64.wrap (Int.tdiv a0_4 4294967296)) % 4294967296)]) (ok := fun _ => True) (okp := fun _ => True) ?hr ?hp (fun _ hk => hk) trivial (Below.refl _ _) (Nat.le_refl _) (by simp) ?_; (case hd => rfl); (case hg => rfl); (case hr => first | (go_simp; done) | (go_simp; rfl)); (case hp => exact (Reps.one (show Kd.M (Kd.int .u32) _ _ _ ((a0_2) % 4294967296) [.int .u32 ((a0_2) % 4294967296)] from rfl) (Reps.one (show Kd.M (Kd.int .u32) _ _ _ ((wrap64 (a0_0 + (wrap64 (256 * (wrap64 (a0_1 + (wrap64 (256 * (wrap64 (a0_5 + (wrap64 (256 * a0_6)))))))))))) % 4294967296) [.int .u32 ((wrap64 (a0_0 + (wrap64 (256 * (wrap64 (a0_1 + (wrap64 (256 * (wrap64 (a0_5 + (wrap64 (256 * a0_6)))))))))))) % 4294967296)] from rfl) (Reps.one (show Kd.M (Kd.int .u32) _ _ _ ((a0_3) % 4294967296) [.int .u32 ((a0_3) % 4294967296)] from rfl) (Reps.one (show Kd.M (Kd.int .u32) _ _ _ ((Int.tmod a0_4 4294967296) % 4294967296) [.int .u32 ((Int.tmod a0_4 4294967296) % 4294967296)] from rfl) (Reps.one (show Kd.M (Kd.int .u32) _ _ _ ((IntKind.u64.wrap (Int.tdiv a0_4 4294967296)) % 4294967296) [.int .u32 ((IntKind.u64.wrap (Int.tdiv a0_4 4294967296)) % 4294967296)] from rfl) (Reps.none _ _))))))); intro v251 w8 ho9 hb hg_ hnew_; clear hg_ hnew_; (first | rw [← Ny250.out] at ho9 | (simp only [Int.reduceToNat] at ho9; rw [← Ny250.out] at ho9)); have n0_ := Aside0.mk (Kd.R_lower ho9 (below_size (by repeat (first | (with_reducible first | exact HB.out | apply below_alloc | apply pw_below_drewN | apply below_drew1 | refine below_set ?_ GE248.out) | exact HB.out)))); have n1_ := Aside0.mk (blk_below (g := gb248) (o := .cells #[.int .i64 a0_0, .int .i64 a0_1, .int .i64 a0_2, .int .i64 a0_3, .int .u64 a0_4, .int .i64 a0_5, .int .i64 a0_6] 40 (0, 0)) (by (with_reducible repeat (first | refine blk_drewN ?_ _ | refine blk_drew ?_ | refine blk_alloc ?_ _)); exact BK248.out) hb); have n2_ := Aside0.mk (below_step (by repeat (first | (with_reducible first | exact HB.out | apply below_alloc | apply pw_below_drewN | apply below_drew1 | refine below_set ?_ GE248.out) | exact HB.out)) hb); clear BK248; clear HB; have HO252 := n0_; have BK248 := n1_; have HB := n2_; clear n0_ n1_ n2_; clear hb ho9))
    go_ret2
    exact ⟨_, by first | rfl | (simp [errW_none, errW_some] <;> rfl) | (simp [*, errW_none, errW_some] <;> rfl), by (with_reducible repeat (first | apply Kd.R_alloc | apply Kd.R_drewN | apply Kd.R_drew)); exact HO252.out, by repeat (first | (with_reducible first | exact HB.out | apply below_alloc | apply pw_below_drewN | apply below_drew1 | refine below_set ?_ GE248.out) | exact HB.out)⟩
  · replace c3 := Bool.eq_false_iff.mpr c3
    subst c3
    have H1 : (some (([] : List Int), 5)) = some (r1, r2) := by rw [if_neg (show ¬ (false = true) by decide)] at H; exact H
    clear H
    have H := H1
    clear H1
    simp only [Option.some.injEq, Prod.mk.injEq] at H
    obtain ⟨rfl, rfl⟩ := H
    go_enter Try.func104, Try.ntmps104
    go_wp2_with (first | ((with_reducible refine gate_dst (N := 1) rfl ?_); refine box_event ?hg (N := 1) ?hd (cs := #[.int .i64 a0_0, .int .i64 a0_1, .int .i64 a0_2, .int .i64 a0_3, .int .u64 a0_4, .int .i64 a0_5, .int .i64 a0_6]) (t := 40) ?hr ?_; (case hd => rfl); (case hg => rfl); (case hr => first | (go_simp; done) | (go_simp; rfl)); intro gb248 hg w10 hbox hb; have n0_ := Aside0.mk (below_step (by repeat (first | (with_reducible first | exact HB.out | apply below_alloc | apply pw_below_drewN | apply below_drew1) | exact HB.out)) hb); have n1_ := Aside0.mk (hbox); have n2_ := Aside0.mk ((by rw [hg]; exact (below_size (by repeat (first | (with_reducible first | exact HB.out | apply below_alloc | apply pw_below_drewN | apply below_drew1) | exact HB.out))) : w.heap.size ≤ gb248)); have n3_ := Aside0.mk ((by rw [hg]; exact (below_size (by repeat (first | (with_reducible first | exact HB.out | apply below_alloc | apply pw_below_drewN | apply below_drew1) | exact HB.out))) : w.heap.size ≤ gb248)); clear HB; have HB := n0_; have BK248 := n1_; have GW248 := n2_; have GE248 := n3_; clear n0_ n1_ n2_ n3_; clear hb hbox hg; have hcz11_0 : w10.cell? ⟨gb248, 0, none⟩ = some (.int .i64 a0_0) := (blk_cell BK248.out 0).trans rfl; have hcz11_1 : w10.cell? ⟨gb248, 1, none⟩ = some (.int .i64 a0_1) := (blk_cell BK248.out 1).trans rfl; have hcz11_2 : w10.cell? ⟨gb248, 2, none⟩ = some (.int .i64 a0_2) := (blk_cell BK248.out 2).trans rfl; have hcz11_3 : w10.cell? ⟨gb248, 3, none⟩ = some (.int .i64 a0_3) := (blk_cell BK248.out 3).trans rfl; have hcz11_4 : w10.cell? ⟨gb248, 4, none⟩ = some (.int .u64 a0_4) := (blk_cell BK248.out 4).trans rfl; have hcz11_5 : w10.cell? ⟨gb248, 5, none⟩ = some (.int .i64 a0_5) := (blk_cell BK248.out 5).trans rfl; have hcz11_6 : w10.cell? ⟨gb248, 6, none⟩ = some (.int .i64 a0_6) := (blk_cell BK248.out 6).trans rfl; have hfz11_0 := blk_frozen BK248.out 0; have hfz11_1 := blk_frozen BK248.out 1; have hfz11_2 := blk_frozen BK248.out 2; have hfz11_3 := blk_frozen BK248.out 3; have hfz11_4 := blk_frozen BK248.out 4; have hfz11_5 := blk_frozen BK248.out 5; have hfz11_6 := blk_frozen BK248.out 6) | ((with_reducible refine gate_callee (f := 67) rfl ?_); refine goesL_ (some 8) rfl rfl Try.func67 (by kernel_rfl) rfl #[.agg #[.int .i64 a0_0, .int .i64 a0_1, .int .i64 a0_2, .int .i64 a0_3, .int .u64 a0_4, .int .i64 a0_5, .int .i64 a0_6]] rfl (by (try simp only [List.map_toArray, List.map_cons, List.map_nil]); first | done | rfl | (simp only [List.length_drop, List.length_take]; rfl)) ?_; (with_reducible refine (vendmeterref_MeterMay.calls k a0_0 a0_1 a0_2 a0_3 a0_4 a0_5 a0_6 false _ A2.out).mono ?_); rintro e w12 ⟨rfl, hb⟩; refine ⟨_, rfl, ?_⟩; have n0_ := Aside0.mk (blk_below (g := gb248) (o := .cells #[.int .i64 a0_0, .int .i64 a0_1, .int .i64 a0_2, .int .i64 a0_3, .int .u64 a0_4, .int .i64 a0_5, .int .i64 a0_6] 40 (0, 0)) (by (with_reducible repeat (first | refine blk_drewN ?_ _ | refine blk_drew ?_ | refine blk_alloc ?_ _)); exact BK248.out) hb); have n1_ := Aside0.mk (below_step (by repeat (first | (with_reducible first | exact HB.out | apply below_alloc | apply pw_below_drewN | apply below_drew1 | refine below_set ?_ GE248.out) | exact HB.out)) hb); clear BK248; clear HB; have BK248 := n0_; have HB := n1_; clear n0_ n1_; (try clear hb); (try clear hb2); (try clear hk); (try clear hi)))
    go_ret2
    exact ⟨_, by first | rfl | (simp [errW_none, errW_some] <;> rfl) | (simp [*, errW_none, errW_some] <;> rfl), by first | exact Kd.R_nil _ _ _ _ _ | exact Kd.N_nil _ _ _ _ _ | exact Kd.V_nil _ _ _ _ _ | exact Kd.Q_nil _ _ _ _ _ | exact Kd.S_nil _ _ _ _ _, by repeat (first | (with_reducible first | exact HB.out | apply below_alloc | apply pw_below_drewN | apply below_drew1 | refine below_set ?_ GE248.out) | exact HB.out)⟩

end Go.Proofs.Ythmmadniaakapaa.PPocketTicks
