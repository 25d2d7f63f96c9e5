-- written by this session's program wip/xp/xprint.py (it drives the kit's print and adds to it)
import Derived.Test.YthmmadniaakapaaPAccountRekeysx0
import Derived.Test.YthmmadniaakapaaPAccountRekeysx3
namespace Go.Proofs.Ythmmadniaakapaa.PAccountRekeys
open Go.RowKit Go.Proofs.YthmmadniaakapaaW.PrintWords Go.Proofs.YthmmadniaakapaaW.PrintLast Go.Proofs.YthmmadniaakapaaW.PrintMore
attribute [local go_sem] max2_int min2_int max_two min_two max_three min_three max_four min_four   -- for this text's walks alone
set_option linter.unusedVariables false
set_option linter.unusedSimpArgs false

section
variable {P : Program} {ops : Array Oper} {o : Oper} {a : Act} {Q : Exit → Act → World → Prop} {W : World}
theorem seg.run {t : TypeId} {e : TypeId} {g : Nat} {cur new : Array Value} {u : Value} (i : Nat) (cs : List Value) (hu : u.cells.toList = cs) (ht : (P.info? t).map (·.size) = some cs.length) (h1 : ∀ q ∈ cs, q.oneCell' = true) (hh : W.heap[g]? = some (.cells cur e (0, 0))) (hsz : i + cs.length ≤ cur.size) (hnew : cur.toList.take i ++ cs ++ cur.toList.drop (i + cs.length) = new.toList) :
    (Instr.storeAt t (.pointer (some ⟨g, i, none⟩)) u).run P W = .ok () (W.setCells g i cs) ∧ (W.setCells g i cs).heap[g]? = some (.cells new e (0, 0)) ∧ W.grownBy (W.setCells g i cs) (some g) := by
  refine ⟨run_store_run t u cs hh hu ht hsz h1, ?_, ?_⟩
  · obtain ⟨cur', h2, h3, h4⟩ := setCells_row cs i W cur hh hsz
    rw [h2]
    have : cur' = new := Array.toList_inj.1 (h4.trans hnew)
    rw [this]
  · obtain ⟨q1, q2, q3, q4⟩ := setCells_same g cs i W
    exact ⟨q1, q2, q3, by rw [q4]; exact Nat.le_refl _, fun k _ hk => setCells_far _ _ k (fun h => hk (by rw [h]))⟩
theorem seg.list {rest : List Oper} (hN : o.dst = none) (hgd : o.guard = none) (t : TypeId) (p x : Operand) (ho : o.op = .store t p x) (e : TypeId) (g i : Nat) (cur new : Array Value) (cs : List Value) (haddr : a.eval p = .pointer (some ⟨g, i, none⟩)) (hu : (a.eval x).cells.toList = cs) (ht : (P.info? t).map (·.size) = some cs.length) (h1 : ∀ q ∈ cs, q.oneCell' = true) (hh : W.heap[g]? = some (.cells cur e (0, 0))) (hsz : i + cs.length ≤ cur.size) (hnew : cur.toList.take i ++ cs ++ cur.toList.drop (i + cs.length) = new.toList)
    (h : ∀ w1, w1.heap[g]? = some (.cells new e (0, 0)) → W.grownBy w1 (some g) → wpList P ops Q rest a w1) : wpList P ops Q (o :: rest) a W := by
  obtain ⟨hrun, hb, hg⟩ := seg.run (P := P) (t := t) i cs hu ht h1 hh hsz hnew
  refine wpList_plain hgd fun K hK => ?_
  unfold Oper.wp execOp
  simp only [ho, haddr, Sem.run_bind, Sem.run_pure, Result.andThen_ok, hrun]
  show K (a.put o.dst undef) _
  rw [hN]
  exact hK a _ (h _ hb hg)
theorem seg.step {Kc : Act → World → Prop} (hw : Region.wanted o (yielded ops a.tmps) = true) (hN : o.dst = none) (t : TypeId) (p x : Operand) (ho : o.op = .store t p x) (e : TypeId) (g i : Nat) (cur new : Array Value) (cs : List Value) (haddr : a.eval p = .pointer (some ⟨g, i, none⟩)) (hu : (a.eval x).cells.toList = cs) (ht : (P.info? t).map (·.size) = some cs.length) (h1 : ∀ q ∈ cs, q.oneCell' = true) (hh : W.heap[g]? = some (.cells cur e (0, 0))) (hsz : i + cs.length ≤ cur.size) (hnew : cur.toList.take i ++ cs ++ cur.toList.drop (i + cs.length) = new.toList)
    (h : ∀ w1, w1.heap[g]? = some (.cells new e (0, 0)) → W.grownBy w1 (some g) → Kc (a.put o.dst undef) w1) :
    if Region.wanted o (yielded ops a.tmps) = true then Oper.wp P o a W Kc Q else Kc (a.put o.dst undef) W := by
  obtain ⟨hrun, hb, hg⟩ := seg.run (P := P) (t := t) i cs hu ht h1 hh hsz hnew
  rw [if_pos hw]
  unfold Oper.wp execOp
  simp only [ho, haddr, Sem.run_bind, Sem.run_pure, Result.andThen_ok, hrun]
  exact h _ hb hg
end
theorem seg.below {w W w1 : World} {g : Nat} (h : Below w.heap.size w W) (hg : W.grownBy w1 (some g)) (hl : w.heap.size ≤ g) : Below w.heap.size w w1 := pw_below_grown h (some g) h.size hg (fun k hk => by cases hk; exact hl)
theorem seg.far {W w1 : World} {g h : Nat} {ob : Obj} (hb : W.heap[h]? = some ob) (hg : W.grownBy w1 (some g)) (hne : h ≠ g) : w1.heap[h]? = some ob := blk_grown hb hg (fun e => hne (Option.some.inj e))
theorem seg.R {α : Type} {d : Kd α} {e base : Nat} {ok : Nat → Prop} {W w1 : World} {v : Value} {xs : List α} {g : Nat} (h : d.R e W base ok v xs) (hg : W.grownBy w1 (some g)) (hok : ∀ k, ok k → k ≠ g) : d.R e w1 base ok v xs := Kd.R_grown h hg (fun k hk e => hok k hk (Option.some.inj e))

def account_Rekey.f (k : Nat) (me rev nx mo bo fr : Int) (l : List S76) : Option (Int × Int × Int × Int × Int × Int × (List S76) × Int × Int × Int × Int × Int × Int × Int × Int) := (account_may.f k me rev nx mo bo fr l).bind fun t132 => (if t132 = true then (if rev = 15 then (some (0, 0, 0, 0, 0, 0, ([] : List S76), 0, 0, 0, 0, 0, 0, 0, 24)) else (if nx > 1048575 then (some (0, 0, 0, 0, 0, 0, ([] : List S76), 0, 0, 0, 0, 0, 0, 0, 20)) else (if ([] : List S76).length + l.length < 8796093022208 then (some (me, wrap64 (rev + 1), wrap64 (nx + 1), mo, bo, fr, (([] : List S76) ++ l), wrap64 ((wrap64 (nx + 1)) - 1), 0, 0, 0, 0, 0, 0, 0)) else (none)))) else (some (0, 0, 0, 0, 0, 0, ([] : List S76), 0, 0, 0, 0, 0, 0, 0, 5)))
theorem account_Rekey.mono : ∀ a0 a1 a2 a3 a4 a5 a6 k, LeO (account_Rekey.f k a0 a1 a2 a3 a4 a5 a6) (account_Rekey.f (k + 1) a0 a1 a2 a3 a4 a5 a6) := by
  intro a0 a1 a2 a3 a4 a5 a6 k
  unfold account_Rekey.f
  exact LeO.bind (account_may.mono _ _ _ _ _ _ _ _) (fun _ => LeO.refl _)
set_option maxHeartbeats 16000000 in
set_option maxRecDepth 100000 in
theorem account_Rekey.calls (k : Nat) (me rev nx mo bo fr : Int) (A6 : Option Addr) (c6 : Nat) (l : List S76) (r1 r2 r3 r4 r5 r6 : Int) (r7 : List S76) (r8 r9 r10 r11 r12 r13 r14 r15 : Int) (w : World) (hr0 : Kd.C k76 w A6 l.length l) (hc0 : l.length ≤ c6) (h : account_Rekey.f k me rev nx mo bo fr l = some (r1, r2, r3, r4, r5, r6, r7, r8, r9, r10, r11, r12, r13, r14, r15)) :
    Calls Try.prog 39 #[.agg #[.int .i64 me, .int .i64 rev, .int .i64 nx, .int .i64 mo, .int .i64 bo, .int .i64 fr, .slice A6 l.length c6]] w fun e w' => ∃ v6_ : Value, e = .returned (.tuple #[.agg #[.int .i64 r1, .int .i64 r2, .int .i64 r3, .int .i64 r4, .int .i64 r5, .int .i64 r6, v6_], .agg #[.int .i64 r8, .int .i64 r9, .int .i64 r10, .int .i64 r11, .int .i64 r12, .int .i64 r13, .int .i64 r14], .int .i64 r15]) ∧ Kd.R k76 76 w' w.heap.size (fun _ => True) v6_ r7 ∧ Below w.heap.size w w' := by
  have HR0 := Aside0.mk hr0
  have HC0 := Aside0.mk hc0
  have HB := Aside0.mk (Below.refl w.heap.size w)
  have hu60 := Try.underlying60
  have hu67 := Try.underlying67
  clear hr0 hc0
  unfold account_Rekey.f at h
  obtain ⟨m, hm, h⟩ := Option.bind_eq_some_iff.mp h
  have HM := Aside0.mk hm
  clear hm
  by_cases h0 : m = true
  · rw [if_pos h0] at h
    subst h0
    by_cases h1 : rev = 15
    · rw [if_pos h1] at h
      simp only [Option.some.injEq, Prod.mk.injEq] at h
      obtain ⟨rfl, rfl, rfl, rfl, rfl, rfl, rfl, rfl, rfl, rfl, rfl, rfl, rfl, rfl, rfl⟩ := h
      have q1 : (rev == 15) = true := beq_iff_eq.mpr h1
      clear h1
      go_enter Try.func39, Try.ntmps39
      go_wp2_with (first | ((with_reducible refine gate_dst (N := 1) rfl ?_); refine box_event ?hg (N := 1) ?hd (cs := #[.int .i64 me, .int .i64 rev, .int .i64 nx, .int .i64 mo, .int .i64 bo, .int .i64 fr, .slice A6 l.length c6]) (t := 60) ?hr ?_; (case hd => rfl); (case hg => rfl); (case hr => first | (go_simp; done) | (go_simp; rfl)); intro g1 hgq W1 hbox hb; have Gg1 := Aside0.mk (by rw [hgq]; exact below_size (by repeat (first | (with_reducible first | exact HB.out | apply below_alloc | apply pw_below_drewN | apply below_drew1) | exact HB.out)) : w.heap.size ≤ g1); have HB_ := Aside0.mk (below_step (by repeat (first | (with_reducible first | exact HB.out | apply below_alloc | apply pw_below_drewN | apply below_drew1) | exact HB.out)) hb); clear HB; have HB := HB_; clear HB_; have Bg1 := Aside0.mk hbox; clear hb hbox hgq; skip) | ((with_reducible refine gate_dst (N := 2) rfl ?_); refine box_event ?hg (N := 2) ?hd (cs := #[.int .i64 0, .int .i64 0, .int .i64 0, .int .i64 0, .int .i64 0, .int .i64 0, .slice none 0 0]) (t := 60) ?hr ?_; (case hd => rfl); (case hg => rfl); (case hr => first | (go_simp; done) | (go_simp; rfl)); intro g2 hgq W2 hbox hb; have Ng1g2 := Aside0.mk (by rw [hgq]; exact Nat.ne_of_lt (blk_lt (by first | with_reducible exact Bg1.out | with_reducible exact blk_drew Bg1.out | with_reducible exact blk_drewN Bg1.out _ | ((with_reducible repeat (first | refine blk_drewN ?_ _ | refine blk_drew ?_ | refine blk_alloc ?_ _)); exact Bg1.out))) : g1 ≠ g2); have Gg2 := Aside0.mk (by rw [hgq]; exact below_size (by repeat (first | (with_reducible first | exact HB.out | apply below_alloc | apply pw_below_drewN | apply below_drew1) | exact HB.out)) : w.heap.size ≤ g2); have Bg1_ := Aside0.mk (blk_below (by first | with_reducible exact Bg1.out | with_reducible exact blk_drew Bg1.out | with_reducible exact blk_drewN Bg1.out _ | ((with_reducible repeat (first | refine blk_drewN ?_ _ | refine blk_drew ?_ | refine blk_alloc ?_ _)); exact Bg1.out)) hb); have HB_ := Aside0.mk (below_step (by repeat (first | (with_reducible first | exact HB.out | apply below_alloc | apply pw_below_drewN | apply below_drew1) | exact HB.out)) hb); clear Bg1 HB; have Bg1 := Bg1_; clear Bg1_; have HB := HB_; clear HB_; have Bg2 := Aside0.mk hbox; clear hb hbox hgq; skip) | ((with_reducible refine gate_dst (N := 3) rfl ?_); refine box_event ?hg (N := 3) ?hd (cs := #[.int .i64 0, .int .i64 0, .int .i64 0, .int .i64 0, .int .i64 0, .int .i64 0, .int .i64 0]) (t := 67) ?hr ?_; (case hd => rfl); (case hg => rfl); (case hr => first | (go_simp; done) | (go_simp; rfl)); intro g3 hgq W3 hbox hb; have Ng1g3 := Aside0.mk (by rw [hgq]; exact Nat.ne_of_lt (blk_lt (by first | with_reducible exact Bg1.out | with_reducible exact blk_drew Bg1.out | with_reducible exact blk_drewN Bg1.out _ | ((with_reducible repeat (first | refine blk_drewN ?_ _ | refine blk_drew ?_ | refine blk_alloc ?_ _)); exact Bg1.out))) : g1 ≠ g3); have Ng2g3 := Aside0.mk (by rw [hgq]; exact Nat.ne_of_lt (blk_lt (by first | with_reducible exact Bg2.out | with_reducible exact blk_drew Bg2.out | with_reducible exact blk_drewN Bg2.out _ | ((with_reducible repeat (first | refine blk_drewN ?_ _ | refine blk_drew ?_ | refine blk_alloc ?_ _)); exact Bg2.out))) : g2 ≠ g3); have Gg3 := Aside0.mk (by rw [hgq]; exact below_size (by repeat (first | (with_reducible first | exact HB.out | apply below_alloc | apply pw_below_drewN | apply below_drew1) | exact HB.out)) : w.heap.size ≤ g3); have Bg1_ := Aside0.mk (blk_below (by first | with_reducible exact Bg1.out | with_reducible exact blk_drew Bg1.out | with_reducible exact blk_drewN Bg1.out _ | ((with_reducible repeat (first | refine blk_drewN ?_ _ | refine blk_drew ?_ | refine blk_alloc ?_ _)); exact Bg1.out)) hb); have Bg2_ := Aside0.mk (blk_below (by first | with_reducible exact Bg2.out | with_reducible exact blk_drew Bg2.out | with_reducible exact blk_drewN Bg2.out _ | ((with_reducible repeat (first | refine blk_drewN ?_ _ | refine blk_drew ?_ | refine blk_alloc ?_ _)); exact Bg2.out)) hb); have HB_ := Aside0.mk (below_step (by repeat (first | (with_reducible first | exact HB.out | apply below_alloc | apply pw_below_drewN | apply below_drew1) | exact HB.out)) hb); clear Bg1 Bg2 HB; have Bg1 := Bg1_; clear Bg1_; have Bg2 := Bg2_; clear Bg2_; have HB := HB_; clear HB_; have Bg3 := Aside0.mk hbox; clear hb hbox hgq; have xg10 : W3.cell? ⟨g1, 0, none⟩ = some (.int .i64 me) := (blk_cell Bg1.out 0).trans rfl; have xg11 : W3.cell? ⟨g1, 1, none⟩ = some (.int .i64 rev) := (blk_cell Bg1.out 1).trans rfl; have xg12 : W3.cell? ⟨g1, 2, none⟩ = some (.int .i64 nx) := (blk_cell Bg1.out 2).trans rfl; have xg13 : W3.cell? ⟨g1, 3, none⟩ = some (.int .i64 mo) := (blk_cell Bg1.out 3).trans rfl; have xg14 : W3.cell? ⟨g1, 4, none⟩ = some (.int .i64 bo) := (blk_cell Bg1.out 4).trans rfl; have xg15 : W3.cell? ⟨g1, 5, none⟩ = some (.int .i64 fr) := (blk_cell Bg1.out 5).trans rfl; have xg16 : W3.cell? ⟨g1, 6, none⟩ = some (.slice A6 l.length c6) := (blk_cell Bg1.out 6).trans rfl; skip) | (go_at_call 85; refine (account_may.calls k me rev nx mo bo fr A6 c6 l true _ (by repeat (first | exact (Kd.C_below HR0.out HB.out) | (with_reducible refine Kd.C_alloc ?_ _) | (with_reducible refine Kd.C_drewN ?_ _) | (with_reducible refine Kd.C_drew ?_))) HC0.out HM.out).mono ?_; rintro e wa ⟨rfl, hb1⟩; clear xg10 xg11 xg12 xg13 xg14 xg15 xg16; have Bg1_ := Aside0.mk (blk_below (by first | with_reducible exact Bg1.out | with_reducible exact blk_drew Bg1.out | with_reducible exact blk_drewN Bg1.out _ | ((with_reducible repeat (first | refine blk_drewN ?_ _ | refine blk_drew ?_ | refine blk_alloc ?_ _)); exact Bg1.out)) hb1); have Bg2_ := Aside0.mk (blk_below (by first | with_reducible exact Bg2.out | with_reducible exact blk_drew Bg2.out | with_reducible exact blk_drewN Bg2.out _ | ((with_reducible repeat (first | refine blk_drewN ?_ _ | refine blk_drew ?_ | refine blk_alloc ?_ _)); exact Bg2.out)) hb1); have Bg3_ := Aside0.mk (blk_below (by first | with_reducible exact Bg3.out | with_reducible exact blk_drew Bg3.out | with_reducible exact blk_drewN Bg3.out _ | ((with_reducible repeat (first | refine blk_drewN ?_ _ | refine blk_drew ?_ | refine blk_alloc ?_ _)); exact Bg3.out)) hb1); have HB_ := Aside0.mk (below_step (by repeat (first | (with_reducible first | exact HB.out | apply below_alloc | apply pw_below_drewN | apply below_drew1) | exact HB.out)) hb1); clear Bg1 Bg2 Bg3 HB; have Bg1 := Bg1_; clear Bg1_; have Bg2 := Bg2_; clear Bg2_; have Bg3 := Bg3_; clear Bg3_; have HB := HB_; clear HB_; have xg10 : wa.cell? ⟨g1, 0, none⟩ = some (.int .i64 me) := (blk_cell Bg1.out 0).trans rfl; have xg11 : wa.cell? ⟨g1, 1, none⟩ = some (.int .i64 rev) := (blk_cell Bg1.out 1).trans rfl; have xg12 : wa.cell? ⟨g1, 2, none⟩ = some (.int .i64 nx) := (blk_cell Bg1.out 2).trans rfl; have xg13 : wa.cell? ⟨g1, 3, none⟩ = some (.int .i64 mo) := (blk_cell Bg1.out 3).trans rfl; have xg14 : wa.cell? ⟨g1, 4, none⟩ = some (.int .i64 bo) := (blk_cell Bg1.out 4).trans rfl; have xg15 : wa.cell? ⟨g1, 5, none⟩ = some (.int .i64 fr) := (blk_cell Bg1.out 5).trans rfl; have xg16 : wa.cell? ⟨g1, 6, none⟩ = some (.slice A6 l.length c6) := (blk_cell Bg1.out 6).trans rfl; clear hb1) | ((with_reducible refine gate_store (t := 60) (p := 2) rfl ?_); refine seg.list rfl rfl 60 (.tmp 2) _ rfl 60 g2 0 #[.int .i64 0, .int .i64 0, .int .i64 0, .int .i64 0, .int .i64 0, .int .i64 0, .slice none 0 0] #[.int .i64 0, .int .i64 0, .int .i64 0, .int .i64 0, .int .i64 0, .int .i64 0, .slice none 0 0] [.int .i64 0, .int .i64 0, .int .i64 0, .int .i64 0, .int .i64 0, .int .i64 0, .slice none 0 0] rfl rfl (by kernel_rfl) (by simp [Value.oneCell']) (by first | with_reducible exact Bg2.out | with_reducible exact blk_drew Bg2.out | with_reducible exact blk_drewN Bg2.out _ | ((with_reducible repeat (first | refine blk_drewN ?_ _ | refine blk_drew ?_ | refine blk_alloc ?_ _)); exact Bg2.out)) (by simp) rfl ?_; intro W4 bx hgr; clear xg10 xg11 xg12 xg13 xg14 xg15 xg16; have Bg1_ := Aside0.mk (seg.far (by first | with_reducible exact Bg1.out | with_reducible exact blk_drew Bg1.out | with_reducible exact blk_drewN Bg1.out _ | ((with_reducible repeat (first | refine blk_drewN ?_ _ | refine blk_drew ?_ | refine blk_alloc ?_ _)); exact Bg1.out)) hgr Ng1g2.out); have Bg3_ := Aside0.mk (seg.far (by first | with_reducible exact Bg3.out | with_reducible exact blk_drew Bg3.out | with_reducible exact blk_drewN Bg3.out _ | ((with_reducible repeat (first | refine blk_drewN ?_ _ | refine blk_drew ?_ | refine blk_alloc ?_ _)); exact Bg3.out)) hgr (Ne.symm Ng2g3.out)); have HB_ := Aside0.mk (seg.below (by repeat (first | (with_reducible first | exact HB.out | apply below_alloc | apply pw_below_drewN | apply below_drew1) | exact HB.out)) hgr Gg2.out); clear Bg1 Bg3 HB; have Bg1 := Bg1_; clear Bg1_; have Bg3 := Bg3_; clear Bg3_; have HB := HB_; clear HB_; have Bq_ := Aside0.mk bx; clear Bg2; have Bg2 := Bq_; clear Bq_ bx hgr; skip) | ((with_reducible refine gate_store (t := 67) (p := 3) rfl ?_); refine seg.list rfl rfl 67 (.tmp 3) _ rfl 67 g3 0 #[.int .i64 0, .int .i64 0, .int .i64 0, .int .i64 0, .int .i64 0, .int .i64 0, .int .i64 0] #[.int .i64 0, .int .i64 0, .int .i64 0, .int .i64 0, .int .i64 0, .int .i64 0, .int .i64 0] [.int .i64 0, .int .i64 0, .int .i64 0, .int .i64 0, .int .i64 0, .int .i64 0, .int .i64 0] rfl rfl (by kernel_rfl) (by simp [Value.oneCell']) (by first | with_reducible exact Bg3.out | with_reducible exact blk_drew Bg3.out | with_reducible exact blk_drewN Bg3.out _ | ((with_reducible repeat (first | refine blk_drewN ?_ _ | refine blk_drew ?_ | refine blk_alloc ?_ _)); exact Bg3.out)) (by simp) rfl ?_; intro W5 bx hgr; have Bg1_ := Aside0.mk (seg.far (by first | with_reducible exact Bg1.out | with_reducible exact blk_drew Bg1.out | with_reducible exact blk_drewN Bg1.out _ | ((with_reducible repeat (first | refine blk_drewN ?_ _ | refine blk_drew ?_ | refine blk_alloc ?_ _)); exact Bg1.out)) hgr Ng1g3.out); have Bg2_ := Aside0.mk (seg.far (by first | with_reducible exact Bg2.out | with_reducible exact blk_drew Bg2.out | with_reducible exact blk_drewN Bg2.out _ | ((with_reducible repeat (first | refine blk_drewN ?_ _ | refine blk_drew ?_ | refine blk_alloc ?_ _)); exact Bg2.out)) hgr Ng2g3.out); have HB_ := Aside0.mk (seg.below (by repeat (first | (with_reducible first | exact HB.out | apply below_alloc | apply pw_below_drewN | apply below_drew1) | exact HB.out)) hgr Gg3.out); clear Bg1 Bg2 HB; have Bg1 := Bg1_; clear Bg1_; have Bg2 := Bg2_; clear Bg2_; have HB := HB_; clear HB_; have Bq_ := Aside0.mk bx; clear Bg3; have Bg3 := Bq_; clear Bq_ bx hgr; skip))
      refine bodyPost_ret (results_list (rs := [.cell 2 60, .cell 3 67, .tmp 4]) rfl (by simp) (.cell g2 60 #[.int .i64 0, .int .i64 0, .int .i64 0, .int .i64 0, .int .i64 0, .int .i64 0, .slice none 0 0] (0, 0) _ rfl Bg2.out Try.underlying60 rfl (by kernel_rfl) (.cell g3 67 #[.int .i64 0, .int .i64 0, .int .i64 0, .int .i64 0, .int .i64 0, .int .i64 0, .int .i64 0] (0, 0) _ rfl Bg3.out Try.underlying67 rfl (by kernel_rfl) (.tmp .nil)))) rfl ?_
      exact ⟨_, rfl, Kd.R_nil _ _ _ _ _, HB.out⟩
    · rw [if_neg h1] at h
      have q1 : (rev == 15) = false := beq_eq_false_iff_ne.mpr h1
      by_cases h2 : nx > 1048575
      · rw [if_pos h2] at h
        simp only [Option.some.injEq, Prod.mk.injEq] at h
        obtain ⟨rfl, rfl, rfl, rfl, rfl, rfl, rfl, rfl, rfl, rfl, rfl, rfl, rfl, rfl, rfl⟩ := h
        have q2 : decide (nx > 1048575) = true := decide_eq_true h2
        clear h1 h2
        go_enter Try.func39, Try.ntmps39
        go_wp2_with (first | ((with_reducible refine gate_dst (N := 1) rfl ?_); refine box_event ?hg (N := 1) ?hd (cs := #[.int .i64 me, .int .i64 rev, .int .i64 nx, .int .i64 mo, .int .i64 bo, .int .i64 fr, .slice A6 l.length c6]) (t := 60) ?hr ?_; (case hd => rfl); (case hg => rfl); (case hr => first | (go_simp; done) | (go_simp; rfl)); intro g1 hgq W1 hbox hb; have Gg1 := Aside0.mk (by rw [hgq]; exact below_size (by repeat (first | (with_reducible first | exact HB.out | apply below_alloc | apply pw_below_drewN | apply below_drew1) | exact HB.out)) : w.heap.size ≤ g1); have HB_ := Aside0.mk (below_step (by repeat (first | (with_reducible first | exact HB.out | apply below_alloc | apply pw_below_drewN | apply below_drew1) | exact HB.out)) hb); clear HB; have HB := HB_; clear HB_; have Bg1 := Aside0.mk hbox; clear hb hbox hgq; skip) | ((with_reducible refine gate_dst (N := 2) rfl ?_); refine box_event ?hg (N := 2) ?hd (cs := #[.int .i64 0, .int .i64 0, .int .i64 0, .int .i64 0, .int .i64 0, .int .i64 0, .slice none 0 0]) (t := 60) ?hr ?_; (case hd => rfl); (case hg => rfl); (case hr => first | (go_simp; done) | (go_simp; rfl)); intro g2 hgq W2 hbox hb; have Ng1g2 := Aside0.mk (by rw [hgq]; exact Nat.ne_of_lt (blk_lt (by first | with_reducible exact Bg1.out | with_reducible exact blk_drew Bg1.out | with_reducible exact blk_drewN Bg1.out _ | ((with_reducible repeat (first | refine blk_drewN ?_ _ | refine blk_drew ?_ | refine blk_alloc ?_ _)); exact Bg1.out))) : g1 ≠ g2); have Gg2 := Aside0.mk (by rw [hgq]; exact below_size (by repeat (first | (with_reducible first | exact HB.out | apply below_alloc | apply pw_below_drewN | apply below_drew1) | exact HB.out)) : w.heap.size ≤ g2); have Bg1_ := Aside0.mk (blk_below (by first | with_reducible exact Bg1.out | with_reducible exact blk_drew Bg1.out | with_reducible exact blk_drewN Bg1.out _ | ((with_reducible repeat (first | refine blk_drewN ?_ _ | refine blk_drew ?_ | refine blk_alloc ?_ _)); exact Bg1.out)) hb); have HB_ := Aside0.mk (below_step (by repeat (first | (with_reducible first | exact HB.out | apply below_alloc | apply pw_below_drewN | apply below_drew1) | exact HB.out)) hb); clear Bg1 HB; have Bg1 := Bg1_; clear Bg1_; have HB := HB_; clear HB_; have Bg2 := Aside0.mk hbox; clear hb hbox hgq; skip) | ((with_reducible refine gate_dst (N := 3) rfl ?_); refine box_event ?hg (N := 3) ?hd (cs := #[.int .i64 0, .int .i64 0, .int .i64 0, .int .i64 0, .int .i64 0, .int .i64 0, .int .i64 0]) (t := 67) ?hr ?_; (case hd => rfl); (case hg => rfl); (case hr => first | (go_simp; done) | (go_simp; rfl)); intro g3 hgq W3 hbox hb; have Ng1g3 := Aside0.mk (by rw [hgq]; exact Nat.ne_of_lt (blk_lt (by first | with_reducible exact Bg1.out | with_reducible exact blk_drew Bg1.out | with_reducible exact blk_drewN Bg1.out _ | ((with_reducible repeat (first | refine blk_drewN ?_ _ | refine blk_drew ?_ | refine blk_alloc ?_ _)); exact Bg1.out))) : g1 ≠ g3); have Ng2g3 := Aside0.mk (by rw [hgq]; exact Nat.ne_of_lt (blk_lt (by first | with_reducible exact Bg2.out | with_reducible exact blk_drew Bg2.out | with_reducible exact blk_drewN Bg2.out _ | ((with_reducible repeat (first | refine blk_drewN ?_ _ | refine blk_drew ?_ | refine blk_alloc ?_ _)); exact Bg2.out))) : g2 ≠ g3); have Gg3 := Aside0.mk (by rw [hgq]; exact below_size (by repeat (first | (with_reducible first | exact HB.out | apply below_alloc | apply pw_below_drewN | apply below_drew1) | exact HB.out)) : w.heap.size ≤ g3); have Bg1_ := Aside0.mk (blk_below (by first | with_reducible exact Bg1.out | with_reducible exact blk_drew Bg1.out | with_reducible exact blk_drewN Bg1.out _ | ((with_reducible repeat (first | refine blk_drewN ?_ _ | refine blk_drew ?_ | refine blk_alloc ?_ _)); exact Bg1.out)) hb); have Bg2_ := Aside0.mk (blk_below (by first | with_reducible exact Bg2.out | with_reducible exact blk_drew Bg2.out | with_reducible exact blk_drewN Bg2.out _ | ((with_reducible repeat (first | refine blk_drewN ?_ _ | refine blk_drew ?_ | refine blk_alloc ?_ _)); exact Bg2.out)) hb); have HB_ := Aside0.mk (below_step (by repeat (first | (with_reducible first | exact HB.out | apply below_alloc | apply pw_below_drewN | apply below_drew1) | exact HB.out)) hb); clear Bg1 Bg2 HB; have Bg1 := Bg1_; clear Bg1_; have Bg2 := Bg2_; clear Bg2_; have HB := HB_; clear HB_; have Bg3 := Aside0.mk hbox; clear hb hbox hgq; have xg10 : W3.cell? ⟨g1, 0, none⟩ = some (.int .i64 me) := (blk_cell Bg1.out 0).trans rfl; have xg11 : W3.cell? ⟨g1, 1, none⟩ = some (.int .i64 rev) := (blk_cell Bg1.out 1).trans rfl; have xg12 : W3.cell? ⟨g1, 2, none⟩ = some (.int .i64 nx) := (blk_cell Bg1.out 2).trans rfl; have xg13 : W3.cell? ⟨g1, 3, none⟩ = some (.int .i64 mo) := (blk_cell Bg1.out 3).trans rfl; have xg14 : W3.cell? ⟨g1, 4, none⟩ = some (.int .i64 bo) := (blk_cell Bg1.out 4).trans rfl; have xg15 : W3.cell? ⟨g1, 5, none⟩ = some (.int .i64 fr) := (blk_cell Bg1.out 5).trans rfl; have xg16 : W3.cell? ⟨g1, 6, none⟩ = some (.slice A6 l.length c6) := (blk_cell Bg1.out 6).trans rfl; skip) | (go_at_call 85; refine (account_may.calls k me rev nx mo bo fr A6 c6 l true _ (by repeat (first | exact (Kd.C_below HR0.out HB.out) | (with_reducible refine Kd.C_alloc ?_ _) | (with_reducible refine Kd.C_drewN ?_ _) | (with_reducible refine Kd.C_drew ?_))) HC0.out HM.out).mono ?_; rintro e wa ⟨rfl, hb1⟩; clear xg10 xg11 xg12 xg13 xg14 xg15 xg16; have Bg1_ := Aside0.mk (blk_below (by first | with_reducible exact Bg1.out | with_reducible exact blk_drew Bg1.out | with_reducible exact blk_drewN Bg1.out _ | ((with_reducible repeat (first | refine blk_drewN ?_ _ | refine blk_drew ?_ | refine blk_alloc ?_ _)); exact Bg1.out)) hb1); have Bg2_ := Aside0.mk (blk_below (by first | with_reducible exact Bg2.out | with_reducible exact blk_drew Bg2.out | with_reducible exact blk_drewN Bg2.out _ | ((with_reducible repeat (first | refine blk_drewN ?_ _ | refine blk_drew ?_ | refine blk_alloc ?_ _)); exact Bg2.out)) hb1); have Bg3_ := Aside0.mk (blk_below (by first | with_reducible exact Bg3.out | with_reducible exact blk_drew Bg3.out | with_reducible exact blk_drewN Bg3.out _ | ((with_reducible repeat (first | refine blk_drewN ?_ _ | refine blk_drew ?_ | refine blk_alloc ?_ _)); exact Bg3.out)) hb1); have HB_ := Aside0.mk (below_step (by repeat (first | (with_reducible first | exact HB.out | apply below_alloc | apply pw_below_drewN | apply below_drew1) | exact HB.out)) hb1); clear Bg1 Bg2 Bg3 HB; have Bg1 := Bg1_; clear Bg1_; have Bg2 := Bg2_; clear Bg2_; have Bg3 := Bg3_; clear Bg3_; have HB := HB_; clear HB_; have xg10 : wa.cell? ⟨g1, 0, none⟩ = some (.int .i64 me) := (blk_cell Bg1.out 0).trans rfl; have xg11 : wa.cell? ⟨g1, 1, none⟩ = some (.int .i64 rev) := (blk_cell Bg1.out 1).trans rfl; have xg12 : wa.cell? ⟨g1, 2, none⟩ = some (.int .i64 nx) := (blk_cell Bg1.out 2).trans rfl; have xg13 : wa.cell? ⟨g1, 3, none⟩ = some (.int .i64 mo) := (blk_cell Bg1.out 3).trans rfl; have xg14 : wa.cell? ⟨g1, 4, none⟩ = some (.int .i64 bo) := (blk_cell Bg1.out 4).trans rfl; have xg15 : wa.cell? ⟨g1, 5, none⟩ = some (.int .i64 fr) := (blk_cell Bg1.out 5).trans rfl; have xg16 : wa.cell? ⟨g1, 6, none⟩ = some (.slice A6 l.length c6) := (blk_cell Bg1.out 6).trans rfl; clear hb1) | ((with_reducible refine gate_store (t := 60) (p := 2) rfl ?_); refine seg.list rfl rfl 60 (.tmp 2) _ rfl 60 g2 0 #[.int .i64 0, .int .i64 0, .int .i64 0, .int .i64 0, .int .i64 0, .int .i64 0, .slice none 0 0] #[.int .i64 0, .int .i64 0, .int .i64 0, .int .i64 0, .int .i64 0, .int .i64 0, .slice none 0 0] [.int .i64 0, .int .i64 0, .int .i64 0, .int .i64 0, .int .i64 0, .int .i64 0, .slice none 0 0] rfl rfl (by kernel_rfl) (by simp [Value.oneCell']) (by first | with_reducible exact Bg2.out | with_reducible exact blk_drew Bg2.out | with_reducible exact blk_drewN Bg2.out _ | ((with_reducible repeat (first | refine blk_drewN ?_ _ | refine blk_drew ?_ | refine blk_alloc ?_ _)); exact Bg2.out)) (by simp) rfl ?_; intro W4 bx hgr; clear xg10 xg11 xg12 xg13 xg14 xg15 xg16; have Bg1_ := Aside0.mk (seg.far (by first | with_reducible exact Bg1.out | with_reducible exact blk_drew Bg1.out | with_reducible exact blk_drewN Bg1.out _ | ((with_reducible repeat (first | refine blk_drewN ?_ _ | refine blk_drew ?_ | refine blk_alloc ?_ _)); exact Bg1.out)) hgr Ng1g2.out); have Bg3_ := Aside0.mk (seg.far (by first | with_reducible exact Bg3.out | with_reducible exact blk_drew Bg3.out | with_reducible exact blk_drewN Bg3.out _ | ((with_reducible repeat (first | refine blk_drewN ?_ _ | refine blk_drew ?_ | refine blk_alloc ?_ _)); exact Bg3.out)) hgr (Ne.symm Ng2g3.out)); have HB_ := Aside0.mk (seg.below (by repeat (first | (with_reducible first | exact HB.out | apply below_alloc | apply pw_below_drewN | apply below_drew1) | exact HB.out)) hgr Gg2.out); clear Bg1 Bg3 HB; have Bg1 := Bg1_; clear Bg1_; have Bg3 := Bg3_; clear Bg3_; have HB := HB_; clear HB_; have Bq_ := Aside0.mk bx; clear Bg2; have Bg2 := Bq_; clear Bq_ bx hgr; skip) | ((with_reducible refine gate_store (t := 67) (p := 3) rfl ?_); refine seg.list rfl rfl 67 (.tmp 3) _ rfl 67 g3 0 #[.int .i64 0, .int .i64 0, .int .i64 0, .int .i64 0, .int .i64 0, .int .i64 0, .int .i64 0] #[.int .i64 0, .int .i64 0, .int .i64 0, .int .i64 0, .int .i64 0, .int .i64 0, .int .i64 0] [.int .i64 0, .int .i64 0, .int .i64 0, .int .i64 0, .int .i64 0, .int .i64 0, .int .i64 0] rfl rfl (by kernel_rfl) (by simp [Value.oneCell']) (by first | with_reducible exact Bg3.out | with_reducible exact blk_drew Bg3.out | with_reducible exact blk_drewN Bg3.out _ | ((with_reducible repeat (first | refine blk_drewN ?_ _ | refine blk_drew ?_ | refine blk_alloc ?_ _)); exact Bg3.out)) (by simp) rfl ?_; intro W5 bx hgr; have Bg1_ := Aside0.mk (seg.far (by first | with_reducible exact Bg1.out | with_reducible exact blk_drew Bg1.out | with_reducible exact blk_drewN Bg1.out _ | ((with_reducible repeat (first | refine blk_drewN ?_ _ | refine blk_drew ?_ | refine blk_alloc ?_ _)); exact Bg1.out)) hgr Ng1g3.out); have Bg2_ := Aside0.mk (seg.far (by first | with_reducible exact Bg2.out | with_reducible exact blk_drew Bg2.out | with_reducible exact blk_drewN Bg2.out _ | ((with_reducible repeat (first | refine blk_drewN ?_ _ | refine blk_drew ?_ | refine blk_alloc ?_ _)); exact Bg2.out)) hgr Ng2g3.out); have HB_ := Aside0.mk (seg.below (by repeat (first | (with_reducible first | exact HB.out | apply below_alloc | apply pw_below_drewN | apply below_drew1) | exact HB.out)) hgr Gg3.out); clear Bg1 Bg2 HB; have Bg1 := Bg1_; clear Bg1_; have Bg2 := Bg2_; clear Bg2_; have HB := HB_; clear HB_; have Bq_ := Aside0.mk bx; clear Bg3; have Bg3 := Bq_; clear Bq_ bx hgr; skip))
        refine bodyPost_ret (results_list (rs := [.cell 2 60, .cell 3 67, .tmp 4]) rfl (by simp) (.cell g2 60 #[.int .i64 0, .int .i64 0, .int .i64 0, .int .i64 0, .int .i64 0, .int .i64 0, .slice none 0 0] (0, 0) _ rfl Bg2.out Try.underlying60 rfl (by kernel_rfl) (.cell g3 67 #[.int .i64 0, .int .i64 0, .int .i64 0, .int .i64 0, .int .i64 0, .int .i64 0, .int .i64 0] (0, 0) _ rfl Bg3.out Try.underlying67 rfl (by kernel_rfl) (.tmp .nil)))) rfl ?_
        exact ⟨_, rfl, Kd.R_nil _ _ _ _ _, HB.out⟩
      · rw [if_neg h2] at h
        have q2 : decide (nx > 1048575) = false := decide_eq_false h2
        clear h1 h2
        by_cases h3 : ([] : List S76).length + l.length < 8796093022208
        case neg => rw [if_neg h3] at h; cases h
        rw [if_pos h3] at h
        have HL := Aside0.mk h3
        clear h3
        rw [List.nil_append] at h
        simp only [Option.some.injEq, Prod.mk.injEq] at h
        obtain ⟨rfl, rfl, rfl, rfl, rfl, rfl, rfl, rfl, rfl, rfl, rfl, rfl, rfl, rfl, rfl⟩ := h
        go_enter Try.func39, Try.ntmps39
        go_wp2_with (first | ((with_reducible refine gate_dst (N := 1) rfl ?_); refine box_event ?hg (N := 1) ?hd (cs := #[.int .i64 me, .int .i64 rev, .int .i64 nx, .int .i64 mo, .int .i64 bo, .int .i64 fr, .slice A6 l.length c6]) (t := 60) ?hr ?_; (case hd => rfl); (case hg => rfl); (case hr => first | (go_simp; done) | (go_simp; rfl)); intro g1 hgq W1 hbox hb; have Gg1 := Aside0.mk (by rw [hgq]; exact below_size (by repeat (first | (with_reducible first | exact HB.out | apply below_alloc | apply pw_below_drewN | apply below_drew1) | exact HB.out)) : w.heap.size ≤ g1); have HB_ := Aside0.mk (below_step (by repeat (first | (with_reducible first | exact HB.out | apply below_alloc | apply pw_below_drewN | apply below_drew1) | exact HB.out)) hb); clear HB; have HB := HB_; clear HB_; have Bg1 := Aside0.mk hbox; clear hb hbox hgq; skip) | ((with_reducible refine gate_dst (N := 2) rfl ?_); refine box_event ?hg (N := 2) ?hd (cs := #[.int .i64 0, .int .i64 0, .int .i64 0, .int .i64 0, .int .i64 0, .int .i64 0, .slice none 0 0]) (t := 60) ?hr ?_; (case hd => rfl); (case hg => rfl); (case hr => first | (go_simp; done) | (go_simp; rfl)); intro g2 hgq W2 hbox hb; have Ng1g2 := Aside0.mk (by rw [hgq]; exact Nat.ne_of_lt (blk_lt (by first | with_reducible exact Bg1.out | with_reducible exact blk_drew Bg1.out | with_reducible exact blk_drewN Bg1.out _ | ((with_reducible repeat (first | refine blk_drewN ?_ _ | refine blk_drew ?_ | refine blk_alloc ?_ _)); exact Bg1.out))) : g1 ≠ g2); have Gg2 := Aside0.mk (by rw [hgq]; exact below_size (by repeat (first | (with_reducible first | exact HB.out | apply below_alloc | apply pw_below_drewN | apply below_drew1) | exact HB.out)) : w.heap.size ≤ g2); have Bg1_ := Aside0.mk (blk_below (by first | with_reducible exact Bg1.out | with_reducible exact blk_drew Bg1.out | with_reducible exact blk_drewN Bg1.out _ | ((with_reducible repeat (first | refine blk_drewN ?_ _ | refine blk_drew ?_ | refine blk_alloc ?_ _)); exact Bg1.out)) hb); have HB_ := Aside0.mk (below_step (by repeat (first | (with_reducible first | exact HB.out | apply below_alloc | apply pw_below_drewN | apply below_drew1) | exact HB.out)) hb); clear Bg1 HB; have Bg1 := Bg1_; clear Bg1_; have HB := HB_; clear HB_; have Bg2 := Aside0.mk hbox; clear hb hbox hgq; skip) | ((with_reducible refine gate_dst (N := 3) rfl ?_); refine box_event ?hg (N := 3) ?hd (cs := #[.int .i64 0, .int .i64 0, .int .i64 0, .int .i64 0, .int .i64 0, .int .i64 0, .int .i64 0]) (t := 67) ?hr ?_; (case hd => rfl); (case hg => rfl); (case hr => first | (go_simp; done) | (go_simp; rfl)); intro g3 hgq W3 hbox hb; have Ng1g3 := Aside0.mk (by rw [hgq]; exact Nat.ne_of_lt (blk_lt (by first | with_reducible exact Bg1.out | with_reducible exact blk_drew Bg1.out | with_reducible exact blk_drewN Bg1.out _ | ((with_reducible repeat (first | refine blk_drewN ?_ _ | refine blk_drew ?_ | refine blk_alloc ?_ _)); exact Bg1.out))) : g1 ≠ g3); have Ng2g3 := Aside0.mk (by rw [hgq]; exact Nat.ne_of_lt (blk_lt (by first | with_reducible exact Bg2.out | with_reducible exact blk_drew Bg2.out | with_reducible exact blk_drewN Bg2.out _ | ((with_reducible repeat (first | refine blk_drewN ?_ _ | refine blk_drew ?_ | refine blk_alloc ?_ _)); exact Bg2.out))) : g2 ≠ g3); have Gg3 := Aside0.mk (by rw [hgq]; exact below_size (by repeat (first | (with_reducible first | exact HB.out | apply below_alloc | apply pw_below_drewN | apply below_drew1) | exact HB.out)) : w.heap.size ≤ g3); have Bg1_ := Aside0.mk (blk_below (by first | with_reducible exact Bg1.out | with_reducible exact blk_drew Bg1.out | with_reducible exact blk_drewN Bg1.out _ | ((with_reducible repeat (first | refine blk_drewN ?_ _ | refine blk_drew ?_ | refine blk_alloc ?_ _)); exact Bg1.out)) hb); have Bg2_ := Aside0.mk (blk_below (by first | with_reducible exact Bg2.out | with_reducible exact blk_drew Bg2.out | with_reducible exact blk_drewN Bg2.out _ | ((with_reducible repeat (first | refine blk_drewN ?_ _ | refine blk_drew ?_ | refine blk_alloc ?_ _)); exact Bg2.out)) hb); have HB_ := Aside0.mk (below_step (by repeat (first | (with_reducible first | exact HB.out | apply below_alloc | apply pw_below_drewN | apply below_drew1) | exact HB.out)) hb); clear Bg1 Bg2 HB; have Bg1 := Bg1_; clear Bg1_; have Bg2 := Bg2_; clear Bg2_; have HB := HB_; clear HB_; have Bg3 := Aside0.mk hbox; clear hb hbox hgq; have xg10 : W3.cell? ⟨g1, 0, none⟩ = some (.int .i64 me) := (blk_cell Bg1.out 0).trans rfl; have xg11 : W3.cell? ⟨g1, 1, none⟩ = some (.int .i64 rev) := (blk_cell Bg1.out 1).trans rfl; have xg12 : W3.cell? ⟨g1, 2, none⟩ = some (.int .i64 nx) := (blk_cell Bg1.out 2).trans rfl; have xg13 : W3.cell? ⟨g1, 3, none⟩ = some (.int .i64 mo) := (blk_cell Bg1.out 3).trans rfl; have xg14 : W3.cell? ⟨g1, 4, none⟩ = some (.int .i64 bo) := (blk_cell Bg1.out 4).trans rfl; have xg15 : W3.cell? ⟨g1, 5, none⟩ = some (.int .i64 fr) := (blk_cell Bg1.out 5).trans rfl; have xg16 : W3.cell? ⟨g1, 6, none⟩ = some (.slice A6 l.length c6) := (blk_cell Bg1.out 6).trans rfl; skip) | (go_at_call 85; refine (account_may.calls k me rev nx mo bo fr A6 c6 l true _ (by repeat (first | exact (Kd.C_below HR0.out HB.out) | (with_reducible refine Kd.C_alloc ?_ _) | (with_reducible refine Kd.C_drewN ?_ _) | (with_reducible refine Kd.C_drew ?_))) HC0.out HM.out).mono ?_; rintro e wa ⟨rfl, hb1⟩; clear xg10 xg11 xg12 xg13 xg14 xg15 xg16; have Bg1_ := Aside0.mk (blk_below (by first | with_reducible exact Bg1.out | with_reducible exact blk_drew Bg1.out | with_reducible exact blk_drewN Bg1.out _ | ((with_reducible repeat (first | refine blk_drewN ?_ _ | refine blk_drew ?_ | refine blk_alloc ?_ _)); exact Bg1.out)) hb1); have Bg2_ := Aside0.mk (blk_below (by first | with_reducible exact Bg2.out | with_reducible exact blk_drew Bg2.out | with_reducible exact blk_drewN Bg2.out _ | ((with_reducible repeat (first | refine blk_drewN ?_ _ | refine blk_drew ?_ | refine blk_alloc ?_ _)); exact Bg2.out)) hb1); have Bg3_ := Aside0.mk (blk_below (by first | with_reducible exact Bg3.out | with_reducible exact blk_drew Bg3.out | with_reducible exact blk_drewN Bg3.out _ | ((with_reducible repeat (first | refine blk_drewN ?_ _ | refine blk_drew ?_ | refine blk_alloc ?_ _)); exact Bg3.out)) hb1); have HB_ := Aside0.mk (below_step (by repeat (first | (with_reducible first | exact HB.out | apply below_alloc | apply pw_below_drewN | apply below_drew1) | exact HB.out)) hb1); clear Bg1 Bg2 Bg3 HB; have Bg1 := Bg1_; clear Bg1_; have Bg2 := Bg2_; clear Bg2_; have Bg3 := Bg3_; clear Bg3_; have HB := HB_; clear HB_; have xg10 : wa.cell? ⟨g1, 0, none⟩ = some (.int .i64 me) := (blk_cell Bg1.out 0).trans rfl; have xg11 : wa.cell? ⟨g1, 1, none⟩ = some (.int .i64 rev) := (blk_cell Bg1.out 1).trans rfl; have xg12 : wa.cell? ⟨g1, 2, none⟩ = some (.int .i64 nx) := (blk_cell Bg1.out 2).trans rfl; have xg13 : wa.cell? ⟨g1, 3, none⟩ = some (.int .i64 mo) := (blk_cell Bg1.out 3).trans rfl; have xg14 : wa.cell? ⟨g1, 4, none⟩ = some (.int .i64 bo) := (blk_cell Bg1.out 4).trans rfl; have xg15 : wa.cell? ⟨g1, 5, none⟩ = some (.int .i64 fr) := (blk_cell Bg1.out 5).trans rfl; have xg16 : wa.cell? ⟨g1, 6, none⟩ = some (.slice A6 l.length c6) := (blk_cell Bg1.out 6).trans rfl; clear hb1) | ((with_reducible refine gate_builtin (b := .append) (xs := #[.const (.slice none 0 0), .tmp 21]) rfl ?_); at_builtin; refine Kd.R_append_rows k76 (w0 := w) w.heap.size rfl (.const (.slice none 0 0)) (.tmp 21) 58 76 (.agg #[.int .i64 0, .int .i64 0]) 16 rfl Try.underlying58 info76 rfl (by decide) (by omega) (.slice none 0 0) ([] : List S76) l _ _ _ (fun _ => True) (fun _ => False) rfl rfl (Kd.R_nil _ _ _ _ _) (by repeat (first | exact (Kd.C_below HR0.out HB.out) | (with_reducible refine Kd.C_alloc ?_ _) | (with_reducible refine Kd.C_drewN ?_ _) | (with_reducible refine Kd.C_drew ?_))) (fun _ _ h => h) (fun _ h => h.elim) (fun _ _ => trivial) HB.out HB.out.size (by have := HL.out; simp; omega) ?_; intro v5 w5 ho hb hg5 hat; rw [List.nil_append] at ho; obtain ⟨A8, c8, he5⟩ := Kd.R_slice ho; subst he5; clear xg10 xg11 xg12 xg13 xg14 xg15 xg16; have Bg1_ := Aside0.mk (blk_grown (by first | with_reducible exact Bg1.out | with_reducible exact blk_drew Bg1.out | with_reducible exact blk_drewN Bg1.out _ | ((with_reducible repeat (first | refine blk_drewN ?_ _ | refine blk_drew ?_ | refine blk_alloc ?_ _)); exact Bg1.out)) hg5 (by simp [Value.ownBlock])); have Bg2_ := Aside0.mk (blk_grown (by first | with_reducible exact Bg2.out | with_reducible exact blk_drew Bg2.out | with_reducible exact blk_drewN Bg2.out _ | ((with_reducible repeat (first | refine blk_drewN ?_ _ | refine blk_drew ?_ | refine blk_alloc ?_ _)); exact Bg2.out)) hg5 (by simp [Value.ownBlock])); have Bg3_ := Aside0.mk (blk_grown (by first | with_reducible exact Bg3.out | with_reducible exact blk_drew Bg3.out | with_reducible exact blk_drewN Bg3.out _ | ((with_reducible repeat (first | refine blk_drewN ?_ _ | refine blk_drew ?_ | refine blk_alloc ?_ _)); exact Bg3.out)) hg5 (by simp [Value.ownBlock])); have HB_ := Aside0.mk hb; clear Bg1 Bg2 Bg3 HB; have Bg1 := Bg1_; clear Bg1_; have Bg2 := Bg2_; clear Bg2_; have Bg3 := Bg3_; clear Bg3_; have HB := HB_; clear HB_; have xg10 : w5.cell? ⟨g1, 0, none⟩ = some (.int .i64 me) := (blk_cell Bg1.out 0).trans rfl; have xg11 : w5.cell? ⟨g1, 1, none⟩ = some (.int .i64 rev) := (blk_cell Bg1.out 1).trans rfl; have xg12 : w5.cell? ⟨g1, 2, none⟩ = some (.int .i64 nx) := (blk_cell Bg1.out 2).trans rfl; have xg13 : w5.cell? ⟨g1, 3, none⟩ = some (.int .i64 mo) := (blk_cell Bg1.out 3).trans rfl; have xg14 : w5.cell? ⟨g1, 4, none⟩ = some (.int .i64 bo) := (blk_cell Bg1.out 4).trans rfl; have xg15 : w5.cell? ⟨g1, 5, none⟩ = some (.int .i64 fr) := (blk_cell Bg1.out 5).trans rfl; have xg16 : w5.cell? ⟨g1, 6, none⟩ = some (.slice A6 l.length c6) := (blk_cell Bg1.out 6).trans rfl; have RP := Aside0.mk (Kd.R_types (Kd.R_types (Kd.R_types ho Bg1.out (by decide)) Bg2.out (by decide)) Bg3.out (by decide)); clear ho hb hg5 hat) | ((with_reducible refine gate_store (t := 58) (p := 23) rfl ?_); refine seg.list rfl rfl 58 (.tmp 23) _ rfl 60 g1 6 #[.int .i64 me, .int .i64 rev, .int .i64 nx, .int .i64 mo, .int .i64 bo, .int .i64 fr, .slice A6 l.length c6] #[.int .i64 me, .int .i64 rev, .int .i64 nx, .int .i64 mo, .int .i64 bo, .int .i64 fr, .slice A8 l.length c8] [.slice A8 l.length c8] rfl rfl (by kernel_rfl) (by simp [Value.oneCell']) (by first | with_reducible exact Bg1.out | with_reducible exact blk_drew Bg1.out | with_reducible exact blk_drewN Bg1.out _ | ((with_reducible repeat (first | refine blk_drewN ?_ _ | refine blk_drew ?_ | refine blk_alloc ?_ _)); exact Bg1.out)) (by simp) rfl ?_; intro W4 bx hgr; clear xg10 xg11 xg12 xg13 xg14 xg15 xg16; have Bg2_ := Aside0.mk (seg.far (by first | with_reducible exact Bg2.out | with_reducible exact blk_drew Bg2.out | with_reducible exact blk_drewN Bg2.out _ | ((with_reducible repeat (first | refine blk_drewN ?_ _ | refine blk_drew ?_ | refine blk_alloc ?_ _)); exact Bg2.out)) hgr (Ne.symm Ng1g2.out)); have Bg3_ := Aside0.mk (seg.far (by first | with_reducible exact Bg3.out | with_reducible exact blk_drew Bg3.out | with_reducible exact blk_drewN Bg3.out _ | ((with_reducible repeat (first | refine blk_drewN ?_ _ | refine blk_drew ?_ | refine blk_alloc ?_ _)); exact Bg3.out)) hgr (Ne.symm Ng1g3.out)); have RP_ := Aside0.mk (seg.R (ok := fun k => (((True) ∧ k ≠ g1) ∧ k ≠ g2) ∧ k ≠ g3) (by first | with_reducible exact RP.out | with_reducible exact Kd.R_drew RP.out | ((with_reducible repeat (first | apply Kd.R_alloc | apply Kd.R_drewN | apply Kd.R_drew)); exact RP.out)) hgr (fun k hk => hk.1.1.2)); have HB_ := Aside0.mk (seg.below (by repeat (first | (with_reducible first | exact HB.out | apply below_alloc | apply pw_below_drewN | apply below_drew1) | exact HB.out)) hgr Gg1.out); clear Bg2 Bg3 RP HB; have Bg2 := Bg2_; clear Bg2_; have Bg3 := Bg3_; clear Bg3_; have RP := RP_; clear RP_; have HB := HB_; clear HB_; have Bq_ := Aside0.mk bx; clear Bg1; have Bg1 := Bq_; clear Bq_ bx hgr; have xg10 : W4.cell? ⟨g1, 0, none⟩ = some (.int .i64 me) := (blk_cell Bg1.out 0).trans rfl; have xg11 : W4.cell? ⟨g1, 1, none⟩ = some (.int .i64 rev) := (blk_cell Bg1.out 1).trans rfl; have xg12 : W4.cell? ⟨g1, 2, none⟩ = some (.int .i64 nx) := (blk_cell Bg1.out 2).trans rfl; have xg13 : W4.cell? ⟨g1, 3, none⟩ = some (.int .i64 mo) := (blk_cell Bg1.out 3).trans rfl; have xg14 : W4.cell? ⟨g1, 4, none⟩ = some (.int .i64 bo) := (blk_cell Bg1.out 4).trans rfl; have xg15 : W4.cell? ⟨g1, 5, none⟩ = some (.int .i64 fr) := (blk_cell Bg1.out 5).trans rfl; have xg16 : W4.cell? ⟨g1, 6, none⟩ = some (.slice A8 l.length c8) := (blk_cell Bg1.out 6).trans rfl; skip) | ((with_reducible refine gate_store (t := 3) (p := 27) rfl ?_); refine seg.list rfl rfl 3 (.tmp 27) _ rfl 60 g1 1 #[.int .i64 me, .int .i64 rev, .int .i64 nx, .int .i64 mo, .int .i64 bo, .int .i64 fr, .slice A8 l.length c8] #[.int .i64 me, .int .i64 (wrap64 (rev + 1)), .int .i64 nx, .int .i64 mo, .int .i64 bo, .int .i64 fr, .slice A8 l.length c8] [.int .i64 (wrap64 (rev + 1))] rfl rfl (by kernel_rfl) (by simp [Value.oneCell']) (by first | with_reducible exact Bg1.out | with_reducible exact blk_drew Bg1.out | with_reducible exact blk_drewN Bg1.out _ | ((with_reducible repeat (first | refine blk_drewN ?_ _ | refine blk_drew ?_ | refine blk_alloc ?_ _)); exact Bg1.out)) (by simp) rfl ?_; intro W5 bx hgr; clear xg10 xg11 xg12 xg13 xg14 xg15 xg16; have Bg2_ := Aside0.mk (seg.far (by first | with_reducible exact Bg2.out | with_reducible exact blk_drew Bg2.out | with_reducible exact blk_drewN Bg2.out _ | ((with_reducible repeat (first | refine blk_drewN ?_ _ | refine blk_drew ?_ | refine blk_alloc ?_ _)); exact Bg2.out)) hgr (Ne.symm Ng1g2.out)); have Bg3_ := Aside0.mk (seg.far (by first | with_reducible exact Bg3.out | with_reducible exact blk_drew Bg3.out | with_reducible exact blk_drewN Bg3.out _ | ((with_reducible repeat (first | refine blk_drewN ?_ _ | refine blk_drew ?_ | refine blk_alloc ?_ _)); exact Bg3.out)) hgr (Ne.symm Ng1g3.out)); have RP_ := Aside0.mk (seg.R (ok := fun k => (((True) ∧ k ≠ g1) ∧ k ≠ g2) ∧ k ≠ g3) (by first | with_reducible exact RP.out | with_reducible exact Kd.R_drew RP.out | ((with_reducible repeat (first | apply Kd.R_alloc | apply Kd.R_drewN | apply Kd.R_drew)); exact RP.out)) hgr (fun k hk => hk.1.1.2)); have HB_ := Aside0.mk (seg.below (by repeat (first | (with_reducible first | exact HB.out | apply below_alloc | apply pw_below_drewN | apply below_drew1) | exact HB.out)) hgr Gg1.out); clear Bg2 Bg3 RP HB; have Bg2 := Bg2_; clear Bg2_; have Bg3 := Bg3_; clear Bg3_; have RP := RP_; clear RP_; have HB := HB_; clear HB_; have Bq_ := Aside0.mk bx; clear Bg1; have Bg1 := Bq_; clear Bq_ bx hgr; have xg10 : W5.cell? ⟨g1, 0, none⟩ = some (.int .i64 me) := (blk_cell Bg1.out 0).trans rfl; have xg11 : W5.cell? ⟨g1, 1, none⟩ = some (.int .i64 (wrap64 (rev + 1))) := (blk_cell Bg1.out 1).trans rfl; have xg12 : W5.cell? ⟨g1, 2, none⟩ = some (.int .i64 nx) := (blk_cell Bg1.out 2).trans rfl; have xg13 : W5.cell? ⟨g1, 3, none⟩ = some (.int .i64 mo) := (blk_cell Bg1.out 3).trans rfl; have xg14 : W5.cell? ⟨g1, 4, none⟩ = some (.int .i64 bo) := (blk_cell Bg1.out 4).trans rfl; have xg15 : W5.cell? ⟨g1, 5, none⟩ = some (.int .i64 fr) := (blk_cell Bg1.out 5).trans rfl; have xg16 : W5.cell? ⟨g1, 6, none⟩ = some (.slice A8 l.length c8) := (blk_cell Bg1.out 6).trans rfl; skip) | ((with_reducible refine gate_store (t := 3) (p := 31) rfl ?_); refine seg.list rfl rfl 3 (.tmp 31) _ rfl 60 g1 2 #[.int .i64 me, .int .i64 (wrap64 (rev + 1)), .int .i64 nx, .int .i64 mo, .int .i64 bo, .int .i64 fr, .slice A8 l.length c8] #[.int .i64 me, .int .i64 (wrap64 (rev + 1)), .int .i64 (wrap64 (nx + 1)), .int .i64 mo, .int .i64 bo, .int .i64 fr, .slice A8 l.length c8] [.int .i64 (wrap64 (nx + 1))] rfl rfl (by kernel_rfl) (by simp [Value.oneCell']) (by first | with_reducible exact Bg1.out | with_reducible exact blk_drew Bg1.out | with_reducible exact blk_drewN Bg1.out _ | ((with_reducible repeat (first | refine blk_drewN ?_ _ | refine blk_drew ?_ | refine blk_alloc ?_ _)); exact Bg1.out)) (by simp) rfl ?_; intro W6 bx hgr; clear xg10 xg11 xg12 xg13 xg14 xg15 xg16; have Bg2_ := Aside0.mk (seg.far (by first | with_reducible exact Bg2.out | with_reducible exact blk_drew Bg2.out | with_reducible exact blk_drewN Bg2.out _ | ((with_reducible repeat (first | refine blk_drewN ?_ _ | refine blk_drew ?_ | refine blk_alloc ?_ _)); exact Bg2.out)) hgr (Ne.symm Ng1g2.out)); have Bg3_ := Aside0.mk (seg.far (by first | with_reducible exact Bg3.out | with_reducible exact blk_drew Bg3.out | with_reducible exact blk_drewN Bg3.out _ | ((with_reducible repeat (first | refine blk_drewN ?_ _ | refine blk_drew ?_ | refine blk_alloc ?_ _)); exact Bg3.out)) hgr (Ne.symm Ng1g3.out)); have RP_ := Aside0.mk (seg.R (ok := fun k => (((True) ∧ k ≠ g1) ∧ k ≠ g2) ∧ k ≠ g3) (by first | with_reducible exact RP.out | with_reducible exact Kd.R_drew RP.out | ((with_reducible repeat (first | apply Kd.R_alloc | apply Kd.R_drewN | apply Kd.R_drew)); exact RP.out)) hgr (fun k hk => hk.1.1.2)); have HB_ := Aside0.mk (seg.below (by repeat (first | (with_reducible first | exact HB.out | apply below_alloc | apply pw_below_drewN | apply below_drew1) | exact HB.out)) hgr Gg1.out); clear Bg2 Bg3 RP HB; have Bg2 := Bg2_; clear Bg2_; have Bg3 := Bg3_; clear Bg3_; have RP := RP_; clear RP_; have HB := HB_; clear HB_; have Bq_ := Aside0.mk bx; clear Bg1; have Bg1 := Bq_; clear Bq_ bx hgr; have xg10 : W6.cell? ⟨g1, 0, none⟩ = some (.int .i64 me) := (blk_cell Bg1.out 0).trans rfl; have xg11 : W6.cell? ⟨g1, 1, none⟩ = some (.int .i64 (wrap64 (rev + 1))) := (blk_cell Bg1.out 1).trans rfl; have xg12 : W6.cell? ⟨g1, 2, none⟩ = some (.int .i64 (wrap64 (nx + 1))) := (blk_cell Bg1.out 2).trans rfl; have xg13 : W6.cell? ⟨g1, 3, none⟩ = some (.int .i64 mo) := (blk_cell Bg1.out 3).trans rfl; have xg14 : W6.cell? ⟨g1, 4, none⟩ = some (.int .i64 bo) := (blk_cell Bg1.out 4).trans rfl; have xg15 : W6.cell? ⟨g1, 5, none⟩ = some (.int .i64 fr) := (blk_cell Bg1.out 5).trans rfl; have xg16 : W6.cell? ⟨g1, 6, none⟩ = some (.slice A8 l.length c8) := (blk_cell Bg1.out 6).trans rfl; skip))
        refine start_ (n := 8) (S := fun w' => w'.cell? ⟨g1, 0, none⟩ = some (.int .i64 me) ∧ w'.cell? ⟨g1, 1, none⟩ = some (.int .i64 (wrap64 (rev + 1))) ∧ w'.cell? ⟨g1, 2, none⟩ = some (.int .i64 (wrap64 (nx + 1))) ∧ w'.cell? ⟨g1, 3, none⟩ = some (.int .i64 mo) ∧ w'.cell? ⟨g1, 4, none⟩ = some (.int .i64 bo) ∧ w'.cell? ⟨g1, 5, none⟩ = some (.int .i64 fr) ∧ w'.cell? ⟨g1, 6, none⟩ = some (.slice A8 l.length c8)) (ds := [6]) #[false, false, false, false, false, false, false, false] (by kernel_rfl) rfl rfl ⟨xg10, xg11, xg12, xg13, xg14, xg15, xg16⟩ (fun hHeld => ?_)
        refine pure_ (i := 1) (N := some 33) (v := ?_) (a' := ?_) #[false, true, false, false, false, false, false, false] rfl rfl (by kernel_rfl) (fun _ _ _ h => h) (Or.inl ⟨by rfl, ?_⟩) ?_ ?_
        rotate_left
        · intro w'
          go_simp
          with_reducible rfl
        rotate_left
        · simp only [Act.put, List.setIfInBounds_toArray, List.set_cons_zero, List.set_cons_succ, i64_w, i32_w]
          rfl
        refine take_ (i := 0) (N := some 32) (v := ?_) (a' := ?_) #[true, true, false, false, false, false, false, false] rfl rfl (by kernel_rfl) (fun _ _ _ h => h) (Or.inl ⟨by rfl, ?_⟩) hHeld ?_ ?_
        rotate_left
        · rintro w' ⟨s0, s1, s2, s3, s4, s5, s6⟩
          go_simp
          with_reducible rfl
        rotate_left
        · simp only [Act.put, List.setIfInBounds_toArray, List.set_cons_zero, List.set_cons_succ, i64_w, i32_w]
          rfl
        refine take_ (i := 2) (N := some 34) (v := ?_) (a' := ?_) #[true, true, true, false, false, false, false, false] rfl rfl (by kernel_rfl) (fun _ _ _ h => h) (Or.inl ⟨by rfl, ?_⟩) hHeld ?_ ?_
        rotate_left
        · rintro w' ⟨s0, s1, s2, s3, s4, s5, s6⟩
          go_simp
          with_reducible rfl
        rotate_left
        · simp only [Act.put, List.setIfInBounds_toArray, List.set_cons_zero, List.set_cons_succ, i64_w, i32_w]
          rfl
        refine pure_ (i := 3) (N := some 35) (v := ?_) (a' := ?_) #[true, true, true, true, false, false, false, false] rfl rfl (by kernel_rfl) (fun _ _ _ h => h) (Or.inl ⟨by rfl, ?_⟩) ?_ ?_
        rotate_left
        · intro w'
          go_simp
          with_reducible rfl
        rotate_left
        · simp only [Act.put, List.setIfInBounds_toArray, List.set_cons_zero, List.set_cons_succ, i64_w, i32_w]
          rfl
        refine pure_ (i := 4) (N := some 36) (v := ?_) (a' := ?_) #[true, true, true, true, true, false, false, false] rfl rfl (by kernel_rfl) (fun _ _ _ h => h) (Or.inl ⟨by rfl, ?_⟩) ?_ ?_
        rotate_left
        · intro w'
          go_simp
          with_reducible rfl
        rotate_left
        · simp only [Act.put, List.setIfInBounds_toArray, List.set_cons_zero, List.set_cons_succ, i64_w, i32_w]
          rfl
        refine one_ (i := 5) (N := none) #[true, true, true, true, true, true, false, false] rfl rfl (by kernel_rfl) (by decide) (fun K hK => ?_)
        refine seg.step (by rfl) rfl 60 (.tmp 2) _ (by rfl) 60 g2 0 #[.int .i64 0, .int .i64 0, .int .i64 0, .int .i64 0, .int .i64 0, .int .i64 0, .slice none 0 0] #[.int .i64 me, .int .i64 (wrap64 (rev + 1)), .int .i64 (wrap64 (nx + 1)), .int .i64 mo, .int .i64 bo, .int .i64 fr, .slice A8 l.length c8] [.int .i64 me, .int .i64 (wrap64 (rev + 1)), .int .i64 (wrap64 (nx + 1)), .int .i64 mo, .int .i64 bo, .int .i64 fr, .slice A8 l.length c8] (by rfl) (by rfl) (by kernel_rfl) (by simp [Value.oneCell']) Bg2.out (by simp) rfl ?_
        intro W7 bx hgr
        clear xg10 xg11 xg12 xg13 xg14 xg15 xg16
        have Bg1_ := Aside0.mk (seg.far (by first | with_reducible exact Bg1.out | with_reducible exact blk_drew Bg1.out | with_reducible exact blk_drewN Bg1.out _ | ((with_reducible repeat (first | refine blk_drewN ?_ _ | refine blk_drew ?_ | refine blk_alloc ?_ _)); exact Bg1.out)) hgr Ng1g2.out)
        have Bg3_ := Aside0.mk (seg.far (by first | with_reducible exact Bg3.out | with_reducible exact blk_drew Bg3.out | with_reducible exact blk_drewN Bg3.out _ | ((with_reducible repeat (first | refine blk_drewN ?_ _ | refine blk_drew ?_ | refine blk_alloc ?_ _)); exact Bg3.out)) hgr (Ne.symm Ng2g3.out))
        have RP_ := Aside0.mk (seg.R (ok := fun k => (((True) ∧ k ≠ g1) ∧ k ≠ g2) ∧ k ≠ g3) (by first | with_reducible exact RP.out | with_reducible exact Kd.R_drew RP.out | ((with_reducible repeat (first | apply Kd.R_alloc | apply Kd.R_drewN | apply Kd.R_drew)); exact RP.out)) hgr (fun k hk => hk.1.2))
        have HB_ := Aside0.mk (seg.below (by repeat (first | (with_reducible first | exact HB.out | apply below_alloc | apply pw_below_drewN | apply below_drew1) | exact HB.out)) hgr Gg2.out)
        clear Bg1 Bg3 RP HB
        have Bg1 := Bg1_
        clear Bg1_
        have Bg3 := Bg3_
        clear Bg3_
        have RP := RP_
        clear RP_
        have HB := HB_
        clear HB_
        have Bq_ := Aside0.mk bx
        clear Bg2
        have Bg2 := Bq_
        clear Bq_ bx hgr
        have xg10 : W7.cell? ⟨g1, 0, none⟩ = some (.int .i64 me) := (blk_cell Bg1.out 0).trans rfl
        have xg11 : W7.cell? ⟨g1, 1, none⟩ = some (.int .i64 (wrap64 (rev + 1))) := (blk_cell Bg1.out 1).trans rfl
        have xg12 : W7.cell? ⟨g1, 2, none⟩ = some (.int .i64 (wrap64 (nx + 1))) := (blk_cell Bg1.out 2).trans rfl
        have xg13 : W7.cell? ⟨g1, 3, none⟩ = some (.int .i64 mo) := (blk_cell Bg1.out 3).trans rfl
        have xg14 : W7.cell? ⟨g1, 4, none⟩ = some (.int .i64 bo) := (blk_cell Bg1.out 4).trans rfl
        have xg15 : W7.cell? ⟨g1, 5, none⟩ = some (.int .i64 fr) := (blk_cell Bg1.out 5).trans rfl
        have xg16 : W7.cell? ⟨g1, 6, none⟩ = some (.slice A8 l.length c8) := (blk_cell Bg1.out 6).trans rfl
        refine hK.out _ _ ⟨xg10, xg11, xg12, xg13, xg14, xg15, xg16⟩ (fun hHeld => ?_)
        clear hK K
        refine last_ (i := 6) (N := none) #[true, true, true, true, true, true, true, false] rfl rfl (by kernel_rfl) (by decide) (fun K hK => ?_)
        refine seg.step (by rfl) rfl 67 (.tmp 3) _ (by rfl) 67 g3 0 #[.int .i64 0, .int .i64 0, .int .i64 0, .int .i64 0, .int .i64 0, .int .i64 0, .int .i64 0] #[.int .i64 (wrap64 (wrap64 (nx + 1) - 1)), .int .i64 0, .int .i64 0, .int .i64 0, .int .i64 0, .int .i64 0, .int .i64 0] [.int .i64 (wrap64 (wrap64 (nx + 1) - 1)), .int .i64 0, .int .i64 0, .int .i64 0, .int .i64 0, .int .i64 0, .int .i64 0] (by rfl) (by rfl) (by kernel_rfl) (by simp [Value.oneCell']) Bg3.out (by simp) rfl ?_
        intro W8 bx hgr
        clear xg10 xg11 xg12 xg13 xg14 xg15 xg16
        have Bg1_ := Aside0.mk (seg.far (by first | with_reducible exact Bg1.out | with_reducible exact blk_drew Bg1.out | with_reducible exact blk_drewN Bg1.out _ | ((with_reducible repeat (first | refine blk_drewN ?_ _ | refine blk_drew ?_ | refine blk_alloc ?_ _)); exact Bg1.out)) hgr Ng1g3.out)
        have Bg2_ := Aside0.mk (seg.far (by first | with_reducible exact Bg2.out | with_reducible exact blk_drew Bg2.out | with_reducible exact blk_drewN Bg2.out _ | ((with_reducible repeat (first | refine blk_drewN ?_ _ | refine blk_drew ?_ | refine blk_alloc ?_ _)); exact Bg2.out)) hgr Ng2g3.out)
        have RP_ := Aside0.mk (seg.R (ok := fun k => (((True) ∧ k ≠ g1) ∧ k ≠ g2) ∧ k ≠ g3) (by first | with_reducible exact RP.out | with_reducible exact Kd.R_drew RP.out | ((with_reducible repeat (first | apply Kd.R_alloc | apply Kd.R_drewN | apply Kd.R_drew)); exact RP.out)) hgr (fun k hk => hk.2))
        have HB_ := Aside0.mk (seg.below (by repeat (first | (with_reducible first | exact HB.out | apply below_alloc | apply pw_below_drewN | apply below_drew1) | exact HB.out)) hgr Gg3.out)
        clear Bg1 Bg2 RP HB
        have Bg1 := Bg1_
        clear Bg1_
        have Bg2 := Bg2_
        clear Bg2_
        have RP := RP_
        clear RP_
        have HB := HB_
        clear HB_
        have Bq_ := Aside0.mk bx
        clear Bg3
        have Bg3 := Bq_
        clear Bq_ bx hgr
        refine hK.out _ _ ?_
        clear hK K
        refine pure_ (i := 7) (N := some 4) (v := ?_) (a' := ?_) #[true, true, true, true, true, true, true, true] rfl rfl (by kernel_rfl) (fun _ _ _ h => h) (Or.inl ⟨by rfl, ?_⟩) ?_ ?_
        rotate_left
        · intro w'
          go_simp
          with_reducible rfl
        rotate_left
        · simp only [Act.put, List.setIfInBounds_toArray, List.set_cons_zero, List.set_cons_succ, i64_w, i32_w]
          rfl
        refine done_ (by kernel_rfl) ?_
        go_wp2
        refine bodyPost_ret (results_list (rs := [.cell 2 60, .cell 3 67, .tmp 4]) rfl (by simp) (.cell g2 60 #[.int .i64 me, .int .i64 (wrap64 (rev + 1)), .int .i64 (wrap64 (nx + 1)), .int .i64 mo, .int .i64 bo, .int .i64 fr, .slice A8 l.length c8] (0, 0) _ rfl Bg2.out Try.underlying60 rfl (by kernel_rfl) (.cell g3 67 #[.int .i64 (wrap64 (wrap64 (nx + 1) - 1)), .int .i64 0, .int .i64 0, .int .i64 0, .int .i64 0, .int .i64 0, .int .i64 0] (0, 0) _ rfl Bg3.out Try.underlying67 rfl (by kernel_rfl) (.tmp .nil)))) rfl ?_
        exact ⟨_, rfl, Kd.R_mono RP.out (fun _ _ => trivial), HB.out⟩
  · rw [if_neg h0] at h
    simp only [Option.some.injEq, Prod.mk.injEq] at h
    obtain ⟨rfl, rfl, rfl, rfl, rfl, rfl, rfl, rfl, rfl, rfl, rfl, rfl, rfl, rfl, rfl⟩ := h
    replace h0 := Bool.eq_false_iff.mpr h0
    subst h0
    go_enter Try.func39, Try.ntmps39
    go_wp2_with (first | ((with_reducible refine gate_dst (N := 1) rfl ?_); refine box_event ?hg (N := 1) ?hd (cs := #[.int .i64 me, .int .i64 rev, .int .i64 nx, .int .i64 mo, .int .i64 bo, .int .i64 fr, .slice A6 l.length c6]) (t := 60) ?hr ?_; (case hd => rfl); (case hg => rfl); (case hr => first | (go_simp; done) | (go_simp; rfl)); intro g1 hgq W1 hbox hb; have Gg1 := Aside0.mk (by rw [hgq]; exact below_size (by repeat (first | (with_reducible first | exact HB.out | apply below_alloc | apply pw_below_drewN | apply below_drew1) | exact HB.out)) : w.heap.size ≤ g1); have HB_ := Aside0.mk (below_step (by repeat (first | (with_reducible first | exact HB.out | apply below_alloc | apply pw_below_drewN | apply below_drew1) | exact HB.out)) hb); clear HB; have HB := HB_; clear HB_; have Bg1 := Aside0.mk hbox; clear hb hbox hgq; skip) | ((with_reducible refine gate_dst (N := 2) rfl ?_); refine box_event ?hg (N := 2) ?hd (cs := #[.int .i64 0, .int .i64 0, .int .i64 0, .int .i64 0, .int .i64 0, .int .i64 0, .slice none 0 0]) (t := 60) ?hr ?_; (case hd => rfl); (case hg => rfl); (case hr => first | (go_simp; done) | (go_simp; rfl)); intro g2 hgq W2 hbox hb; have Ng1g2 := Aside0.mk (by rw [hgq]; exact Nat.ne_of_lt (blk_lt (by first | with_reducible exact Bg1.out | with_reducible exact blk_drew Bg1.out | with_reducible exact blk_drewN Bg1.out _ | ((with_reducible repeat (first | refine blk_drewN ?_ _ | refine blk_drew ?_ | refine blk_alloc ?_ _)); exact Bg1.out))) : g1 ≠ g2); have Gg2 := Aside0.mk (by rw [hgq]; exact below_size (by repeat (first | (with_reducible first | exact HB.out | apply below_alloc | apply pw_below_drewN | apply below_drew1) | exact HB.out)) : w.heap.size ≤ g2); have Bg1_ := Aside0.mk (blk_below (by first | with_reducible exact Bg1.out | with_reducible exact blk_drew Bg1.out | with_reducible exact blk_drewN Bg1.out _ | ((with_reducible repeat (first | refine blk_drewN ?_ _ | refine blk_drew ?_ | refine blk_alloc ?_ _)); exact Bg1.out)) hb); have HB_ := Aside0.mk (below_step (by repeat (first | (with_reducible first | exact HB.out | apply below_alloc | apply pw_below_drewN | apply below_drew1) | exact HB.out)) hb); clear Bg1 HB; have Bg1 := Bg1_; clear Bg1_; have HB := HB_; clear HB_; have Bg2 := Aside0.mk hbox; clear hb hbox hgq; skip) | ((with_reducible refine gate_dst (N := 3) rfl ?_); refine box_event ?hg (N := 3) ?hd (cs := #[.int .i64 0, .int .i64 0, .int .i64 0, .int .i64 0, .int .i64 0, .int .i64 0, .int .i64 0]) (t := 67) ?hr ?_; (case hd => rfl); (case hg => rfl); (case hr => first | (go_simp; done) | (go_simp; rfl)); intro g3 hgq W3 hbox hb; have Ng1g3 := Aside0.mk (by rw [hgq]; exact Nat.ne_of_lt (blk_lt (by first | with_reducible exact Bg1.out | with_reducible exact blk_drew Bg1.out | with_reducible exact blk_drewN Bg1.out _ | ((with_reducible repeat (first | refine blk_drewN ?_ _ | refine blk_drew ?_ | refine blk_alloc ?_ _)); exact Bg1.out))) : g1 ≠ g3); have Ng2g3 := Aside0.mk (by rw [hgq]; exact Nat.ne_of_lt (blk_lt (by first | with_reducible exact Bg2.out | with_reducible exact blk_drew Bg2.out | with_reducible exact blk_drewN Bg2.out _ | ((with_reducible repeat (first | refine blk_drewN ?_ _ | refine blk_drew ?_ | refine blk_alloc ?_ _)); exact Bg2.out))) : g2 ≠ g3); have Gg3 := Aside0.mk (by rw [hgq]; exact below_size (by repeat (first | (with_reducible first | exact HB.out | apply below_alloc | apply pw_below_drewN | apply below_drew1) | exact HB.out)) : w.heap.size ≤ g3); have Bg1_ := Aside0.mk (blk_below (by first | with_reducible exact Bg1.out | with_reducible exact blk_drew Bg1.out | with_reducible exact blk_drewN Bg1.out _ | ((with_reducible repeat (first | refine blk_drewN ?_ _ | refine blk_drew ?_ | refine blk_alloc ?_ _)); exact Bg1.out)) hb); have Bg2_ := Aside0.mk (blk_below (by first | with_reducible exact Bg2.out | with_reducible exact blk_drew Bg2.out | with_reducible exact blk_drewN Bg2.out _ | ((with_reducible repeat (first | refine blk_drewN ?_ _ | refine blk_drew ?_ | refine blk_alloc ?_ _)); exact Bg2.out)) hb); have HB_ := Aside0.mk (below_step (by repeat (first | (with_reducible first | exact HB.out | apply below_alloc | apply pw_below_drewN | apply below_drew1) | exact HB.out)) hb); clear Bg1 Bg2 HB; have Bg1 := Bg1_; clear Bg1_; have Bg2 := Bg2_; clear Bg2_; have HB := HB_; clear HB_; have Bg3 := Aside0.mk hbox; clear hb hbox hgq; have xg10 : W3.cell? ⟨g1, 0, none⟩ = some (.int .i64 me) := (blk_cell Bg1.out 0).trans rfl; have xg11 : W3.cell? ⟨g1, 1, none⟩ = some (.int .i64 rev) := (blk_cell Bg1.out 1).trans rfl; have xg12 : W3.cell? ⟨g1, 2, none⟩ = some (.int .i64 nx) := (blk_cell Bg1.out 2).trans rfl; have xg13 : W3.cell? ⟨g1, 3, none⟩ = some (.int .i64 mo) := (blk_cell Bg1.out 3).trans rfl; have xg14 : W3.cell? ⟨g1, 4, none⟩ = some (.int .i64 bo) := (blk_cell Bg1.out 4).trans rfl; have xg15 : W3.cell? ⟨g1, 5, none⟩ = some (.int .i64 fr) := (blk_cell Bg1.out 5).trans rfl; have xg16 : W3.cell? ⟨g1, 6, none⟩ = some (.slice A6 l.length c6) := (blk_cell Bg1.out 6).trans rfl; skip) | (go_at_call 85; refine (account_may.calls k me rev nx mo bo fr A6 c6 l false _ (by repeat (first | exact (Kd.C_below HR0.out HB.out) | (with_reducible refine Kd.C_alloc ?_ _) | (with_reducible refine Kd.C_drewN ?_ _) | (with_reducible refine Kd.C_drew ?_))) HC0.out HM.out).mono ?_; rintro e wa ⟨rfl, hb1⟩; clear xg10 xg11 xg12 xg13 xg14 xg15 xg16; have Bg1_ := Aside0.mk (blk_below (by first | with_reducible exact Bg1.out | with_reducible exact blk_drew Bg1.out | with_reducible exact blk_drewN Bg1.out _ | ((with_reducible repeat (first | refine blk_drewN ?_ _ | refine blk_drew ?_ | refine blk_alloc ?_ _)); exact Bg1.out)) hb1); have Bg2_ := Aside0.mk (blk_below (by first | with_reducible exact Bg2.out | with_reducible exact blk_drew Bg2.out | with_reducible exact blk_drewN Bg2.out _ | ((with_reducible repeat (first | refine blk_drewN ?_ _ | refine blk_drew ?_ | refine blk_alloc ?_ _)); exact Bg2.out)) hb1); have Bg3_ := Aside0.mk (blk_below (by first | with_reducible exact Bg3.out | with_reducible exact blk_drew Bg3.out | with_reducible exact blk_drewN Bg3.out _ | ((with_reducible repeat (first | refine blk_drewN ?_ _ | refine blk_drew ?_ | refine blk_alloc ?_ _)); exact Bg3.out)) hb1); have HB_ := Aside0.mk (below_step (by repeat (first | (with_reducible first | exact HB.out | apply below_alloc | apply pw_below_drewN | apply below_drew1) | exact HB.out)) hb1); clear Bg1 Bg2 Bg3 HB; have Bg1 := Bg1_; clear Bg1_; have Bg2 := Bg2_; clear Bg2_; have Bg3 := Bg3_; clear Bg3_; have HB := HB_; clear HB_; have xg10 : wa.cell? ⟨g1, 0, none⟩ = some (.int .i64 me) := (blk_cell Bg1.out 0).trans rfl; have xg11 : wa.cell? ⟨g1, 1, none⟩ = some (.int .i64 rev) := (blk_cell Bg1.out 1).trans rfl; have xg12 : wa.cell? ⟨g1, 2, none⟩ = some (.int .i64 nx) := (blk_cell Bg1.out 2).trans rfl; have xg13 : wa.cell? ⟨g1, 3, none⟩ = some (.int .i64 mo) := (blk_cell Bg1.out 3).trans rfl; have xg14 : wa.cell? ⟨g1, 4, none⟩ = some (.int .i64 bo) := (blk_cell Bg1.out 4).trans rfl; have xg15 : wa.cell? ⟨g1, 5, none⟩ = some (.int .i64 fr) := (blk_cell Bg1.out 5).trans rfl; have xg16 : wa.cell? ⟨g1, 6, none⟩ = some (.slice A6 l.length c6) := (blk_cell Bg1.out 6).trans rfl; clear hb1) | ((with_reducible refine gate_store (t := 60) (p := 2) rfl ?_); refine seg.list rfl rfl 60 (.tmp 2) _ rfl 60 g2 0 #[.int .i64 0, .int .i64 0, .int .i64 0, .int .i64 0, .int .i64 0, .int .i64 0, .slice none 0 0] #[.int .i64 0, .int .i64 0, .int .i64 0, .int .i64 0, .int .i64 0, .int .i64 0, .slice none 0 0] [.int .i64 0, .int .i64 0, .int .i64 0, .int .i64 0, .int .i64 0, .int .i64 0, .slice none 0 0] rfl rfl (by kernel_rfl) (by simp [Value.oneCell']) (by first | with_reducible exact Bg2.out | with_reducible exact blk_drew Bg2.out | with_reducible exact blk_drewN Bg2.out _ | ((with_reducible repeat (first | refine blk_drewN ?_ _ | refine blk_drew ?_ | refine blk_alloc ?_ _)); exact Bg2.out)) (by simp) rfl ?_; intro W4 bx hgr; clear xg10 xg11 xg12 xg13 xg14 xg15 xg16; have Bg1_ := Aside0.mk (seg.far (by first | with_reducible exact Bg1.out | with_reducible exact blk_drew Bg1.out | with_reducible exact blk_drewN Bg1.out _ | ((with_reducible repeat (first | refine blk_drewN ?_ _ | refine blk_drew ?_ | refine blk_alloc ?_ _)); exact Bg1.out)) hgr Ng1g2.out); have Bg3_ := Aside0.mk (seg.far (by first | with_reducible exact Bg3.out | with_reducible exact blk_drew Bg3.out | with_reducible exact blk_drewN Bg3.out _ | ((with_reducible repeat (first | refine blk_drewN ?_ _ | refine blk_drew ?_ | refine blk_alloc ?_ _)); exact Bg3.out)) hgr (Ne.symm Ng2g3.out)); have HB_ := Aside0.mk (seg.below (by repeat (first | (with_reducible first | exact HB.out | apply below_alloc | apply pw_below_drewN | apply below_drew1) | exact HB.out)) hgr Gg2.out); clear Bg1 Bg3 HB; have Bg1 := Bg1_; clear Bg1_; have Bg3 := Bg3_; clear Bg3_; have HB := HB_; clear HB_; have Bq_ := Aside0.mk bx; clear Bg2; have Bg2 := Bq_; clear Bq_ bx hgr; skip) | ((with_reducible refine gate_store (t := 67) (p := 3) rfl ?_); refine seg.list rfl rfl 67 (.tmp 3) _ rfl 67 g3 0 #[.int .i64 0, .int .i64 0, .int .i64 0, .int .i64 0, .int .i64 0, .int .i64 0, .int .i64 0] #[.int .i64 0, .int .i64 0, .int .i64 0, .int .i64 0, .int .i64 0, .int .i64 0, .int .i64 0] [.int .i64 0, .int .i64 0, .int .i64 0, .int .i64 0, .int .i64 0, .int .i64 0, .int .i64 0] rfl rfl (by kernel_rfl) (by simp [Value.oneCell']) (by first | with_reducible exact Bg3.out | with_reducible exact blk_drew Bg3.out | with_reducible exact blk_drewN Bg3.out _ | ((with_reducible repeat (first | refine blk_drewN ?_ _ | refine blk_drew ?_ | refine blk_alloc ?_ _)); exact Bg3.out)) (by simp) rfl ?_; intro W5 bx hgr; have Bg1_ := Aside0.mk (seg.far (by first | with_reducible exact Bg1.out | with_reducible exact blk_drew Bg1.out | with_reducible exact blk_drewN Bg1.out _ | ((with_reducible repeat (first | refine blk_drewN ?_ _ | refine blk_drew ?_ | refine blk_alloc ?_ _)); exact Bg1.out)) hgr Ng1g3.out); have Bg2_ := Aside0.mk (seg.far (by first | with_reducible exact Bg2.out | with_reducible exact blk_drew Bg2.out | with_reducible exact blk_drewN Bg2.out _ | ((with_reducible repeat (first | refine blk_drewN ?_ _ | refine blk_drew ?_ | refine blk_alloc ?_ _)); exact Bg2.out)) hgr Ng2g3.out); have HB_ := Aside0.mk (seg.below (by repeat (first | (with_reducible first | exact HB.out | apply below_alloc | apply pw_below_drewN | apply below_drew1) | exact HB.out)) hgr Gg3.out); clear Bg1 Bg2 HB; have Bg1 := Bg1_; clear Bg1_; have Bg2 := Bg2_; clear Bg2_; have HB := HB_; clear HB_; have Bq_ := Aside0.mk bx; clear Bg3; have Bg3 := Bq_; clear Bq_ bx hgr; skip))
    refine bodyPost_ret (results_list (rs := [.cell 2 60, .cell 3 67, .tmp 4]) rfl (by simp) (.cell g2 60 #[.int .i64 0, .int .i64 0, .int .i64 0, .int .i64 0, .int .i64 0, .int .i64 0, .slice none 0 0] (0, 0) _ rfl Bg2.out Try.underlying60 rfl (by kernel_rfl) (.cell g3 67 #[.int .i64 0, .int .i64 0, .int .i64 0, .int .i64 0, .int .i64 0, .int .i64 0, .int .i64 0] (0, 0) _ rfl Bg3.out Try.underlying67 rfl (by kernel_rfl) (.tmp .nil)))) rfl ?_
    exact ⟨_, rfl, Kd.R_nil _ _ _ _ _, HB.out⟩

/-! ### vendmeterref_In: function 54 -/
def vendmeterref_In.f (a0 : Int) (a1 : Int) (a2 : Int) : Option (Bool) := if a0 ≥ a1 then (some (decide (a0 ≤ a2))) else (some false)
set_option maxHeartbeats 8000000 in
set_option maxRecDepth 100000 in
theorem vendmeterref_In.calls (a0 : Int) (a1 : Int) (a2 : Int) (r : Bool) (w : World) (h : vendmeterref_In.f a0 a1 a2 = some r) :
    Calls Try.prog 54 #[.int .i64 a0, .int .i64 a1, .int .i64 a2] w fun e w' => e = .returned (.bool r) ∧ Drawn0 w w' := by
  have H : (if a0 ≥ a1 then (some (decide (a0 ≤ a2))) else (some false)) = some r := h
  clear h
  by_cases c4 : a0 ≥ a1
  · rw [if_pos c4] at H
    have c4b0 : decide (a1 ≤ a0) = true := decide_eq_true c4
    clear c4
    obtain rfl := Option.some.inj H
    go_enter Try.func54, Try.ntmps54
    go_wp2
    go_ret
    exact ⟨by first | rfl | (simp; done) | (simp [*]; done), by repeat (first | exact Drawn0.refl _ | apply Drawn0.step)⟩
  · rw [if_neg c4] at H
    have c4b0 : decide (a1 ≤ a0) = false := decide_eq_false c4
    clear c4
    obtain rfl := Option.some.inj H
    go_enter Try.func54, Try.ntmps54
    go_wp2
    go_ret
    exact ⟨by first | rfl | (simp; done) | (simp [*]; done), by repeat (first | exact Drawn0.refl _ | apply Drawn0.step)⟩

/-! ### vendmeterref_DebtFault: function 125 -/
def vendmeterref_DebtFault.l0 : Nat → List (S76) → Int → Option (Int)
  | 0, _, _ => none
  | k + 1, x0, x3 => if x3 < (x0.length : Int) then (if 0 ≤ x3 then ((vendmeterref_In.f ((rd_T76 x0 x3).f0) 0 1000000000).bind fun t130 => (if t130 = true then ((vendmeterref_In.f ((rd_T76 x0 x3).f1) 0 10000).bind fun t132 => (if t132 = true then (vendmeterref_DebtFault.l0 k x0 (wrap64 (x3 + 1))) else (some 2))) else (some 2))) else (none)) else (some 0)
def vendmeterref_DebtFault.f (k : Nat) (l0 : List (S76)) : Option (Int) := if (l0.length : Int) > 8 then (some 1) else (vendmeterref_DebtFault.l0 k l0 0)
theorem vendmeterref_DebtFault.mono_l : ∀ k, (∀ y0 y1, LeO (vendmeterref_DebtFault.l0 k y0 y1) (vendmeterref_DebtFault.l0 (k + 1) y0 y1))
  | 0 => fun _ _ r h => by simp [vendmeterref_DebtFault.l0] at h
  | k + 1 => by
    have ih0 := vendmeterref_DebtFault.mono_l k
    · intro y0 y1
      unfold vendmeterref_DebtFault.l0
      repeat' first
      | (with_reducible exact ih0 _ _)
      | (with_reducible exact LeO.refl _)
      | (with_reducible exact LeO.none _)
      | (with_reducible refine LeO.ite ?_ ?_)
      | (with_reducible refine LeO.bind ?_ (fun _ => ?_))
      | exact ih0 _ _
      | exact LeO.none _
      | refine LeO.ite ?_ ?_
      | refine LeO.bind ?_ (fun _ => ?_)
theorem vendmeterref_DebtFault.mono : ∀ a0 k, LeO (vendmeterref_DebtFault.f k a0) (vendmeterref_DebtFault.f (k + 1) a0) := by
  intro a0 k
  have ih0 := vendmeterref_DebtFault.mono_l k
  unfold vendmeterref_DebtFault.f
  repeat' first
      | (with_reducible exact ih0 _ _)
      | (with_reducible exact LeO.refl _)
      | (with_reducible exact LeO.none _)
      | (with_reducible refine LeO.ite ?_ ?_)
      | (with_reducible refine LeO.bind ?_ (fun _ => ?_))
      | exact ih0 _ _
      | exact LeO.none _
      | refine LeO.ite ?_ ?_
      | refine LeO.bind ?_ (fun _ => ?_)
set_option maxHeartbeats 8000000 in
set_option maxRecDepth 100000 in
theorem vendmeterref_DebtFault.calls (k : Nat) (A0 : Option Addr) (c0 : Nat) (l0 : List (S76)) (r : Int) (w : World) (hr0 : Kd.C k76 w A0 l0.length l0) (hc0 : l0.length ≤ c0) (h : vendmeterref_DebtFault.f k l0 = some r) :
    Calls Try.prog 125 #[.slice A0 l0.length c0] w fun e w' => e = .returned (.int .i64 r) ∧ Drawn0 w w' := by
  have HR0 := Aside0.mk hr0
  have HC0 := Aside0.mk hc0
  clear hr0 hc0
  have H : (if (l0.length : Int) > 8 then (some 1) else (vendmeterref_DebtFault.l0 k l0 0)) = some r := h
  clear h
  by_cases c2 : (l0.length : Int) > 8
  · rw [if_pos c2] at H
    have c2b0 : decide (8 < (l0.length : Int)) = true := decide_eq_true c2
    have c2b1 : decide (8 < l0.length) = true := decide_eq_true (by omega)
    clear c2
    obtain rfl := Option.some.inj H
    go_enter Try.func125, Try.ntmps125
    go_wp2
    go_ret
    exact ⟨by first | rfl | (simp; done) | (simp [*]; done), by repeat (first | exact Drawn0.refl _ | apply Drawn0.step)⟩
  · rw [if_neg c2] at H
    have c2b0 : decide (8 < (l0.length : Int)) = false := decide_eq_false c2
    have c2b1 : decide (8 < l0.length) = false := decide_eq_false (by omega)
    clear c2
    have H' := Aside0.mk H
    clear H
    go_enter Try.func125, Try.ntmps125
    go_wp2
    go_loopg [3] k (fun kq v3 w' => ∃ (x3_1 : Int), v3 = .int .i64 x3_1 ∧ Aside0 (vendmeterref_DebtFault.l0 kq l0 x3_1 = some r) ∧ Aside0 (kq ≤ k) ∧ Drawn0 w w')
    case atStart => exact ⟨(0), (by first | rfl | (simp; done) | (simp [*]; done)), H', ⟨Nat.le_refl _⟩, by repeat (first | exact Drawn0.refl _ | apply Drawn0.step)⟩
    case round =>
      clear H'
      try clear c1
      try clear c2
      try clear c2b0
      try clear c2b1
      try clear p2
      obtain ⟨x3_1, rfl, HA, HK1, ⟨m1, rfl⟩⟩ := hrel
      cases gk with
      | zero => exact absurd HA.out (by simp [vendmeterref_DebtFault.l0])
      | succ k1 =>
        have H := HA.out
        clear HA
        simp only [vendmeterref_DebtFault.l0] at H
        by_cases c3 : x3_1 < (l0.length : Int)
        · rw [if_pos c3] at H
          have c3b0 : decide (x3_1 < (l0.length : Int)) = true := decide_eq_true c3
          clear c3
          by_cases c4 : 0 ≤ x3_1
          · rw [if_pos c4] at H
            have c4b0 : decide (0 ≤ x3_1) = true := decide_eq_true c4
            clear c4
            replace H := Option.bind_eq_some_iff.mp H
            obtain ⟨t130, A50, H⟩ := H
            replace H : (if t130 = true then ((vendmeterref_In.f ((rd_T76 l0 x3_1).f1) 0 10000).bind fun t132 => (if t132 = true then (vendmeterref_DebtFault.l0 k1 l0 (wrap64 (x3_1 + 1))) else (some 2))) else (some 2)) = some r := H
            have A5 := Aside0.mk A50
            clear A50
            by_cases c6 : t130 = true
            · subst c6
              have H1 : ((vendmeterref_In.f ((rd_T76 l0 x3_1).f1) 0 10000).bind fun t132 => (if t132 = true then (vendmeterref_DebtFault.l0 k1 l0 (wrap64 (x3_1 + 1))) else (some 2))) = some r := by rw [if_pos rfl] at H; exact H
              clear H
              have H := H1
              clear H1
              replace H := Option.bind_eq_some_iff.mp H
              obtain ⟨t132, A70, H⟩ := H
              replace H : (if t132 = true then (vendmeterref_DebtFault.l0 k1 l0 (wrap64 (x3_1 + 1))) else (some 2)) = some r := H
              have A7 := Aside0.mk A70
              clear A70
              by_cases c8 : t132 = true
              · subst c8
                have H1 : (vendmeterref_DebtFault.l0 k1 l0 (wrap64 (x3_1 + 1))) = some r := by rw [if_pos rfl] at H; exact H
                clear H
                have H := H1
                clear H1
                have H' := Aside0.mk H
                clear H
                have p129 : 0 ≤ (x3_1 : Int) := of_decide_eq_true (by first | (with_reducible assumption) | assumption)
                have q129 : x3_1 < (l0.length : Int) := of_decide_eq_true (by first | (with_reducible assumption) | assumption)
                obtain ⟨ad129, e129, hx129_0, hx129_1⟩ := at_T76 HR0.out x3_1 p129 q129
                cases e129
                replace p129 := eq_true p129
                replace q129 := eq_true q129
                go_wp2_with (first | ((with_reducible refine gate_callee (f := 54) rfl ?_); refine goesL_ (some 18) rfl rfl Try.func54 (by kernel_rfl) rfl #[.int .i64 ((rd_T76 l0 x3_1).f0), .int .i64 0, .int .i64 1000000000] rfl (by (try simp only [List.map_toArray, List.map_cons, List.map_nil]); first | done | rfl | (simp only [List.length_drop, List.length_take]; rfl)) ?_; (with_reducible refine (vendmeterref_In.calls ((rd_T76 l0 x3_1).f0) 0 1000000000 true _ A5.out).mono ?_); rintro e w' ⟨rfl, ⟨nd, rfl⟩⟩; refine ⟨_, rfl, ?_⟩; have p131 : 0 ≤ (x3_1 : Int) := of_decide_eq_true (by first | (with_reducible assumption) | assumption); have q131 : x3_1 < (l0.length : Int) := of_decide_eq_true (by first | (with_reducible assumption) | assumption); obtain ⟨ad131, e131, hx131_0, hx131_1⟩ := at_T76 HR0.out x3_1 p131 q131; obtain rfl : ad129 = ad131 := (by injection e131); replace p131 := eq_true p131; replace q131 := eq_true q131) | (go_at_call 54; (with_reducible refine (vendmeterref_In.calls ((rd_T76 l0 x3_1).f1) 0 10000 true _ A7.out).mono ?_); rintro e w' ⟨rfl, ⟨nd, rfl⟩⟩))
                go_roundg k1
                case measure => have := HK1.out; omega
                case rel => exact ⟨(wrap64 (x3_1 + 1)), (by first | rfl | (simp; done) | (simp [*]; done)), H', ⟨by have := HK1.out; omega⟩, by repeat (first | exact Drawn0.refl _ | apply Drawn0.step)⟩
              · replace c8 := Bool.eq_false_iff.mpr c8
                subst c8
                have H1 : (some 2) = some r := by rw [if_neg (show ¬ (false = true) by decide)] at H; exact H
                clear H
                have H := H1
                clear H1
                obtain rfl := Option.some.inj H
                have p129 : 0 ≤ (x3_1 : Int) := of_decide_eq_true (by first | (with_reducible assumption) | assumption)
                have q129 : x3_1 < (l0.length : Int) := of_decide_eq_true (by first | (with_reducible assumption) | assumption)
                obtain ⟨ad129, e129, hx129_0, hx129_1⟩ := at_T76 HR0.out x3_1 p129 q129
                cases e129
                replace p129 := eq_true p129
                replace q129 := eq_true q129
                go_wp2_with (first | ((with_reducible refine gate_callee (f := 54) rfl ?_); refine goesL_ (some 18) rfl rfl Try.func54 (by kernel_rfl) rfl #[.int .i64 ((rd_T76 l0 x3_1).f0), .int .i64 0, .int .i64 1000000000] rfl (by (try simp only [List.map_toArray, List.map_cons, List.map_nil]); first | done | rfl | (simp only [List.length_drop, List.length_take]; rfl)) ?_; (with_reducible refine (vendmeterref_In.calls ((rd_T76 l0 x3_1).f0) 0 1000000000 true _ A5.out).mono ?_); rintro e w' ⟨rfl, ⟨nd, rfl⟩⟩; refine ⟨_, rfl, ?_⟩; have p131 : 0 ≤ (x3_1 : Int) := of_decide_eq_true (by first | (with_reducible assumption) | assumption); have q131 : x3_1 < (l0.length : Int) := of_decide_eq_true (by first | (with_reducible assumption) | assumption); obtain ⟨ad131, e131, hx131_0, hx131_1⟩ := at_T76 HR0.out x3_1 p131 q131; obtain rfl : ad129 = ad131 := (by injection e131); replace p131 := eq_true p131; replace q131 := eq_true q131) | (go_at_call 54; (with_reducible refine (vendmeterref_In.calls ((rd_T76 l0 x3_1).f1) 0 10000 false _ A7.out).mono ?_); rintro e w' ⟨rfl, ⟨nd, rfl⟩⟩))
                go_ret
                exact ⟨by first | rfl | (simp; done) | (simp [*]; done), by repeat (first | exact Drawn0.refl _ | apply Drawn0.step)⟩
            · replace c6 := Bool.eq_false_iff.mpr c6
              subst c6
              have H1 : (some 2) = some r := by rw [if_neg (show ¬ (false = true) by decide)] at H; exact H
              clear H
              have H := H1
              clear H1
              obtain rfl := Option.some.inj H
              have p129 : 0 ≤ (x3_1 : Int) := of_decide_eq_true (by first | (with_reducible assumption) | assumption)
              have q129 : x3_1 < (l0.length : Int) := of_decide_eq_true (by first | (with_reducible assumption) | assumption)
              obtain ⟨ad129, e129, hx129_0, hx129_1⟩ := at_T76 HR0.out x3_1 p129 q129
              cases e129
              replace p129 := eq_true p129
              replace q129 := eq_true q129
              go_wp2_with (first | ((with_reducible refine gate_callee (f := 54) rfl ?_); refine goesL_ (some 18) rfl rfl Try.func54 (by kernel_rfl) rfl #[.int .i64 ((rd_T76 l0 x3_1).f0), .int .i64 0, .int .i64 1000000000] rfl (by (try simp only [List.map_toArray, List.map_cons, List.map_nil]); first | done | rfl | (simp only [List.length_drop, List.length_take]; rfl)) ?_; (with_reducible refine (vendmeterref_In.calls ((rd_T76 l0 x3_1).f0) 0 1000000000 false _ A5.out).mono ?_); rintro e w' ⟨rfl, ⟨nd, rfl⟩⟩; refine ⟨_, rfl, ?_⟩))
              go_ret
              exact ⟨by first | rfl | (simp; done) | (simp [*]; done), by repeat (first | exact Drawn0.refl _ | apply Drawn0.step)⟩
          · rw [if_neg c4] at H
            exact absurd H (by simp)
        · rw [if_neg c3] at H
          have c3b0 : decide (x3_1 < (l0.length : Int)) = false := decide_eq_false c3
          clear c3
          obtain rfl := Option.some.inj H
          go_wp2
          go_ret
          exact ⟨by first | rfl | (simp; done) | (simp [*]; done), by repeat (first | exact Drawn0.refl _ | apply Drawn0.step)⟩

/-! ### vendmeterref_AccountMay: function 78 -/
def vendmeterref_AccountMay.j0 : Nat → Bool → Int → Int → Int → Int → Int → Int → List (S76) → Option (Bool)
  | 0, _, _, _, _, _, _, _, _ => none
  | k + 1, x18, x134000, x134001, x134002, x134003, x134004, x134005, x134006 => if x18 = true then (some false) else ((vendmeterref_In.f x134002 1 1048576).bind fun t137 => (if t137 = true then ((vendmeterref_In.f x134003 0 2399).bind fun t138 => (if t138 = true then ((vendmeterref_In.f x134004 0 10000000).bind fun t139 => (if t139 = true then ((vendmeterref_In.f x134005 (-1) x134003).bind fun t140 => (some t140)) else (some false))) else (some false))) else (some false)))
def vendmeterref_AccountMay.f (k : Nat) (a0_0 : Int) (a0_1 : Int) (a0_2 : Int) (a0_3 : Int) (a0_4 : Int) (a0_5 : Int) (l0_6 : List (S76)) : Option (Bool) := (vendmeterref_DebtFault.f k l0_6).bind fun t134 => (if t134 = 0 then ((vendmeterref_In.f a0_0 0 49).bind fun t135 => (if t135 = true then ((vendmeterref_In.f a0_1 0 15).bind fun t136 => (vendmeterref_AccountMay.j0 k (!t136) a0_0 a0_1 a0_2 a0_3 a0_4 a0_5 l0_6)) else (vendmeterref_AccountMay.j0 k true a0_0 a0_1 a0_2 a0_3 a0_4 a0_5 l0_6))) else (vendmeterref_AccountMay.j0 k true a0_0 a0_1 a0_2 a0_3 a0_4 a0_5 l0_6))
theorem vendmeterref_AccountMay.mono_l : ∀ k, (∀ y0 y1 y2 y3 y4 y5 y6 y7, LeO (vendmeterref_AccountMay.j0 k y0 y1 y2 y3 y4 y5 y6 y7) (vendmeterref_AccountMay.j0 (k + 1) y0 y1 y2 y3 y4 y5 y6 y7))
  | 0 => fun _ _ _ _ _ _ _ _ r h => by simp [vendmeterref_AccountMay.j0] at h
  | k + 1 => by
    have ih0 := vendmeterref_AccountMay.mono_l k
    · intro y0 y1 y2 y3 y4 y5 y6 y7
      unfold vendmeterref_AccountMay.j0
      repeat' first
      | (with_reducible exact ih0 _ _ _ _ _ _ _ _)
      | (with_reducible exact vendmeterref_DebtFault.mono _ _)
      | (with_reducible exact LeO.refl _)
      | (with_reducible exact LeO.none _)
      | (with_reducible refine LeO.ite ?_ ?_)
      | (with_reducible refine LeO.bind ?_ (fun _ => ?_))
      | exact ih0 _ _ _ _ _ _ _ _
      | exact vendmeterref_DebtFault.mono _ _
      | exact LeO.none _
      | refine LeO.ite ?_ ?_
      | refine LeO.bind ?_ (fun _ => ?_)
theorem vendmeterref_AccountMay.mono : ∀ a0 a1 a2 a3 a4 a5 a6 k, LeO (vendmeterref_AccountMay.f k a0 a1 a2 a3 a4 a5 a6) (vendmeterref_AccountMay.f (k + 1) a0 a1 a2 a3 a4 a5 a6) := by
  intro a0 a1 a2 a3 a4 a5 a6 k
  have ih0 := vendmeterref_AccountMay.mono_l k
  unfold vendmeterref_AccountMay.f
  repeat' first
      | (with_reducible exact ih0 _ _ _ _ _ _ _ _)
      | (with_reducible exact vendmeterref_DebtFault.mono _ _)
      | (with_reducible exact LeO.refl _)
      | (with_reducible exact LeO.none _)
      | (with_reducible refine LeO.ite ?_ ?_)
      | (with_reducible refine LeO.bind ?_ (fun _ => ?_))
      | exact ih0 _ _ _ _ _ _ _ _
      | exact vendmeterref_DebtFault.mono _ _
      | exact LeO.none _
      | refine LeO.ite ?_ ?_
      | refine LeO.bind ?_ (fun _ => ?_)
set_option maxHeartbeats 8000000 in
set_option maxRecDepth 100000 in
theorem vendmeterref_AccountMay.calls (k : Nat) (a0_0 : Int) (a0_1 : Int) (a0_2 : Int) (a0_3 : Int) (a0_4 : Int) (a0_5 : Int) (A0_6 : Option Addr) (c0_6 : Nat) (l0_6 : List (S76)) (r : Bool) (w : World) (hr0_6 : Kd.C k76 w A0_6 l0_6.length l0_6) (hc0_6 : l0_6.length ≤ c0_6) (h : vendmeterref_AccountMay.f k a0_0 a0_1 a0_2 a0_3 a0_4 a0_5 l0_6 = some r) :
    Calls Try.prog 78 #[.agg #[.int .i64 a0_0, .int .i64 a0_1, .int .i64 a0_2, .int .i64 a0_3, .int .i64 a0_4, .int .i64 a0_5, .slice A0_6 l0_6.length c0_6]] w fun e w' => e = .returned (.bool r) ∧ Below w.heap.size w w' := by
  have hu60 := Try.underlying60
  have HR0_6 := Aside0.mk hr0_6
  have HC0_6 := Aside0.mk hc0_6
  clear hr0_6 hc0_6
  have HB := Aside0.mk (Below.refl w.heap.size w)
  have H : ((vendmeterref_DebtFault.f k l0_6).bind fun t134 => (if t134 = 0 then ((vendmeterref_In.f a0_0 0 49).bind fun t135 => (if t135 = true then ((vendmeterref_In.f a0_1 0 15).bind fun t136 => (vendmeterref_AccountMay.j0 k (!t136) a0_0 a0_1 a0_2 a0_3 a0_4 a0_5 l0_6)) else (vendmeterref_AccountMay.j0 k true a0_0 a0_1 a0_2 a0_3 a0_4 a0_5 l0_6))) else (vendmeterref_AccountMay.j0 k true a0_0 a0_1 a0_2 a0_3 a0_4 a0_5 l0_6))) = some r := h
  clear h
  have HC2 := Aside0.mk H
  clear H
  go_enter Try.func78, Try.ntmps78
  go_upto_region 1 with (first | ((with_reducible refine gate_dst (N := 1) rfl ?_); refine box_event ?hg (N := 1) ?hd (cs := #[.int .i64 a0_0, .int .i64 a0_1, .int .i64 a0_2, .int .i64 a0_3, .int .i64 a0_4, .int .i64 a0_5, .slice A0_6 l0_6.length c0_6]) (t := 60) ?hr ?_; (case hd => rfl); (case hg => rfl); (case hr => first | (go_simp; done) | (go_simp; rfl)); intro gb133 hg w3 hbox hb; have n0_ := Aside0.mk (below_step (by repeat (first | (with_reducible first | exact HB.out | apply below_alloc | apply pw_below_drewN | apply below_drew1) | exact HB.out)) hb); have n1_ := Aside0.mk (hbox); have n2_ := Aside0.mk ((by rw [hg]; exact (below_size (by repeat (first | (with_reducible first | exact HB.out | apply below_alloc | apply pw_below_drewN | apply below_drew1) | exact HB.out))) : w.heap.size ≤ gb133)); have n3_ := Aside0.mk ((by rw [hg]; exact (below_size (by repeat (first | (with_reducible first | exact HB.out | apply below_alloc | apply pw_below_drewN | apply below_drew1) | exact HB.out))) : w.heap.size ≤ gb133)); clear HB; have HB := n0_; have BK133 := n1_; have GW133 := n2_; have GE133 := n3_; clear n0_ n1_ n2_ n3_; clear hb hbox hg))
  (try simp only [Act.put, List.setIfInBounds_toArray, List.set_cons_zero, List.set_cons_succ])
  go_cut [18] (fun v18 wc => ∃ (kq : Nat) (x18_1 : Bool), v18 = .bool x18_1 ∧ Aside0 (vendmeterref_AccountMay.j0 kq x18_1 a0_0 a0_1 a0_2 a0_3 a0_4 a0_5 l0_6 = some r) ∧ Aside0 (kq ≤ k) ∧ Aside0 (wc.heap[gb133]? = some (.cells #[.int .i64 a0_0, .int .i64 a0_1, .int .i64 a0_2, .int .i64 a0_3, .int .i64 a0_4, .int .i64 a0_5, (.slice A0_6 l0_6.length c0_6)] 60 (0, 0))) ∧ Aside0 (Below w.heap.size w wc))
  case first =>
    have H := HC2.out
    clear HC2
    replace H := Option.bind_eq_some_iff.mp H
    obtain ⟨t134, A40, H⟩ := H
    replace H : (if t134 = 0 then ((vendmeterref_In.f a0_0 0 49).bind fun t135 => (if t135 = true then ((vendmeterref_In.f a0_1 0 15).bind fun t136 => (vendmeterref_AccountMay.j0 k (!t136) a0_0 a0_1 a0_2 a0_3 a0_4 a0_5 l0_6)) else (vendmeterref_AccountMay.j0 k true a0_0 a0_1 a0_2 a0_3 a0_4 a0_5 l0_6))) else (vendmeterref_AccountMay.j0 k true a0_0 a0_1 a0_2 a0_3 a0_4 a0_5 l0_6)) = some r := H
    have A4 := Aside0.mk A40
    clear A40
    by_cases c5 : t134 = 0
    · rw [if_pos c5] at H
      have c5b0 : (t134 == 0) = true := beq_iff_eq.mpr c5
      have c5b1 : (t134 != 0) = false := bne_eq_false_iff_eq.mpr c5
      clear c5
      (first | rw [c5b0] | (simp only [i64_w, i32_w]; rw [c5b0]) | skip)
      replace H := Option.bind_eq_some_iff.mp H
      obtain ⟨t135, A60, H⟩ := H
      replace H : (if t135 = true then ((vendmeterref_In.f a0_1 0 15).bind fun t136 => (vendmeterref_AccountMay.j0 k (!t136) a0_0 a0_1 a0_2 a0_3 a0_4 a0_5 l0_6)) else (vendmeterref_AccountMay.j0 k true a0_0 a0_1 a0_2 a0_3 a0_4 a0_5 l0_6)) = some r := H
      have A6 := Aside0.mk A60
      clear A60
      by_cases c7 : t135 = true
      · subst c7
        have H1 : ((vendmeterref_In.f a0_1 0 15).bind fun t136 => (vendmeterref_AccountMay.j0 k (!t136) a0_0 a0_1 a0_2 a0_3 a0_4 a0_5 l0_6)) = some r := by rw [if_pos rfl] at H; exact H
        clear H
        have H := H1
        clear H1
        replace H := Option.bind_eq_some_iff.mp H
        obtain ⟨t136, A80, H⟩ := H
        replace H : (vendmeterref_AccountMay.j0 k (!t136) a0_0 a0_1 a0_2 a0_3 a0_4 a0_5 l0_6) = some r := H
        have A8 := Aside0.mk A80
        clear A80
        have H' := Aside0.mk H
        clear H
        have hcz9_0 : w3.cell? ⟨gb133, 0, none⟩ = some (.int .i64 a0_0) := (blk_cell BK133.out 0).trans rfl
        have hcz9_1 : w3.cell? ⟨gb133, 1, none⟩ = some (.int .i64 a0_1) := (blk_cell BK133.out 1).trans rfl
        have hcz9_2 : w3.cell? ⟨gb133, 2, none⟩ = some (.int .i64 a0_2) := (blk_cell BK133.out 2).trans rfl
        have hcz9_3 : w3.cell? ⟨gb133, 3, none⟩ = some (.int .i64 a0_3) := (blk_cell BK133.out 3).trans rfl
        have hcz9_4 : w3.cell? ⟨gb133, 4, none⟩ = some (.int .i64 a0_4) := (blk_cell BK133.out 4).trans rfl
        have hcz9_5 : w3.cell? ⟨gb133, 5, none⟩ = some (.int .i64 a0_5) := (blk_cell BK133.out 5).trans rfl
        have hcz9_6 : w3.cell? ⟨gb133, 6, none⟩ = some (.slice A0_6 l0_6.length c0_6) := (blk_cell BK133.out 6).trans rfl
        have hfz9_0 := blk_frozen BK133.out 0
        have hfz9_1 := blk_frozen BK133.out 1
        have hfz9_2 := blk_frozen BK133.out 2
        have hfz9_3 := blk_frozen BK133.out 3
        have hfz9_4 := blk_frozen BK133.out 4
        have hfz9_5 := blk_frozen BK133.out 5
        have hfz9_6 := blk_frozen BK133.out 6
        go_wp2_with (first | ((with_reducible refine gate_callee (f := 125) rfl ?_); refine goesL_ (some 5) rfl rfl Try.func125 (by kernel_rfl) rfl #[.slice A0_6 l0_6.length c0_6] rfl (by (try simp only [List.map_toArray, List.map_cons, List.map_nil]); first | done | rfl | (simp only [List.length_drop, List.length_take]; rfl)) ?_; (with_reducible refine (vendmeterref_DebtFault.calls k _ _ l0_6 t134 _ ?side1 ?side2 A4.out).mono ?_); (case side1 => repeat (first | exact (Kd.C_below HR0_6.out HB.out) | (with_reducible refine Kd.C_alloc ?_ _) | (with_reducible refine Kd.C_drewN ?_ _) | (with_reducible refine Kd.C_drew ?_))); (case side2 => exact HC0_6.out); rintro e w' ⟨rfl, ⟨nd, rfl⟩⟩; refine ⟨_, rfl, ?_⟩) | (go_at_call 54; (with_reducible refine (vendmeterref_In.calls a0_0 0 49 true _ A6.out).mono ?_); rintro e w' ⟨rfl, ⟨nd, rfl⟩⟩) | (go_at_call 54; (with_reducible refine (vendmeterref_In.calls a0_1 0 15 t136 _ A8.out).mono ?_); rintro e w' ⟨rfl, ⟨nd, rfl⟩⟩))
        go_meet
        case rel => exact ⟨_, (!t136), (by first | rfl | (simp; done) | (simp [*]; done)), H', ⟨by first | omega | exact Nat.le_refl _⟩, ⟨by (with_reducible repeat (first | refine blk_drewN ?_ _ | refine blk_drew ?_ | refine blk_alloc ?_ _)); exact BK133.out⟩, ⟨by repeat (first | (with_reducible first | exact HB.out | apply below_alloc | apply pw_below_drewN | apply below_drew1 | refine below_set ?_ GE133.out) | exact HB.out)⟩⟩
      · replace c7 := Bool.eq_false_iff.mpr c7
        subst c7
        have H1 : (vendmeterref_AccountMay.j0 k true a0_0 a0_1 a0_2 a0_3 a0_4 a0_5 l0_6) = some r := by rw [if_neg (show ¬ (false = true) by decide)] at H; exact H
        clear H
        have H := H1
        clear H1
        have H' := Aside0.mk H
        clear H
        have hcz10_0 : w3.cell? ⟨gb133, 0, none⟩ = some (.int .i64 a0_0) := (blk_cell BK133.out 0).trans rfl
        have hcz10_1 : w3.cell? ⟨gb133, 1, none⟩ = some (.int .i64 a0_1) := (blk_cell BK133.out 1).trans rfl
        have hcz10_2 : w3.cell? ⟨gb133, 2, none⟩ = some (.int .i64 a0_2) := (blk_cell BK133.out 2).trans rfl
        have hcz10_3 : w3.cell? ⟨gb133, 3, none⟩ = some (.int .i64 a0_3) := (blk_cell BK133.out 3).trans rfl
        have hcz10_4 : w3.cell? ⟨gb133, 4, none⟩ = some (.int .i64 a0_4) := (blk_cell BK133.out 4).trans rfl
        have hcz10_5 : w3.cell? ⟨gb133, 5, none⟩ = some (.int .i64 a0_5) := (blk_cell BK133.out 5).trans rfl
        have hcz10_6 : w3.cell? ⟨gb133, 6, none⟩ = some (.slice A0_6 l0_6.length c0_6) := (blk_cell BK133.out 6).trans rfl
        have hfz10_0 := blk_frozen BK133.out 0
        have hfz10_1 := blk_frozen BK133.out 1
        have hfz10_2 := blk_frozen BK133.out 2
        have hfz10_3 := blk_frozen BK133.out 3
        have hfz10_4 := blk_frozen BK133.out 4
        have hfz10_5 := blk_frozen BK133.out 5
        have hfz10_6 := blk_frozen BK133.out 6
        go_wp2_with (first | ((with_reducible refine gate_callee (f := 125) rfl ?_); refine goesL_ (some 5) rfl rfl Try.func125 (by kernel_rfl) rfl #[.slice A0_6 l0_6.length c0_6] rfl (by (try simp only [List.map_toArray, List.map_cons, List.map_nil]); first | done | rfl | (simp only [List.length_drop, List.length_take]; rfl)) ?_; (with_reducible refine (vendmeterref_DebtFault.calls k _ _ l0_6 t134 _ ?side1 ?side2 A4.out).mono ?_); (case side1 => repeat (first | exact (Kd.C_below HR0_6.out HB.out) | (with_reducible refine Kd.C_alloc ?_ _) | (with_reducible refine Kd.C_drewN ?_ _) | (with_reducible refine Kd.C_drew ?_))); (case side2 => exact HC0_6.out); rintro e w' ⟨rfl, ⟨nd, rfl⟩⟩; refine ⟨_, rfl, ?_⟩) | (go_at_call 54; (with_reducible refine (vendmeterref_In.calls a0_0 0 49 false _ A6.out).mono ?_); rintro e w' ⟨rfl, ⟨nd, rfl⟩⟩))
        go_meet
        case rel => exact ⟨_, (true), (by first | rfl | (simp; done) | (simp [*]; done)), H', ⟨by first | omega | exact Nat.le_refl _⟩, ⟨by (with_reducible repeat (first | refine blk_drewN ?_ _ | refine blk_drew ?_ | refine blk_alloc ?_ _)); exact BK133.out⟩, ⟨by repeat (first | (with_reducible first | exact HB.out | apply below_alloc | apply pw_below_drewN | apply below_drew1 | refine below_set ?_ GE133.out) | exact HB.out)⟩⟩
    · rw [if_neg c5] at H
      have c5b0 : (t134 == 0) = false := beq_eq_false_iff_ne.mpr c5
      have c5b1 : (t134 != 0) = true := bne_iff_ne.mpr c5
      (first | rw [c5b0] | (simp only [i64_w, i32_w]; rw [c5b0]) | skip)
      have H' := Aside0.mk H
      clear H
      have hcz11_0 : w3.cell? ⟨gb133, 0, none⟩ = some (.int .i64 a0_0) := (blk_cell BK133.out 0).trans rfl
      have hcz11_1 : w3.cell? ⟨gb133, 1, none⟩ = some (.int .i64 a0_1) := (blk_cell BK133.out 1).trans rfl
      have hcz11_2 : w3.cell? ⟨gb133, 2, none⟩ = some (.int .i64 a0_2) := (blk_cell BK133.out 2).trans rfl
      have hcz11_3 : w3.cell? ⟨gb133, 3, none⟩ = some (.int .i64 a0_3) := (blk_cell BK133.out 3).trans rfl
      have hcz11_4 : w3.cell? ⟨gb133, 4, none⟩ = some (.int .i64 a0_4) := (blk_cell BK133.out 4).trans rfl
      have hcz11_5 : w3.cell? ⟨gb133, 5, none⟩ = some (.int .i64 a0_5) := (blk_cell BK133.out 5).trans rfl
      have hcz11_6 : w3.cell? ⟨gb133, 6, none⟩ = some (.slice A0_6 l0_6.length c0_6) := (blk_cell BK133.out 6).trans rfl
      have hfz11_0 := blk_frozen BK133.out 0
      have hfz11_1 := blk_frozen BK133.out 1
      have hfz11_2 := blk_frozen BK133.out 2
      have hfz11_3 := blk_frozen BK133.out 3
      have hfz11_4 := blk_frozen BK133.out 4
      have hfz11_5 := blk_frozen BK133.out 5
      have hfz11_6 := blk_frozen BK133.out 6
      go_wp2_with (first | ((with_reducible refine gate_callee (f := 125) rfl ?_); refine goesL_ (some 5) rfl rfl Try.func125 (by kernel_rfl) rfl #[.slice A0_6 l0_6.length c0_6] rfl (by (try simp only [List.map_toArray, List.map_cons, List.map_nil]); first | done | rfl | (simp only [List.length_drop, List.length_take]; rfl)) ?_; (with_reducible refine (vendmeterref_DebtFault.calls k _ _ l0_6 t134 _ ?side1 ?side2 A4.out).mono ?_); (case side1 => repeat (first | exact (Kd.C_below HR0_6.out HB.out) | (with_reducible refine Kd.C_alloc ?_ _) | (with_reducible refine Kd.C_drewN ?_ _) | (with_reducible refine Kd.C_drew ?_))); (case side2 => exact HC0_6.out); rintro e w' ⟨rfl, ⟨nd, rfl⟩⟩; refine ⟨_, rfl, ?_⟩))
      go_meet
      case rel => exact ⟨_, (true), (by first | rfl | (simp; done) | (simp [*]; done)), H', ⟨by first | omega | exact Nat.le_refl _⟩, ⟨by (with_reducible repeat (first | refine blk_drewN ?_ _ | refine blk_drew ?_ | refine blk_alloc ?_ _)); exact BK133.out⟩, ⟨by repeat (first | (with_reducible first | exact HB.out | apply below_alloc | apply pw_below_drewN | apply below_drew1 | refine below_set ?_ GE133.out) | exact HB.out)⟩⟩
  case rest =>
    clear HC2
    try clear c1
    try clear p2
    try clear c5
    try clear c5b0
    try clear c5b1
    try clear c7
    try clear hcz10_0
    try clear hcz10_1
    try clear hcz10_2
    try clear hcz10_3
    try clear hcz10_4
    try clear hcz10_5
    try clear hcz10_6
    try clear hcz11_0
    try clear hcz11_1
    try clear hcz11_2
    try clear hcz11_3
    try clear hcz11_4
    try clear hcz11_5
    try clear hcz11_6
    try clear hcz9_0
    try clear hcz9_1
    try clear hcz9_2
    try clear hcz9_3
    try clear hcz9_4
    try clear hcz9_5
    try clear hcz9_6
    try clear hfz10_0
    try clear hfz10_1
    try clear hfz10_2
    try clear hfz10_3
    try clear hfz10_4
    try clear hfz10_5
    try clear hfz10_6
    try clear hfz11_0
    try clear hfz11_1
    try clear hfz11_2
    try clear hfz11_3
    try clear hfz11_4
    try clear hfz11_5
    try clear hfz11_6
    try clear hfz9_0
    try clear hfz9_1
    try clear hfz9_2
    try clear hfz9_3
    try clear hfz9_4
    try clear hfz9_5
    try clear hfz9_6
    obtain ⟨kq, x18_1, rfl, HA, HJ1, BK133, HB⟩ := hcut
    cases kq with
    | zero => exact absurd HA.out (by simp [vendmeterref_AccountMay.j0])
    | succ kj1 =>
      have H := HA.out
      clear HA
      simp only [vendmeterref_AccountMay.j0] at H
      by_cases c12 : x18_1 = true
      · subst c12
        have H1 : (some false) = some r := by rw [if_pos rfl] at H; exact H
        clear H
        have H := H1
        clear H1
        obtain rfl := Option.some.inj H
        go_wp2
        go_ret
        exact ⟨by first | rfl | (simp [errW_none, errW_some] <;> rfl) | (simp [*, errW_none, errW_some] <;> rfl), by repeat (first | (with_reducible first | exact HB.out | apply below_alloc | apply pw_below_drewN | apply below_drew1 | refine below_set ?_ GE133.out) | exact HB.out)⟩
      · replace c12 := Bool.eq_false_iff.mpr c12
        subst c12
        have H1 : ((vendmeterref_In.f a0_2 1 1048576).bind fun t137 => (if t137 = true then ((vendmeterref_In.f a0_3 0 2399).bind fun t138 => (if t138 = true then ((vendmeterref_In.f a0_4 0 10000000).bind fun t139 => (if t139 = true then ((vendmeterref_In.f a0_5 (-1) a0_3).bind fun t140 => (some t140)) else (some false))) else (some false))) else (some false))) = some r := by rw [if_neg (show ¬ (false = true) by decide)] at H; exact H
        clear H
        have H := H1
        clear H1
        replace H := Option.bind_eq_some_iff.mp H
        obtain ⟨t137, A130, H⟩ := H
        replace H : (if t137 = true then ((vendmeterref_In.f a0_3 0 2399).bind fun t138 => (if t138 = true then ((vendmeterref_In.f a0_4 0 10000000).bind fun t139 => (if t139 = true then ((vendmeterref_In.f a0_5 (-1) a0_3).bind fun t140 => (some t140)) else (some false))) else (some false))) else (some false)) = some r := H
        have A13 := Aside0.mk A130
        clear A130
        by_cases c14 : t137 = true
        · subst c14
          have H1 : ((vendmeterref_In.f a0_3 0 2399).bind fun t138 => (if t138 = true then ((vendmeterref_In.f a0_4 0 10000000).bind fun t139 => (if t139 = true then ((vendmeterref_In.f a0_5 (-1) a0_3).bind fun t140 => (some t140)) else (some false))) else (some false))) = some r := by rw [if_pos rfl] at H; exact H
          clear H
          have H := H1
          clear H1
          replace H := Option.bind_eq_some_iff.mp H
          obtain ⟨t138, A150, H⟩ := H
          replace H : (if t138 = true then ((vendmeterref_In.f a0_4 0 10000000).bind fun t139 => (if t139 = true then ((vendmeterref_In.f a0_5 (-1) a0_3).bind fun t140 => (some t140)) else (some false))) else (some false)) = some r := H
          have A15 := Aside0.mk A150
          clear A150
          by_cases c16 : t138 = true
          · subst c16
            have H1 : ((vendmeterref_In.f a0_4 0 10000000).bind fun t139 => (if t139 = true then ((vendmeterref_In.f a0_5 (-1) a0_3).bind fun t140 => (some t140)) else (some false))) = some r := by rw [if_pos rfl] at H; exact H
            clear H
            have H := H1
            clear H1
            replace H := Option.bind_eq_some_iff.mp H
            obtain ⟨t139, A170, H⟩ := H
            replace H : (if t139 = true then ((vendmeterref_In.f a0_5 (-1) a0_3).bind fun t140 => (some t140)) else (some false)) = some r := H
            have A17 := Aside0.mk A170
            clear A170
            by_cases c18 : t139 = true
            · subst c18
              have H1 : ((vendmeterref_In.f a0_5 (-1) a0_3).bind fun t140 => (some t140)) = some r := by rw [if_pos rfl] at H; exact H
              clear H
              have H := H1
              clear H1
              replace H := Option.bind_eq_some_iff.mp H
              obtain ⟨t140, A190, H⟩ := H
              replace H : (some t140) = some r := H
              have A19 := Aside0.mk A190
              clear A190
              obtain rfl := Option.some.inj H
              have hcz20_0 : wc.cell? ⟨gb133, 0, none⟩ = some (.int .i64 a0_0) := (blk_cell BK133.out 0).trans rfl
              have hcz20_1 : wc.cell? ⟨gb133, 1, none⟩ = some (.int .i64 a0_1) := (blk_cell BK133.out 1).trans rfl
              have hcz20_2 : wc.cell? ⟨gb133, 2, none⟩ = some (.int .i64 a0_2) := (blk_cell BK133.out 2).trans rfl
              have hcz20_3 : wc.cell? ⟨gb133, 3, none⟩ = some (.int .i64 a0_3) := (blk_cell BK133.out 3).trans rfl
              have hcz20_4 : wc.cell? ⟨gb133, 4, none⟩ = some (.int .i64 a0_4) := (blk_cell BK133.out 4).trans rfl
              have hcz20_5 : wc.cell? ⟨gb133, 5, none⟩ = some (.int .i64 a0_5) := (blk_cell BK133.out 5).trans rfl
              have hcz20_6 : wc.cell? ⟨gb133, 6, none⟩ = some (.slice A0_6 l0_6.length c0_6) := (blk_cell BK133.out 6).trans rfl
              have hfz20_0 := blk_frozen BK133.out 0
              have hfz20_1 := blk_frozen BK133.out 1
              have hfz20_2 := blk_frozen BK133.out 2
              have hfz20_3 := blk_frozen BK133.out 3
              have hfz20_4 := blk_frozen BK133.out 4
              have hfz20_5 := blk_frozen BK133.out 5
              have hfz20_6 := blk_frozen BK133.out 6
              go_wp2_with (first | ((with_reducible refine gate_callee (f := 54) rfl ?_); refine goesL_ (some 21) rfl rfl Try.func54 (by kernel_rfl) rfl #[.int .i64 a0_2, .int .i64 1, .int .i64 1048576] rfl (by (try simp only [List.map_toArray, List.map_cons, List.map_nil]); first | done | rfl | (simp only [List.length_drop, List.length_take]; rfl)) ?_; (with_reducible refine (vendmeterref_In.calls a0_2 1 1048576 true _ A13.out).mono ?_); rintro e w' ⟨rfl, ⟨nd, rfl⟩⟩; refine ⟨_, rfl, ?_⟩) | (go_at_call 54; (with_reducible refine (vendmeterref_In.calls a0_3 0 2399 true _ A15.out).mono ?_); rintro e w' ⟨rfl, ⟨nd, rfl⟩⟩) | (go_at_call 54; (with_reducible refine (vendmeterref_In.calls a0_4 0 10000000 true _ A17.out).mono ?_); rintro e w' ⟨rfl, ⟨nd, rfl⟩⟩) | ((with_reducible refine gate_callee (f := 54) rfl ?_); refine goesL_ (some 39) rfl rfl Try.func54 (by kernel_rfl) rfl #[.int .i64 a0_5, .int .i64 (-1), .int .i64 a0_3] rfl (by (try simp only [List.map_toArray, List.map_cons, List.map_nil]); first | done | rfl | (simp only [List.length_drop, List.length_take]; rfl)) ?_; (with_reducible refine (vendmeterref_In.calls a0_5 (-1) a0_3 t140 _ A19.out).mono ?_); rintro e w' ⟨rfl, ⟨nd, rfl⟩⟩; refine ⟨_, rfl, ?_⟩))
              go_ret
              exact ⟨by first | rfl | (simp [errW_none, errW_some] <;> rfl) | (simp [*, errW_none, errW_some] <;> rfl), by repeat (first | (with_reducible first | exact HB.out | apply below_alloc | apply pw_below_drewN | apply below_drew1 | refine below_set ?_ GE133.out) | exact HB.out)⟩
            · replace c18 := Bool.eq_false_iff.mpr c18
              subst c18
              have H1 : (some false) = some r := by rw [if_neg (show ¬ (false = true) by decide)] at H; exact H
              clear H
              have H := H1
              clear H1
              obtain rfl := Option.some.inj H
              have hcz21_0 : wc.cell? ⟨gb133, 0, none⟩ = some (.int .i64 a0_0) := (blk_cell BK133.out 0).trans rfl
              have hcz21_1 : wc.cell? ⟨gb133, 1, none⟩ = some (.int .i64 a0_1) := (blk_cell BK133.out 1).trans rfl
              have hcz21_2 : wc.cell? ⟨gb133, 2, none⟩ = some (.int .i64 a0_2) := (blk_cell BK133.out 2).trans rfl
              have hcz21_3 : wc.cell? ⟨gb133, 3, none⟩ = some (.int .i64 a0_3) := (blk_cell BK133.out 3).trans rfl
              have hcz21_4 : wc.cell? ⟨gb133, 4, none⟩ = some (.int .i64 a0_4) := (blk_cell BK133.out 4).trans rfl
              have hcz21_5 : wc.cell? ⟨gb133, 5, none⟩ = some (.int .i64 a0_5) := (blk_cell BK133.out 5).trans rfl
              have hcz21_6 : wc.cell? ⟨gb133, 6, none⟩ = some (.slice A0_6 l0_6.length c0_6) := (blk_cell BK133.out 6).trans rfl
              have hfz21_0 := blk_frozen BK133.out 0
              have hfz21_1 := blk_frozen BK133.out 1
              have hfz21_2 := blk_frozen BK133.out 2
              have hfz21_3 := blk_frozen BK133.out 3
              have hfz21_4 := blk_frozen BK133.out 4
              have hfz21_5 := blk_frozen BK133.out 5
              have hfz21_6 := blk_frozen BK133.out 6
              go_wp2_with (first | ((with_reducible refine gate_callee (f := 54) rfl ?_); refine goesL_ (some 21) rfl rfl Try.func54 (by kernel_rfl) rfl #[.int .i64 a0_2, .int .i64 1, .int .i64 1048576] rfl (by (try simp only [List.map_toArray, List.map_cons, List.map_nil]); first | done | rfl | (simp only [List.length_drop, List.length_take]; rfl)) ?_; (with_reducible refine (vendmeterref_In.calls a0_2 1 1048576 true _ A13.out).mono ?_); rintro e w' ⟨rfl, ⟨nd, rfl⟩⟩; refine ⟨_, rfl, ?_⟩) | (go_at_call 54; (with_reducible refine (vendmeterref_In.calls a0_3 0 2399 true _ A15.out).mono ?_); rintro e w' ⟨rfl, ⟨nd, rfl⟩⟩) | (go_at_call 54; (with_reducible refine (vendmeterref_In.calls a0_4 0 10000000 false _ A17.out).mono ?_); rintro e w' ⟨rfl, ⟨nd, rfl⟩⟩))
              go_ret
              exact ⟨by first | rfl | (simp [errW_none, errW_some] <;> rfl) | (simp [*, errW_none, errW_some] <;> rfl), by repeat (first | (with_reducible first | exact HB.out | apply below_alloc | apply pw_below_drewN | apply below_drew1 | refine below_set ?_ GE133.out) | exact HB.out)⟩
          · replace c16 := Bool.eq_false_iff.mpr c16
            subst c16
            have H1 : (some false) = some r := by rw [if_neg (show ¬ (false = true) by decide)] at H; exact H
            clear H
            have H := H1
            clear H1
            obtain rfl := Option.some.inj H
            have hcz22_0 : wc.cell? ⟨gb133, 0, none⟩ = some (.int .i64 a0_0) := (blk_cell BK133.out 0).trans rfl
            have hcz22_1 : wc.cell? ⟨gb133, 1, none⟩ = some (.int .i64 a0_1) := (blk_cell BK133.out 1).trans rfl
            have hcz22_2 : wc.cell? ⟨gb133, 2, none⟩ = some (.int .i64 a0_2) := (blk_cell BK133.out 2).trans rfl
            have hcz22_3 : wc.cell? ⟨gb133, 3, none⟩ = some (.int .i64 a0_3) := (blk_cell BK133.out 3).trans rfl
            have hcz22_4 : wc.cell? ⟨gb133, 4, none⟩ = some (.int .i64 a0_4) := (blk_cell BK133.out 4).trans rfl
            have hcz22_5 : wc.cell? ⟨gb133, 5, none⟩ = some (.int .i64 a0_5) := (blk_cell BK133.out 5).trans rfl
            have hcz22_6 : wc.cell? ⟨gb133, 6, none⟩ = some (.slice A0_6 l0_6.length c0_6) := (blk_cell BK133.out 6).trans rfl
            have hfz22_0 := blk_frozen BK133.out 0
            have hfz22_1 := blk_frozen BK133.out 1
            have hfz22_2 := blk_frozen BK133.out 2
            have hfz22_3 := blk_frozen BK133.out 3
            have hfz22_4 := blk_frozen BK133.out 4
            have hfz22_5 := blk_frozen BK133.out 5
            have hfz22_6 := blk_frozen BK133.out 6
            go_wp2_with (first | ((with_reducible refine gate_callee (f := 54) rfl ?_); refine goesL_ (some 21) rfl rfl Try.func54 (by kernel_rfl) rfl #[.int .i64 a0_2, .int .i64 1, .int .i64 1048576] rfl (by (try simp only [List.map_toArray, List.map_cons, List.map_nil]); first | done | rfl | (simp only [List.length_drop, List.length_take]; rfl)) ?_; (with_reducible refine (vendmeterref_In.calls a0_2 1 1048576 true _ A13.out).mono ?_); rintro e w' ⟨rfl, ⟨nd, rfl⟩⟩; refine ⟨_, rfl, ?_⟩) | (go_at_call 54; (with_reducible refine (vendmeterref_In.calls a0_3 0 2399 false _ A15.out).mono ?_); rintro e w' ⟨rfl, ⟨nd, rfl⟩⟩))
            go_ret
            exact ⟨by first | rfl | (simp [errW_none, errW_some] <;> rfl) | (simp [*, errW_none, errW_some] <;> rfl), by repeat (first | (with_reducible first | exact HB.out | apply below_alloc | apply pw_below_drewN | apply below_drew1 | refine below_set ?_ GE133.out) | exact HB.out)⟩
        · replace c14 := Bool.eq_false_iff.mpr c14
          subst c14
          have H1 : (some false) = some r := by rw [if_neg (show ¬ (false = true) by decide)] at H; exact H
          clear H
          have H := H1
          clear H1
          obtain rfl := Option.some.inj H
          have hcz23_0 : wc.cell? ⟨gb133, 0, none⟩ = some (.int .i64 a0_0) := (blk_cell BK133.out 0).trans rfl
          have hcz23_1 : wc.cell? ⟨gb133, 1, none⟩ = some (.int .i64 a0_1) := (blk_cell BK133.out 1).trans rfl
          have hcz23_2 : wc.cell? ⟨gb133, 2, none⟩ = some (.int .i64 a0_2) := (blk_cell BK133.out 2).trans rfl
          have hcz23_3 : wc.cell? ⟨gb133, 3, none⟩ = some (.int .i64 a0_3) := (blk_cell BK133.out 3).trans rfl
          have hcz23_4 : wc.cell? ⟨gb133, 4, none⟩ = some (.int .i64 a0_4) := (blk_cell BK133.out 4).trans rfl
          have hcz23_5 : wc.cell? ⟨gb133, 5, none⟩ = some (.int .i64 a0_5) := (blk_cell BK133.out 5).trans rfl
          have hcz23_6 : wc.cell? ⟨gb133, 6, none⟩ = some (.slice A0_6 l0_6.length c0_6) := (blk_cell BK133.out 6).trans rfl
          have hfz23_0 := blk_frozen BK133.out 0
          have hfz23_1 := blk_frozen BK133.out 1
          have hfz23_2 := blk_frozen BK133.out 2
          have hfz23_3 := blk_frozen BK133.out 3
          have hfz23_4 := blk_frozen BK133.out 4
          have hfz23_5 := blk_frozen BK133.out 5
          have hfz23_6 := blk_frozen BK133.out 6
          go_wp2_with (first | ((with_reducible refine gate_callee (f := 54) rfl ?_); refine goesL_ (some 21) rfl rfl Try.func54 (by kernel_rfl) rfl #[.int .i64 a0_2, .int .i64 1, .int .i64 1048576] rfl (by (try simp only [List.map_toArray, List.map_cons, List.map_nil]); first | done | rfl | (simp only [List.length_drop, List.length_take]; rfl)) ?_; (with_reducible refine (vendmeterref_In.calls a0_2 1 1048576 false _ A13.out).mono ?_); rintro e w' ⟨rfl, ⟨nd, rfl⟩⟩; refine ⟨_, rfl, ?_⟩))
          go_ret
          exact ⟨by first | rfl | (simp [errW_none, errW_some] <;> rfl) | (simp [*, errW_none, errW_some] <;> rfl), by repeat (first | (with_reducible first | exact HB.out | apply below_alloc | apply pw_below_drewN | apply below_drew1 | refine below_set ?_ GE133.out) | exact HB.out)⟩

/-! ### vendmeterref_AccountCopy: function 79 -/
def vendmeterref_AccountCopy.l0 : Nat → List (S76) → Int → Int → Int → Int → Int → Int → Int → List (S76) → Option (Int × Int × Int × Int × Int × Int × (List (S76)))
  | 0, _, _, _, _, _, _, _, _, _ => none
  | k + 1, x3, x4, x142000, x142001, x142002, x142003, x142004, x142005, x142006 => if x4 < (x142006.length : Int) then (if 0 ≤ x4 then (if x3.length < 8796093022208 then (vendmeterref_AccountCopy.l0 k (x3 ++ [(⟨(rd_T76 x142006 x4).f0, (rd_T76 x142006 x4).f1⟩ : S76)]) (wrap64 (x4 + 1)) x142000 x142001 x142002 x142003 x142004 x142005 x142006) else (none)) else (none)) else (some (x142000, x142001, x142002, x142003, x142004, x142005, x3))
def vendmeterref_AccountCopy.f (k : Nat) (a0_0 : Int) (a0_1 : Int) (a0_2 : Int) (a0_3 : Int) (a0_4 : Int) (a0_5 : Int) (l0_6 : List (S76)) : Option (Int × Int × Int × Int × Int × Int × (List (S76))) := vendmeterref_AccountCopy.l0 k ([] : List (S76)) 0 a0_0 a0_1 a0_2 a0_3 a0_4 a0_5 l0_6
theorem vendmeterref_AccountCopy.mono_l : ∀ k, (∀ y0 y1 y2 y3 y4 y5 y6 y7 y8, LeO (vendmeterref_AccountCopy.l0 k y0 y1 y2 y3 y4 y5 y6 y7 y8) (vendmeterref_AccountCopy.l0 (k + 1) y0 y1 y2 y3 y4 y5 y6 y7 y8))
  | 0 => fun _ _ _ _ _ _ _ _ _ r h => by simp [vendmeterref_AccountCopy.l0] at h
  | k + 1 => by
    have ih0 := vendmeterref_AccountCopy.mono_l k
    · intro y0 y1 y2 y3 y4 y5 y6 y7 y8
      unfold vendmeterref_AccountCopy.l0
      repeat' first
      | (with_reducible exact ih0 _ _ _ _ _ _ _ _ _)
      | (with_reducible exact LeO.refl _)
      | (with_reducible exact LeO.none _)
      | (with_reducible refine LeO.ite ?_ ?_)
      | (with_reducible refine LeO.bind ?_ (fun _ => ?_))
      | exact ih0 _ _ _ _ _ _ _ _ _
      | exact LeO.none _
      | refine LeO.ite ?_ ?_
      | refine LeO.bind ?_ (fun _ => ?_)
theorem vendmeterref_AccountCopy.mono : ∀ a0 a1 a2 a3 a4 a5 a6 k, LeO (vendmeterref_AccountCopy.f k a0 a1 a2 a3 a4 a5 a6) (vendmeterref_AccountCopy.f (k + 1) a0 a1 a2 a3 a4 a5 a6) := by
  intro a0 a1 a2 a3 a4 a5 a6 k
  have ih0 := vendmeterref_AccountCopy.mono_l k
  unfold vendmeterref_AccountCopy.f
  repeat' first
      | (with_reducible exact ih0 _ _ _ _ _ _ _ _ _)
      | (with_reducible exact LeO.refl _)
      | (with_reducible exact LeO.none _)
      | (with_reducible refine LeO.ite ?_ ?_)
      | (with_reducible refine LeO.bind ?_ (fun _ => ?_))
      | exact ih0 _ _ _ _ _ _ _ _ _
      | exact LeO.none _
      | refine LeO.ite ?_ ?_
      | refine LeO.bind ?_ (fun _ => ?_)
set_option maxHeartbeats 8000000 in
set_option maxRecDepth 100000 in
theorem vendmeterref_AccountCopy.calls (k : Nat) (a0_0 : Int) (a0_1 : Int) (a0_2 : Int) (a0_3 : Int) (a0_4 : Int) (a0_5 : Int) (A0_6 : Option Addr) (c0_6 : Nat) (l0_6 : List (S76)) (r1 : Int) (r2 : Int) (r3 : Int) (r4 : Int) (r5 : Int) (r6 : Int) (r7 : List (S76)) (w : World) (hr0_6 : Kd.C k76 w A0_6 l0_6.length l0_6) (hc0_6 : l0_6.length ≤ c0_6) (h : vendmeterref_AccountCopy.f k a0_0 a0_1 a0_2 a0_3 a0_4 a0_5 l0_6 = some (r1, r2, r3, r4, r5, r6, r7)) :
    Calls Try.prog 79 #[.agg #[.int .i64 a0_0, .int .i64 a0_1, .int .i64 a0_2, .int .i64 a0_3, .int .i64 a0_4, .int .i64 a0_5, .slice A0_6 l0_6.length c0_6]] w fun e w' => ∃ v6_ : Value, e = .returned (.agg #[.int .i64 r1, .int .i64 r2, .int .i64 r3, .int .i64 r4, .int .i64 r5, .int .i64 r6, v6_]) ∧ Kd.R k76 76 w' w.heap.size (fun _ => True) v6_ r7 ∧ Below w.heap.size w w' := by
  have hu60 := Try.underlying60
  have hu76 := Try.underlying76
  have HR0_6 := Aside0.mk hr0_6
  have HC0_6 := Aside0.mk hc0_6
  clear hr0_6 hc0_6
  have HB := Aside0.mk (Below.refl w.heap.size w)
  have H : (vendmeterref_AccountCopy.l0 k ([] : List (S76)) 0 a0_0 a0_1 a0_2 a0_3 a0_4 a0_5 l0_6) = some (r1, r2, r3, r4, r5, r6, r7) := h
  clear h
  have H' := Aside0.mk H
  clear H
  go_enter Try.func79, Try.ntmps79
  go_wp2_with (first | ((with_reducible refine gate_dst (N := 1) rfl ?_); refine box_event ?hg (N := 1) ?hd (cs := #[.int .i64 a0_0, .int .i64 a0_1, .int .i64 a0_2, .int .i64 a0_3, .int .i64 a0_4, .int .i64 a0_5, .slice A0_6 l0_6.length c0_6]) (t := 60) ?hr ?_; (case hd => rfl); (case hg => rfl); (case hr => first | (go_simp; done) | (go_simp; rfl)); intro gb141 hg w2 hbox hb; have n0_ := Aside0.mk (below_step (by repeat (first | (with_reducible first | exact HB.out | apply below_alloc | apply pw_below_drewN | apply below_drew1) | exact HB.out)) hb); have n1_ := Aside0.mk (hbox); have n2_ := Aside0.mk ((by rw [hg]; exact (below_size (by repeat (first | (with_reducible first | exact HB.out | apply below_alloc | apply pw_below_drewN | apply below_drew1) | exact HB.out))) : w.heap.size ≤ gb141)); have n3_ := Aside0.mk ((by rw [hg]; exact (below_size (by repeat (first | (with_reducible first | exact HB.out | apply below_alloc | apply pw_below_drewN | apply below_drew1) | exact HB.out))) : w.heap.size ≤ gb141)); clear HB; have HB := n0_; have BK141 := n1_; have GW141 := n2_; have GE141 := n3_; clear n0_ n1_ n2_ n3_; clear hb hbox hg) | ((with_reducible refine gate_dst (N := 2) rfl ?_); refine box_event ?hg (N := 2) ?hd (cs := #[.int .i64 0, .int .i64 0, .int .i64 0, .int .i64 0, .int .i64 0, .int .i64 0, .slice none 0 0]) (t := 60) ?hr ?_; (case hd => rfl); (case hg => rfl); (case hr => first | (go_simp; done) | (go_simp; rfl)); intro gb142 hg w3 hbox hb; have n0_ := Aside0.mk (blk_below (g := gb141) (o := .cells #[.int .i64 a0_0, .int .i64 a0_1, .int .i64 a0_2, .int .i64 a0_3, .int .i64 a0_4, .int .i64 a0_5, .slice A0_6 l0_6.length c0_6] 60 (0, 0)) (by (with_reducible repeat (first | refine blk_drewN ?_ _ | refine blk_drew ?_ | refine blk_alloc ?_ _)); exact BK141.out) hb); have n1_ := Aside0.mk (below_step (by repeat (first | (with_reducible first | exact HB.out | apply below_alloc | apply pw_below_drewN | apply below_drew1 | refine below_set ?_ GE141.out) | exact HB.out)) hb); have n2_ := Aside0.mk (hbox); have n3_ := Aside0.mk ((by rw [hg]; exact (below_size (by repeat (first | (with_reducible first | exact HB.out | apply below_alloc | apply pw_below_drewN | apply below_drew1 | refine below_set ?_ GE141.out) | exact HB.out))) : w.heap.size ≤ gb142)); have n4_ := Aside0.mk ((by rw [hg]; exact (below_size (by repeat (first | (with_reducible first | exact HB.out | apply below_alloc | apply pw_below_drewN | apply below_drew1 | refine below_set ?_ GE141.out) | exact HB.out))) : w.heap.size ≤ gb142)); have n5_ := Aside0.mk ((by rw [hg]; exact Nat.ne_of_lt (blk_lt (g := gb141) (o := .cells #[.int .i64 a0_0, .int .i64 a0_1, .int .i64 a0_2, .int .i64 a0_3, .int .i64 a0_4, .int .i64 a0_5, .slice A0_6 l0_6.length c0_6] 60 (0, 0)) (by (with_reducible repeat (first | refine blk_drewN ?_ _ | refine blk_drew ?_ | refine blk_alloc ?_ _)); exact BK141.out)) : gb141 ≠ gb142)); have n6_ := Aside0.mk ((by rw [hg]; exact Nat.ne_of_gt (blk_lt (g := gb141) (o := .cells #[.int .i64 a0_0, .int .i64 a0_1, .int .i64 a0_2, .int .i64 a0_3, .int .i64 a0_4, .int .i64 a0_5, .slice A0_6 l0_6.length c0_6] 60 (0, 0)) (by (with_reducible repeat (first | refine blk_drewN ?_ _ | refine blk_drew ?_ | refine blk_alloc ?_ _)); exact BK141.out)) : gb142 ≠ gb141)); clear BK141; clear HB; have BK141 := n0_; have HB := n1_; have BK142 := n2_; have GW142 := n3_; have GE142 := n4_; have NB141_142 := n5_; have NB142_141 := n6_; clear n0_ n1_ n2_ n3_ n4_ n5_ n6_; clear hb hbox hg))
  go_loopg [3, 4] k (fun kq v3 v4 w' => ∃ (x3_1 : List (S76)) (x4_1 : Int), v4 = .int .i64 x4_1 ∧ Aside0 (vendmeterref_AccountCopy.l0 kq x3_1 x4_1 a0_0 a0_1 a0_2 a0_3 a0_4 a0_5 l0_6 = some (r1, r2, r3, r4, r5, r6, r7)) ∧ Aside0 (kq ≤ k) ∧ Aside0 (Kd.R k76 76 w' w.heap.size (fun _ => True) v3 x3_1) ∧ Aside0 (w'.heap[gb141]? = some (.cells #[.int .i64 a0_0, .int .i64 a0_1, .int .i64 a0_2, .int .i64 a0_3, .int .i64 a0_4, .int .i64 a0_5, (.slice A0_6 l0_6.length c0_6)] 60 (0, 0))) ∧ Aside0 (w'.heap[gb142]? = some (.cells #[.int .i64 0, .int .i64 0, .int .i64 0, .int .i64 0, .int .i64 0, .int .i64 0, (.slice none 0 0)] 60 (0, 0))) ∧ Aside0 (Below w.heap.size w w'))
  case atStart => exact ⟨(([] : List (S76))), (0), (by first | rfl | (simp; done) | (simp [*]; done)), H', ⟨Nat.le_refl _⟩, ⟨by first | exact Kd.R_nil _ _ _ _ _ | exact Kd.N_nil _ _ _ _ _ | exact Kd.V_nil _ _ _ _ _ | exact Kd.Q_nil _ _ _ _ _ | exact Kd.S_nil _ _ _ _ _⟩, ⟨by (with_reducible repeat (first | refine blk_drewN ?_ _ | refine blk_drew ?_ | refine blk_alloc ?_ _)); exact BK141.out⟩, ⟨by (with_reducible repeat (first | refine blk_drewN ?_ _ | refine blk_drew ?_ | refine blk_alloc ?_ _)); exact BK142.out⟩, ⟨by repeat (first | (with_reducible first | exact HB.out | apply below_alloc | apply pw_below_drewN | apply below_drew1 | refine below_set ?_ GE141.out | refine below_set ?_ GE142.out) | exact HB.out)⟩⟩
  case round =>
    clear H'
    try clear p2
    obtain ⟨x3_1, x4_1, rfl, HA, HK1, HO_3, BK141, BK142, HB⟩ := hrel
    cases gk with
    | zero => exact absurd HA.out (by simp [vendmeterref_AccountCopy.l0])
    | succ k1 =>
      have H := HA.out
      clear HA
      simp only [vendmeterref_AccountCopy.l0] at H
      by_cases c4 : x4_1 < (l0_6.length : Int)
      · rw [if_pos c4] at H
        have c4b0 : decide (x4_1 < (l0_6.length : Int)) = true := decide_eq_true c4
        clear c4
        by_cases c5 : 0 ≤ x4_1
        · rw [if_pos c5] at H
          have c5b0 : decide (0 ≤ x4_1) = true := decide_eq_true c5
          clear c5
          by_cases c6 : x3_1.length < 8796093022208
          · rw [if_pos c6] at H
            have LMc6 := Aside0.mk c6
            clear c6
            obtain ⟨y144, hy144⟩ : ∃ y_ : List (S76), y_ = (x3_1 ++ [(⟨(rd_T76 l0_6 x4_1).f0, (rd_T76 l0_6 x4_1).f1⟩ : S76)]) := ⟨_, rfl⟩
            replace H : (vendmeterref_AccountCopy.l0 k1 y144 (wrap64 (x4_1 + 1)) a0_0 a0_1 a0_2 a0_3 a0_4 a0_5 l0_6) = some (r1, r2, r3, r4, r5, r6, r7) := by first | (rw [hy144]; with_reducible exact H) | (have H2_ := (Option.bind_some _ _).symm.trans H; rw [hy144]; with_reducible exact H2_) | (have H2_ := (Option.bind_some _ _).symm.trans H; with_reducible exact H2_) | with_reducible exact H | (rw [hy144]; exact H) | exact H
            have Ny144 := Aside0.mk hy144
            clear hy144
            have H' := Aside0.mk H
            clear H
            have hnb7 := NB141_142.out
            have hnc7 := NB142_141.out
            have hcz8_0 : wr.cell? ⟨gb141, 0, none⟩ = some (.int .i64 a0_0) := (blk_cell BK141.out 0).trans rfl
            have hcz8_1 : wr.cell? ⟨gb141, 1, none⟩ = some (.int .i64 a0_1) := (blk_cell BK141.out 1).trans rfl
            have hcz8_2 : wr.cell? ⟨gb141, 2, none⟩ = some (.int .i64 a0_2) := (blk_cell BK141.out 2).trans rfl
            have hcz8_3 : wr.cell? ⟨gb141, 3, none⟩ = some (.int .i64 a0_3) := (blk_cell BK141.out 3).trans rfl
            have hcz8_4 : wr.cell? ⟨gb141, 4, none⟩ = some (.int .i64 a0_4) := (blk_cell BK141.out 4).trans rfl
            have hcz8_5 : wr.cell? ⟨gb141, 5, none⟩ = some (.int .i64 a0_5) := (blk_cell BK141.out 5).trans rfl
            have hcz8_6 : wr.cell? ⟨gb141, 6, none⟩ = some (.slice A0_6 l0_6.length c0_6) := (blk_cell BK141.out 6).trans rfl
            have hfz8_0 := blk_frozen BK141.out 0
            have hfz8_1 := blk_frozen BK141.out 1
            have hfz8_2 := blk_frozen BK141.out 2
            have hfz8_3 := blk_frozen BK141.out 3
            have hfz8_4 := blk_frozen BK141.out 4
            have hfz8_5 := blk_frozen BK141.out 5
            have hfz8_6 := blk_frozen BK141.out 6
            have p143 : 0 ≤ (x4_1 : Int) := of_decide_eq_true (by first | (with_reducible assumption) | assumption)
            have q143 : x4_1 < (l0_6.length : Int) := of_decide_eq_true (by first | (with_reducible assumption) | assumption)
            obtain ⟨ad143, e143, hx143_0, hx143_1⟩ := at_T76 HR0_6.out x4_1 p143 q143
            cases e143
            replace hx143_0 := (HB.out.cell (World.block_lt_of_cell? w _ hx143_0)).trans hx143_0
            replace hx143_1 := (HB.out.cell (World.block_lt_of_cell? w _ hx143_1)).trans hx143_1
            replace p143 := eq_true p143
            replace q143 := eq_true q143
            go_wp2_with (first | ((with_reducible refine gate_builtin (b := .append) (xs := #[.tmp 12, .tmp 18]) rfl ?_); at_builtin; refine Kd.R_append k76 (w0 := w) w.heap.size rfl (.tmp 12) (.tmp 18) 58 76 (.agg #[(.int .i64 0), (.int .i64 0)]) 16 rfl Try.underlying58 info76 rfl (by decide) (by omega) u3 x3_1 (⟨(rd_T76 l0_6 x4_1).f0, (rd_T76 l0_6 x4_1).f1⟩ : S76) [.int .i64 ((rd_T76 l0_6 x4_1).f0), .int .i64 ((rd_T76 l0_6 x4_1).f1)] (fun _ => True) (fun _ => False) rfl rfl ?aP (fun _ hk => hk.elim) ?aF ?aO ?aB ?aS ?aL ?_; (case aP => exact k76_mkM _ _ _ (⟨(rd_T76 l0_6 x4_1).f0, (rd_T76 l0_6 x4_1).f1⟩ : S76)); (case aB => exact (by repeat (first | (with_reducible first | exact HB.out | apply below_alloc | apply pw_below_drewN | apply below_drew1 | refine below_set ?_ GE141.out | refine below_set ?_ GE142.out) | exact HB.out))); (case aF => exact (fun _ _ => trivial)); (case aO => exact (by (with_reducible repeat (first | apply Kd.R_alloc | apply Kd.R_drewN | apply Kd.R_drew)); exact HO_3.out)); (case aS => exact (below_size (by repeat (first | (with_reducible first | exact HB.out | apply below_alloc | apply pw_below_drewN | apply below_drew1 | refine below_set ?_ GE141.out | refine below_set ?_ GE142.out) | exact HB.out)))); (case aL => have := LMc6.out; omega); intro v145 w9 ho hb hg hat; rw [← Ny144.out] at ho; have n0_ := Aside0.mk (blk_grown (g := gb141) (o := .cells #[.int .i64 a0_0, .int .i64 a0_1, .int .i64 a0_2, .int .i64 a0_3, .int .i64 a0_4, .int .i64 a0_5, .slice (some ad143) l0_6.length c0_6] 60 (0, 0)) (by (with_reducible repeat (first | refine blk_drewN ?_ _ | refine blk_drew ?_ | refine blk_alloc ?_ _)); exact BK141.out) hg (Kd.R_ne HO_3.out BK141.out (by decide))); have n1_ := Aside0.mk (blk_grown (g := gb142) (o := .cells #[.int .i64 0, .int .i64 0, .int .i64 0, .int .i64 0, .int .i64 0, .int .i64 0, .slice none 0 0] 60 (0, 0)) (by (with_reducible repeat (first | refine blk_drewN ?_ _ | refine blk_drew ?_ | refine blk_alloc ?_ _)); exact BK142.out) hg (Kd.R_ne HO_3.out BK142.out (by decide))); have n2_ := Aside0.mk (hb); have n3_ := Aside0.mk (ho); clear BK141; clear BK142; clear HB; clear HO_3; have BK141 := n0_; have BK142 := n1_; have HB := n2_; have HO146 := n3_; clear n0_ n1_ n2_ n3_; clear ho hb hg hat))
            go_roundg k1
            case measure => have := HK1.out; omega
            case rel => exact ⟨(y144), (wrap64 (x4_1 + 1)), (by first | rfl | (simp; done) | (simp [*]; done)), H', ⟨by have := HK1.out; omega⟩, ⟨by (with_reducible repeat (first | apply Kd.R_alloc | apply Kd.R_drewN | apply Kd.R_drew)); exact HO146.out⟩, ⟨by (with_reducible repeat (first | refine blk_drewN ?_ _ | refine blk_drew ?_ | refine blk_alloc ?_ _)); exact BK141.out⟩, ⟨by (with_reducible repeat (first | refine blk_drewN ?_ _ | refine blk_drew ?_ | refine blk_alloc ?_ _)); exact BK142.out⟩, ⟨by repeat (first | (with_reducible first | exact HB.out | apply below_alloc | apply pw_below_drewN | apply below_drew1 | refine below_set ?_ GE141.out | refine below_set ?_ GE142.out) | exact HB.out)⟩⟩
          · rw [if_neg c6] at H
            exact absurd H (by simp)
        · rw [if_neg c5] at H
          exact absurd H (by simp)
      · rw [if_neg c4] at H
        have c4b0 : decide (x4_1 < (l0_6.length : Int)) = false := decide_eq_false c4
        clear c4
        simp only [Option.some.injEq, Prod.mk.injEq] at H
        obtain ⟨rfl, rfl, rfl, rfl, rfl, rfl, rfl⟩ := H
        have hnb10 := NB141_142.out
        have hnc10 := NB142_141.out
        have hcz11_0 : wr.cell? ⟨gb141, 0, none⟩ = some (.int .i64 a0_0) := (blk_cell BK141.out 0).trans rfl
        have hcz11_1 : wr.cell? ⟨gb141, 1, none⟩ = some (.int .i64 a0_1) := (blk_cell BK141.out 1).trans rfl
        have hcz11_2 : wr.cell? ⟨gb141, 2, none⟩ = some (.int .i64 a0_2) := (blk_cell BK141.out 2).trans rfl
        have hcz11_3 : wr.cell? ⟨gb141, 3, none⟩ = some (.int .i64 a0_3) := (blk_cell BK141.out 3).trans rfl
        have hcz11_4 : wr.cell? ⟨gb141, 4, none⟩ = some (.int .i64 a0_4) := (blk_cell BK141.out 4).trans rfl
        have hcz11_5 : wr.cell? ⟨gb141, 5, none⟩ = some (.int .i64 a0_5) := (blk_cell BK141.out 5).trans rfl
        have hcz11_6 : wr.cell? ⟨gb141, 6, none⟩ = some (.slice A0_6 l0_6.length c0_6) := (blk_cell BK141.out 6).trans rfl
        have hfz11_0 := blk_frozen BK141.out 0
        have hfz11_1 := blk_frozen BK141.out 1
        have hfz11_2 := blk_frozen BK141.out 2
        have hfz11_3 := blk_frozen BK141.out 3
        have hfz11_4 := blk_frozen BK141.out 4
        have hfz11_5 := blk_frozen BK141.out 5
        have hfz11_6 := blk_frozen BK141.out 6
        obtain ⟨Ao12, co12, eo12⟩ := Kd.R_slice HO_3.out
        subst eo12
        have hcz13_0 : wr.cell? ⟨gb142, 0, none⟩ = some (.int .i64 0) := (blk_cell BK142.out 0).trans rfl
        have hcz13_1 : wr.cell? ⟨gb142, 1, none⟩ = some (.int .i64 0) := (blk_cell BK142.out 1).trans rfl
        have hcz13_2 : wr.cell? ⟨gb142, 2, none⟩ = some (.int .i64 0) := (blk_cell BK142.out 2).trans rfl
        have hcz13_3 : wr.cell? ⟨gb142, 3, none⟩ = some (.int .i64 0) := (blk_cell BK142.out 3).trans rfl
        have hcz13_4 : wr.cell? ⟨gb142, 4, none⟩ = some (.int .i64 0) := (blk_cell BK142.out 4).trans rfl
        have hcz13_5 : wr.cell? ⟨gb142, 5, none⟩ = some (.int .i64 0) := (blk_cell BK142.out 5).trans rfl
        have hcz13_6 : wr.cell? ⟨gb142, 6, none⟩ = some (.slice none 0 0) := (blk_cell BK142.out 6).trans rfl
        have hfz13_0 := blk_frozen BK142.out 0
        have hfz13_1 := blk_frozen BK142.out 1
        have hfz13_2 := blk_frozen BK142.out 2
        have hfz13_3 := blk_frozen BK142.out 3
        have hfz13_4 := blk_frozen BK142.out 4
        have hfz13_5 := blk_frozen BK142.out 5
        have hfz13_6 := blk_frozen BK142.out 6
        go_wp2
        refine bodyPost_ret (results_cell_row rfl _ _ gb142 60 #[.int .i64 a0_0, .int .i64 a0_1, .int .i64 a0_2, .int .i64 a0_3, .int .i64 a0_4, .int .i64 a0_5, .slice Ao12 x3_1.length co12] (0, 0) _ rfl (by (with_reducible repeat (first | refine blk_drewN ?_ _ | refine blk_drew ?_ | refine blk_alloc ?_ _)); refine blk_put (cs := #[.int .i64 a0_0, .int .i64 a0_1, .int .i64 a0_2, .int .i64 a0_3, .int .i64 a0_4, .int .i64 a0_5, .slice none 0 0]) ?_ 6 _ rfl; (with_reducible repeat (first | refine blk_drewN ?_ _ | refine blk_drew ?_ | refine blk_alloc ?_ _)); refine blk_put (cs := #[.int .i64 a0_0, .int .i64 a0_1, .int .i64 a0_2, .int .i64 a0_3, .int .i64 a0_4, .int .i64 0, .slice none 0 0]) ?_ 5 _ rfl; (with_reducible repeat (first | refine blk_drewN ?_ _ | refine blk_drew ?_ | refine blk_alloc ?_ _)); refine blk_put (cs := #[.int .i64 a0_0, .int .i64 a0_1, .int .i64 a0_2, .int .i64 a0_3, .int .i64 0, .int .i64 0, .slice none 0 0]) ?_ 4 _ rfl; (with_reducible repeat (first | refine blk_drewN ?_ _ | refine blk_drew ?_ | refine blk_alloc ?_ _)); refine blk_put (cs := #[.int .i64 a0_0, .int .i64 a0_1, .int .i64 a0_2, .int .i64 0, .int .i64 0, .int .i64 0, .slice none 0 0]) ?_ 3 _ rfl; (with_reducible repeat (first | refine blk_drewN ?_ _ | refine blk_drew ?_ | refine blk_alloc ?_ _)); refine blk_put (cs := #[.int .i64 a0_0, .int .i64 a0_1, .int .i64 0, .int .i64 0, .int .i64 0, .int .i64 0, .slice none 0 0]) ?_ 2 _ rfl; (with_reducible repeat (first | refine blk_drewN ?_ _ | refine blk_drew ?_ | refine blk_alloc ?_ _)); refine blk_put (cs := #[.int .i64 a0_0, .int .i64 0, .int .i64 0, .int .i64 0, .int .i64 0, .int .i64 0, .slice none 0 0]) ?_ 1 _ rfl; (with_reducible repeat (first | refine blk_drewN ?_ _ | refine blk_drew ?_ | refine blk_alloc ?_ _)); refine blk_put (cs := #[.int .i64 0, .int .i64 0, .int .i64 0, .int .i64 0, .int .i64 0, .int .i64 0, .slice none 0 0]) ?_ 0 _ rfl; (with_reducible repeat (first | refine blk_drewN ?_ _ | refine blk_drew ?_ | refine blk_alloc ?_ _)); refine blk_far ?_ NB142_141.out _; (with_reducible repeat (first | refine blk_drewN ?_ _ | refine blk_drew ?_ | refine blk_alloc ?_ _)); exact BK142.out) Try.underlying60 rfl (by kernel_rfl)) rfl ?_
        exact ⟨_, by first | rfl | (simp [errW_none, errW_some] <;> rfl) | (simp [*, errW_none, errW_some] <;> rfl), by (with_reducible repeat (first | apply Kd.R_alloc | apply Kd.R_drewN | apply Kd.R_drew)); exact Kd.R_mono (Kd.R_far (p := ⟨gb142, 6, none⟩) (Kd.R_far (p := ⟨gb142, 5, none⟩) (Kd.R_far (p := ⟨gb142, 4, none⟩) (Kd.R_far (p := ⟨gb142, 3, none⟩) (Kd.R_far (p := ⟨gb142, 2, none⟩) (Kd.R_far (p := ⟨gb142, 1, none⟩) (Kd.R_far (p := ⟨gb142, 0, none⟩) (Kd.R_far (p := ⟨gb141, 6, none⟩) (Kd.R_types (Kd.R_types HO_3.out BK141.out (by decide)) BK142.out (by decide)) (fun _ hk => hk.1.2) (.slice Ao12 x3_1.length co12)) (fun _ hk => hk.2) (.int .i64 a0_0)) (fun _ hk => hk.2) (.int .i64 a0_1)) (fun _ hk => hk.2) (.int .i64 a0_2)) (fun _ hk => hk.2) (.int .i64 a0_3)) (fun _ hk => hk.2) (.int .i64 a0_4)) (fun _ hk => hk.2) (.int .i64 a0_5)) (fun _ hk => hk.2) (.slice Ao12 x3_1.length co12)) (fun _ hk => trivial), by repeat (first | (with_reducible first | exact HB.out | apply below_alloc | apply pw_below_drewN | apply below_drew1 | refine below_set ?_ GE141.out | refine below_set ?_ GE142.out) | exact HB.out)⟩

end Go.Proofs.Ythmmadniaakapaa.PAccountRekeys
