-- written by this session's program wip/xp/xprint.py (it drives the kit's print and adds to it)
import Derived.Test.YtgelnjcohnfmhaaPOracleIssuesx0
import Derived.Test.YtgelnjcohnfmhaaPOracleIssuesx1
namespace Go.Proofs.Ytgelnjcohnfmhaa.POracleIssues
open Go.RowKit Go.Proofs.YtgelnjcohnfmhaaW.PrintWords Go.Proofs.YtgelnjcohnfmhaaW.PrintLast Go.Proofs.YtgelnjcohnfmhaaW.PrintMore
attribute [local go_sem] max2_int min2_int max_two min_two max_three min_three max_four min_four   -- for this text's walks alone
set_option linter.unusedVariables false
set_option linter.unusedSimpArgs false

attribute [local go_sem high] eqA83
/-! ### vendmeterlaw_oracles: function 15 -/
def vendmeterlaw_oracles.f (l0_0 : List (S83)) : Option ((List (S83))) := if ([] : List (S83)).length + l0_0.length < 4398046511104 then (some (([] : List (S83)) ++ l0_0)) else (none)
set_option maxHeartbeats 8000000 in
set_option maxRecDepth 100000 in
theorem vendmeterlaw_oracles.calls (A0_0 : Option Addr) (c0_0 : Nat) (l0_0 : List (S83)) (r : List (S83)) (w : World) (hr0_0 : Kd.C k83 w A0_0 l0_0.length l0_0) (hc0_0 : l0_0.length ≤ c0_0) (h : vendmeterlaw_oracles.f l0_0 = some r) :
    Calls Try.prog 15 #[.agg #[.slice A0_0 l0_0.length c0_0]] w fun e w' => ∃ v0_ : Value, e = .returned (.agg #[v0_]) ∧ Kd.R k83 83 w' w.heap.size (fun _ => True) v0_ r ∧ Below w.heap.size w w' := by
  have hu24 := Try.underlying24
  have HR0_0 := Aside0.mk hr0_0
  have HC0_0 := Aside0.mk hc0_0
  clear hr0_0 hc0_0
  have HB := Aside0.mk (Below.refl w.heap.size w)
  have H : (if ([] : List (S83)).length + l0_0.length < 4398046511104 then (some (([] : List (S83)) ++ l0_0)) else (none)) = some r := h
  clear h
  by_cases c2 : ([] : List (S83)).length + l0_0.length < 4398046511104
  · rw [if_pos c2] at H
    have LMc2 := Aside0.mk c2
    clear c2
    obtain ⟨y103, hy103⟩ : ∃ y_ : List (S83), y_ = (([] : List (S83)) ++ l0_0) := ⟨_, rfl⟩
    replace H : (some y103) = some r := by first | (rw [hy103]; with_reducible exact H) | (have H2_ := (Option.bind_some _ _).symm.trans H; rw [hy103]; with_reducible exact H2_) | (have H2_ := (Option.bind_some _ _).symm.trans H; with_reducible exact H2_) | with_reducible exact H | (rw [hy103]; exact H) | exact H
    have Ny103 := Aside0.mk hy103
    clear hy103
    obtain rfl := Option.some.inj H
    go_enter Try.func15, Try.ntmps15
    go_wp2_with (first | ((with_reducible refine gate_dst (N := 1) rfl ?_); refine box_event ?hg (N := 1) ?hd (cs := #[.slice A0_0 l0_0.length c0_0]) (t := 24) ?hr ?_; (case hd => rfl); (case hg => rfl); (case hr => first | (go_simp; done) | (go_simp; rfl)); intro gb101 hg w3 hbox hb; have n0_ := Aside0.mk (below_step (by repeat (first | (with_reducible first | exact HB.out | apply below_alloc | apply pw_below_drewN | apply below_drew1) | exact HB.out)) hb); have n1_ := Aside0.mk (hbox); have n2_ := Aside0.mk ((by rw [hg]; exact (below_size (by repeat (first | (with_reducible first | exact HB.out | apply below_alloc | apply pw_below_drewN | apply below_drew1) | exact HB.out))) : w.heap.size ≤ gb101)); have n3_ := Aside0.mk ((by rw [hg]; exact (below_size (by repeat (first | (with_reducible first | exact HB.out | apply below_alloc | apply pw_below_drewN | apply below_drew1) | exact HB.out))) : w.heap.size ≤ gb101)); clear HB; have HB := n0_; have BK101 := n1_; have GW101 := n2_; have GE101 := n3_; clear n0_ n1_ n2_ n3_; clear hb hbox hg) | ((with_reducible refine gate_dst (N := 2) rfl ?_); refine box_event ?hg (N := 2) ?hd (cs := #[.slice none 0 0]) (t := 24) ?hr ?_; (case hd => rfl); (case hg => rfl); (case hr => first | (go_simp; done) | (go_simp; rfl)); intro gb102 hg w4 hbox hb; have n0_ := Aside0.mk (blk_below (g := gb101) (o := .cells #[.slice A0_0 l0_0.length c0_0] 24 (0, 0)) (by (with_reducible repeat (first | refine blk_drewN ?_ _ | refine blk_drew ?_ | refine blk_alloc ?_ _)); exact BK101.out) hb); have n1_ := Aside0.mk (below_step (by repeat (first | (with_reducible first | exact HB.out | apply below_alloc | apply pw_below_drewN | apply below_drew1 | refine below_set ?_ GE101.out) | exact HB.out)) hb); have n2_ := Aside0.mk (hbox); have n3_ := Aside0.mk ((by rw [hg]; exact (below_size (by repeat (first | (with_reducible first | exact HB.out | apply below_alloc | apply pw_below_drewN | apply below_drew1 | refine below_set ?_ GE101.out) | exact HB.out))) : w.heap.size ≤ gb102)); have n4_ := Aside0.mk ((by rw [hg]; exact (below_size (by repeat (first | (with_reducible first | exact HB.out | apply below_alloc | apply pw_below_drewN | apply below_drew1 | refine below_set ?_ GE101.out) | exact HB.out))) : w.heap.size ≤ gb102)); have n5_ := Aside0.mk ((by rw [hg]; exact Nat.ne_of_lt (blk_lt (g := gb101) (o := .cells #[.slice A0_0 l0_0.length c0_0] 24 (0, 0)) (by (with_reducible repeat (first | refine blk_drewN ?_ _ | refine blk_drew ?_ | refine blk_alloc ?_ _)); exact BK101.out)) : gb101 ≠ gb102)); have n6_ := Aside0.mk ((by rw [hg]; exact Nat.ne_of_gt (blk_lt (g := gb101) (o := .cells #[.slice A0_0 l0_0.length c0_0] 24 (0, 0)) (by (with_reducible repeat (first | refine blk_drewN ?_ _ | refine blk_drew ?_ | refine blk_alloc ?_ _)); exact BK101.out)) : gb102 ≠ gb101)); clear BK101; clear HB; have BK101 := n0_; have HB := n1_; have BK102 := n2_; have GW102 := n3_; have GE102 := n4_; have NB101_102 := n5_; have NB102_101 := n6_; clear n0_ n1_ n2_ n3_ n4_ n5_ n6_; clear hb hbox hg; have hnb5 := NB101_102.out; have hnc5 := NB102_101.out; have hcz6_0 : w4.cell? ⟨gb101, 0, none⟩ = some (.slice A0_0 l0_0.length c0_0) := (blk_cell BK101.out 0).trans rfl; have hfz6_0 := blk_frozen BK101.out 0) | ((with_reducible refine gate_builtin (b := .append) (xs := #[.const (.slice none 0 0), .tmp 4]) rfl ?_); at_builtin; refine Kd.R_append_rows k83 (w0 := w) w.heap.size rfl (.const (.slice none 0 0)) (.tmp 4) 22 83 (.agg #[(.int .i64 0), (.int .i64 0), (.int .i64 0), (.int .i64 0)]) 32 rfl Try.underlying22 info83 rfl (by decide) (by omega) (.slice none 0 0) ([] : List (S83)) l0_0 _ _ _ (fun _ => True) (fun _ => False) rfl rfl ?aO ?aR (fun _ _ h => h) (fun _ h => h.elim) ?aF ?aB ?aS ?aL ?_; (case aR => repeat (first | exact (Kd.C_below HR0_0.out HB.out) | (with_reducible refine Kd.C_alloc ?_ _) | (with_reducible refine Kd.C_drewN ?_ _) | (with_reducible refine Kd.C_drew ?_))); (case aB => exact (by repeat (first | (with_reducible first | exact HB.out | apply below_alloc | apply pw_below_drewN | apply below_drew1 | refine below_set ?_ GE101.out | refine below_set ?_ GE102.out) | exact HB.out))); (case aF => exact (fun _ _ => trivial)); (case aO => exact ((Kd.R_nil _ _ _ _ (fun _ => True)))); (case aS => exact (below_size (by repeat (first | (with_reducible first | exact HB.out | apply below_alloc | apply pw_below_drewN | apply below_drew1 | refine below_set ?_ GE101.out | refine below_set ?_ GE102.out) | exact HB.out)))); (case aL => have := LMc2.out; omega); intro v104 w7 ho hb hg hat; rw [← Ny103.out] at ho; have n0_ := Aside0.mk (blk_grown (g := gb101) (o := .cells #[.slice A0_0 l0_0.length c0_0] 24 (0, 0)) (by (with_reducible repeat (first | refine blk_drewN ?_ _ | refine blk_drew ?_ | refine blk_alloc ?_ _)); exact BK101.out) hg (by simp [Value.ownBlock])); have n1_ := Aside0.mk (blk_grown (g := gb102) (o := .cells #[.slice none 0 0] 24 (0, 0)) (by (with_reducible repeat (first | refine blk_drewN ?_ _ | refine blk_drew ?_ | refine blk_alloc ?_ _)); exact BK102.out) hg (by simp [Value.ownBlock])); have n2_ := Aside0.mk (hb); have n3_ := Aside0.mk (ho); clear BK101; clear BK102; clear HB; have BK101 := n0_; have BK102 := n1_; have HB := n2_; have HO105 := n3_; clear n0_ n1_ n2_ n3_; clear ho hb hg hat; obtain ⟨Ao8, co8, eo8⟩ := Kd.R_slice HO105.out; subst eo8; have hcz9_0 : w7.cell? ⟨gb102, 0, none⟩ = some (.slice none 0 0) := (blk_cell BK102.out 0).trans rfl; have hfz9_0 := blk_frozen BK102.out 0))
    refine bodyPost_ret (results_cell_row rfl _ _ gb102 24 #[.slice Ao8 y103.length co8] (0, 0) _ rfl (by (with_reducible repeat (first | refine blk_drewN ?_ _ | refine blk_drew ?_ | refine blk_alloc ?_ _)); refine blk_put (cs := #[.slice none 0 0]) ?_ 0 _ rfl; (with_reducible repeat (first | refine blk_drewN ?_ _ | refine blk_drew ?_ | refine blk_alloc ?_ _)); exact BK102.out) Try.underlying24 rfl (by kernel_rfl)) rfl ?_
    exact ⟨_, by first | rfl | (simp [errW_none, errW_some] <;> rfl) | (simp [*, errW_none, errW_some] <;> rfl), by (with_reducible repeat (first | apply Kd.R_alloc | apply Kd.R_drewN | apply Kd.R_drew)); exact Kd.R_mono (Kd.R_far (p := ⟨gb102, 0, none⟩) (Kd.R_types HO105.out BK102.out (by decide)) (fun _ hk => hk.2) (.slice Ao8 y103.length co8)) (fun _ hk => trivial), by repeat (first | (with_reducible first | exact HB.out | apply below_alloc | apply pw_below_drewN | apply below_drew1 | refine below_set ?_ GE101.out | refine below_set ?_ GE102.out) | exact HB.out)⟩
  · rw [if_neg c2] at H
    exact absurd H (by simp)

/-! ### vendmeterlaw_sameOracle: function 18 -/
def vendmeterlaw_sameOracle.l0 : Nat → Int → List (S83) → List (S83) → Option (Bool)
  | 0, _, _, _ => none
  | k + 1, x5, x107000, x108000 => if x5 < (x107000.length : Int) then (if 0 ≤ x5 then (if x5 < (x108000.length : Int) then (if (!(((rd_T83 x107000 x5).f0) == ((rd_T83 x108000 x5).f0)) || (!(((rd_T83 x107000 x5).f1) == ((rd_T83 x108000 x5).f1)) || (!(((rd_T83 x107000 x5).f2) == ((rd_T83 x108000 x5).f2)) || (!(((rd_T83 x107000 x5).f3) == ((rd_T83 x108000 x5).f3)))))) = true then (some false) else (vendmeterlaw_sameOracle.l0 k (wrap64 (x5 + 1)) x107000 x108000)) else (none)) else (none)) else (some true)
def vendmeterlaw_sameOracle.f (k : Nat) (l0_0 : List (S83)) (l1_0 : List (S83)) : Option (Bool) := if (l0_0.length : Int) = (l1_0.length : Int) then (vendmeterlaw_sameOracle.l0 k 0 l0_0 l1_0) else (some false)
theorem vendmeterlaw_sameOracle.mono_l : ∀ k, (∀ y0 y1 y2, LeO (vendmeterlaw_sameOracle.l0 k y0 y1 y2) (vendmeterlaw_sameOracle.l0 (k + 1) y0 y1 y2))
  | 0 => fun _ _ _ r h => by simp [vendmeterlaw_sameOracle.l0] at h
  | k + 1 => by
    have ih0 := vendmeterlaw_sameOracle.mono_l k
    · intro y0 y1 y2
      unfold vendmeterlaw_sameOracle.l0
      repeat' first
      | (with_reducible exact ih0 _ _ _)
      | (with_reducible exact LeO.refl _)
      | (with_reducible exact LeO.none _)
      | (with_reducible refine LeO.ite ?_ ?_)
      | (with_reducible refine LeO.bind ?_ (fun _ => ?_))
      | exact ih0 _ _ _
      | exact LeO.none _
      | refine LeO.ite ?_ ?_
      | refine LeO.bind ?_ (fun _ => ?_)
theorem vendmeterlaw_sameOracle.mono : ∀ a0 a1 k, LeO (vendmeterlaw_sameOracle.f k a0 a1) (vendmeterlaw_sameOracle.f (k + 1) a0 a1) := by
  intro a0 a1 k
  have ih0 := vendmeterlaw_sameOracle.mono_l k
  unfold vendmeterlaw_sameOracle.f
  repeat' first
      | (with_reducible exact ih0 _ _ _)
      | (with_reducible exact LeO.refl _)
      | (with_reducible exact LeO.none _)
      | (with_reducible refine LeO.ite ?_ ?_)
      | (with_reducible refine LeO.bind ?_ (fun _ => ?_))
      | exact ih0 _ _ _
      | exact LeO.none _
      | refine LeO.ite ?_ ?_
      | refine LeO.bind ?_ (fun _ => ?_)
set_option maxHeartbeats 8000000 in
set_option maxRecDepth 100000 in
theorem vendmeterlaw_sameOracle.calls (k : Nat) (A0_0 : Option Addr) (c0_0 : Nat) (l0_0 : List (S83)) (A1_0 : Option Addr) (c1_0 : Nat) (l1_0 : List (S83)) (r : Bool) (w : World) (hr0_0 : Kd.C k83 w A0_0 l0_0.length l0_0) (hc0_0 : l0_0.length ≤ c0_0) (hr1_0 : Kd.C k83 w A1_0 l1_0.length l1_0) (hc1_0 : l1_0.length ≤ c1_0) (h : vendmeterlaw_sameOracle.f k l0_0 l1_0 = some r) :
    Calls Try.prog 18 #[.agg #[.slice A0_0 l0_0.length c0_0], .agg #[.slice A1_0 l1_0.length c1_0]] w fun e w' => e = .returned (.bool r) ∧ Below w.heap.size w w' := by
  have hu24 := Try.underlying24
  have hu83 := Try.underlying83
  have HR0_0 := Aside0.mk hr0_0
  have HC0_0 := Aside0.mk hc0_0
  clear hr0_0 hc0_0
  have HR1_0 := Aside0.mk hr1_0
  have HC1_0 := Aside0.mk hc1_0
  clear hr1_0 hc1_0
  have HB := Aside0.mk (Below.refl w.heap.size w)
  have H : (if (l0_0.length : Int) = (l1_0.length : Int) then (vendmeterlaw_sameOracle.l0 k 0 l0_0 l1_0) else (some false)) = some r := h
  clear h
  by_cases c3 : (l0_0.length : Int) = (l1_0.length : Int)
  · rw [if_pos c3] at H
    have c3b0 : ((l0_0.length : Int) == (l1_0.length : Int)) = true := beq_iff_eq.mpr c3
    have c3b1 : ((l0_0.length : Int) != (l1_0.length : Int)) = false := bne_eq_false_iff_eq.mpr c3
    have c3b2 : (l0_0.length == l1_0.length) = true := by first | simpa using c3 | (simp at c3 ⊢; omega)
    clear c3
    have H' := Aside0.mk H
    clear H
    go_enter Try.func18, Try.ntmps18
    go_wp2_with (first | ((with_reducible refine gate_dst (N := 2) rfl ?_); refine box_event ?hg (N := 2) ?hd (cs := #[.slice A0_0 l0_0.length c0_0]) (t := 24) ?hr ?_; (case hd => rfl); (case hg => rfl); (case hr => first | (go_simp; done) | (go_simp; rfl)); intro gb106 hg w4 hbox hb; have n0_ := Aside0.mk (below_step (by repeat (first | (with_reducible first | exact HB.out | apply below_alloc | apply pw_below_drewN | apply below_drew1) | exact HB.out)) hb); have n1_ := Aside0.mk (hbox); have n2_ := Aside0.mk ((by rw [hg]; exact (below_size (by repeat (first | (with_reducible first | exact HB.out | apply below_alloc | apply pw_below_drewN | apply below_drew1) | exact HB.out))) : w.heap.size ≤ gb106)); have n3_ := Aside0.mk ((by rw [hg]; exact (below_size (by repeat (first | (with_reducible first | exact HB.out | apply below_alloc | apply pw_below_drewN | apply below_drew1) | exact HB.out))) : w.heap.size ≤ gb106)); clear HB; have HB := n0_; have BK106 := n1_; have GW106 := n2_; have GE106 := n3_; clear n0_ n1_ n2_ n3_; clear hb hbox hg) | ((with_reducible refine gate_dst (N := 3) rfl ?_); refine box_event ?hg (N := 3) ?hd (cs := #[.slice A1_0 l1_0.length c1_0]) (t := 24) ?hr ?_; (case hd => rfl); (case hg => rfl); (case hr => first | (go_simp; done) | (go_simp; rfl)); intro gb107 hg w5 hbox hb; have n0_ := Aside0.mk (blk_below (g := gb106) (o := .cells #[.slice A0_0 l0_0.length c0_0] 24 (0, 0)) (by (with_reducible repeat (first | refine blk_drewN ?_ _ | refine blk_drew ?_ | refine blk_alloc ?_ _)); exact BK106.out) hb); have n1_ := Aside0.mk (below_step (by repeat (first | (with_reducible first | exact HB.out | apply below_alloc | apply pw_below_drewN | apply below_drew1 | refine below_set ?_ GE106.out) | exact HB.out)) hb); have n2_ := Aside0.mk (hbox); have n3_ := Aside0.mk ((by rw [hg]; exact (below_size (by repeat (first | (with_reducible first | exact HB.out | apply below_alloc | apply pw_below_drewN | apply below_drew1 | refine below_set ?_ GE106.out) | exact HB.out))) : w.heap.size ≤ gb107)); have n4_ := Aside0.mk ((by rw [hg]; exact (below_size (by repeat (first | (with_reducible first | exact HB.out | apply below_alloc | apply pw_below_drewN | apply below_drew1 | refine below_set ?_ GE106.out) | exact HB.out))) : w.heap.size ≤ gb107)); have n5_ := Aside0.mk ((by rw [hg]; exact Nat.ne_of_lt (blk_lt (g := gb106) (o := .cells #[.slice A0_0 l0_0.length c0_0] 24 (0, 0)) (by (with_reducible repeat (first | refine blk_drewN ?_ _ | refine blk_drew ?_ | refine blk_alloc ?_ _)); exact BK106.out)) : gb106 ≠ gb107)); have n6_ := Aside0.mk ((by rw [hg]; exact Nat.ne_of_gt (blk_lt (g := gb106) (o := .cells #[.slice A0_0 l0_0.length c0_0] 24 (0, 0)) (by (with_reducible repeat (first | refine blk_drewN ?_ _ | refine blk_drew ?_ | refine blk_alloc ?_ _)); exact BK106.out)) : gb107 ≠ gb106)); clear BK106; clear HB; have BK106 := n0_; have HB := n1_; have BK107 := n2_; have GW107 := n3_; have GE107 := n4_; have NB106_107 := n5_; have NB107_106 := n6_; clear n0_ n1_ n2_ n3_ n4_ n5_ n6_; clear hb hbox hg; have hnb6 := NB106_107.out; have hnc6 := NB107_106.out; have hcz7_0 : w5.cell? ⟨gb106, 0, none⟩ = some (.slice A0_0 l0_0.length c0_0) := (blk_cell BK106.out 0).trans rfl; have hfz7_0 := blk_frozen BK106.out 0; have hcz8_0 : w5.cell? ⟨gb107, 0, none⟩ = some (.slice A1_0 l1_0.length c1_0) := (blk_cell BK107.out 0).trans rfl; have hfz8_0 := blk_frozen BK107.out 0))
    repeat (go_quiet (first | ((with_reducible refine gate_dst (N := 2) rfl ?_); refine box_event ?hg (N := 2) ?hd (cs := #[.slice A0_0 l0_0.length c0_0]) (t := 24) ?hr ?_; (case hd => rfl); (case hg => rfl); (case hr => first | (go_simp; done) | (go_simp; rfl)); intro gb106 hg w4 hbox hb; have n0_ := Aside0.mk (below_step (by repeat (first | (with_reducible first | exact HB.out | apply below_alloc | apply pw_below_drewN | apply below_drew1) | exact HB.out)) hb); have n1_ := Aside0.mk (hbox); have n2_ := Aside0.mk ((by rw [hg]; exact (below_size (by repeat (first | (with_reducible first | exact HB.out | apply below_alloc | apply pw_below_drewN | apply below_drew1) | exact HB.out))) : w.heap.size ≤ gb106)); have n3_ := Aside0.mk ((by rw [hg]; exact (below_size (by repeat (first | (with_reducible first | exact HB.out | apply below_alloc | apply pw_below_drewN | apply below_drew1) | exact HB.out))) : w.heap.size ≤ gb106)); clear HB; have HB := n0_; have BK106 := n1_; have GW106 := n2_; have GE106 := n3_; clear n0_ n1_ n2_ n3_; clear hb hbox hg) | ((with_reducible refine gate_dst (N := 3) rfl ?_); refine box_event ?hg (N := 3) ?hd (cs := #[.slice A1_0 l1_0.length c1_0]) (t := 24) ?hr ?_; (case hd => rfl); (case hg => rfl); (case hr => first | (go_simp; done) | (go_simp; rfl)); intro gb107 hg w5 hbox hb; have n0_ := Aside0.mk (blk_below (g := gb106) (o := .cells #[.slice A0_0 l0_0.length c0_0] 24 (0, 0)) (by (with_reducible repeat (first | refine blk_drewN ?_ _ | refine blk_drew ?_ | refine blk_alloc ?_ _)); exact BK106.out) hb); have n1_ := Aside0.mk (below_step (by repeat (first | (with_reducible first | exact HB.out | apply below_alloc | apply pw_below_drewN | apply below_drew1 | refine below_set ?_ GE106.out) | exact HB.out)) hb); have n2_ := Aside0.mk (hbox); have n3_ := Aside0.mk ((by rw [hg]; exact (below_size (by repeat (first | (with_reducible first | exact HB.out | apply below_alloc | apply pw_below_drewN | apply below_drew1 | refine below_set ?_ GE106.out) | exact HB.out))) : w.heap.size ≤ gb107)); have n4_ := Aside0.mk ((by rw [hg]; exact (below_size (by repeat (first | (with_reducible first | exact HB.out | apply below_alloc | apply pw_below_drewN | apply below_drew1 | refine below_set ?_ GE106.out) | exact HB.out))) : w.heap.size ≤ gb107)); have n5_ := Aside0.mk ((by rw [hg]; exact Nat.ne_of_lt (blk_lt (g := gb106) (o := .cells #[.slice A0_0 l0_0.length c0_0] 24 (0, 0)) (by (with_reducible repeat (first | refine blk_drewN ?_ _ | refine blk_drew ?_ | refine blk_alloc ?_ _)); exact BK106.out)) : gb106 ≠ gb107)); have n6_ := Aside0.mk ((by rw [hg]; exact Nat.ne_of_gt (blk_lt (g := gb106) (o := .cells #[.slice A0_0 l0_0.length c0_0] 24 (0, 0)) (by (with_reducible repeat (first | refine blk_drewN ?_ _ | refine blk_drew ?_ | refine blk_alloc ?_ _)); exact BK106.out)) : gb107 ≠ gb106)); clear BK106; clear HB; have BK106 := n0_; have HB := n1_; have BK107 := n2_; have GW107 := n3_; have GE107 := n4_; have NB106_107 := n5_; have NB107_106 := n6_; clear n0_ n1_ n2_ n3_ n4_ n5_ n6_; clear hb hbox hg; have hnb6 := NB106_107.out; have hnc6 := NB107_106.out; have hcz7_0 : w5.cell? ⟨gb106, 0, none⟩ = some (.slice A0_0 l0_0.length c0_0) := (blk_cell BK106.out 0).trans rfl; have hfz7_0 := blk_frozen BK106.out 0; have hcz8_0 : w5.cell? ⟨gb107, 0, none⟩ = some (.slice A1_0 l1_0.length c1_0) := (blk_cell BK107.out 0).trans rfl; have hfz8_0 := blk_frozen BK107.out 0)); try go_wp2_with (first | ((with_reducible refine gate_dst (N := 2) rfl ?_); refine box_event ?hg (N := 2) ?hd (cs := #[.slice A0_0 l0_0.length c0_0]) (t := 24) ?hr ?_; (case hd => rfl); (case hg => rfl); (case hr => first | (go_simp; done) | (go_simp; rfl)); intro gb106 hg w4 hbox hb; have n0_ := Aside0.mk (below_step (by repeat (first | (with_reducible first | exact HB.out | apply below_alloc | apply pw_below_drewN | apply below_drew1) | exact HB.out)) hb); have n1_ := Aside0.mk (hbox); have n2_ := Aside0.mk ((by rw [hg]; exact (below_size (by repeat (first | (with_reducible first | exact HB.out | apply below_alloc | apply pw_below_drewN | apply below_drew1) | exact HB.out))) : w.heap.size ≤ gb106)); have n3_ := Aside0.mk ((by rw [hg]; exact (below_size (by repeat (first | (with_reducible first | exact HB.out | apply below_alloc | apply pw_below_drewN | apply below_drew1) | exact HB.out))) : w.heap.size ≤ gb106)); clear HB; have HB := n0_; have BK106 := n1_; have GW106 := n2_; have GE106 := n3_; clear n0_ n1_ n2_ n3_; clear hb hbox hg) | ((with_reducible refine gate_dst (N := 3) rfl ?_); refine box_event ?hg (N := 3) ?hd (cs := #[.slice A1_0 l1_0.length c1_0]) (t := 24) ?hr ?_; (case hd => rfl); (case hg => rfl); (case hr => first | (go_simp; done) | (go_simp; rfl)); intro gb107 hg w5 hbox hb; have n0_ := Aside0.mk (blk_below (g := gb106) (o := .cells #[.slice A0_0 l0_0.length c0_0] 24 (0, 0)) (by (with_reducible repeat (first | refine blk_drewN ?_ _ | refine blk_drew ?_ | refine blk_alloc ?_ _)); exact BK106.out) hb); have n1_ := Aside0.mk (below_step (by repeat (first | (with_reducible first | exact HB.out | apply below_alloc | apply pw_below_drewN | apply below_drew1 | refine below_set ?_ GE106.out) | exact HB.out)) hb); have n2_ := Aside0.mk (hbox); have n3_ := Aside0.mk ((by rw [hg]; exact (below_size (by repeat (first | (with_reducible first | exact HB.out | apply below_alloc | apply pw_below_drewN | apply below_drew1 | refine below_set ?_ GE106.out) | exact HB.out))) : w.heap.size ≤ gb107)); have n4_ := Aside0.mk ((by rw [hg]; exact (below_size (by repeat (first | (with_reducible first | exact HB.out | apply below_alloc | apply pw_below_drewN | apply below_drew1 | refine below_set ?_ GE106.out) | exact HB.out))) : w.heap.size ≤ gb107)); have n5_ := Aside0.mk ((by rw [hg]; exact Nat.ne_of_lt (blk_lt (g := gb106) (o := .cells #[.slice A0_0 l0_0.length c0_0] 24 (0, 0)) (by (with_reducible repeat (first | refine blk_drewN ?_ _ | refine blk_drew ?_ | refine blk_alloc ?_ _)); exact BK106.out)) : gb106 ≠ gb107)); have n6_ := Aside0.mk ((by rw [hg]; exact Nat.ne_of_gt (blk_lt (g := gb106) (o := .cells #[.slice A0_0 l0_0.length c0_0] 24 (0, 0)) (by (with_reducible repeat (first | refine blk_drewN ?_ _ | refine blk_drew ?_ | refine blk_alloc ?_ _)); exact BK106.out)) : gb107 ≠ gb106)); clear BK106; clear HB; have BK106 := n0_; have HB := n1_; have BK107 := n2_; have GW107 := n3_; have GE107 := n4_; have NB106_107 := n5_; have NB107_106 := n6_; clear n0_ n1_ n2_ n3_ n4_ n5_ n6_; clear hb hbox hg; have hnb6 := NB106_107.out; have hnc6 := NB107_106.out; have hcz7_0 : w5.cell? ⟨gb106, 0, none⟩ = some (.slice A0_0 l0_0.length c0_0) := (blk_cell BK106.out 0).trans rfl; have hfz7_0 := blk_frozen BK106.out 0; have hcz8_0 : w5.cell? ⟨gb107, 0, none⟩ = some (.slice A1_0 l1_0.length c1_0) := (blk_cell BK107.out 0).trans rfl; have hfz8_0 := blk_frozen BK107.out 0)))
    go_loopg [5] k (fun kq v5 w' => ∃ (x5_1 : Int), v5 = .int .i64 x5_1 ∧ Aside0 (vendmeterlaw_sameOracle.l0 kq x5_1 l0_0 l1_0 = some r) ∧ Aside0 (kq ≤ k) ∧ Aside0 (w'.heap[gb106]? = some (.cells #[(.slice A0_0 l0_0.length c0_0)] 24 (0, 0))) ∧ Aside0 (w'.heap[gb107]? = some (.cells #[(.slice A1_0 l1_0.length c1_0)] 24 (0, 0))) ∧ Aside0 (Below w.heap.size w w'))
    case atStart => exact ⟨(0), (by first | rfl | (simp; done) | (simp [*]; done)), H', ⟨Nat.le_refl _⟩, ⟨by (with_reducible repeat (first | refine blk_drewN ?_ _ | refine blk_drew ?_ | refine blk_alloc ?_ _)); exact BK106.out⟩, ⟨by (with_reducible repeat (first | refine blk_drewN ?_ _ | refine blk_drew ?_ | refine blk_alloc ?_ _)); exact BK107.out⟩, ⟨by repeat (first | (with_reducible first | exact HB.out | apply below_alloc | apply pw_below_drewN | apply below_drew1 | refine below_set ?_ GE106.out | refine below_set ?_ GE107.out) | exact HB.out)⟩⟩
    case round =>
      clear H'
      try clear c1
      try clear p2
      try clear c3
      try clear c3b0
      try clear c3b1
      try clear c3b2
      try clear c6
      try clear hcz7_0
      try clear hcz8_0
      try clear hfz7_0
      try clear hfz8_0
      obtain ⟨x5_1, rfl, HA, HK1, BK106, BK107, HB⟩ := hrel
      cases gk with
      | zero => exact absurd HA.out (by simp [vendmeterlaw_sameOracle.l0])
      | succ k1 =>
        have H := HA.out
        clear HA
        simp only [vendmeterlaw_sameOracle.l0] at H
        by_cases c9 : x5_1 < (l0_0.length : Int)
        · rw [if_pos c9] at H
          have c9b0 : decide (x5_1 < (l0_0.length : Int)) = true := decide_eq_true c9
          clear c9
          by_cases c10 : 0 ≤ x5_1
          · rw [if_pos c10] at H
            have c10b0 : decide (0 ≤ x5_1) = true := decide_eq_true c10
            clear c10
            by_cases c11 : x5_1 < (l1_0.length : Int)
            · rw [if_pos c11] at H
              have c11b0 : decide (x5_1 < (l1_0.length : Int)) = true := decide_eq_true c11
              clear c11
              by_cases c12 : (!(((rd_T83 l0_0 x5_1).f0) == ((rd_T83 l1_0 x5_1).f0)) || (!(((rd_T83 l0_0 x5_1).f1) == ((rd_T83 l1_0 x5_1).f1)) || (!(((rd_T83 l0_0 x5_1).f2) == ((rd_T83 l1_0 x5_1).f2)) || (!(((rd_T83 l0_0 x5_1).f3) == ((rd_T83 l1_0 x5_1).f3)))))) = true
              · rw [if_pos c12] at H
                have c12b0 : (!(((rd_T83 l0_0 x5_1).f0) == ((rd_T83 l1_0 x5_1).f0)) || (!(((rd_T83 l0_0 x5_1).f1) == ((rd_T83 l1_0 x5_1).f1)) || (!(((rd_T83 l0_0 x5_1).f2) == ((rd_T83 l1_0 x5_1).f2)) || (!(((rd_T83 l0_0 x5_1).f3) == ((rd_T83 l1_0 x5_1).f3)))))) = true := c12
                clear c12
                obtain rfl := Option.some.inj H
                have hnb13 := NB106_107.out
                have hnc13 := NB107_106.out
                have hcz14_0 : wr.cell? ⟨gb106, 0, none⟩ = some (.slice A0_0 l0_0.length c0_0) := (blk_cell BK106.out 0).trans rfl
                have hfz14_0 := blk_frozen BK106.out 0
                have p108 : 0 ≤ (x5_1 : Int) := of_decide_eq_true (by first | (with_reducible assumption) | assumption)
                have q108 : x5_1 < (l0_0.length : Int) := of_decide_eq_true (by first | (with_reducible assumption) | assumption)
                obtain ⟨ad108, e108, hx108_0, hx108_1, hx108_2, hx108_3⟩ := at_T83 HR0_0.out x5_1 p108 q108
                cases e108
                replace hx108_0 := (HB.out.cell (World.block_lt_of_cell? w _ hx108_0)).trans hx108_0
                replace hx108_1 := (HB.out.cell (World.block_lt_of_cell? w _ hx108_1)).trans hx108_1
                replace hx108_2 := (HB.out.cell (World.block_lt_of_cell? w _ hx108_2)).trans hx108_2
                replace hx108_3 := (HB.out.cell (World.block_lt_of_cell? w _ hx108_3)).trans hx108_3
                replace p108 := eq_true p108
                replace q108 := eq_true q108
                have hcz15_0 : wr.cell? ⟨gb107, 0, none⟩ = some (.slice A1_0 l1_0.length c1_0) := (blk_cell BK107.out 0).trans rfl
                have hfz15_0 := blk_frozen BK107.out 0
                have p109 : 0 ≤ (x5_1 : Int) := of_decide_eq_true (by first | (with_reducible assumption) | assumption)
                have q109 : x5_1 < (l1_0.length : Int) := of_decide_eq_true (by first | (with_reducible assumption) | assumption)
                obtain ⟨ad109, e109, hx109_0, hx109_1, hx109_2, hx109_3⟩ := at_T83 HR1_0.out x5_1 p109 q109
                cases e109
                replace hx109_0 := (HB.out.cell (World.block_lt_of_cell? w _ hx109_0)).trans hx109_0
                replace hx109_1 := (HB.out.cell (World.block_lt_of_cell? w _ hx109_1)).trans hx109_1
                replace hx109_2 := (HB.out.cell (World.block_lt_of_cell? w _ hx109_2)).trans hx109_2
                replace hx109_3 := (HB.out.cell (World.block_lt_of_cell? w _ hx109_3)).trans hx109_3
                replace p109 := eq_true p109
                replace q109 := eq_true q109
                go_wp2
                repeat (go_quiet (fail); try go_wp2)
                go_ret
                exact ⟨by first | rfl | (simp [errW_none, errW_some] <;> rfl) | (simp [*, errW_none, errW_some] <;> rfl), by repeat (first | (with_reducible first | exact HB.out | apply below_alloc | apply pw_below_drewN | apply below_drew1 | refine below_set ?_ GE106.out | refine below_set ?_ GE107.out) | exact HB.out)⟩
              · rw [if_neg c12] at H
                have c12b0 : (!(((rd_T83 l0_0 x5_1).f0) == ((rd_T83 l1_0 x5_1).f0)) || (!(((rd_T83 l0_0 x5_1).f1) == ((rd_T83 l1_0 x5_1).f1)) || (!(((rd_T83 l0_0 x5_1).f2) == ((rd_T83 l1_0 x5_1).f2)) || (!(((rd_T83 l0_0 x5_1).f3) == ((rd_T83 l1_0 x5_1).f3)))))) = false := by simpa using c12
                clear c12
                have H' := Aside0.mk H
                clear H
                have hnb16 := NB106_107.out
                have hnc16 := NB107_106.out
                have hcz17_0 : wr.cell? ⟨gb106, 0, none⟩ = some (.slice A0_0 l0_0.length c0_0) := (blk_cell BK106.out 0).trans rfl
                have hfz17_0 := blk_frozen BK106.out 0
                have p108 : 0 ≤ (x5_1 : Int) := of_decide_eq_true (by first | (with_reducible assumption) | assumption)
                have q108 : x5_1 < (l0_0.length : Int) := of_decide_eq_true (by first | (with_reducible assumption) | assumption)
                obtain ⟨ad108, e108, hx108_0, hx108_1, hx108_2, hx108_3⟩ := at_T83 HR0_0.out x5_1 p108 q108
                cases e108
                replace hx108_0 := (HB.out.cell (World.block_lt_of_cell? w _ hx108_0)).trans hx108_0
                replace hx108_1 := (HB.out.cell (World.block_lt_of_cell? w _ hx108_1)).trans hx108_1
                replace hx108_2 := (HB.out.cell (World.block_lt_of_cell? w _ hx108_2)).trans hx108_2
                replace hx108_3 := (HB.out.cell (World.block_lt_of_cell? w _ hx108_3)).trans hx108_3
                replace p108 := eq_true p108
                replace q108 := eq_true q108
                have hcz18_0 : wr.cell? ⟨gb107, 0, none⟩ = some (.slice A1_0 l1_0.length c1_0) := (blk_cell BK107.out 0).trans rfl
                have hfz18_0 := blk_frozen BK107.out 0
                have p109 : 0 ≤ (x5_1 : Int) := of_decide_eq_true (by first | (with_reducible assumption) | assumption)
                have q109 : x5_1 < (l1_0.length : Int) := of_decide_eq_true (by first | (with_reducible assumption) | assumption)
                obtain ⟨ad109, e109, hx109_0, hx109_1, hx109_2, hx109_3⟩ := at_T83 HR1_0.out x5_1 p109 q109
                cases e109
                replace hx109_0 := (HB.out.cell (World.block_lt_of_cell? w _ hx109_0)).trans hx109_0
                replace hx109_1 := (HB.out.cell (World.block_lt_of_cell? w _ hx109_1)).trans hx109_1
                replace hx109_2 := (HB.out.cell (World.block_lt_of_cell? w _ hx109_2)).trans hx109_2
                replace hx109_3 := (HB.out.cell (World.block_lt_of_cell? w _ hx109_3)).trans hx109_3
                replace p109 := eq_true p109
                replace q109 := eq_true q109
                go_wp2
                repeat (go_quiet (fail); try go_wp2)
                go_roundg k1
                case measure => have := HK1.out; omega
                case rel => exact ⟨(wrap64 (x5_1 + 1)), (by first | rfl | (simp; done) | (simp [*]; done)), H', ⟨by have := HK1.out; omega⟩, ⟨by (with_reducible repeat (first | refine blk_drewN ?_ _ | refine blk_drew ?_ | refine blk_alloc ?_ _)); exact BK106.out⟩, ⟨by (with_reducible repeat (first | refine blk_drewN ?_ _ | refine blk_drew ?_ | refine blk_alloc ?_ _)); exact BK107.out⟩, ⟨by repeat (first | (with_reducible first | exact HB.out | apply below_alloc | apply pw_below_drewN | apply below_drew1 | refine below_set ?_ GE106.out | refine below_set ?_ GE107.out) | exact HB.out)⟩⟩
            · rw [if_neg c11] at H
              exact absurd H (by simp)
          · rw [if_neg c10] at H
            exact absurd H (by simp)
        · rw [if_neg c9] at H
          have c9b0 : decide (x5_1 < (l0_0.length : Int)) = false := decide_eq_false c9
          clear c9
          obtain rfl := Option.some.inj H
          have hnb19 := NB106_107.out
          have hnc19 := NB107_106.out
          have hcz20_0 : wr.cell? ⟨gb106, 0, none⟩ = some (.slice A0_0 l0_0.length c0_0) := (blk_cell BK106.out 0).trans rfl
          have hfz20_0 := blk_frozen BK106.out 0
          go_wp2
          repeat (go_quiet (fail); try go_wp2)
          go_ret
          exact ⟨by first | rfl | (simp [errW_none, errW_some] <;> rfl) | (simp [*, errW_none, errW_some] <;> rfl), by repeat (first | (with_reducible first | exact HB.out | apply below_alloc | apply pw_below_drewN | apply below_drew1 | refine below_set ?_ GE106.out | refine below_set ?_ GE107.out) | exact HB.out)⟩
  · rw [if_neg c3] at H
    have c3b0 : ((l0_0.length : Int) == (l1_0.length : Int)) = false := beq_eq_false_iff_ne.mpr c3
    have c3b1 : ((l0_0.length : Int) != (l1_0.length : Int)) = true := bne_iff_ne.mpr c3
    have c3b2 : (l0_0.length == l1_0.length) = false := by first | simpa using c3 | (simp at c3 ⊢; omega)
    obtain rfl := Option.some.inj H
    go_enter Try.func18, Try.ntmps18
    go_wp2_with (first | ((with_reducible refine gate_dst (N := 2) rfl ?_); refine box_event ?hg (N := 2) ?hd (cs := #[.slice A0_0 l0_0.length c0_0]) (t := 24) ?hr ?_; (case hd => rfl); (case hg => rfl); (case hr => first | (go_simp; done) | (go_simp; rfl)); intro gb106 hg w21 hbox hb; have n0_ := Aside0.mk (below_step (by repeat (first | (with_reducible first | exact HB.out | apply below_alloc | apply pw_below_drewN | apply below_drew1) | exact HB.out)) hb); have n1_ := Aside0.mk (hbox); have n2_ := Aside0.mk ((by rw [hg]; exact (below_size (by repeat (first | (with_reducible first | exact HB.out | apply below_alloc | apply pw_below_drewN | apply below_drew1) | exact HB.out))) : w.heap.size ≤ gb106)); have n3_ := Aside0.mk ((by rw [hg]; exact (below_size (by repeat (first | (with_reducible first | exact HB.out | apply below_alloc | apply pw_below_drewN | apply below_drew1) | exact HB.out))) : w.heap.size ≤ gb106)); clear HB; have HB := n0_; have BK106 := n1_; have GW106 := n2_; have GE106 := n3_; clear n0_ n1_ n2_ n3_; clear hb hbox hg) | ((with_reducible refine gate_dst (N := 3) rfl ?_); refine box_event ?hg (N := 3) ?hd (cs := #[.slice A1_0 l1_0.length c1_0]) (t := 24) ?hr ?_; (case hd => rfl); (case hg => rfl); (case hr => first | (go_simp; done) | (go_simp; rfl)); intro gb107 hg w22 hbox hb; have n0_ := Aside0.mk (blk_below (g := gb106) (o := .cells #[.slice A0_0 l0_0.length c0_0] 24 (0, 0)) (by (with_reducible repeat (first | refine blk_drewN ?_ _ | refine blk_drew ?_ | refine blk_alloc ?_ _)); exact BK106.out) hb); have n1_ := Aside0.mk (below_step (by repeat (first | (with_reducible first | exact HB.out | apply below_alloc | apply pw_below_drewN | apply below_drew1 | refine below_set ?_ GE106.out) | exact HB.out)) hb); have n2_ := Aside0.mk (hbox); have n3_ := Aside0.mk ((by rw [hg]; exact (below_size (by repeat (first | (with_reducible first | exact HB.out | apply below_alloc | apply pw_below_drewN | apply below_drew1 | refine below_set ?_ GE106.out) | exact HB.out))) : w.heap.size ≤ gb107)); have n4_ := Aside0.mk ((by rw [hg]; exact (below_size (by repeat (first | (with_reducible first | exact HB.out | apply below_alloc | apply pw_below_drewN | apply below_drew1 | refine below_set ?_ GE106.out) | exact HB.out))) : w.heap.size ≤ gb107)); have n5_ := Aside0.mk ((by rw [hg]; exact Nat.ne_of_lt (blk_lt (g := gb106) (o := .cells #[.slice A0_0 l0_0.length c0_0] 24 (0, 0)) (by (with_reducible repeat (first | refine blk_drewN ?_ _ | refine blk_drew ?_ | refine blk_alloc ?_ _)); exact BK106.out)) : gb106 ≠ gb107)); have n6_ := Aside0.mk ((by rw [hg]; exact Nat.ne_of_gt (blk_lt (g := gb106) (o := .cells #[.slice A0_0 l0_0.length c0_0] 24 (0, 0)) (by (with_reducible repeat (first | refine blk_drewN ?_ _ | refine blk_drew ?_ | refine blk_alloc ?_ _)); exact BK106.out)) : gb107 ≠ gb106)); clear BK106; clear HB; have BK106 := n0_; have HB := n1_; have BK107 := n2_; have GW107 := n3_; have GE107 := n4_; have NB106_107 := n5_; have NB107_106 := n6_; clear n0_ n1_ n2_ n3_ n4_ n5_ n6_; clear hb hbox hg; have hnb23 := NB106_107.out; have hnc23 := NB107_106.out; have hcz24_0 : w22.cell? ⟨gb106, 0, none⟩ = some (.slice A0_0 l0_0.length c0_0) := (blk_cell BK106.out 0).trans rfl; have hfz24_0 := blk_frozen BK106.out 0; have hcz25_0 : w22.cell? ⟨gb107, 0, none⟩ = some (.slice A1_0 l1_0.length c1_0) := (blk_cell BK107.out 0).trans rfl; have hfz25_0 := blk_frozen BK107.out 0))
    repeat (go_quiet (first | ((with_reducible refine gate_dst (N := 2) rfl ?_); refine box_event ?hg (N := 2) ?hd (cs := #[.slice A0_0 l0_0.length c0_0]) (t := 24) ?hr ?_; (case hd => rfl); (case hg => rfl); (case hr => first | (go_simp; done) | (go_simp; rfl)); intro gb106 hg w21 hbox hb; have n0_ := Aside0.mk (below_step (by repeat (first | (with_reducible first | exact HB.out | apply below_alloc | apply pw_below_drewN | apply below_drew1) | exact HB.out)) hb); have n1_ := Aside0.mk (hbox); have n2_ := Aside0.mk ((by rw [hg]; exact (below_size (by repeat (first | (with_reducible first | exact HB.out | apply below_alloc | apply pw_below_drewN | apply below_drew1) | exact HB.out))) : w.heap.size ≤ gb106)); have n3_ := Aside0.mk ((by rw [hg]; exact (below_size (by repeat (first | (with_reducible first | exact HB.out | apply below_alloc | apply pw_below_drewN | apply below_drew1) | exact HB.out))) : w.heap.size ≤ gb106)); clear HB; have HB := n0_; have BK106 := n1_; have GW106 := n2_; have GE106 := n3_; clear n0_ n1_ n2_ n3_; clear hb hbox hg) | ((with_reducible refine gate_dst (N := 3) rfl ?_); refine box_event ?hg (N := 3) ?hd (cs := #[.slice A1_0 l1_0.length c1_0]) (t := 24) ?hr ?_; (case hd => rfl); (case hg => rfl); (case hr => first | (go_simp; done) | (go_simp; rfl)); intro gb107 hg w22 hbox hb; have n0_ := Aside0.mk (blk_below (g := gb106) (o := .cells #[.slice A0_0 l0_0.length c0_0] 24 (0, 0)) (by (with_reducible repeat (first | refine blk_drewN ?_ _ | refine blk_drew ?_ | refine blk_alloc ?_ _)); exact BK106.out) hb); have n1_ := Aside0.mk (below_step (by repeat (first | (with_reducible first | exact HB.out | apply below_alloc | apply pw_below_drewN | apply below_drew1 | refine below_set ?_ GE106.out) | exact HB.out)) hb); have n2_ := Aside0.mk (hbox); have n3_ := Aside0.mk ((by rw [hg]; exact (below_size (by repeat (first | (with_reducible first | exact HB.out | apply below_alloc | apply pw_below_drewN | apply below_drew1 | refine below_set ?_ GE106.out) | exact HB.out))) : w.heap.size ≤ gb107)); have n4_ := Aside0.mk ((by rw [hg]; exact (below_size (by repeat (first | (with_reducible first | exact HB.out | apply below_alloc | apply pw_below_drewN | apply below_drew1 | refine below_set ?_ GE106.out) | exact HB.out))) : w.heap.size ≤ gb107)); have n5_ := Aside0.mk ((by rw [hg]; exact Nat.ne_of_lt (blk_lt (g := gb106) (o := .cells #[.slice A0_0 l0_0.length c0_0] 24 (0, 0)) (by (with_reducible repeat (first | refine blk_drewN ?_ _ | refine blk_drew ?_ | refine blk_alloc ?_ _)); exact BK106.out)) : gb106 ≠ gb107)); have n6_ := Aside0.mk ((by rw [hg]; exact Nat.ne_of_gt (blk_lt (g := gb106) (o := .cells #[.slice A0_0 l0_0.length c0_0] 24 (0, 0)) (by (with_reducible repeat (first | refine blk_drewN ?_ _ | refine blk_drew ?_ | refine blk_alloc ?_ _)); exact BK106.out)) : gb107 ≠ gb106)); clear BK106; clear HB; have BK106 := n0_; have HB := n1_; have BK107 := n2_; have GW107 := n3_; have GE107 := n4_; have NB106_107 := n5_; have NB107_106 := n6_; clear n0_ n1_ n2_ n3_ n4_ n5_ n6_; clear hb hbox hg; have hnb23 := NB106_107.out; have hnc23 := NB107_106.out; have hcz24_0 : w22.cell? ⟨gb106, 0, none⟩ = some (.slice A0_0 l0_0.length c0_0) := (blk_cell BK106.out 0).trans rfl; have hfz24_0 := blk_frozen BK106.out 0; have hcz25_0 : w22.cell? ⟨gb107, 0, none⟩ = some (.slice A1_0 l1_0.length c1_0) := (blk_cell BK107.out 0).trans rfl; have hfz25_0 := blk_frozen BK107.out 0)); try go_wp2_with (first | ((with_reducible refine gate_dst (N := 2) rfl ?_); refine box_event ?hg (N := 2) ?hd (cs := #[.slice A0_0 l0_0.length c0_0]) (t := 24) ?hr ?_; (case hd => rfl); (case hg => rfl); (case hr => first | (go_simp; done) | (go_simp; rfl)); intro gb106 hg w21 hbox hb; have n0_ := Aside0.mk (below_step (by repeat (first | (with_reducible first | exact HB.out | apply below_alloc | apply pw_below_drewN | apply below_drew1) | exact HB.out)) hb); have n1_ := Aside0.mk (hbox); have n2_ := Aside0.mk ((by rw [hg]; exact (below_size (by repeat (first | (with_reducible first | exact HB.out | apply below_alloc | apply pw_below_drewN | apply below_drew1) | exact HB.out))) : w.heap.size ≤ gb106)); have n3_ := Aside0.mk ((by rw [hg]; exact (below_size (by repeat (first | (with_reducible first | exact HB.out | apply below_alloc | apply pw_below_drewN | apply below_drew1) | exact HB.out))) : w.heap.size ≤ gb106)); clear HB; have HB := n0_; have BK106 := n1_; have GW106 := n2_; have GE106 := n3_; clear n0_ n1_ n2_ n3_; clear hb hbox hg) | ((with_reducible refine gate_dst (N := 3) rfl ?_); refine box_event ?hg (N := 3) ?hd (cs := #[.slice A1_0 l1_0.length c1_0]) (t := 24) ?hr ?_; (case hd => rfl); (case hg => rfl); (case hr => first | (go_simp; done) | (go_simp; rfl)); intro gb107 hg w22 hbox hb; have n0_ := Aside0.mk (blk_below (g := gb106) (o := .cells #[.slice A0_0 l0_0.length c0_0] 24 (0, 0)) (by (with_reducible repeat (first | refine blk_drewN ?_ _ | refine blk_drew ?_ | refine blk_alloc ?_ _)); exact BK106.out) hb); have n1_ := Aside0.mk (below_step (by repeat (first | (with_reducible first | exact HB.out | apply below_alloc | apply pw_below_drewN | apply below_drew1 | refine below_set ?_ GE106.out) | exact HB.out)) hb); have n2_ := Aside0.mk (hbox); have n3_ := Aside0.mk ((by rw [hg]; exact (below_size (by repeat (first | (with_reducible first | exact HB.out | apply below_alloc | apply pw_below_drewN | apply below_drew1 | refine below_set ?_ GE106.out) | exact HB.out))) : w.heap.size ≤ gb107)); have n4_ := Aside0.mk ((by rw [hg]; exact (below_size (by repeat (first | (with_reducible first | exact HB.out | apply below_alloc | apply pw_below_drewN | apply below_drew1 | refine below_set ?_ GE106.out) | exact HB.out))) : w.heap.size ≤ gb107)); have n5_ := Aside0.mk ((by rw [hg]; exact Nat.ne_of_lt (blk_lt (g := gb106) (o := .cells #[.slice A0_0 l0_0.length c0_0] 24 (0, 0)) (by (with_reducible repeat (first | refine blk_drewN ?_ _ | refine blk_drew ?_ | refine blk_alloc ?_ _)); exact BK106.out)) : gb106 ≠ gb107)); have n6_ := Aside0.mk ((by rw [hg]; exact Nat.ne_of_gt (blk_lt (g := gb106) (o := .cells #[.slice A0_0 l0_0.length c0_0] 24 (0, 0)) (by (with_reducible repeat (first | refine blk_drewN ?_ _ | refine blk_drew ?_ | refine blk_alloc ?_ _)); exact BK106.out)) : gb107 ≠ gb106)); clear BK106; clear HB; have BK106 := n0_; have HB := n1_; have BK107 := n2_; have GW107 := n3_; have GE107 := n4_; have NB106_107 := n5_; have NB107_106 := n6_; clear n0_ n1_ n2_ n3_ n4_ n5_ n6_; clear hb hbox hg; have hnb23 := NB106_107.out; have hnc23 := NB107_106.out; have hcz24_0 : w22.cell? ⟨gb106, 0, none⟩ = some (.slice A0_0 l0_0.length c0_0) := (blk_cell BK106.out 0).trans rfl; have hfz24_0 := blk_frozen BK106.out 0; have hcz25_0 : w22.cell? ⟨gb107, 0, none⟩ = some (.slice A1_0 l1_0.length c1_0) := (blk_cell BK107.out 0).trans rfl; have hfz25_0 := blk_frozen BK107.out 0)))
    go_ret
    exact ⟨by first | rfl | (simp [errW_none, errW_some] <;> rfl) | (simp [*, errW_none, errW_some] <;> rfl), by repeat (first | (with_reducible first | exact HB.out | apply below_alloc | apply pw_below_drewN | apply below_drew1 | refine below_set ?_ GE106.out | refine below_set ?_ GE107.out) | exact HB.out)⟩

/-! ### oracle_what_may: function 49 -/
def oracle_what_may.f (a0_0 : Int) (a0_1 : Int) (a0_2 : Int) : Option (Bool) := if a0_0 ≥ 0 then (if a0_0 < 50 then (if a0_1 ≥ 0 then (if a0_1 ≤ 15 then (if a0_2 ≥ 0 then (some (decide (a0_2 ≤ 8796093022207))) else (some false)) else (some false)) else (some false)) else (some false)) else (some false)
set_option maxHeartbeats 8000000 in
set_option maxRecDepth 100000 in
theorem oracle_what_may.calls (a0_0 : Int) (a0_1 : Int) (a0_2 : Int) (r : Bool) (w : World) (h : oracle_what_may.f a0_0 a0_1 a0_2 = some r) :
    Calls Try.prog 49 #[.agg #[.int .i64 a0_0, .int .i64 a0_1, .int .i64 a0_2]] w fun e w' => e = .returned (.bool r) ∧ Below w.heap.size w w' := by
  have hu88 := Try.underlying88
  have HB := Aside0.mk (Below.refl w.heap.size w)
  have H : (if a0_0 ≥ 0 then (if a0_0 < 50 then (if a0_1 ≥ 0 then (if a0_1 ≤ 15 then (if a0_2 ≥ 0 then (some (decide (a0_2 ≤ 8796093022207))) else (some false)) else (some false)) else (some false)) else (some false)) else (some false)) = some r := h
  clear h
  by_cases c2 : a0_0 ≥ 0
  · rw [if_pos c2] at H
    have c2b0 : decide (0 ≤ a0_0) = true := decide_eq_true c2
    clear c2
    by_cases c3 : a0_0 < 50
    · rw [if_pos c3] at H
      have c3b0 : decide (a0_0 < 50) = true := decide_eq_true c3
      clear c3
      by_cases c4 : a0_1 ≥ 0
      · rw [if_pos c4] at H
        have c4b0 : decide (0 ≤ a0_1) = true := decide_eq_true c4
        clear c4
        by_cases c5 : a0_1 ≤ 15
        · rw [if_pos c5] at H
          have c5b0 : decide (a0_1 ≤ 15) = true := decide_eq_true c5
          clear c5
          by_cases c6 : a0_2 ≥ 0
          · rw [if_pos c6] at H
            have c6b0 : decide (0 ≤ a0_2) = true := decide_eq_true c6
            clear c6
            obtain rfl := Option.some.inj H
            go_enter Try.func49, Try.ntmps49
            go_wp2_with (first | ((with_reducible refine gate_dst (N := 1) rfl ?_); refine box_event ?hg (N := 1) ?hd (cs := #[.int .i64 a0_0, .int .i64 a0_1, .int .i64 a0_2]) (t := 88) ?hr ?_; (case hd => rfl); (case hg => rfl); (case hr => first | (go_simp; done) | (go_simp; rfl)); intro gb110 hg w7 hbox hb; have n0_ := Aside0.mk (below_step (by repeat (first | (with_reducible first | exact HB.out | apply below_alloc | apply pw_below_drewN | apply below_drew1) | exact HB.out)) hb); have n1_ := Aside0.mk (hbox); have n2_ := Aside0.mk ((by rw [hg]; exact (below_size (by repeat (first | (with_reducible first | exact HB.out | apply below_alloc | apply pw_below_drewN | apply below_drew1) | exact HB.out))) : w.heap.size ≤ gb110)); have n3_ := Aside0.mk ((by rw [hg]; exact (below_size (by repeat (first | (with_reducible first | exact HB.out | apply below_alloc | apply pw_below_drewN | apply below_drew1) | exact HB.out))) : w.heap.size ≤ gb110)); clear HB; have HB := n0_; have BK110 := n1_; have GW110 := n2_; have GE110 := n3_; clear n0_ n1_ n2_ n3_; clear hb hbox hg; have hcz8_0 : w7.cell? ⟨gb110, 0, none⟩ = some (.int .i64 a0_0) := (blk_cell BK110.out 0).trans rfl; have hcz8_1 : w7.cell? ⟨gb110, 1, none⟩ = some (.int .i64 a0_1) := (blk_cell BK110.out 1).trans rfl; have hcz8_2 : w7.cell? ⟨gb110, 2, none⟩ = some (.int .i64 a0_2) := (blk_cell BK110.out 2).trans rfl; have hfz8_0 := blk_frozen BK110.out 0; have hfz8_1 := blk_frozen BK110.out 1; have hfz8_2 := blk_frozen BK110.out 2))
            go_ret
            exact ⟨by first | rfl | (simp [errW_none, errW_some] <;> rfl) | (simp [*, errW_none, errW_some] <;> rfl), by repeat (first | (with_reducible first | exact HB.out | apply below_alloc | apply pw_below_drewN | apply below_drew1 | refine below_set ?_ GE110.out) | exact HB.out)⟩
          · rw [if_neg c6] at H
            have c6b0 : decide (0 ≤ a0_2) = false := decide_eq_false c6
            clear c6
            obtain rfl := Option.some.inj H
            go_enter Try.func49, Try.ntmps49
            go_wp2_with (first | ((with_reducible refine gate_dst (N := 1) rfl ?_); refine box_event ?hg (N := 1) ?hd (cs := #[.int .i64 a0_0, .int .i64 a0_1, .int .i64 a0_2]) (t := 88) ?hr ?_; (case hd => rfl); (case hg => rfl); (case hr => first | (go_simp; done) | (go_simp; rfl)); intro gb110 hg w9 hbox hb; have n0_ := Aside0.mk (below_step (by repeat (first | (with_reducible first | exact HB.out | apply below_alloc | apply pw_below_drewN | apply below_drew1) | exact HB.out)) hb); have n1_ := Aside0.mk (hbox); have n2_ := Aside0.mk ((by rw [hg]; exact (below_size (by repeat (first | (with_reducible first | exact HB.out | apply below_alloc | apply pw_below_drewN | apply below_drew1) | exact HB.out))) : w.heap.size ≤ gb110)); have n3_ := Aside0.mk ((by rw [hg]; exact (below_size (by repeat (first | (with_reducible first | exact HB.out | apply below_alloc | apply pw_below_drewN | apply below_drew1) | exact HB.out))) : w.heap.size ≤ gb110)); clear HB; have HB := n0_; have BK110 := n1_; have GW110 := n2_; have GE110 := n3_; clear n0_ n1_ n2_ n3_; clear hb hbox hg; have hcz10_0 : w9.cell? ⟨gb110, 0, none⟩ = some (.int .i64 a0_0) := (blk_cell BK110.out 0).trans rfl; have hcz10_1 : w9.cell? ⟨gb110, 1, none⟩ = some (.int .i64 a0_1) := (blk_cell BK110.out 1).trans rfl; have hcz10_2 : w9.cell? ⟨gb110, 2, none⟩ = some (.int .i64 a0_2) := (blk_cell BK110.out 2).trans rfl; have hfz10_0 := blk_frozen BK110.out 0; have hfz10_1 := blk_frozen BK110.out 1; have hfz10_2 := blk_frozen BK110.out 2))
            go_ret
            exact ⟨by first | rfl | (simp [errW_none, errW_some] <;> rfl) | (simp [*, errW_none, errW_some] <;> rfl), by repeat (first | (with_reducible first | exact HB.out | apply below_alloc | apply pw_below_drewN | apply below_drew1 | refine below_set ?_ GE110.out) | exact HB.out)⟩
        · rw [if_neg c5] at H
          have c5b0 : decide (a0_1 ≤ 15) = false := decide_eq_false c5
          clear c5
          obtain rfl := Option.some.inj H
          go_enter Try.func49, Try.ntmps49
          go_wp2_with (first | ((with_reducible refine gate_dst (N := 1) rfl ?_); refine box_event ?hg (N := 1) ?hd (cs := #[.int .i64 a0_0, .int .i64 a0_1, .int .i64 a0_2]) (t := 88) ?hr ?_; (case hd => rfl); (case hg => rfl); (case hr => first | (go_simp; done) | (go_simp; rfl)); intro gb110 hg w11 hbox hb; have n0_ := Aside0.mk (below_step (by repeat (first | (with_reducible first | exact HB.out | apply below_alloc | apply pw_below_drewN | apply below_drew1) | exact HB.out)) hb); have n1_ := Aside0.mk (hbox); have n2_ := Aside0.mk ((by rw [hg]; exact (below_size (by repeat (first | (with_reducible first | exact HB.out | apply below_alloc | apply pw_below_drewN | apply below_drew1) | exact HB.out))) : w.heap.size ≤ gb110)); have n3_ := Aside0.mk ((by rw [hg]; exact (below_size (by repeat (first | (with_reducible first | exact HB.out | apply below_alloc | apply pw_below_drewN | apply below_drew1) | exact HB.out))) : w.heap.size ≤ gb110)); clear HB; have HB := n0_; have BK110 := n1_; have GW110 := n2_; have GE110 := n3_; clear n0_ n1_ n2_ n3_; clear hb hbox hg; have hcz12_0 : w11.cell? ⟨gb110, 0, none⟩ = some (.int .i64 a0_0) := (blk_cell BK110.out 0).trans rfl; have hcz12_1 : w11.cell? ⟨gb110, 1, none⟩ = some (.int .i64 a0_1) := (blk_cell BK110.out 1).trans rfl; have hcz12_2 : w11.cell? ⟨gb110, 2, none⟩ = some (.int .i64 a0_2) := (blk_cell BK110.out 2).trans rfl; have hfz12_0 := blk_frozen BK110.out 0; have hfz12_1 := blk_frozen BK110.out 1; have hfz12_2 := blk_frozen BK110.out 2))
          go_ret
          exact ⟨by first | rfl | (simp [errW_none, errW_some] <;> rfl) | (simp [*, errW_none, errW_some] <;> rfl), by repeat (first | (with_reducible first | exact HB.out | apply below_alloc | apply pw_below_drewN | apply below_drew1 | refine below_set ?_ GE110.out) | exact HB.out)⟩
      · rw [if_neg c4] at H
        have c4b0 : decide (0 ≤ a0_1) = false := decide_eq_false c4
        clear c4
        obtain rfl := Option.some.inj H
        go_enter Try.func49, Try.ntmps49
        go_wp2_with (first | ((with_reducible refine gate_dst (N := 1) rfl ?_); refine box_event ?hg (N := 1) ?hd (cs := #[.int .i64 a0_0, .int .i64 a0_1, .int .i64 a0_2]) (t := 88) ?hr ?_; (case hd => rfl); (case hg => rfl); (case hr => first | (go_simp; done) | (go_simp; rfl)); intro gb110 hg w13 hbox hb; have n0_ := Aside0.mk (below_step (by repeat (first | (with_reducible first | exact HB.out | apply below_alloc | apply pw_below_drewN | apply below_drew1) | exact HB.out)) hb); have n1_ := Aside0.mk (hbox); have n2_ := Aside0.mk ((by rw [hg]; exact (below_size (by repeat (first | (with_reducible first | exact HB.out | apply below_alloc | apply pw_below_drewN | apply below_drew1) | exact HB.out))) : w.heap.size ≤ gb110)); have n3_ := Aside0.mk ((by rw [hg]; exact (below_size (by repeat (first | (with_reducible first | exact HB.out | apply below_alloc | apply pw_below_drewN | apply below_drew1) | exact HB.out))) : w.heap.size ≤ gb110)); clear HB; have HB := n0_; have BK110 := n1_; have GW110 := n2_; have GE110 := n3_; clear n0_ n1_ n2_ n3_; clear hb hbox hg; have hcz14_0 : w13.cell? ⟨gb110, 0, none⟩ = some (.int .i64 a0_0) := (blk_cell BK110.out 0).trans rfl; have hcz14_1 : w13.cell? ⟨gb110, 1, none⟩ = some (.int .i64 a0_1) := (blk_cell BK110.out 1).trans rfl; have hcz14_2 : w13.cell? ⟨gb110, 2, none⟩ = some (.int .i64 a0_2) := (blk_cell BK110.out 2).trans rfl; have hfz14_0 := blk_frozen BK110.out 0; have hfz14_1 := blk_frozen BK110.out 1; have hfz14_2 := blk_frozen BK110.out 2))
        go_ret
        exact ⟨by first | rfl | (simp [errW_none, errW_some] <;> rfl) | (simp [*, errW_none, errW_some] <;> rfl), by repeat (first | (with_reducible first | exact HB.out | apply below_alloc | apply pw_below_drewN | apply below_drew1 | refine below_set ?_ GE110.out) | exact HB.out)⟩
    · rw [if_neg c3] at H
      have c3b0 : decide (a0_0 < 50) = false := decide_eq_false c3
      clear c3
      obtain rfl := Option.some.inj H
      go_enter Try.func49, Try.ntmps49
      go_wp2_with (first | ((with_reducible refine gate_dst (N := 1) rfl ?_); refine box_event ?hg (N := 1) ?hd (cs := #[.int .i64 a0_0, .int .i64 a0_1, .int .i64 a0_2]) (t := 88) ?hr ?_; (case hd => rfl); (case hg => rfl); (case hr => first | (go_simp; done) | (go_simp; rfl)); intro gb110 hg w15 hbox hb; have n0_ := Aside0.mk (below_step (by repeat (first | (with_reducible first | exact HB.out | apply below_alloc | apply pw_below_drewN | apply below_drew1) | exact HB.out)) hb); have n1_ := Aside0.mk (hbox); have n2_ := Aside0.mk ((by rw [hg]; exact (below_size (by repeat (first | (with_reducible first | exact HB.out | apply below_alloc | apply pw_below_drewN | apply below_drew1) | exact HB.out))) : w.heap.size ≤ gb110)); have n3_ := Aside0.mk ((by rw [hg]; exact (below_size (by repeat (first | (with_reducible first | exact HB.out | apply below_alloc | apply pw_below_drewN | apply below_drew1) | exact HB.out))) : w.heap.size ≤ gb110)); clear HB; have HB := n0_; have BK110 := n1_; have GW110 := n2_; have GE110 := n3_; clear n0_ n1_ n2_ n3_; clear hb hbox hg; have hcz16_0 : w15.cell? ⟨gb110, 0, none⟩ = some (.int .i64 a0_0) := (blk_cell BK110.out 0).trans rfl; have hcz16_1 : w15.cell? ⟨gb110, 1, none⟩ = some (.int .i64 a0_1) := (blk_cell BK110.out 1).trans rfl; have hcz16_2 : w15.cell? ⟨gb110, 2, none⟩ = some (.int .i64 a0_2) := (blk_cell BK110.out 2).trans rfl; have hfz16_0 := blk_frozen BK110.out 0; have hfz16_1 := blk_frozen BK110.out 1; have hfz16_2 := blk_frozen BK110.out 2))
      go_ret
      exact ⟨by first | rfl | (simp [errW_none, errW_some] <;> rfl) | (simp [*, errW_none, errW_some] <;> rfl), by repeat (first | (with_reducible first | exact HB.out | apply below_alloc | apply pw_below_drewN | apply below_drew1 | refine below_set ?_ GE110.out) | exact HB.out)⟩
  · rw [if_neg c2] at H
    have c2b0 : decide (0 ≤ a0_0) = false := decide_eq_false c2
    clear c2
    obtain rfl := Option.some.inj H
    go_enter Try.func49, Try.ntmps49
    go_wp2_with (first | ((with_reducible refine gate_dst (N := 1) rfl ?_); refine box_event ?hg (N := 1) ?hd (cs := #[.int .i64 a0_0, .int .i64 a0_1, .int .i64 a0_2]) (t := 88) ?hr ?_; (case hd => rfl); (case hg => rfl); (case hr => first | (go_simp; done) | (go_simp; rfl)); intro gb110 hg w17 hbox hb; have n0_ := Aside0.mk (below_step (by repeat (first | (with_reducible first | exact HB.out | apply below_alloc | apply pw_below_drewN | apply below_drew1) | exact HB.out)) hb); have n1_ := Aside0.mk (hbox); have n2_ := Aside0.mk ((by rw [hg]; exact (below_size (by repeat (first | (with_reducible first | exact HB.out | apply below_alloc | apply pw_below_drewN | apply below_drew1) | exact HB.out))) : w.heap.size ≤ gb110)); have n3_ := Aside0.mk ((by rw [hg]; exact (below_size (by repeat (first | (with_reducible first | exact HB.out | apply below_alloc | apply pw_below_drewN | apply below_drew1) | exact HB.out))) : w.heap.size ≤ gb110)); clear HB; have HB := n0_; have BK110 := n1_; have GW110 := n2_; have GE110 := n3_; clear n0_ n1_ n2_ n3_; clear hb hbox hg; have hcz18_0 : w17.cell? ⟨gb110, 0, none⟩ = some (.int .i64 a0_0) := (blk_cell BK110.out 0).trans rfl; have hcz18_1 : w17.cell? ⟨gb110, 1, none⟩ = some (.int .i64 a0_1) := (blk_cell BK110.out 1).trans rfl; have hcz18_2 : w17.cell? ⟨gb110, 2, none⟩ = some (.int .i64 a0_2) := (blk_cell BK110.out 2).trans rfl; have hfz18_0 := blk_frozen BK110.out 0; have hfz18_1 := blk_frozen BK110.out 1; have hfz18_2 := blk_frozen BK110.out 2))
    go_ret
    exact ⟨by first | rfl | (simp [errW_none, errW_some] <;> rfl) | (simp [*, errW_none, errW_some] <;> rfl), by repeat (first | (with_reducible first | exact HB.out | apply below_alloc | apply pw_below_drewN | apply below_drew1 | refine below_set ?_ GE110.out) | exact HB.out)⟩

/-! ### oracle_of: function 80 -/
def oracle_of.f (a0_0 : Int) (a0_1 : Int) (a0_2 : Int) (a0_3 : Int) : Option (Int × Int × Int) := some (a0_0, a0_1, a0_2)
set_option maxHeartbeats 8000000 in
set_option maxRecDepth 100000 in
theorem oracle_of.calls (a0_0 : Int) (a0_1 : Int) (a0_2 : Int) (a0_3 : Int) (r1 : Int) (r2 : Int) (r3 : Int) (w : World) (h : oracle_of.f a0_0 a0_1 a0_2 a0_3 = some (r1, r2, r3)) :
    Calls Try.prog 80 #[.agg #[.int .i64 a0_0, .int .i64 a0_1, .int .i64 a0_2, .int .i64 a0_3]] w fun e w' => e = .returned (.agg #[.int .i64 r1, .int .i64 r2, .int .i64 r3]) ∧ Below w.heap.size w w' := by
  have hu83 := Try.underlying83
  have hu88 := Try.underlying88
  have HB := Aside0.mk (Below.refl w.heap.size w)
  have H : (some (a0_0, a0_1, a0_2)) = some (r1, r2, r3) := h
  clear h
  simp only [Option.some.injEq, Prod.mk.injEq] at H
  obtain ⟨rfl, rfl, rfl⟩ := H
  go_enter Try.func80, Try.ntmps80
  go_wp2_with (first | ((with_reducible refine gate_dst (N := 1) rfl ?_); refine box_event ?hg (N := 1) ?hd (cs := #[.int .i64 a0_0, .int .i64 a0_1, .int .i64 a0_2, .int .i64 a0_3]) (t := 83) ?hr ?_; (case hd => rfl); (case hg => rfl); (case hr => first | (go_simp; done) | (go_simp; rfl)); intro gb111 hg w2 hbox hb; have n0_ := Aside0.mk (below_step (by repeat (first | (with_reducible first | exact HB.out | apply below_alloc | apply pw_below_drewN | apply below_drew1) | exact HB.out)) hb); have n1_ := Aside0.mk (hbox); have n2_ := Aside0.mk ((by rw [hg]; exact (below_size (by repeat (first | (with_reducible first | exact HB.out | apply below_alloc | apply pw_below_drewN | apply below_drew1) | exact HB.out))) : w.heap.size ≤ gb111)); have n3_ := Aside0.mk ((by rw [hg]; exact (below_size (by repeat (first | (with_reducible first | exact HB.out | apply below_alloc | apply pw_below_drewN | apply below_drew1) | exact HB.out))) : w.heap.size ≤ gb111)); clear HB; have HB := n0_; have BK111 := n1_; have GW111 := n2_; have GE111 := n3_; clear n0_ n1_ n2_ n3_; clear hb hbox hg) | ((with_reducible refine gate_dst (N := 2) rfl ?_); refine box_event ?hg (N := 2) ?hd (cs := #[.int .i64 0, .int .i64 0, .int .i64 0]) (t := 88) ?hr ?_; (case hd => rfl); (case hg => rfl); (case hr => first | (go_simp; done) | (go_simp; rfl)); intro gb112 hg w3 hbox hb; have n0_ := Aside0.mk (blk_below (g := gb111) (o := .cells #[.int .i64 a0_0, .int .i64 a0_1, .int .i64 a0_2, .int .i64 a0_3] 83 (0, 0)) (by (with_reducible repeat (first | refine blk_drewN ?_ _ | refine blk_drew ?_ | refine blk_alloc ?_ _)); exact BK111.out) hb); have n1_ := Aside0.mk (below_step (by repeat (first | (with_reducible first | exact HB.out | apply below_alloc | apply pw_below_drewN | apply below_drew1 | refine below_set ?_ GE111.out) | exact HB.out)) hb); have n2_ := Aside0.mk (hbox); have n3_ := Aside0.mk ((by rw [hg]; exact (below_size (by repeat (first | (with_reducible first | exact HB.out | apply below_alloc | apply pw_below_drewN | apply below_drew1 | refine below_set ?_ GE111.out) | exact HB.out))) : w.heap.size ≤ gb112)); have n4_ := Aside0.mk ((by rw [hg]; exact (below_size (by repeat (first | (with_reducible first | exact HB.out | apply below_alloc | apply pw_below_drewN | apply below_drew1 | refine below_set ?_ GE111.out) | exact HB.out))) : w.heap.size ≤ gb112)); have n5_ := Aside0.mk ((by rw [hg]; exact Nat.ne_of_lt (blk_lt (g := gb111) (o := .cells #[.int .i64 a0_0, .int .i64 a0_1, .int .i64 a0_2, .int .i64 a0_3] 83 (0, 0)) (by (with_reducible repeat (first | refine blk_drewN ?_ _ | refine blk_drew ?_ | refine blk_alloc ?_ _)); exact BK111.out)) : gb111 ≠ gb112)); have n6_ := Aside0.mk ((by rw [hg]; exact Nat.ne_of_gt (blk_lt (g := gb111) (o := .cells #[.int .i64 a0_0, .int .i64 a0_1, .int .i64 a0_2, .int .i64 a0_3] 83 (0, 0)) (by (with_reducible repeat (first | refine blk_drewN ?_ _ | refine blk_drew ?_ | refine blk_alloc ?_ _)); exact BK111.out)) : gb112 ≠ gb111)); clear BK111; clear HB; have BK111 := n0_; have HB := n1_; have BK112 := n2_; have GW112 := n3_; have GE112 := n4_; have NB111_112 := n5_; have NB112_111 := n6_; clear n0_ n1_ n2_ n3_ n4_ n5_ n6_; clear hb hbox hg; have hnb4 := NB111_112.out; have hnc4 := NB112_111.out; have hcz5_0 : w3.cell? ⟨gb111, 0, none⟩ = some (.int .i64 a0_0) := (blk_cell BK111.out 0).trans rfl; have hcz5_1 : w3.cell? ⟨gb111, 1, none⟩ = some (.int .i64 a0_1) := (blk_cell BK111.out 1).trans rfl; have hcz5_2 : w3.cell? ⟨gb111, 2, none⟩ = some (.int .i64 a0_2) := (blk_cell BK111.out 2).trans rfl; have hcz5_3 : w3.cell? ⟨gb111, 3, none⟩ = some (.int .i64 a0_3) := (blk_cell BK111.out 3).trans rfl; have hfz5_0 := blk_frozen BK111.out 0; have hfz5_1 := blk_frozen BK111.out 1; have hfz5_2 := blk_frozen BK111.out 2; have hfz5_3 := blk_frozen BK111.out 3; have hcz6_0 : w3.cell? ⟨gb112, 0, none⟩ = some (.int .i64 0) := (blk_cell BK112.out 0).trans rfl; have hcz6_1 : w3.cell? ⟨gb112, 1, none⟩ = some (.int .i64 0) := (blk_cell BK112.out 1).trans rfl; have hcz6_2 : w3.cell? ⟨gb112, 2, none⟩ = some (.int .i64 0) := (blk_cell BK112.out 2).trans rfl; have hfz6_0 := blk_frozen BK112.out 0; have hfz6_1 := blk_frozen BK112.out 1; have hfz6_2 := blk_frozen BK112.out 2))
  refine bodyPost_ret (results_cell_row rfl _ _ gb112 88 #[.int .i64 a0_0, .int .i64 a0_1, .int .i64 a0_2] (0, 0) _ rfl (by (with_reducible repeat (first | refine blk_drewN ?_ _ | refine blk_drew ?_ | refine blk_alloc ?_ _)); refine blk_put (cs := #[.int .i64 a0_0, .int .i64 a0_1, .int .i64 0]) ?_ 2 _ rfl; (with_reducible repeat (first | refine blk_drewN ?_ _ | refine blk_drew ?_ | refine blk_alloc ?_ _)); refine blk_put (cs := #[.int .i64 a0_0, .int .i64 0, .int .i64 0]) ?_ 1 _ rfl; (with_reducible repeat (first | refine blk_drewN ?_ _ | refine blk_drew ?_ | refine blk_alloc ?_ _)); refine blk_put (cs := #[.int .i64 0, .int .i64 0, .int .i64 0]) ?_ 0 _ rfl; (with_reducible repeat (first | refine blk_drewN ?_ _ | refine blk_drew ?_ | refine blk_alloc ?_ _)); exact BK112.out) Try.underlying88 rfl (by kernel_rfl)) rfl ?_
  exact ⟨by first | rfl | (simp [errW_none, errW_some] <;> rfl) | (simp [*, errW_none, errW_some] <;> rfl), by repeat (first | (with_reducible first | exact HB.out | apply below_alloc | apply pw_below_drewN | apply below_drew1 | refine below_set ?_ GE111.out | refine below_set ?_ GE112.out) | exact HB.out)⟩

-- NOT PRINTED: function 46 (oracle_known)

-- NOT PRINTED: function 50 (api_Pair)

/-! ### oracle_known -/
theorem oracle_known.eqK (d : Nat) (w : World) (x0 y0 x1 y1 x2 y2 : Int) :
    (Op.equalIn (d + 2) 88 (.agg #[.int .i64 x0, .int .i64 x1, .int .i64 x2]) (.agg #[.int .i64 y0, .int .i64 y1, .int .i64 y2])).run Try.prog w = .ok (x0 == y0 && (x1 == y1 && (x2 == y2))) w := by
  refine eqA_of Try.underlying88 (by kernel_rfl) ?_
  refine eqf_cons (by rfl) (by go_simp; rfl) (by go_simp; rfl) (by go_simp) ?_
  refine eqf_cons (by rfl) (by go_simp; rfl) (by go_simp; rfl) (by go_simp) ?_
  exact eqf_last (by rfl) (by go_simp; rfl) (by go_simp; rfl) (by go_simp)
def oracle_known.key (p : S83) : Value := .agg #[.int .i64 p.f0, .int .i64 p.f1, .int .i64 p.f2]
def oracle_known.ents : Nat → List S83 → List MapEntry
  | _, [] => []
  | k, p :: ps => { key := oracle_known.key p, val := .int .i64 p.f3, born := k } :: oracle_known.ents (k + 1) ps
def oracle_known.has (a b c : Int) (p : S83) : Bool := a == p.f0 && (b == p.f1 && (c == p.f2))
def oracle_known.find (a b c : Int) : Nat → List S83 → Option (Nat × Int)
  | _, [] => none
  | i, p :: ps => if oracle_known.has a b c p = true then some (i, p.f3) else oracle_known.find a b c (i + 1) ps
theorem oracle_known.asking (a b c : Int) (w : World) : ∀ (ps : List S83) (k i : Nat), (Instr.findAsking 88 (.agg #[.int .i64 a, .int .i64 b, .int .i64 c]) (oracle_known.ents k ps) i).run Try.prog w = .ok ((oracle_known.find a b c i ps).map fun x => (x.1, Value.int .i64 x.2)) w
  | [], k, i => rfl
  | p :: ps, k, i => by
    have h : (Op.equal 88 (.agg #[.int .i64 a, .int .i64 b, .int .i64 c]) (.agg #[.int .i64 p.f0, .int .i64 p.f1, .int .i64 p.f2])).run Try.prog w = .ok (oracle_known.has a b c p) w := oracle_known.eqK 9998 w a p.f0 b p.f1 c p.f2
    have ih := oracle_known.asking a b c w ps (k + 1) (i + 1)
    simp only [oracle_known.ents, oracle_known.key, Instr.findAsking, oracle_known.find, Sem.run_bind]
    rw [h]
    simp only [Result.andThen]
    by_cases hh : oracle_known.has a b c p = true
    · rw [if_pos hh, if_pos hh]; rfl
    · rw [if_neg hh, if_neg hh]; exact ih
theorem oracle_known.check (a b c : Int) (em : Bool) (w : World) : (Instr.checkKey em 10000 88 (.agg #[.int .i64 a, .int .i64 b, .int .i64 c])).run Try.prog w = .ok () w := by
  have hu := Try.underlying88
  have hi : ∀ x : Int, (Instr.checkKey em (9998 + 1) 3 (.int .i64 x)).run Try.prog w = .ok () w := fun x => by
    rw [Instr.checkKey]
    simp only [Sem.run_bind]
    try go_simp
  rw [show (10000 : Nat) = 9998 + 1 + 1 from rfl, Instr.checkKey]
  simp only [Sem.run_bind]
  go_simp
theorem oracle_known.finds (a b c : Int) (w : World) (k : Nat) (ps : List S83) : (Instr.findKey 88 (.agg #[.int .i64 a, .int .i64 b, .int .i64 c]) (oracle_known.ents k ps)).run Try.prog w = .ok ((oracle_known.find a b c 0 ps).map fun x => (x.1, Value.int .i64 x.2)) w := by
  have hu := Try.underlying88
  have hz : (underlying 88).run Try.prog w = .ok _ w := run_underlying hu w
  unfold Instr.findKey
  simp only [Sem.run_bind]
  rw [hz]
  simp only [Result.andThen]
  cases ps with
  | nil => rfl
  | cons p ps =>
    simp only [oracle_known.ents, oracle_known.key, Instr.findNow, Instr.sameNow]
    exact oracle_known.asking a b c w (p :: ps) k 0
def oracle_known.looked (a b c : Int) (ps : List S83) : Int × Bool := match oracle_known.find a b c 0 ps with | some (_, v) => (v, true) | none => (0, false)
theorem oracle_known.lookup (a b c : Int) (w : World) (g k cl : Nat) (ps : List S83) (hg : w.heap[g]? = some (.map (oracle_known.ents k ps).toArray cl)) :
    (Instr.lookup 79 (.map (some g)) (.agg #[.int .i64 a, .int .i64 b, .int .i64 c]) true).run Try.prog w = .ok (.tuple #[.int .i64 (oracle_known.looked a b c ps).1, .bool (oracle_known.looked a b c ps).2]) w := by
  have hu := Try.underlying79
  have hz : (underlying 79).run Try.prog w = .ok _ w := run_underlying hu w
  unfold Instr.lookup
  simp only [Sem.run_bind]
  rw [hz]
  simp only [Result.andThen]
  go_simp
  rw [show (getObj g).run Try.prog w = .ok (.map (oracle_known.ents k ps).toArray cl) w by simp [getObj, Sem.run, hg]]
  simp only [Result.andThen, Sem.run_bind]
  rw [oracle_known.check]
  simp only [Result.andThen]
  rw [oracle_known.finds]
  simp only [Result.andThen]
  unfold oracle_known.looked
  cases h : oracle_known.find a b c 0 ps with
  | none =>
    simp only [Option.map_none]
    have hz : (zeroValue 3).run Try.prog w = .ok (.int .i64 0) w := by kernel_rfl
    go_simp
  | some x => obtain ⟨i, v⟩ := x; rfl
theorem oracle_known.update (a b c t : Int) (w : World) (g k cl : Nat) (ps : List S83) (hg : w.heap[g]? = some (.map (oracle_known.ents k ps).toArray cl)) (hn : oracle_known.find a b c 0 ps = none) :
    (Instr.mapUpdate 79 (.map (some g)) (.agg #[.int .i64 a, .int .i64 b, .int .i64 c]) (.int .i64 t)).run Try.prog w = .ok () (w.putObj g (.map ((oracle_known.ents k ps).toArray.push { key := .agg #[.int .i64 a, .int .i64 b, .int .i64 c], val := .int .i64 t, born := cl }) (cl + 1))) := by
  have hu := Try.underlying79
  have hz : (underlying 79).run Try.prog w = .ok _ w := run_underlying hu w
  unfold Instr.mapUpdate
  simp only [Sem.run_bind]
  rw [hz]
  simp only [Result.andThen]
  go_simp
  rw [show (getObj g).run Try.prog w = .ok (.map (oracle_known.ents k ps).toArray cl) w by simp [getObj, Sem.run, hg]]
  simp only [Result.andThen, Sem.run_bind]
  rw [oracle_known.check]
  simp only [Result.andThen]
  rw [oracle_known.finds, hn]
  simp only [Result.andThen, Option.map_none]
  simp [setObj, Sem.run, hg, World.putObj]
theorem oracle_known.below_put {B : Nat} {w W : World} (h : Below B w W) {g : Nat} (hg : B ≤ g) (o : Obj) : Below B w (W.putObj g o) :=
  h.trans ⟨rfl, rfl, rfl, by simp [World.putObj], fun k hk => World.putObj_heap_other (by omega)⟩
def oracle_known.pm (p : S83) : Bool := decide ((0 ≤ p.f0 ∧ p.f0 < 50) ∧ (0 ≤ p.f1 ∧ p.f1 ≤ 15) ∧ (0 ≤ p.f2 ∧ p.f2 ≤ 8796093022207))
def oracle_known.tag (p : S83) : Bool := decide (0 ≤ p.f3 ∧ p.f3 ≤ 65535)
def oracle_known.good (l : List S83) : Nat → Nat → Bool
  | 0, _ => true
  | d + 1, i => (oracle_known.find (rd_T83 l (i : Int)).f0 (rd_T83 l (i : Int)).f1 (rd_T83 l (i : Int)).f2 0 (l.take i)).isNone && (oracle_known.pm (rd_T83 l (i : Int)) && (oracle_known.tag (rd_T83 l (i : Int)) && oracle_known.good l d (i + 1)))
def oracle_known.ok (l : List S83) : Bool := decide (l.length ≤ 500) && oracle_known.good l l.length 0
theorem oracle_known.ents_snoc (p : S83) : ∀ (l : List S83) (k : Nat), oracle_known.ents k (l ++ [p]) = oracle_known.ents k l ++ [{ key := oracle_known.key p, val := .int .i64 p.f3, born := k + l.length }]
  | [], k => by simp [oracle_known.ents]
  | a :: l, k => by
    have ih := oracle_known.ents_snoc p l (k + 1)
    simp only [List.cons_append, oracle_known.ents, ih, List.length_cons]
    rw [show k + 1 + l.length = k + (l.length + 1) by omega]
theorem oracle_known.take_snoc (l : List S83) (i : Nat) (h : i < l.length) : l.take (i + 1) = l.take i ++ [rd_T83 l (i : Int)] := by
  rw [List.take_succ_eq_append_getElem h]
  unfold rd_T83
  rw [List.getD_eq_getElem?_getD, Int.toNat_natCast, List.getElem?_eq_getElem h]; rfl
theorem oracle_known.may (p : S83) : oracle_what_may.f p.f0 p.f1 p.f2 = some (oracle_known.pm p) := by
  unfold oracle_what_may.f oracle_known.pm
  repeat' split
  all_goals (simp only [Option.some.injEq]; first | (rw [decide_eq_decide]; omega) | (rw [eq_comm, decide_eq_false_iff_not]; omega))
def oracle_known.Post (w : World) (l : List S83) (b : Bool) (e : Ending) (w' : World) : Prop :=
  (b = false ∧ e = .returned (.tuple #[.map none, .bool false]) ∧ Below w.heap.size w w') ∨ (b = true ∧ ∃ g, e = .returned (.tuple #[.map (some g), .bool true]) ∧ w'.heap[g]? = some (.map (oracle_known.ents 0 l).toArray l.length) ∧ Below w.heap.size w w')
set_option maxHeartbeats 4000000 in
set_option maxRecDepth 100000 in
theorem oracle_known.calls (A0 : Option Addr) (c0 : Nat) (l : List S83) (w : World) (hr0 : Kd.C k83 w A0 l.length l) :
    Calls Try.prog 46 #[.agg #[.slice A0 l.length c0]] w (oracle_known.Post w l (oracle_known.ok l)) := by
  have hu24 := Try.underlying24
  have hu83 := Try.underlying83
  have hu88 := Try.underlying88
  have HR0 := Aside0.mk hr0
  clear hr0
  by_cases c1 : l.length ≤ 500
  · have HOK : Aside0 (oracle_known.ok l = oracle_known.good l l.length 0) := ⟨by unfold oracle_known.ok; rw [decide_eq_true c1, Bool.true_and]⟩
    have d1 : decide ((l.length : Int) > 500) = false := decide_eq_false (by omega)
    have hmm := @run_makeMap Try.prog
    go_enter Try.func46, Try.ntmps46
    go_wp2
    go_loopg [2, 3, 18] l.length (fun kq v2 v3 v18 w' => ∃ i : Nat, v18 = .int .i64 (i : Int) ∧ v2 = .map none ∧ v3 = .bool false ∧ i ≤ l.length ∧ kq = l.length - i ∧ Aside0 (oracle_known.ok l = oracle_known.good l (l.length - i) i) ∧ Aside0 (w'.heap[w.heap.size + 1]? = some (.map (oracle_known.ents 0 (l.take i)).toArray i)) ∧ Aside0 (Below w.heap.size w w'))
    case atStart =>
      refine ⟨0, rfl, rfl, rfl, Nat.zero_le _, rfl, HOK, ⟨?_⟩, ⟨?_⟩⟩
      · have := World.alloc_heap_new (w.alloc (.cells #[.slice A0 l.length c0] 24)) (.map #[] 0)
        rw [World.size_alloc] at this
        exact this
      · repeat (first | exact Below.refl _ _ | apply below_alloc)
    case round =>
      obtain ⟨i, rfl, rfl, rfl, hi, rfl, HG, HM, HBW⟩ := hrel
      clear HOK hmm
      by_cases hlt : i < l.length
      · have hltb : decide ((i : Int) < (l.length : Int)) = true := decide_eq_true (by omega)
        obtain ⟨ad, rfl, y0, y1, y2, y3⟩ := at_T83 (Kd.C_below HR0.out HBW.out) (i : Int) (by omega) (by omega)
        rw [Int.toNat_natCast] at y0 y1 y2 y3
        have HS := Aside0.mk (oracle_known.take_snoc l i hlt)
        have HG2 := HG.out
        rw [show l.length - i = (l.length - (i + 1)) + 1 by omega, oracle_known.good] at HG2
        obtain ⟨u, hu⟩ : ∃ u : S83, u = rd_T83 l (i : Int) := ⟨_, rfl⟩
        rw [← hu] at y0 y1 y2 y3 HG2
        rw [← hu] at HS
        clear hu
        have HG3 := Aside0.mk HG2
        clear HG2 HG
        have HLK := Aside0.mk (fun W (h : W.heap[w.heap.size + 1]? = some (.map (oracle_known.ents 0 (l.take i)).toArray i)) => oracle_known.lookup u.f0 u.f1 u.f2 W (w.heap.size + 1) 0 i (l.take i) h)
        cases hf : oracle_known.find u.f0 u.f1 u.f2 0 (l.take i) with
        | some x =>
          have HE : Aside0 (oracle_known.ok l = false) := ⟨by rw [HG3.out, hf]; rfl⟩
          have HLK : Aside0 (∀ W : World, W.heap[w.heap.size + 1]? = some (Obj.map (oracle_known.ents 0 (l.take i)).toArray i) → (Instr.lookup 79 (.map (some (w.heap.size + 1))) (.agg #[.int .i64 u.f0, .int .i64 u.f1, .int .i64 u.f2]) true).run Try.prog W = .ok (.tuple #[.int .i64 x.2, .bool true]) W) := ⟨by have := HLK.out; unfold oracle_known.looked at this; rw [hf] at this; exact this⟩
          clear HG3 hf
          go_wp2_with (go_at_call 80; refine (oracle_of.calls _ _ _ _ _ _ _ _ rfl).mono ?_; rintro e w1 ⟨rfl, hb1⟩; have HB1 := Aside0.mk (below_then (B := w.heap.size) (w := w) (by repeat (first | exact HBW.out | apply below_alloc)) (by have := HBW.out.size; simp; omega) hb1); have HM1 : Aside0 (w1.heap[w.heap.size + 1]? = some (.map (oracle_known.ents 0 (l.take i)).toArray i)) := ⟨(hb1.block _ (by have := blk_lt HM.out; simp; omega)).trans ((Below.heap_alloc _ _ _ (blk_lt HM.out)).trans HM.out)⟩; have HP1 : Aside0 (w1.heap[wr.heap.size]? = some (.cells #[.int .i64 u.f0, .int .i64 u.f1, .int .i64 u.f2, .int .i64 u.f3] 83 (0, 0))) := ⟨(hb1.block _ (by simp)).trans (World.alloc_heap_new wr _)⟩; have pc3 : ∀ o, (w1.alloc o).cell? ⟨wr.heap.size, 3, none⟩ = some (.int .i64 u.f3) := fun o => (blk_cell (blk_alloc HP1.out o) 3).trans rfl; have hlk := HLK.out (w1.alloc (.cells #[.int .i64 u.f0, .int .i64 u.f1, .int .i64 u.f2] 88)) (blk_alloc HM1.out _); clear hb1)
          go_ret2
          rw [HE.out]
          exact .inl ⟨rfl, rfl, by repeat (first | exact HB1.out | apply below_alloc)⟩
        | none =>
          have HF := Aside0.mk hf
          have HLK : Aside0 (∀ W : World, W.heap[w.heap.size + 1]? = some (Obj.map (oracle_known.ents 0 (l.take i)).toArray i) → (Instr.lookup 79 (.map (some (w.heap.size + 1))) (.agg #[.int .i64 u.f0, .int .i64 u.f1, .int .i64 u.f2]) true).run Try.prog W = .ok (.tuple #[.int .i64 0, .bool false]) W) := ⟨by have := HLK.out; unfold oracle_known.looked at this; rw [hf] at this; exact this⟩
          have HG4 : Aside0 (oracle_known.ok l = (oracle_known.pm u && (oracle_known.tag u && oracle_known.good l (l.length - (i + 1)) (i + 1)))) := ⟨by rw [HG3.out, hf]; rfl⟩
          clear HG3 hf
          cases hpm : oracle_known.pm u with
          | false =>
            have HE : Aside0 (oracle_known.ok l = false) := ⟨by rw [HG4.out, hpm]; rfl⟩
            have HMAY := Aside0.mk ((oracle_known.may u).trans (congrArg some hpm))
            clear HG4 hpm
            go_wp2_with (first | (go_at_call 80; refine (oracle_of.calls _ _ _ _ _ _ _ _ rfl).mono ?_; rintro e w1 ⟨rfl, hb1⟩; have HB1 := Aside0.mk (below_then (B := w.heap.size) (w := w) (by repeat (first | exact HBW.out | apply below_alloc)) (by have := HBW.out.size; simp; omega) hb1); have HM1 : Aside0 (w1.heap[w.heap.size + 1]? = some (.map (oracle_known.ents 0 (l.take i)).toArray i)) := ⟨(hb1.block _ (by have := blk_lt HM.out; simp; omega)).trans ((Below.heap_alloc _ _ _ (blk_lt HM.out)).trans HM.out)⟩; have HP1 : Aside0 (w1.heap[wr.heap.size]? = some (.cells #[.int .i64 u.f0, .int .i64 u.f1, .int .i64 u.f2, .int .i64 u.f3] 83 (0, 0))) := ⟨(hb1.block _ (by simp)).trans (World.alloc_heap_new wr _)⟩; have pc3 : ∀ o, (w1.alloc o).cell? ⟨wr.heap.size, 3, none⟩ = some (.int .i64 u.f3) := fun o => (blk_cell (blk_alloc HP1.out o) 3).trans rfl; have hlk := HLK.out (w1.alloc (.cells #[.int .i64 u.f0, .int .i64 u.f1, .int .i64 u.f2] 88)) (blk_alloc HM1.out _); clear hb1) | (go_at_call 49; refine (oracle_what_may.calls _ _ _ _ _ HMAY.out).mono ?_; rintro e w2 ⟨rfl, hb2⟩; have HB2 := Aside0.mk (below_then (B := w.heap.size) (w := w) (by repeat (first | exact HB1.out | apply below_alloc)) (by have := HB1.out.size; simp; omega) hb2); have HM2 : Aside0 (w2.heap[w.heap.size + 1]? = some (.map (oracle_known.ents 0 (l.take i)).toArray i)) := ⟨(hb2.block _ (by have := blk_lt HM1.out; simp; omega)).trans ((Below.heap_alloc _ _ _ (blk_lt HM1.out)).trans HM1.out)⟩; have HP2 : Aside0 (w2.heap[wr.heap.size]? = some (.cells #[.int .i64 u.f0, .int .i64 u.f1, .int .i64 u.f2, .int .i64 u.f3] 83 (0, 0))) := ⟨(hb2.block _ (by have := blk_lt HP1.out; simp; omega)).trans ((Below.heap_alloc _ _ _ (blk_lt HP1.out)).trans HP1.out)⟩; have HK2 : Aside0 (w2.heap[w1.heap.size]? = some (.cells #[.int .i64 u.f0, .int .i64 u.f1, .int .i64 u.f2] 88 (0, 0))) := ⟨(hb2.block _ (by simp)).trans (World.alloc_heap_new w1 _)⟩; have pc3 := (blk_cell HP2.out 3).trans rfl; have kc0 := (blk_cell HK2.out 0).trans rfl; have kc1 := (blk_cell HK2.out 1).trans rfl; have kc2 := (blk_cell HK2.out 2).trans rfl; clear hb2))
            go_ret2
            rw [HE.out]
            exact .inl ⟨rfl, rfl, HB2.out⟩
          | true =>
            have HMAY := Aside0.mk ((oracle_known.may u).trans (congrArg some hpm))
            have HG5 : Aside0 (oracle_known.ok l = (oracle_known.tag u && oracle_known.good l (l.length - (i + 1)) (i + 1))) := ⟨by rw [HG4.out, hpm]; rfl⟩
            clear HG4 hpm
            by_cases h0 : u.f3 < 0
            · have HE : Aside0 (oracle_known.ok l = false) := ⟨by rw [HG5.out, show oracle_known.tag u = false from decide_eq_false (by omega)]; rfl⟩
              have q0 : decide (u.f3 < 0) = true := decide_eq_true h0
              clear HG5 h0
              go_wp2_with (first | (go_at_call 80; refine (oracle_of.calls _ _ _ _ _ _ _ _ rfl).mono ?_; rintro e w1 ⟨rfl, hb1⟩; have HB1 := Aside0.mk (below_then (B := w.heap.size) (w := w) (by repeat (first | exact HBW.out | apply below_alloc)) (by have := HBW.out.size; simp; omega) hb1); have HM1 : Aside0 (w1.heap[w.heap.size + 1]? = some (.map (oracle_known.ents 0 (l.take i)).toArray i)) := ⟨(hb1.block _ (by have := blk_lt HM.out; simp; omega)).trans ((Below.heap_alloc _ _ _ (blk_lt HM.out)).trans HM.out)⟩; have HP1 : Aside0 (w1.heap[wr.heap.size]? = some (.cells #[.int .i64 u.f0, .int .i64 u.f1, .int .i64 u.f2, .int .i64 u.f3] 83 (0, 0))) := ⟨(hb1.block _ (by simp)).trans (World.alloc_heap_new wr _)⟩; have pc3 : ∀ o, (w1.alloc o).cell? ⟨wr.heap.size, 3, none⟩ = some (.int .i64 u.f3) := fun o => (blk_cell (blk_alloc HP1.out o) 3).trans rfl; have hlk := HLK.out (w1.alloc (.cells #[.int .i64 u.f0, .int .i64 u.f1, .int .i64 u.f2] 88)) (blk_alloc HM1.out _); clear hb1) | (go_at_call 49; refine (oracle_what_may.calls _ _ _ _ _ HMAY.out).mono ?_; rintro e w2 ⟨rfl, hb2⟩; have HB2 := Aside0.mk (below_then (B := w.heap.size) (w := w) (by repeat (first | exact HB1.out | apply below_alloc)) (by have := HB1.out.size; simp; omega) hb2); have HM2 : Aside0 (w2.heap[w.heap.size + 1]? = some (.map (oracle_known.ents 0 (l.take i)).toArray i)) := ⟨(hb2.block _ (by have := blk_lt HM1.out; simp; omega)).trans ((Below.heap_alloc _ _ _ (blk_lt HM1.out)).trans HM1.out)⟩; have HP2 : Aside0 (w2.heap[wr.heap.size]? = some (.cells #[.int .i64 u.f0, .int .i64 u.f1, .int .i64 u.f2, .int .i64 u.f3] 83 (0, 0))) := ⟨(hb2.block _ (by have := blk_lt HP1.out; simp; omega)).trans ((Below.heap_alloc _ _ _ (blk_lt HP1.out)).trans HP1.out)⟩; have HK2 : Aside0 (w2.heap[w1.heap.size]? = some (.cells #[.int .i64 u.f0, .int .i64 u.f1, .int .i64 u.f2] 88 (0, 0))) := ⟨(hb2.block _ (by simp)).trans (World.alloc_heap_new w1 _)⟩; have pc3 := (blk_cell HP2.out 3).trans rfl; have kc0 := (blk_cell HK2.out 0).trans rfl; have kc1 := (blk_cell HK2.out 1).trans rfl; have kc2 := (blk_cell HK2.out 2).trans rfl; clear hb2))
              go_ret2
              rw [HE.out]
              exact .inl ⟨rfl, rfl, HB2.out⟩
            · have q0 : decide (u.f3 < 0) = false := decide_eq_false h0
              by_cases h1 : u.f3 > 65535
              · have HE : Aside0 (oracle_known.ok l = false) := ⟨by rw [HG5.out, show oracle_known.tag u = false from decide_eq_false (by omega)]; rfl⟩
                have q1 : decide (u.f3 > 65535) = true := decide_eq_true h1
                clear HG5 h0 h1
                go_wp2_with (first | (go_at_call 80; refine (oracle_of.calls _ _ _ _ _ _ _ _ rfl).mono ?_; rintro e w1 ⟨rfl, hb1⟩; have HB1 := Aside0.mk (below_then (B := w.heap.size) (w := w) (by repeat (first | exact HBW.out | apply below_alloc)) (by have := HBW.out.size; simp; omega) hb1); have HM1 : Aside0 (w1.heap[w.heap.size + 1]? = some (.map (oracle_known.ents 0 (l.take i)).toArray i)) := ⟨(hb1.block _ (by have := blk_lt HM.out; simp; omega)).trans ((Below.heap_alloc _ _ _ (blk_lt HM.out)).trans HM.out)⟩; have HP1 : Aside0 (w1.heap[wr.heap.size]? = some (.cells #[.int .i64 u.f0, .int .i64 u.f1, .int .i64 u.f2, .int .i64 u.f3] 83 (0, 0))) := ⟨(hb1.block _ (by simp)).trans (World.alloc_heap_new wr _)⟩; have pc3 : ∀ o, (w1.alloc o).cell? ⟨wr.heap.size, 3, none⟩ = some (.int .i64 u.f3) := fun o => (blk_cell (blk_alloc HP1.out o) 3).trans rfl; have hlk := HLK.out (w1.alloc (.cells #[.int .i64 u.f0, .int .i64 u.f1, .int .i64 u.f2] 88)) (blk_alloc HM1.out _); clear hb1) | (go_at_call 49; refine (oracle_what_may.calls _ _ _ _ _ HMAY.out).mono ?_; rintro e w2 ⟨rfl, hb2⟩; have HB2 := Aside0.mk (below_then (B := w.heap.size) (w := w) (by repeat (first | exact HB1.out | apply below_alloc)) (by have := HB1.out.size; simp; omega) hb2); have HM2 : Aside0 (w2.heap[w.heap.size + 1]? = some (.map (oracle_known.ents 0 (l.take i)).toArray i)) := ⟨(hb2.block _ (by have := blk_lt HM1.out; simp; omega)).trans ((Below.heap_alloc _ _ _ (blk_lt HM1.out)).trans HM1.out)⟩; have HP2 : Aside0 (w2.heap[wr.heap.size]? = some (.cells #[.int .i64 u.f0, .int .i64 u.f1, .int .i64 u.f2, .int .i64 u.f3] 83 (0, 0))) := ⟨(hb2.block _ (by have := blk_lt HP1.out; simp; omega)).trans ((Below.heap_alloc _ _ _ (blk_lt HP1.out)).trans HP1.out)⟩; have HK2 : Aside0 (w2.heap[w1.heap.size]? = some (.cells #[.int .i64 u.f0, .int .i64 u.f1, .int .i64 u.f2] 88 (0, 0))) := ⟨(hb2.block _ (by simp)).trans (World.alloc_heap_new w1 _)⟩; have pc3 := (blk_cell HP2.out 3).trans rfl; have kc0 := (blk_cell HK2.out 0).trans rfl; have kc1 := (blk_cell HK2.out 1).trans rfl; have kc2 := (blk_cell HK2.out 2).trans rfl; clear hb2))
                go_ret2
                rw [HE.out]
                exact .inl ⟨rfl, rfl, HB2.out⟩
              · have q1 : decide (u.f3 > 65535) = false := decide_eq_false h1
                have HE : Aside0 (oracle_known.ok l = oracle_known.good l (l.length - (i + 1)) (i + 1)) := ⟨by rw [HG5.out, show oracle_known.tag u = true from decide_eq_true (by omega)]; rfl⟩
                clear HG5 h0 h1
                go_wp2_with (first | (go_at_call 80; refine (oracle_of.calls _ _ _ _ _ _ _ _ rfl).mono ?_; rintro e w1 ⟨rfl, hb1⟩; have HB1 := Aside0.mk (below_then (B := w.heap.size) (w := w) (by repeat (first | exact HBW.out | apply below_alloc)) (by have := HBW.out.size; simp; omega) hb1); have HM1 : Aside0 (w1.heap[w.heap.size + 1]? = some (.map (oracle_known.ents 0 (l.take i)).toArray i)) := ⟨(hb1.block _ (by have := blk_lt HM.out; simp; omega)).trans ((Below.heap_alloc _ _ _ (blk_lt HM.out)).trans HM.out)⟩; have HP1 : Aside0 (w1.heap[wr.heap.size]? = some (.cells #[.int .i64 u.f0, .int .i64 u.f1, .int .i64 u.f2, .int .i64 u.f3] 83 (0, 0))) := ⟨(hb1.block _ (by simp)).trans (World.alloc_heap_new wr _)⟩; have pc3 : ∀ o, (w1.alloc o).cell? ⟨wr.heap.size, 3, none⟩ = some (.int .i64 u.f3) := fun o => (blk_cell (blk_alloc HP1.out o) 3).trans rfl; have hlk := HLK.out (w1.alloc (.cells #[.int .i64 u.f0, .int .i64 u.f1, .int .i64 u.f2] 88)) (blk_alloc HM1.out _); clear hb1) | (go_at_call 49; refine (oracle_what_may.calls _ _ _ _ _ HMAY.out).mono ?_; rintro e w2 ⟨rfl, hb2⟩; have HB2 := Aside0.mk (below_then (B := w.heap.size) (w := w) (by repeat (first | exact HB1.out | apply below_alloc)) (by have := HB1.out.size; simp; omega) hb2); have HM2 : Aside0 (w2.heap[w.heap.size + 1]? = some (.map (oracle_known.ents 0 (l.take i)).toArray i)) := ⟨(hb2.block _ (by have := blk_lt HM1.out; simp; omega)).trans ((Below.heap_alloc _ _ _ (blk_lt HM1.out)).trans HM1.out)⟩; have HP2 : Aside0 (w2.heap[wr.heap.size]? = some (.cells #[.int .i64 u.f0, .int .i64 u.f1, .int .i64 u.f2, .int .i64 u.f3] 83 (0, 0))) := ⟨(hb2.block _ (by have := blk_lt HP1.out; simp; omega)).trans ((Below.heap_alloc _ _ _ (blk_lt HP1.out)).trans HP1.out)⟩; have HK2 : Aside0 (w2.heap[w1.heap.size]? = some (.cells #[.int .i64 u.f0, .int .i64 u.f1, .int .i64 u.f2] 88 (0, 0))) := ⟨(hb2.block _ (by simp)).trans (World.alloc_heap_new w1 _)⟩; have pc3 := (blk_cell HP2.out 3).trans rfl; have kc0 := (blk_cell HK2.out 0).trans rfl; have kc1 := (blk_cell HK2.out 1).trans rfl; have kc2 := (blk_cell HK2.out 2).trans rfl; have hup := oracle_known.update u.f0 u.f1 u.f2 u.f3 w2 (w.heap.size + 1) 0 i (l.take i) HM2.out HF.out; clear hb2))
                go_roundg (l.length - (i + 1))
                case measure => omega
                case rel =>
                  refine ⟨i + 1, by first | rfl | go_num, rfl, rfl, hlt, rfl, HE, ⟨?_⟩, ⟨oracle_known.below_put HB2.out (Nat.le_succ _) _⟩⟩
                  rw [World.putObj_heap_same (blk_lt HM2.out), HS.out, oracle_known.ents_snoc, Nat.zero_add, List.length_take, Nat.min_eq_left hi]
                  rfl
      · have hltb : decide ((i : Int) < (l.length : Int)) = false := decide_eq_false (by omega)
        have HE : Aside0 (oracle_known.ok l = true) := ⟨by rw [HG.out, show l.length - i = 0 by omega]; rfl⟩
        have HM2 : Aside0 (wr.heap[w.heap.size + 1]? = some (.map (oracle_known.ents 0 l).toArray l.length)) := ⟨by have := HM.out; rw [List.take_of_length_le (by omega), show i = l.length by omega] at this; exact this⟩
        go_wp2
        go_ret2
        rw [HE.out]
        exact .inr ⟨rfl, _, rfl, HM2.out, HBW.out⟩
  · have HE : Aside0 (oracle_known.ok l = false) := ⟨by unfold oracle_known.ok; rw [decide_eq_false c1, Bool.false_and]⟩
    have d1 : decide ((l.length : Int) > 500) = true := decide_eq_true (by omega)
    go_enter Try.func46, Try.ntmps46
    go_wp2
    go_ret2
    rw [HE.out]
    exact .inl ⟨rfl, rfl, below_alloc (Below.refl _ _) _⟩
theorem oracle_known.no {l : List S83} (hok : oracle_known.ok l = false) (A0 : Option Addr) (c0 : Nat) (w : World) (hr0 : Kd.C k83 w A0 l.length l) :
    Calls Try.prog 46 #[.agg #[.slice A0 l.length c0]] w fun e w' => e = .returned (.tuple #[.map none, .bool false]) ∧ Below w.heap.size w w' :=
  (oracle_known.calls A0 c0 l w hr0).mono fun e w' h => by
    rcases h with ⟨_, h1, h2⟩ | ⟨h1, _⟩
    · exact ⟨h1, h2⟩
    · rw [hok] at h1; cases h1
theorem oracle_known.yes {l : List S83} (hok : oracle_known.ok l = true) (A0 : Option Addr) (c0 : Nat) (w : World) (hr0 : Kd.C k83 w A0 l.length l) :
    Calls Try.prog 46 #[.agg #[.slice A0 l.length c0]] w fun e w' => ∃ g, e = .returned (.tuple #[.map (some g), .bool true]) ∧ w'.heap[g]? = some (.map (oracle_known.ents 0 l).toArray l.length) ∧ Below w.heap.size w w' :=
  (oracle_known.calls A0 c0 l w hr0).mono fun e w' h => by
    rcases h with ⟨h1, _⟩ | ⟨_, g, h1, h2, h3⟩
    · rw [hok] at h1; cases h1
    · exact ⟨g, h1, h2, h3⟩

/-! ### oracle_Issue -/
/-! ### oracle_Issue -/
set_option maxHeartbeats 2000000 in
set_option maxRecDepth 100000 in
theorem oracle_Issue.clone (A0 : Option Addr) (c0 : Nat) (l : List S83) (w : World) (hr0 : Kd.C k83 w A0 l.length l) (hc0 : l.length ≤ c0) (hl : l.length ≤ 1000) :
    Calls Try.prog 50 #[.slice A0 l.length c0] w fun e w' => ∃ v : Value, e = .returned v ∧ Kd.R k83 83 w' w.heap.size (fun _ => True) v l ∧ Below w.heap.size w w' := by
  have hu83 := Try.underlying83
  have HR0 := Aside0.mk hr0
  clear hr0
  cases A0 with
  | none =>
    have h0 : l.length = 0 := by
      rcases Nat.eq_zero_or_pos l.length with h | h
      · exact h
      · obtain ⟨ad, _, e, _⟩ := Kd.C_get HR0.out z83 0 (by omega) (by omega)
        cases e
    have hnil : ∀ w, (binOp .eql 22 (.slice none l.length c0) (.slice none 0 0)).run Try.prog w = .ok (.bool true) w := fun w => Lib.run_eql_slice_nil w 22 83 _ _ _ 0 0 Try.underlying22
    have H0 := Aside0.mk h0
    clear h0
    go_enter Try.func50, Try.ntmps50
    go_wp2
    go_ret
    refine ⟨_, rfl, ?_, Below.refl _ _⟩
    obtain rfl : l = [] := List.length_eq_zero_iff.mp H0.out
    exact Kd.R_nil _ _ _ _ _
  | some ad =>
    have hnil : ∀ w, (binOp .eql 22 (.slice (some ad) l.length c0) (.slice none 0 0)).run Try.prog w = .ok (.bool false) w := fun w => Lib.run_eql_slice_nil w 22 83 _ _ _ 0 0 Try.underlying22
    go_enter Try.func50, Try.ntmps50
    go_wp2_with ((with_reducible refine gate_builtin (b := .append) (xs := #[.tmp 5, .tmp 6]) rfl ?_); at_builtin; refine Kd.R_append_rows k83 (w0 := w) w.heap.size rfl (.tmp 5) (.tmp 6) 22 83 (.agg #[(.int .i64 0), (.int .i64 0), (.int .i64 0), (.int .i64 0)]) 32 rfl Try.underlying22 info83 rfl (by decide) (by omega) (.slice (some ⟨w.heap.size, 0, none⟩) 0 0) ([] : List (S83)) l _ _ _ (fun _ => True) (fun _ => False) rfl rfl ?aO ?aR (fun _ _ h => h) (fun _ h => h.elim) ?aF ?aB ?aS ?aL ?_; (case aR => exact Kd.C_alloc HR0.out _); (case aB => exact below_alloc (Below.refl _ _) _); (case aF => exact (fun _ _ => trivial)); (case aO => exact ⟨fun _ _ => trivial, [], ⟨rfl, .inr ⟨w.heap.size, 0, #[], rfl, Nat.le_refl _, World.alloc_heap_new w _, Nat.le_refl _, Nat.zero_le _, rfl, rfl⟩⟩, Reps.none _ _⟩); (case aS => simp); (case aL => simp; omega); intro v2 w2 ho hb hg hat; have HB2 := Aside0.mk hb; have HO2 := Aside0.mk ho; clear ho hb hg hat)
    go_ret
    exact ⟨_, rfl, HO2.out, HB2.out⟩

def oracle_Issue.f (l : List S83) (a b c t : Int) : Option (List S83 × Int × Int) :=
  if oracle_known.ok l = true then (if oracle_known.pm ⟨a, b, c, t⟩ = true then (if t < 0 then some ([], 0, 2) else if t > 65535 then some ([], 0, 2) else
    match oracle_known.find a b c 0 l with | some (_, v) => some (l, v, 0) | none => if (l.length : Int) = 500 then some ([], 0, 16) else some (l ++ [⟨a, b, c, t⟩], t, 0)) else some ([], 0, 2)) else some ([], 0, 5)
theorem oracle_Issue.blk {B g : Nat} {w W : World} {o : Obj} (h : w.heap[g]? = some o) (hb : Below w.heap.size w W) : W.heap[g]? = some o := (hb.block _ (blk_lt h)).trans h
set_option maxHeartbeats 8000000 in
set_option maxRecDepth 100000 in
theorem oracle_Issue.calls (A0_0 : Option Addr) (c0_0 : Nat) (l0_0 : List (S83)) (a1 a2 a3 a4 : Int) (r1 : List S83) (r2 r3 : Int) (w : World) (hr0_0 : Kd.C k83 w A0_0 l0_0.length l0_0) (hc0_0 : l0_0.length ≤ c0_0) (h : oracle_Issue.f l0_0 a1 a2 a3 a4 = some (r1, r2, r3)) :
    Calls Try.prog 21 #[.agg #[.slice A0_0 l0_0.length c0_0], .int .i64 a1, .int .i64 a2, .int .i64 a3, .int .i64 a4] w fun e w' => ∃ v0_ : Value, e = .returned (.tuple #[.agg #[v0_], .int .i64 r2, .int .i64 r3]) ∧ Kd.R k83 83 w' w.heap.size (fun _ => True) v0_ r1 ∧ Below w.heap.size w w' := by
  have hu24 := Try.underlying24
  have hu88 := Try.underlying88
  have HB0 := Aside0.mk (below_alloc (below_alloc (Below.refl w.heap.size w) (.cells #[.slice A0_0 l0_0.length c0_0] 24)) (.cells #[.slice none 0 0] 24))
  have HR0 := Aside0.mk (Kd.C_below hr0_0 HB0.out)
  have HC0 := Aside0.mk hc0_0
  clear hr0_0 hc0_0
  have H50 : Aside0 (((w.alloc (.cells #[.slice A0_0 l0_0.length c0_0] 24)).alloc (.cells #[.slice none 0 0] 24)).heap[w.heap.size]? = some (.cells #[.slice A0_0 l0_0.length c0_0] 24 (0, 0))) := ⟨blk_alloc (World.alloc_heap_new w _) _⟩
  have H100 : Aside0 (((w.alloc (.cells #[.slice A0_0 l0_0.length c0_0] 24)).alloc (.cells #[.slice none 0 0] 24)).heap[w.heap.size + 1]? = some (.cells #[.slice none 0 0] 24 (0, 0))) := ⟨by have := World.alloc_heap_new (w.alloc (.cells #[.slice A0_0 l0_0.length c0_0] 24)) (.cells #[.slice none 0 0] 24); rwa [World.size_alloc] at this⟩
  unfold oracle_Issue.f at h
  by_cases hok : oracle_known.ok l0_0 = true
  · rw [if_pos hok] at h
    have HOK := Aside0.mk hok
    have HL : Aside0 (l0_0.length ≤ 500) := ⟨by unfold oracle_known.ok at hok; rw [Bool.and_eq_true, decide_eq_true_eq] at hok; exact hok.1⟩
    clear hok
    cases hpm : oracle_known.pm ⟨a1, a2, a3, a4⟩ with
    | false =>
      rw [if_neg (by rw [hpm]; decide)] at h
      simp only [Option.some.injEq, Prod.mk.injEq] at h
      obtain ⟨rfl, rfl, rfl⟩ := h
      have HMAY := Aside0.mk ((oracle_known.may ⟨a1, a2, a3, a4⟩).trans (congrArg some hpm))
      clear hpm
      go_enter Try.func21, Try.ntmps21
      go_wp2_with (first | (go_at_call 46; refine (oracle_known.yes HOK.out _ _ _ HR0.out).mono ?_; rintro e w1 ⟨g, rfl, hg1, hb1⟩; have HB1 := Aside0.mk (below_then HB0.out HB0.out.size hb1); have HR1 := Aside0.mk (Kd.C_below HR0.out hb1); have HM1 := Aside0.mk hg1; have H51 := Aside0.mk (oracle_Issue.blk (B := 0) H50.out hb1); have H101 := Aside0.mk (oracle_Issue.blk (B := 0) H100.out hb1); have yc := (blk_cell H101.out 0).trans rfl; have yf := blk_frozen H101.out 0; clear hb1 hg1) | (go_at_call 49; refine (oracle_what_may.calls _ _ _ _ _ HMAY.out).mono ?_; rintro e w2 ⟨rfl, hb2⟩; have HB2 := Aside0.mk (below_then (below_alloc HB1.out _) (below_alloc HB1.out _).size hb2); have HR2 := Aside0.mk (Kd.C_below (Kd.C_alloc HR1.out _) hb2); have HM2 := Aside0.mk (oracle_Issue.blk (B := 0) (blk_alloc HM1.out _) hb2); have H52 := Aside0.mk (oracle_Issue.blk (B := 0) (blk_alloc H51.out _) hb2); have H102 := Aside0.mk (oracle_Issue.blk (B := 0) (blk_alloc H101.out _) hb2); have H152 : Aside0 (w2.heap[w1.heap.size]? = some (.cells #[.int .i64 a1, .int .i64 a2, .int .i64 a3] 88 (0, 0))) := ⟨oracle_Issue.blk (B := 0) (World.alloc_heap_new w1 _) hb2⟩; have yc2 := (blk_cell H102.out 0).trans rfl; have yf2 := blk_frozen H102.out 0; have tc2 := (blk_cell H52.out 0).trans rfl; clear hb2))
      exact bodyPost_ret (v := .tuple #[.agg #[.slice none 0 0], .int .i64 0, .int .i64 2]) (by simp [results, Try.results21, go_sem, yc2]) rfl ⟨_, rfl, Kd.R_nil _ _ _ _ _, HB2.out.setCell (p := ⟨w.heap.size + 1, 0, none⟩) (Nat.le_succ _) _⟩
    | true =>
      rw [if_pos hpm] at h
      have HMAY := Aside0.mk ((oracle_known.may ⟨a1, a2, a3, a4⟩).trans (congrArg some hpm))
      clear hpm
      by_cases h0 : a4 < 0
      · rw [if_pos h0] at h
        simp only [Option.some.injEq, Prod.mk.injEq] at h
        obtain ⟨rfl, rfl, rfl⟩ := h
        have q0 := decide_eq_true h0
        clear h0
        go_enter Try.func21, Try.ntmps21
        go_wp2_with (first | (go_at_call 46; refine (oracle_known.yes HOK.out _ _ _ HR0.out).mono ?_; rintro e w1 ⟨g, rfl, hg1, hb1⟩; have HB1 := Aside0.mk (below_then HB0.out HB0.out.size hb1); have HR1 := Aside0.mk (Kd.C_below HR0.out hb1); have HM1 := Aside0.mk hg1; have H51 := Aside0.mk (oracle_Issue.blk (B := 0) H50.out hb1); have H101 := Aside0.mk (oracle_Issue.blk (B := 0) H100.out hb1); have yc := (blk_cell H101.out 0).trans rfl; have yf := blk_frozen H101.out 0; clear hb1 hg1) | (go_at_call 49; refine (oracle_what_may.calls _ _ _ _ _ HMAY.out).mono ?_; rintro e w2 ⟨rfl, hb2⟩; have HB2 := Aside0.mk (below_then (below_alloc HB1.out _) (below_alloc HB1.out _).size hb2); have HR2 := Aside0.mk (Kd.C_below (Kd.C_alloc HR1.out _) hb2); have HM2 := Aside0.mk (oracle_Issue.blk (B := 0) (blk_alloc HM1.out _) hb2); have H52 := Aside0.mk (oracle_Issue.blk (B := 0) (blk_alloc H51.out _) hb2); have H102 := Aside0.mk (oracle_Issue.blk (B := 0) (blk_alloc H101.out _) hb2); have H152 : Aside0 (w2.heap[w1.heap.size]? = some (.cells #[.int .i64 a1, .int .i64 a2, .int .i64 a3] 88 (0, 0))) := ⟨oracle_Issue.blk (B := 0) (World.alloc_heap_new w1 _) hb2⟩; have yc2 := (blk_cell H102.out 0).trans rfl; have yf2 := blk_frozen H102.out 0; have tc2 := (blk_cell H52.out 0).trans rfl; clear hb2))
        exact bodyPost_ret (v := .tuple #[.agg #[.slice none 0 0], .int .i64 0, .int .i64 2]) (by simp [results, Try.results21, go_sem, yc2]) rfl ⟨_, rfl, Kd.R_nil _ _ _ _ _, HB2.out.setCell (p := ⟨w.heap.size + 1, 0, none⟩) (Nat.le_succ _) _⟩
      rw [if_neg h0] at h
      have q0 := decide_eq_false h0
      by_cases h1 : a4 > 65535
      · rw [if_pos h1] at h
        simp only [Option.some.injEq, Prod.mk.injEq] at h
        obtain ⟨rfl, rfl, rfl⟩ := h
        have q1 := decide_eq_true h1
        clear h0 h1
        go_enter Try.func21, Try.ntmps21
        go_wp2_with (first | (go_at_call 46; refine (oracle_known.yes HOK.out _ _ _ HR0.out).mono ?_; rintro e w1 ⟨g, rfl, hg1, hb1⟩; have HB1 := Aside0.mk (below_then HB0.out HB0.out.size hb1); have HR1 := Aside0.mk (Kd.C_below HR0.out hb1); have HM1 := Aside0.mk hg1; have H51 := Aside0.mk (oracle_Issue.blk (B := 0) H50.out hb1); have H101 := Aside0.mk (oracle_Issue.blk (B := 0) H100.out hb1); have yc := (blk_cell H101.out 0).trans rfl; have yf := blk_frozen H101.out 0; clear hb1 hg1) | (go_at_call 49; refine (oracle_what_may.calls _ _ _ _ _ HMAY.out).mono ?_; rintro e w2 ⟨rfl, hb2⟩; have HB2 := Aside0.mk (below_then (below_alloc HB1.out _) (below_alloc HB1.out _).size hb2); have HR2 := Aside0.mk (Kd.C_below (Kd.C_alloc HR1.out _) hb2); have HM2 := Aside0.mk (oracle_Issue.blk (B := 0) (blk_alloc HM1.out _) hb2); have H52 := Aside0.mk (oracle_Issue.blk (B := 0) (blk_alloc H51.out _) hb2); have H102 := Aside0.mk (oracle_Issue.blk (B := 0) (blk_alloc H101.out _) hb2); have H152 : Aside0 (w2.heap[w1.heap.size]? = some (.cells #[.int .i64 a1, .int .i64 a2, .int .i64 a3] 88 (0, 0))) := ⟨oracle_Issue.blk (B := 0) (World.alloc_heap_new w1 _) hb2⟩; have yc2 := (blk_cell H102.out 0).trans rfl; have yf2 := blk_frozen H102.out 0; have tc2 := (blk_cell H52.out 0).trans rfl; clear hb2))
        exact bodyPost_ret (v := .tuple #[.agg #[.slice none 0 0], .int .i64 0, .int .i64 2]) (by simp [results, Try.results21, go_sem, yc2]) rfl ⟨_, rfl, Kd.R_nil _ _ _ _ _, HB2.out.setCell (p := ⟨w.heap.size + 1, 0, none⟩) (Nat.le_succ _) _⟩
      rw [if_neg h1] at h
      have q1 := decide_eq_false h1
      clear h0 h1
      cases hf : oracle_known.find a1 a2 a3 0 l0_0 with
      | some x =>
        obtain ⟨m, v⟩ := x
        rw [hf] at h
        simp only [Option.some.injEq, Prod.mk.injEq] at h
        obtain ⟨rfl, rfl, rfl⟩ := h
        have HF := Aside0.mk hf
        clear hf
        go_enter Try.func21, Try.ntmps21
        go_wp2_with (first | (go_at_call 46; refine (oracle_known.yes HOK.out _ _ _ HR0.out).mono ?_; rintro e w1 ⟨g, rfl, hg1, hb1⟩; have HB1 := Aside0.mk (below_then HB0.out HB0.out.size hb1); have HR1 := Aside0.mk (Kd.C_below HR0.out hb1); have HM1 := Aside0.mk hg1; have H51 := Aside0.mk (oracle_Issue.blk (B := 0) H50.out hb1); have H101 := Aside0.mk (oracle_Issue.blk (B := 0) H100.out hb1); have yc := (blk_cell H101.out 0).trans rfl; have yf := blk_frozen H101.out 0; clear hb1 hg1) | (go_at_call 49; refine (oracle_what_may.calls _ _ _ _ _ HMAY.out).mono ?_; rintro e w2 ⟨rfl, hb2⟩; have HB2 := Aside0.mk (below_then (below_alloc HB1.out _) (below_alloc HB1.out _).size hb2); have HR2 := Aside0.mk (Kd.C_below (Kd.C_alloc HR1.out _) hb2); have HM2 := Aside0.mk (oracle_Issue.blk (B := 0) (blk_alloc HM1.out _) hb2); have H52 := Aside0.mk (oracle_Issue.blk (B := 0) (blk_alloc H51.out _) hb2); have H102 := Aside0.mk (oracle_Issue.blk (B := 0) (blk_alloc H101.out _) hb2); have H152 : Aside0 (w2.heap[w1.heap.size]? = some (.cells #[.int .i64 a1, .int .i64 a2, .int .i64 a3] 88 (0, 0))) := ⟨oracle_Issue.blk (B := 0) (World.alloc_heap_new w1 _) hb2⟩; have yc2 := (blk_cell H102.out 0).trans rfl; have yf2 := blk_frozen H102.out 0; have tc2 := (blk_cell H52.out 0).trans rfl; clear hb2) | (go_at_call 50; refine (oracle_Issue.clone _ _ l0_0 _ HR2.out HC0.out (by have := HL.out; omega)).mono ?_; rintro e w3 ⟨v3, rfl, hR3, hb3⟩; obtain ⟨A3, c3, rfl⟩ := Kd.R_slice hR3; have HR3 := Aside0.mk (Kd.R_alloc (Kd.R_lower hR3 HB2.out.size) (.cells #[.slice A3 l0_0.length c3] 24)); have HB3 := Aside0.mk (below_alloc (below_then HB2.out HB2.out.size hb3) (.cells #[.slice A3 l0_0.length c3] 24)); have HM3 := Aside0.mk (blk_alloc (oracle_Issue.blk (B := 0) HM2.out hb3) (.cells #[.slice A3 l0_0.length c3] 24)); have H103 := Aside0.mk (blk_alloc (oracle_Issue.blk (B := 0) H102.out hb3) (.cells #[.slice A3 l0_0.length c3] 24)); have H153 := Aside0.mk (blk_alloc (oracle_Issue.blk (B := 0) H152.out hb3) (.cells #[.slice A3 l0_0.length c3] 24)); have H163 := Aside0.mk (World.alloc_heap_new w3 (.cells #[.slice A3 l0_0.length c3] 24)); have HS3 : Aside0 (w.heap.size + 1 < w3.heap.size) := ⟨Nat.lt_of_lt_of_le (blk_lt H102.out) hb3.size⟩; have yc3 := (blk_cell H103.out 0).trans rfl; have yf3 := blk_frozen H103.out 0; have kc0 := (blk_cell H153.out 0).trans rfl; have kc1 := (blk_cell H153.out 1).trans rfl; have kc2 := (blk_cell H153.out 2).trans rfl; have hlk := oracle_known.lookup a1 a2 a3 _ g 0 _ l0_0 HM3.out; unfold oracle_known.looked at hlk; rw [HF.out] at hlk; clear hb3 hR3))
        exact bodyPost_ret (v := .tuple #[.agg #[.slice A3 l0_0.length c3], .int .i64 v, .int .i64 0]) (by simp [results, Try.results21, go_sem, yc3]) rfl ⟨_, rfl, Kd.R_set HR3.out H103.out (by decide) 0 _, HB3.out.setCell (p := ⟨w.heap.size + 1, 0, none⟩) (Nat.le_succ _) _⟩
      | none =>
        rw [hf] at h
        have HF := Aside0.mk hf
        clear hf
        by_cases h5 : (l0_0.length : Int) = 500
        · rw [if_pos h5] at h
          simp only [Option.some.injEq, Prod.mk.injEq] at h
          obtain ⟨rfl, rfl, rfl⟩ := h
          have q5 : ((l0_0.length : Int) == 500) = true := beq_iff_eq.mpr h5
          have q6 : (l0_0.length == 500) = true := by simp; omega
          clear h5
          go_enter Try.func21, Try.ntmps21
          go_wp2_with (first | (go_at_call 46; refine (oracle_known.yes HOK.out _ _ _ HR0.out).mono ?_; rintro e w1 ⟨g, rfl, hg1, hb1⟩; have HB1 := Aside0.mk (below_then HB0.out HB0.out.size hb1); have HR1 := Aside0.mk (Kd.C_below HR0.out hb1); have HM1 := Aside0.mk hg1; have H51 := Aside0.mk (oracle_Issue.blk (B := 0) H50.out hb1); have H101 := Aside0.mk (oracle_Issue.blk (B := 0) H100.out hb1); have yc := (blk_cell H101.out 0).trans rfl; have yf := blk_frozen H101.out 0; clear hb1 hg1) | (go_at_call 49; refine (oracle_what_may.calls _ _ _ _ _ HMAY.out).mono ?_; rintro e w2 ⟨rfl, hb2⟩; have HB2 := Aside0.mk (below_then (below_alloc HB1.out _) (below_alloc HB1.out _).size hb2); have HR2 := Aside0.mk (Kd.C_below (Kd.C_alloc HR1.out _) hb2); have HM2 := Aside0.mk (oracle_Issue.blk (B := 0) (blk_alloc HM1.out _) hb2); have H52 := Aside0.mk (oracle_Issue.blk (B := 0) (blk_alloc H51.out _) hb2); have H102 := Aside0.mk (oracle_Issue.blk (B := 0) (blk_alloc H101.out _) hb2); have H152 : Aside0 (w2.heap[w1.heap.size]? = some (.cells #[.int .i64 a1, .int .i64 a2, .int .i64 a3] 88 (0, 0))) := ⟨oracle_Issue.blk (B := 0) (World.alloc_heap_new w1 _) hb2⟩; have yc2 := (blk_cell H102.out 0).trans rfl; have yf2 := blk_frozen H102.out 0; have tc2 := (blk_cell H52.out 0).trans rfl; clear hb2) | (go_at_call 50; refine (oracle_Issue.clone _ _ l0_0 _ HR2.out HC0.out (by have := HL.out; omega)).mono ?_; rintro e w3 ⟨v3, rfl, hR3, hb3⟩; obtain ⟨A3, c3, rfl⟩ := Kd.R_slice hR3; have HR3 := Aside0.mk (Kd.R_alloc (Kd.R_lower hR3 HB2.out.size) (.cells #[.slice A3 l0_0.length c3] 24)); have HB3 := Aside0.mk (below_alloc (below_then HB2.out HB2.out.size hb3) (.cells #[.slice A3 l0_0.length c3] 24)); have HM3 := Aside0.mk (blk_alloc (oracle_Issue.blk (B := 0) HM2.out hb3) (.cells #[.slice A3 l0_0.length c3] 24)); have H103 := Aside0.mk (blk_alloc (oracle_Issue.blk (B := 0) H102.out hb3) (.cells #[.slice A3 l0_0.length c3] 24)); have H153 := Aside0.mk (blk_alloc (oracle_Issue.blk (B := 0) H152.out hb3) (.cells #[.slice A3 l0_0.length c3] 24)); have H163 := Aside0.mk (World.alloc_heap_new w3 (.cells #[.slice A3 l0_0.length c3] 24)); have HS3 : Aside0 (w.heap.size + 1 < w3.heap.size) := ⟨Nat.lt_of_lt_of_le (blk_lt H102.out) hb3.size⟩; have yc3 := (blk_cell H103.out 0).trans rfl; have yf3 := blk_frozen H103.out 0; have kc0 := (blk_cell H153.out 0).trans rfl; have kc1 := (blk_cell H153.out 1).trans rfl; have kc2 := (blk_cell H153.out 2).trans rfl; have hlk := oracle_known.lookup a1 a2 a3 _ g 0 _ l0_0 HM3.out; unfold oracle_known.looked at hlk; rw [HF.out] at hlk; clear hb3 hR3))
          exact bodyPost_ret (v := .tuple #[.agg #[.slice none 0 0], .int .i64 0, .int .i64 16]) (by simp [results, Try.results21, go_sem, yc3]) rfl ⟨_, rfl, Kd.R_nil _ _ _ _ _, HB3.out.setCell (p := ⟨w.heap.size + 1, 0, none⟩) (Nat.le_succ _) _⟩
        · rw [if_neg h5] at h
          simp only [Option.some.injEq, Prod.mk.injEq] at h
          obtain ⟨rfl, rfl, rfl⟩ := h
          have q5 : ((l0_0.length : Int) == 500) = false := beq_eq_false_iff_ne.mpr h5
          have q6 : (l0_0.length == 500) = false := by simp; omega
          clear h5
          go_enter Try.func21, Try.ntmps21
          go_wp2_with (first | (go_at_call 46; refine (oracle_known.yes HOK.out _ _ _ HR0.out).mono ?_; rintro e w1 ⟨g, rfl, hg1, hb1⟩; have HB1 := Aside0.mk (below_then HB0.out HB0.out.size hb1); have HR1 := Aside0.mk (Kd.C_below HR0.out hb1); have HM1 := Aside0.mk hg1; have H51 := Aside0.mk (oracle_Issue.blk (B := 0) H50.out hb1); have H101 := Aside0.mk (oracle_Issue.blk (B := 0) H100.out hb1); have yc := (blk_cell H101.out 0).trans rfl; have yf := blk_frozen H101.out 0; clear hb1 hg1) | (go_at_call 49; refine (oracle_what_may.calls _ _ _ _ _ HMAY.out).mono ?_; rintro e w2 ⟨rfl, hb2⟩; have HB2 := Aside0.mk (below_then (below_alloc HB1.out _) (below_alloc HB1.out _).size hb2); have HR2 := Aside0.mk (Kd.C_below (Kd.C_alloc HR1.out _) hb2); have HM2 := Aside0.mk (oracle_Issue.blk (B := 0) (blk_alloc HM1.out _) hb2); have H52 := Aside0.mk (oracle_Issue.blk (B := 0) (blk_alloc H51.out _) hb2); have H102 := Aside0.mk (oracle_Issue.blk (B := 0) (blk_alloc H101.out _) hb2); have H152 : Aside0 (w2.heap[w1.heap.size]? = some (.cells #[.int .i64 a1, .int .i64 a2, .int .i64 a3] 88 (0, 0))) := ⟨oracle_Issue.blk (B := 0) (World.alloc_heap_new w1 _) hb2⟩; have yc2 := (blk_cell H102.out 0).trans rfl; have yf2 := blk_frozen H102.out 0; have tc2 := (blk_cell H52.out 0).trans rfl; clear hb2) | (go_at_call 50; refine (oracle_Issue.clone _ _ l0_0 _ HR2.out HC0.out (by have := HL.out; omega)).mono ?_; rintro e w3 ⟨v3, rfl, hR3, hb3⟩; obtain ⟨A3, c3, rfl⟩ := Kd.R_slice hR3; have HR3 := Aside0.mk (Kd.R_alloc (Kd.R_lower hR3 HB2.out.size) (.cells #[.slice A3 l0_0.length c3] 24)); have HB3 := Aside0.mk (below_alloc (below_then HB2.out HB2.out.size hb3) (.cells #[.slice A3 l0_0.length c3] 24)); have HM3 := Aside0.mk (blk_alloc (oracle_Issue.blk (B := 0) HM2.out hb3) (.cells #[.slice A3 l0_0.length c3] 24)); have H103 := Aside0.mk (blk_alloc (oracle_Issue.blk (B := 0) H102.out hb3) (.cells #[.slice A3 l0_0.length c3] 24)); have H153 := Aside0.mk (blk_alloc (oracle_Issue.blk (B := 0) H152.out hb3) (.cells #[.slice A3 l0_0.length c3] 24)); have H163 := Aside0.mk (World.alloc_heap_new w3 (.cells #[.slice A3 l0_0.length c3] 24)); have HS3 : Aside0 (w.heap.size + 1 < w3.heap.size) := ⟨Nat.lt_of_lt_of_le (blk_lt H102.out) hb3.size⟩; have yc3 := (blk_cell H103.out 0).trans rfl; have yf3 := blk_frozen H103.out 0; have kc0 := (blk_cell H153.out 0).trans rfl; have kc1 := (blk_cell H153.out 1).trans rfl; have kc2 := (blk_cell H153.out 2).trans rfl; have hlk := oracle_known.lookup a1 a2 a3 _ g 0 _ l0_0 HM3.out; unfold oracle_known.looked at hlk; rw [HF.out] at hlk; clear hb3 hR3) | ((with_reducible refine gate_builtin (b := .append) (xs := #[.tmp 62, .tmp 68]) rfl ?_); at_builtin; refine Kd.R_append k83 (w0 := w) w.heap.size rfl (.tmp 62) (.tmp 68) 22 83 (.agg #[(.int .i64 0), (.int .i64 0), (.int .i64 0), (.int .i64 0)]) 32 rfl Try.underlying22 info83 rfl (by decide) (by omega) (.slice A3 l0_0.length c3) l0_0 ⟨a1, a2, a3, a4⟩ [.int .i64 a1, .int .i64 a2, .int .i64 a3, .int .i64 a4] (fun _ => True) (fun _ => False) rfl (by show Value.slice (some ⟨w3.heap.size + 1, 0, none⟩) 1 1 = _; rw [World.size_alloc]) (k83_mkM _ _ _ ⟨_, _, _, _⟩) (fun _ h => h.elim) (fun _ _ => trivial) HR3.out HB3.out HB3.out.size ?aL ?_; (case aL => have := HL.out; omega); intro v4 w4 ho hb hg hat; obtain ⟨A4, c4, rfl⟩ := Kd.R_slice ho; have H164 := Aside0.mk (blk_grown H163.out hg (Kd.R_ne HR3.out H163.out (by decide))); have H104 := Aside0.mk (blk_grown H103.out hg (Kd.R_ne HR3.out H103.out (by decide))); have HB4 := Aside0.mk hb; have HR4 := Aside0.mk ho; have zc4 := (blk_cell H164.out 0).trans rfl; have zf4 := blk_frozen H164.out 0; have yc4 := (blk_cell H104.out 0).trans rfl; have yc5 : ∀ u, (w4.setCell ⟨w3.heap.size, 0, none⟩ u).cell? ⟨w.heap.size + 1, 0, none⟩ = some (.slice none 0 0) := fun u => (blk_cell (blk_far H104.out (p := ⟨w3.heap.size, 0, none⟩) (Nat.ne_of_lt HS3.out) u) 0).trans rfl; have yf5 : ∀ u, (w4.setCell ⟨w3.heap.size, 0, none⟩ u).frozen? ⟨w.heap.size + 1, 0, none⟩ = false := fun u => blk_frozen (blk_far H104.out (p := ⟨w3.heap.size, 0, none⟩) (Nat.ne_of_lt HS3.out) u) 0; clear ho hb hg hat))
          have hz16 := Kd.R_set HR4.out H164.out (by decide) 0 (.slice A4 (l0_0.length + 1) c4)
          have hlen : (l0_0 ++ [(⟨a1, a2, a3, a4⟩ : S83)]).length = l0_0.length + 1 := by simp
          have hz10 := Kd.R_set hz16 (blk_far H104.out (p := ⟨w3.heap.size, 0, none⟩) (Nat.ne_of_lt HS3.out) (.slice A4 (l0_0.length + 1) c4)) (by decide) 0 (.slice A4 (l0_0.length + 1) c4)
          exact bodyPost_ret (v := .tuple #[.agg #[.slice A4 (l0_0.length + 1) c4], .int .i64 a4, .int .i64 0]) (by simp [results, Try.results21, go_sem, yc5]) rfl ⟨_, rfl, by rw [← hlen] at hz10 ⊢; exact hz10, (HB4.out.setCell (p := ⟨w3.heap.size, 0, none⟩) (by have := HS3.out; show w.heap.size ≤ w3.heap.size; omega) _).setCell (p := ⟨w.heap.size + 1, 0, none⟩) (Nat.le_succ _) _⟩
  · rw [if_neg hok] at h
    simp only [Option.some.injEq, Prod.mk.injEq] at h
    obtain ⟨rfl, rfl, rfl⟩ := h
    have HOK := Aside0.mk (Bool.eq_false_iff.mpr hok)
    clear hok
    go_enter Try.func21, Try.ntmps21
    go_wp2_with (go_at_call 46; refine (oracle_known.no HOK.out _ _ _ HR0.out).mono ?_; rintro e w1 ⟨rfl, hb1⟩; have HB1 := Aside0.mk (below_then HB0.out HB0.out.size hb1); have H101 := Aside0.mk (oracle_Issue.blk (B := 0) H100.out hb1); have yc := (blk_cell H101.out 0).trans rfl; have yf := blk_frozen H101.out 0; clear hb1)
    exact bodyPost_ret (v := .tuple #[.agg #[.slice none 0 0], .int .i64 0, .int .i64 5]) (by simp [results, Try.results21, go_sem, yc]) rfl ⟨_, rfl, Kd.R_nil _ _ _ _ _, HB1.out.setCell (p := ⟨w.heap.size + 1, 0, none⟩) (Nat.le_succ _) _⟩

/-! ### vendmeterref_In: function 63 -/
def vendmeterref_In.f (a0 : Int) (a1 : Int) (a2 : Int) : Option (Bool) := if a0 ≥ a1 then (some (decide (a0 ≤ a2))) else (some false)
set_option maxHeartbeats 8000000 in
set_option maxRecDepth 100000 in
theorem vendmeterref_In.calls (a0 : Int) (a1 : Int) (a2 : Int) (r : Bool) (w : World) (h : vendmeterref_In.f a0 a1 a2 = some r) :
    Calls Try.prog 63 #[.int .i64 a0, .int .i64 a1, .int .i64 a2] w fun e w' => e = .returned (.bool r) ∧ Drawn0 w w' := by
  have H : (if a0 ≥ a1 then (some (decide (a0 ≤ a2))) else (some false)) = some r := h
  clear h
  by_cases c4 : a0 ≥ a1
  · rw [if_pos c4] at H
    have c4b0 : decide (a1 ≤ a0) = true := decide_eq_true c4
    clear c4
    obtain rfl := Option.some.inj H
    go_enter Try.func63, Try.ntmps63
    go_wp2
    go_ret
    exact ⟨by first | rfl | (simp; done) | (simp [*]; done), by repeat (first | exact Drawn0.refl _ | apply Drawn0.step)⟩
  · rw [if_neg c4] at H
    have c4b0 : decide (a1 ≤ a0) = false := decide_eq_false c4
    clear c4
    obtain rfl := Option.some.inj H
    go_enter Try.func63, Try.ntmps63
    go_wp2
    go_ret
    exact ⟨by first | rfl | (simp; done) | (simp [*]; done), by repeat (first | exact Drawn0.refl _ | apply Drawn0.step)⟩

/-! ### vendmeterref_PairMay: function 47 -/
def vendmeterref_PairMay.f (a0_0 : Int) (a0_1 : Int) (a0_2 : Int) (a0_3 : Int) : Option (Bool) := (vendmeterref_In.f a0_0 0 49).bind fun t114 => (if t114 = true then ((vendmeterref_In.f a0_1 0 15).bind fun t115 => (if t115 = true then ((vendmeterref_In.f a0_2 0 8796093022207).bind fun t116 => (if t116 = true then ((vendmeterref_In.f a0_3 0 65535).bind fun t117 => (some t117)) else (some false))) else (some false))) else (some false))
set_option maxHeartbeats 8000000 in
set_option maxRecDepth 100000 in
theorem vendmeterref_PairMay.calls (a0_0 : Int) (a0_1 : Int) (a0_2 : Int) (a0_3 : Int) (r : Bool) (w : World) (h : vendmeterref_PairMay.f a0_0 a0_1 a0_2 a0_3 = some r) :
    Calls Try.prog 47 #[.agg #[.int .i64 a0_0, .int .i64 a0_1, .int .i64 a0_2, .int .i64 a0_3]] w fun e w' => e = .returned (.bool r) ∧ Below w.heap.size w w' := by
  have hu83 := Try.underlying83
  have HB := Aside0.mk (Below.refl w.heap.size w)
  have H : ((vendmeterref_In.f a0_0 0 49).bind fun t114 => (if t114 = true then ((vendmeterref_In.f a0_1 0 15).bind fun t115 => (if t115 = true then ((vendmeterref_In.f a0_2 0 8796093022207).bind fun t116 => (if t116 = true then ((vendmeterref_In.f a0_3 0 65535).bind fun t117 => (some t117)) else (some false))) else (some false))) else (some false))) = some r := h
  clear h
  replace H := Option.bind_eq_some_iff.mp H
  obtain ⟨t114, A20, H⟩ := H
  replace H : (if t114 = true then ((vendmeterref_In.f a0_1 0 15).bind fun t115 => (if t115 = true then ((vendmeterref_In.f a0_2 0 8796093022207).bind fun t116 => (if t116 = true then ((vendmeterref_In.f a0_3 0 65535).bind fun t117 => (some t117)) else (some false))) else (some false))) else (some false)) = some r := H
  have A2 := Aside0.mk A20
  clear A20
  by_cases c3 : t114 = true
  · subst c3
    have H1 : ((vendmeterref_In.f a0_1 0 15).bind fun t115 => (if t115 = true then ((vendmeterref_In.f a0_2 0 8796093022207).bind fun t116 => (if t116 = true then ((vendmeterref_In.f a0_3 0 65535).bind fun t117 => (some t117)) else (some false))) else (some false))) = some r := by rw [if_pos rfl] at H; exact H
    clear H
    have H := H1
    clear H1
    replace H := Option.bind_eq_some_iff.mp H
    obtain ⟨t115, A40, H⟩ := H
    replace H : (if t115 = true then ((vendmeterref_In.f a0_2 0 8796093022207).bind fun t116 => (if t116 = true then ((vendmeterref_In.f a0_3 0 65535).bind fun t117 => (some t117)) else (some false))) else (some false)) = some r := H
    have A4 := Aside0.mk A40
    clear A40
    by_cases c5 : t115 = true
    · subst c5
      have H1 : ((vendmeterref_In.f a0_2 0 8796093022207).bind fun t116 => (if t116 = true then ((vendmeterref_In.f a0_3 0 65535).bind fun t117 => (some t117)) else (some false))) = some r := by rw [if_pos rfl] at H; exact H
      clear H
      have H := H1
      clear H1
      replace H := Option.bind_eq_some_iff.mp H
      obtain ⟨t116, A60, H⟩ := H
      replace H : (if t116 = true then ((vendmeterref_In.f a0_3 0 65535).bind fun t117 => (some t117)) else (some false)) = some r := H
      have A6 := Aside0.mk A60
      clear A60
      by_cases c7 : t116 = true
      · subst c7
        have H1 : ((vendmeterref_In.f a0_3 0 65535).bind fun t117 => (some t117)) = some r := by rw [if_pos rfl] at H; exact H
        clear H
        have H := H1
        clear H1
        replace H := Option.bind_eq_some_iff.mp H
        obtain ⟨t117, A80, H⟩ := H
        replace H : (some t117) = some r := H
        have A8 := Aside0.mk A80
        clear A80
        obtain rfl := Option.some.inj H
        go_enter Try.func47, Try.ntmps47
        go_wp2_with (first | ((with_reducible refine gate_dst (N := 1) rfl ?_); refine box_event ?hg (N := 1) ?hd (cs := #[.int .i64 a0_0, .int .i64 a0_1, .int .i64 a0_2, .int .i64 a0_3]) (t := 83) ?hr ?_; (case hd => rfl); (case hg => rfl); (case hr => first | (go_simp; done) | (go_simp; rfl)); intro gb113 hg w9 hbox hb; have n0_ := Aside0.mk (below_step (by repeat (first | (with_reducible first | exact HB.out | apply below_alloc | apply pw_below_drewN | apply below_drew1) | exact HB.out)) hb); have n1_ := Aside0.mk (hbox); have n2_ := Aside0.mk ((by rw [hg]; exact (below_size (by repeat (first | (with_reducible first | exact HB.out | apply below_alloc | apply pw_below_drewN | apply below_drew1) | exact HB.out))) : w.heap.size ≤ gb113)); have n3_ := Aside0.mk ((by rw [hg]; exact (below_size (by repeat (first | (with_reducible first | exact HB.out | apply below_alloc | apply pw_below_drewN | apply below_drew1) | exact HB.out))) : w.heap.size ≤ gb113)); clear HB; have HB := n0_; have BK113 := n1_; have GW113 := n2_; have GE113 := n3_; clear n0_ n1_ n2_ n3_; clear hb hbox hg; have hcz10_0 : w9.cell? ⟨gb113, 0, none⟩ = some (.int .i64 a0_0) := (blk_cell BK113.out 0).trans rfl; have hcz10_1 : w9.cell? ⟨gb113, 1, none⟩ = some (.int .i64 a0_1) := (blk_cell BK113.out 1).trans rfl; have hcz10_2 : w9.cell? ⟨gb113, 2, none⟩ = some (.int .i64 a0_2) := (blk_cell BK113.out 2).trans rfl; have hcz10_3 : w9.cell? ⟨gb113, 3, none⟩ = some (.int .i64 a0_3) := (blk_cell BK113.out 3).trans rfl; have hfz10_0 := blk_frozen BK113.out 0; have hfz10_1 := blk_frozen BK113.out 1; have hfz10_2 := blk_frozen BK113.out 2; have hfz10_3 := blk_frozen BK113.out 3) | ((with_reducible refine gate_callee (f := 63) rfl ?_); refine goesL_ (some 5) rfl rfl Try.func63 (by kernel_rfl) rfl #[.int .i64 a0_0, .int .i64 0, .int .i64 49] rfl (by (try simp only [List.map_toArray, List.map_cons, List.map_nil]); first | done | rfl | (simp only [List.length_drop, List.length_take]; rfl)) ?_; (with_reducible refine (vendmeterref_In.calls a0_0 0 49 true _ A2.out).mono ?_); rintro e w' ⟨rfl, ⟨nd, rfl⟩⟩; refine ⟨_, rfl, ?_⟩) | (go_at_call 63; (with_reducible refine (vendmeterref_In.calls a0_1 0 15 true _ A4.out).mono ?_); rintro e w' ⟨rfl, ⟨nd, rfl⟩⟩) | (go_at_call 63; (with_reducible refine (vendmeterref_In.calls a0_2 0 8796093022207 true _ A6.out).mono ?_); rintro e w' ⟨rfl, ⟨nd, rfl⟩⟩) | (go_at_call 63; (with_reducible refine (vendmeterref_In.calls a0_3 0 65535 t117 _ A8.out).mono ?_); rintro e w' ⟨rfl, ⟨nd, rfl⟩⟩))
        go_ret
        exact ⟨by first | rfl | (simp [errW_none, errW_some] <;> rfl) | (simp [*, errW_none, errW_some] <;> rfl), by repeat (first | (with_reducible first | exact HB.out | apply below_alloc | apply pw_below_drewN | apply below_drew1 | refine below_set ?_ GE113.out) | exact HB.out)⟩
      · replace c7 := Bool.eq_false_iff.mpr c7
        subst c7
        have H1 : (some false) = some r := by rw [if_neg (show ¬ (false = true) by decide)] at H; exact H
        clear H
        have H := H1
        clear H1
        obtain rfl := Option.some.inj H
        go_enter Try.func47, Try.ntmps47
        go_wp2_with (first | ((with_reducible refine gate_dst (N := 1) rfl ?_); refine box_event ?hg (N := 1) ?hd (cs := #[.int .i64 a0_0, .int .i64 a0_1, .int .i64 a0_2, .int .i64 a0_3]) (t := 83) ?hr ?_; (case hd => rfl); (case hg => rfl); (case hr => first | (go_simp; done) | (go_simp; rfl)); intro gb113 hg w11 hbox hb; have n0_ := Aside0.mk (below_step (by repeat (first | (with_reducible first | exact HB.out | apply below_alloc | apply pw_below_drewN | apply below_drew1) | exact HB.out)) hb); have n1_ := Aside0.mk (hbox); have n2_ := Aside0.mk ((by rw [hg]; exact (below_size (by repeat (first | (with_reducible first | exact HB.out | apply below_alloc | apply pw_below_drewN | apply below_drew1) | exact HB.out))) : w.heap.size ≤ gb113)); have n3_ := Aside0.mk ((by rw [hg]; exact (below_size (by repeat (first | (with_reducible first | exact HB.out | apply below_alloc | apply pw_below_drewN | apply below_drew1) | exact HB.out))) : w.heap.size ≤ gb113)); clear HB; have HB := n0_; have BK113 := n1_; have GW113 := n2_; have GE113 := n3_; clear n0_ n1_ n2_ n3_; clear hb hbox hg; have hcz12_0 : w11.cell? ⟨gb113, 0, none⟩ = some (.int .i64 a0_0) := (blk_cell BK113.out 0).trans rfl; have hcz12_1 : w11.cell? ⟨gb113, 1, none⟩ = some (.int .i64 a0_1) := (blk_cell BK113.out 1).trans rfl; have hcz12_2 : w11.cell? ⟨gb113, 2, none⟩ = some (.int .i64 a0_2) := (blk_cell BK113.out 2).trans rfl; have hcz12_3 : w11.cell? ⟨gb113, 3, none⟩ = some (.int .i64 a0_3) := (blk_cell BK113.out 3).trans rfl; have hfz12_0 := blk_frozen BK113.out 0; have hfz12_1 := blk_frozen BK113.out 1; have hfz12_2 := blk_frozen BK113.out 2; have hfz12_3 := blk_frozen BK113.out 3) | ((with_reducible refine gate_callee (f := 63) rfl ?_); refine goesL_ (some 5) rfl rfl Try.func63 (by kernel_rfl) rfl #[.int .i64 a0_0, .int .i64 0, .int .i64 49] rfl (by (try simp only [List.map_toArray, List.map_cons, List.map_nil]); first | done | rfl | (simp only [List.length_drop, List.length_take]; rfl)) ?_; (with_reducible refine (vendmeterref_In.calls a0_0 0 49 true _ A2.out).mono ?_); rintro e w' ⟨rfl, ⟨nd, rfl⟩⟩; refine ⟨_, rfl, ?_⟩) | (go_at_call 63; (with_reducible refine (vendmeterref_In.calls a0_1 0 15 true _ A4.out).mono ?_); rintro e w' ⟨rfl, ⟨nd, rfl⟩⟩) | (go_at_call 63; (with_reducible refine (vendmeterref_In.calls a0_2 0 8796093022207 false _ A6.out).mono ?_); rintro e w' ⟨rfl, ⟨nd, rfl⟩⟩))
        go_ret
        exact ⟨by first | rfl | (simp [errW_none, errW_some] <;> rfl) | (simp [*, errW_none, errW_some] <;> rfl), by repeat (first | (with_reducible first | exact HB.out | apply below_alloc | apply pw_below_drewN | apply below_drew1 | refine below_set ?_ GE113.out) | exact HB.out)⟩
    · replace c5 := Bool.eq_false_iff.mpr c5
      subst c5
      have H1 : (some false) = some r := by rw [if_neg (show ¬ (false = true) by decide)] at H; exact H
      clear H
      have H := H1
      clear H1
      obtain rfl := Option.some.inj H
      go_enter Try.func47, Try.ntmps47
      go_wp2_with (first | ((with_reducible refine gate_dst (N := 1) rfl ?_); refine box_event ?hg (N := 1) ?hd (cs := #[.int .i64 a0_0, .int .i64 a0_1, .int .i64 a0_2, .int .i64 a0_3]) (t := 83) ?hr ?_; (case hd => rfl); (case hg => rfl); (case hr => first | (go_simp; done) | (go_simp; rfl)); intro gb113 hg w13 hbox hb; have n0_ := Aside0.mk (below_step (by repeat (first | (with_reducible first | exact HB.out | apply below_alloc | apply pw_below_drewN | apply below_drew1) | exact HB.out)) hb); have n1_ := Aside0.mk (hbox); have n2_ := Aside0.mk ((by rw [hg]; exact (below_size (by repeat (first | (with_reducible first | exact HB.out | apply below_alloc | apply pw_below_drewN | apply below_drew1) | exact HB.out))) : w.heap.size ≤ gb113)); have n3_ := Aside0.mk ((by rw [hg]; exact (below_size (by repeat (first | (with_reducible first | exact HB.out | apply below_alloc | apply pw_below_drewN | apply below_drew1) | exact HB.out))) : w.heap.size ≤ gb113)); clear HB; have HB := n0_; have BK113 := n1_; have GW113 := n2_; have GE113 := n3_; clear n0_ n1_ n2_ n3_; clear hb hbox hg; have hcz14_0 : w13.cell? ⟨gb113, 0, none⟩ = some (.int .i64 a0_0) := (blk_cell BK113.out 0).trans rfl; have hcz14_1 : w13.cell? ⟨gb113, 1, none⟩ = some (.int .i64 a0_1) := (blk_cell BK113.out 1).trans rfl; have hcz14_2 : w13.cell? ⟨gb113, 2, none⟩ = some (.int .i64 a0_2) := (blk_cell BK113.out 2).trans rfl; have hcz14_3 : w13.cell? ⟨gb113, 3, none⟩ = some (.int .i64 a0_3) := (blk_cell BK113.out 3).trans rfl; have hfz14_0 := blk_frozen BK113.out 0; have hfz14_1 := blk_frozen BK113.out 1; have hfz14_2 := blk_frozen BK113.out 2; have hfz14_3 := blk_frozen BK113.out 3) | ((with_reducible refine gate_callee (f := 63) rfl ?_); refine goesL_ (some 5) rfl rfl Try.func63 (by kernel_rfl) rfl #[.int .i64 a0_0, .int .i64 0, .int .i64 49] rfl (by (try simp only [List.map_toArray, List.map_cons, List.map_nil]); first | done | rfl | (simp only [List.length_drop, List.length_take]; rfl)) ?_; (with_reducible refine (vendmeterref_In.calls a0_0 0 49 true _ A2.out).mono ?_); rintro e w' ⟨rfl, ⟨nd, rfl⟩⟩; refine ⟨_, rfl, ?_⟩) | (go_at_call 63; (with_reducible refine (vendmeterref_In.calls a0_1 0 15 false _ A4.out).mono ?_); rintro e w' ⟨rfl, ⟨nd, rfl⟩⟩))
      go_ret
      exact ⟨by first | rfl | (simp [errW_none, errW_some] <;> rfl) | (simp [*, errW_none, errW_some] <;> rfl), by repeat (first | (with_reducible first | exact HB.out | apply below_alloc | apply pw_below_drewN | apply below_drew1 | refine below_set ?_ GE113.out) | exact HB.out)⟩
  · replace c3 := Bool.eq_false_iff.mpr c3
    subst c3
    have H1 : (some false) = some r := by rw [if_neg (show ¬ (false = true) by decide)] at H; exact H
    clear H
    have H := H1
    clear H1
    obtain rfl := Option.some.inj H
    go_enter Try.func47, Try.ntmps47
    go_wp2_with (first | ((with_reducible refine gate_dst (N := 1) rfl ?_); refine box_event ?hg (N := 1) ?hd (cs := #[.int .i64 a0_0, .int .i64 a0_1, .int .i64 a0_2, .int .i64 a0_3]) (t := 83) ?hr ?_; (case hd => rfl); (case hg => rfl); (case hr => first | (go_simp; done) | (go_simp; rfl)); intro gb113 hg w15 hbox hb; have n0_ := Aside0.mk (below_step (by repeat (first | (with_reducible first | exact HB.out | apply below_alloc | apply pw_below_drewN | apply below_drew1) | exact HB.out)) hb); have n1_ := Aside0.mk (hbox); have n2_ := Aside0.mk ((by rw [hg]; exact (below_size (by repeat (first | (with_reducible first | exact HB.out | apply below_alloc | apply pw_below_drewN | apply below_drew1) | exact HB.out))) : w.heap.size ≤ gb113)); have n3_ := Aside0.mk ((by rw [hg]; exact (below_size (by repeat (first | (with_reducible first | exact HB.out | apply below_alloc | apply pw_below_drewN | apply below_drew1) | exact HB.out))) : w.heap.size ≤ gb113)); clear HB; have HB := n0_; have BK113 := n1_; have GW113 := n2_; have GE113 := n3_; clear n0_ n1_ n2_ n3_; clear hb hbox hg; have hcz16_0 : w15.cell? ⟨gb113, 0, none⟩ = some (.int .i64 a0_0) := (blk_cell BK113.out 0).trans rfl; have hcz16_1 : w15.cell? ⟨gb113, 1, none⟩ = some (.int .i64 a0_1) := (blk_cell BK113.out 1).trans rfl; have hcz16_2 : w15.cell? ⟨gb113, 2, none⟩ = some (.int .i64 a0_2) := (blk_cell BK113.out 2).trans rfl; have hcz16_3 : w15.cell? ⟨gb113, 3, none⟩ = some (.int .i64 a0_3) := (blk_cell BK113.out 3).trans rfl; have hfz16_0 := blk_frozen BK113.out 0; have hfz16_1 := blk_frozen BK113.out 1; have hfz16_2 := blk_frozen BK113.out 2; have hfz16_3 := blk_frozen BK113.out 3) | ((with_reducible refine gate_callee (f := 63) rfl ?_); refine goesL_ (some 5) rfl rfl Try.func63 (by kernel_rfl) rfl #[.int .i64 a0_0, .int .i64 0, .int .i64 49] rfl (by (try simp only [List.map_toArray, List.map_cons, List.map_nil]); first | done | rfl | (simp only [List.length_drop, List.length_take]; rfl)) ?_; (with_reducible refine (vendmeterref_In.calls a0_0 0 49 false _ A2.out).mono ?_); rintro e w' ⟨rfl, ⟨nd, rfl⟩⟩; refine ⟨_, rfl, ?_⟩))
    go_ret
    exact ⟨by first | rfl | (simp [errW_none, errW_some] <;> rfl) | (simp [*, errW_none, errW_some] <;> rfl), by repeat (first | (with_reducible first | exact HB.out | apply below_alloc | apply pw_below_drewN | apply below_drew1 | refine below_set ?_ GE113.out) | exact HB.out)⟩

end Go.Proofs.Ytgelnjcohnfmhaa.POracleIssues
