-- written by this session's program wip/xp/xprint.py (it drives the kit's print and adds to it)
import Derived.Test.YtdijplohafjbcaaDoorPPadKeysx0
import Derived.Test.YtdijplohafjbcaaDoorPPadKeysx1
import Derived.Test.YtdijplohafjbcaaDoorPPadKeysx2
import Derived.Test.YtdijplohafjbcaaDoorPPadKeysx3
import Derived.Test.YtdijplohafjbcaaDoorPPadKeysx5
namespace Go.Proofs.YtdijplohafjbcaaDoor.PPadKeys
open Go.RowKit Go.Proofs.YtdijplohafjbcaaDoorW.PrintWords Go.Proofs.YtdijplohafjbcaaDoorW.PrintLast Go.Proofs.YtdijplohafjbcaaDoorW.PrintMore
attribute [local go_sem] max2_int min2_int max_two min_two max_three min_three max_four min_four   -- for this text's walks alone
set_option linter.unusedVariables false
set_option linter.unusedSimpArgs false

attribute [local go_sem high] eqA24 eqA41
/-! ### vendmeterref_Typed: function 7 -/
theorem xa7 {w : World} {g : Nat} {o : Obj} (h : w.heap[g]? = some o) (o' : Obj) : (w.alloc o').heap[g]? = some o := blk_alloc h o'
theorem xd7 {w : World} {g : Nat} {o : Obj} (h : w.heap[g]? = some o) : w.drew.heap[g]? = some o := blk_drew h
theorem xn7 {w : World} {g : Nat} {o : Obj} (h : w.heap[g]? = some o) (n : Nat) : (w.drewN n).heap[g]? = some o := blk_drewN h n
theorem ya7 {w W : World} (h : Below w.heap.size w W) (o : Obj) : Below w.heap.size w (W.alloc o) := below_alloc h o
theorem yn7 {B : Nat} {w W : World} (h : Below B w W) (n : Nat) : Below B w (W.drewN n) := pw_below_drewN h n
theorem yd7 {B : Nat} {w W : World} (h : Below B w W) : Below B w W.drew := below_drew1 h
theorem c2_7 {w : World} {g : Nat} {t : TypeId} {x0 x1 : Value} {r : List Value} (h : w.heap[g]? = some (.cells (List.toArray (x0 :: x1 :: r)) t (0, 0))) : w.cell? ⟨g, 0, none⟩ = some x0 ∧ w.cell? ⟨g, 1, none⟩ = some x1 := ⟨(blk_cell h 0).trans rfl, (blk_cell h 1).trans rfl⟩
theorem f2_7 {w : World} {g : Nat} {t : TypeId} {cs : Array Value} (h : w.heap[g]? = some (.cells cs t (0, 0))) : w.frozen? ⟨g, 0, none⟩ = false ∧ w.frozen? ⟨g, 1, none⟩ = false := ⟨blk_frozen h 0, blk_frozen h 1⟩
def vendmeterref_Typed.l0 : Nat → ByteArray → List (S41) → Int → ByteArray → Bool → Option ((List (S41)) × ByteArray × Bool × Int)
  | 0, _, _, _, _, _ => none
  | k + 1, x0, x5, x7, x124000, x124001 => if x7 < (x0.size : Int) then (if 0 ≤ x7 then (if x7 ≤ (x0.size : Int) then ((utf8_DecodeRuneInString.f (x0.extract (x7 : Int).toNat x0.size)).bind fun bt124 => ((vendmeterref_Pressed.f k x124000 x124001 bt124.1).bind fun bt126 => (if x5.length + bt126.2.2.1.length < 5864062014805 then (vendmeterref_Typed.l0 k x0 (x5 ++ bt126.2.2.1) (wrap64 (x7 + bt124.2)) bt126.1 bt126.2.1) else (none)))) else (none)) else (none)) else (some (x5, x124000, x124001, 0))
def vendmeterref_Typed.f (k : Nat) (a0 : ByteArray) : Option ((List (S41)) × ByteArray × Bool × Int) := if (a0.size : Int) > 2000 then (some (([] : List (S41)), (⟨#[]⟩ : ByteArray), false, 1)) else (vendmeterref_Typed.l0 k a0 ([] : List (S41)) 0 (⟨#[]⟩ : ByteArray) false)
theorem vendmeterref_Typed.mono_l : ∀ k, (∀ y0 y1 y2 y3 y4, LeO (vendmeterref_Typed.l0 k y0 y1 y2 y3 y4) (vendmeterref_Typed.l0 (k + 1) y0 y1 y2 y3 y4))
  | 0 => fun _ _ _ _ _ r h => by simp [vendmeterref_Typed.l0] at h
  | k + 1 => by
    have ih0 := vendmeterref_Typed.mono_l k
    · intro y0 y1 y2 y3 y4
      unfold vendmeterref_Typed.l0
      repeat' first
      | (with_reducible exact ih0 _ _ _ _ _)
      | (with_reducible exact vendmeterref_Pressed.mono _ _ _ _)
      | (with_reducible exact LeO.refl _)
      | (with_reducible exact LeO.none _)
      | (with_reducible refine LeO.ite ?_ ?_)
      | (with_reducible refine LeO.bind ?_ (fun _ => ?_))
      | exact ih0 _ _ _ _ _
      | exact vendmeterref_Pressed.mono _ _ _ _
      | exact LeO.none _
      | refine LeO.ite ?_ ?_
      | refine LeO.bind ?_ (fun _ => ?_)
theorem vendmeterref_Typed.mono : ∀ a0 k, LeO (vendmeterref_Typed.f k a0) (vendmeterref_Typed.f (k + 1) a0) := by
  intro a0 k
  have ih0 := vendmeterref_Typed.mono_l k
  unfold vendmeterref_Typed.f
  repeat' first
      | (with_reducible exact ih0 _ _ _ _ _)
      | (with_reducible exact vendmeterref_Pressed.mono _ _ _ _)
      | (with_reducible exact LeO.refl _)
      | (with_reducible exact LeO.none _)
      | (with_reducible refine LeO.ite ?_ ?_)
      | (with_reducible refine LeO.bind ?_ (fun _ => ?_))
      | exact ih0 _ _ _ _ _
      | exact vendmeterref_Pressed.mono _ _ _ _
      | exact LeO.none _
      | refine LeO.ite ?_ ?_
      | refine LeO.bind ?_ (fun _ => ?_)
set_option maxHeartbeats 8000000 in
set_option maxRecDepth 100000 in
theorem vendmeterref_Typed.calls (k : Nat) (a0 : ByteArray) (r1 : List (S41)) (r2 : ByteArray) (r3 : Bool) (r4 : Int) (w : World) (HTAB : LaidW w) (h : vendmeterref_Typed.f k a0 = some (r1, r2, r3, r4)) :
    Calls Tryd.prog 7 #[.string a0] w fun e w' => ∃ v0_ : Value, e = .returned (.tuple #[v0_, .agg #[.string r2, .bool r3], .int .i64 r4]) ∧ Kd.R k41 41 w' w.heap.size (fun _ => True) v0_ r1 ∧ Below w.heap.size w w' := by
  have hu24 := Tryd.underlying24
  have HB := Aside0.mk (Below.refl w.heap.size w)
  have H : (if (a0.size : Int) > 2000 then (some (([] : List (S41)), (⟨#[]⟩ : ByteArray), false, 1)) else (vendmeterref_Typed.l0 k a0 ([] : List (S41)) 0 (⟨#[]⟩ : ByteArray) false)) = some (r1, r2, r3, r4) := h
  clear h
  by_cases c2 : (a0.size : Int) > 2000
  · rw [if_pos c2] at H
    have c2b0 : decide (2000 < (a0.size : Int)) = true := decide_eq_true c2
    have c2b1 : decide (2000 < a0.size) = true := decide_eq_true (by omega)
    clear c2
    simp only [Option.some.injEq, Prod.mk.injEq] at H
    obtain ⟨rfl, rfl, rfl, rfl⟩ := H
    go_enter Tryd.func7, Tryd.ntmps7
    go_wp2_with (first | ((with_reducible refine gate_dst (N := 3) rfl ?_); refine box_event ?hg (N := 3) ?hd (cs := #[.string (⟨#[]⟩ : ByteArray), .bool false]) (t := 24) ?hr ?_; (case hd => rfl); (case hg => rfl); (case hr => first | (go_simp; done) | (go_simp; rfl)); intro gb122 hg w3 hbox hb; have n0_ := Aside0.mk (below_step (by with_reducible repeat (first | exact HB.1 | apply ya7 | apply yn7 | apply yd7)) hb); have n1_ := Aside0.mk (hbox); have n2_ := Aside0.mk ((by rw [hg]; exact (below_size (by with_reducible repeat (first | exact HB.1 | apply ya7 | apply yn7 | apply yd7))) : w.heap.size ≤ gb122)); have n3_ := n2_; clear HB; have HB := n0_; have BK122 := n1_; have GW122 := n2_; have GE122 := n3_; clear n0_ n1_ n2_ n3_; clear hb hbox hg; obtain ⟨hcz4_0, hcz4_1⟩ := c2_7 BK122.1; obtain ⟨hfz4_0, hfz4_1⟩ := f2_7 BK122.1))
    refine bodyPost_ret (results_list (rs := [.tmp 2, .cell 3 24, .tmp 4]) rfl (by simp) (.tmp (.cell gb122 24 #[.string (⟨#[]⟩ : ByteArray), .bool false] (0, 0) _ rfl (by (with_reducible repeat (first | apply xn7 | apply xd7 | apply xa7)); refine blk_put (cs := #[.string (⟨#[]⟩ : ByteArray), .bool false]) ?_ 1 _ rfl; (with_reducible repeat (first | apply xn7 | apply xd7 | apply xa7)); refine blk_put (cs := #[.string (⟨#[]⟩ : ByteArray), .bool false]) ?_ 0 _ rfl; (with_reducible repeat (first | apply xn7 | apply xd7 | apply xa7)); exact BK122.1) Tryd.underlying24 rfl (by kernel_rfl) (.tmp .nil)))) rfl ?_
    exact ⟨_, by first | rfl | (simp [errW_none, errW_some] <;> rfl) | (simp [*, errW_none, errW_some] <;> rfl), by first | exact Kd.R_nil _ _ _ _ _ | exact Kd.N_nil _ _ _ _ _ | exact Kd.V_nil _ _ _ _ _ | exact Kd.Q_nil _ _ _ _ _ | exact Kd.S_nil _ _ _ _ _, by repeat (first | (with_reducible first | exact HB.1 | apply below_alloc | apply pw_below_drewN | apply below_drew1 | refine below_set ?_ GE122.1) | exact HB.1)⟩
  · rw [if_neg c2] at H
    have c2b0 : decide (2000 < (a0.size : Int)) = false := decide_eq_false c2
    have c2b1 : decide (2000 < a0.size) = false := decide_eq_false (by omega)
    clear c2
    have H' := Aside0.mk H
    clear H
    go_enter Tryd.func7, Tryd.ntmps7
    go_wp2_with (first | ((with_reducible refine gate_dst (N := 3) rfl ?_); refine box_event ?hg (N := 3) ?hd (cs := #[.string (⟨#[]⟩ : ByteArray), .bool false]) (t := 24) ?hr ?_; (case hd => rfl); (case hg => rfl); (case hr => first | (go_simp; done) | (go_simp; rfl)); intro gb122 hg w5 hbox hb; have n0_ := Aside0.mk (below_step (by with_reducible repeat (first | exact HB.1 | apply ya7 | apply yn7 | apply yd7)) hb); have n1_ := Aside0.mk (hbox); have n2_ := Aside0.mk ((by rw [hg]; exact (below_size (by with_reducible repeat (first | exact HB.1 | apply ya7 | apply yn7 | apply yd7))) : w.heap.size ≤ gb122)); have n3_ := n2_; clear HB; have HB := n0_; have BK122 := n1_; have GW122 := n2_; have GE122 := n3_; clear n0_ n1_ n2_ n3_; clear hb hbox hg) | ((with_reducible refine gate_dst (N := 6) rfl ?_); refine box_event ?hg (N := 6) ?hd (cs := #[.string (⟨#[]⟩ : ByteArray), .bool false]) (t := 24) ?hr ?_; (case hd => rfl); (case hg => rfl); (case hr => first | (go_simp; done) | (go_simp; rfl)); intro gb123 hg w6 hbox hb; have n0_ := Aside0.mk (blk_below (g := gb122) (o := .cells #[.string (⟨#[]⟩ : ByteArray), .bool false] 24 (0, 0)) (by (with_reducible repeat (first | apply xn7 | apply xd7 | apply xa7)); exact BK122.1) hb); have n1_ := Aside0.mk (below_step (by with_reducible repeat (first | exact HB.1 | apply ya7 | apply yn7 | apply yd7 | refine below_set ?_ GE122.1)) hb); have n2_ := Aside0.mk (hbox); have n3_ := Aside0.mk ((by rw [hg]; exact (below_size (by with_reducible repeat (first | exact HB.1 | apply ya7 | apply yn7 | apply yd7 | refine below_set ?_ GE122.1))) : w.heap.size ≤ gb123)); have n4_ := n3_; have n5_ := Aside0.mk ((by rw [hg]; exact Nat.ne_of_lt (blk_lt (g := gb122) (o := .cells #[.string (⟨#[]⟩ : ByteArray), .bool false] 24 (0, 0)) (by (with_reducible repeat (first | apply xn7 | apply xd7 | apply xa7)); exact BK122.1)) : gb122 ≠ gb123)); have n6_ := Aside0.mk ((by rw [hg]; exact Nat.ne_of_gt (blk_lt (g := gb122) (o := .cells #[.string (⟨#[]⟩ : ByteArray), .bool false] 24 (0, 0)) (by (with_reducible repeat (first | apply xn7 | apply xd7 | apply xa7)); exact BK122.1)) : gb123 ≠ gb122)); clear BK122; clear HB; have BK122 := n0_; have HB := n1_; have BK123 := n2_; have GW123 := n3_; have GE123 := n4_; have NB122_123 := n5_; have NB123_122 := n6_; clear n0_ n1_ n2_ n3_ n4_ n5_ n6_; clear hb hbox hg; have hnb7 := NB123_122.1; have hnc7 := NB122_123.1; obtain ⟨hcz8_0, hcz8_1⟩ := c2_7 BK123.1; obtain ⟨hfz8_0, hfz8_1⟩ := f2_7 BK123.1))
    go_loopg [5, 7] k (fun kq v5 v7 w' => ∃ (x5_1 : List (S41)) (x7_1 : Int) (x124000_1 : ByteArray) (x124001_1 : Bool), v7 = .int .i64 x7_1 ∧ Aside0 (vendmeterref_Typed.l0 kq a0 x5_1 x7_1 x124000_1 x124001_1 = some (r1, r2, r3, r4)) ∧ Aside0 (kq ≤ k) ∧ Aside0 (Kd.R k41 41 w' w.heap.size (fun _ => True) v5 x5_1) ∧ Aside0 (w'.heap[gb122]? = some (.cells #[.string (⟨#[]⟩ : ByteArray), .bool false] 24 (0, 0))) ∧ Aside0 (w'.heap[gb123]? = some (.cells #[.string x124000_1, .bool x124001_1] 24 (0, 0))) ∧ Aside0 (Below w.heap.size w w'))
    case atStart => exact ⟨(([] : List (S41))), (0), ((⟨#[]⟩ : ByteArray)), (false), (by first | rfl | (simp; done) | (simp [*]; done)), H', ⟨Nat.le_refl _⟩, ⟨by first | exact Kd.R_nil _ _ _ _ _ | exact Kd.N_nil _ _ _ _ _ | exact Kd.V_nil _ _ _ _ _ | exact Kd.Q_nil _ _ _ _ _ | exact Kd.S_nil _ _ _ _ _⟩, ⟨by (with_reducible repeat (first | apply xn7 | apply xd7 | apply xa7)); refine blk_far ?_ NB122_123.1 _; (with_reducible repeat (first | apply xn7 | apply xd7 | apply xa7)); refine blk_far ?_ NB122_123.1 _; (with_reducible repeat (first | apply xn7 | apply xd7 | apply xa7)); exact BK122.1⟩, ⟨by (with_reducible repeat (first | apply xn7 | apply xd7 | apply xa7)); refine blk_put (cs := #[.string (⟨#[]⟩ : ByteArray), .bool false]) ?_ 1 _ rfl; (with_reducible repeat (first | apply xn7 | apply xd7 | apply xa7)); refine blk_put (cs := #[.string (⟨#[]⟩ : ByteArray), .bool false]) ?_ 0 _ rfl; (with_reducible repeat (first | apply xn7 | apply xd7 | apply xa7)); exact BK123.1⟩, ⟨by repeat (first | (with_reducible first | exact HB.1 | apply below_alloc | apply pw_below_drewN | apply below_drew1 | refine below_set ?_ GE122.1 | refine below_set ?_ GE123.1) | exact HB.1)⟩⟩
    case round =>
      clear H'
      try clear c2
      try clear c2b0
      try clear c2b1
      try clear p2
      try clear c7
      try clear hcz4_0
      try clear hcz4_1
      try clear hcz8_0
      try clear hcz8_1
      try clear hfz4_0
      try clear hfz4_1
      try clear hfz8_0
      try clear hfz8_1
      obtain ⟨x5_1, x7_1, x124000_1, x124001_1, rfl, HA, HK1, HO_5, BK122, BK123, HB⟩ := hrel
      cases gk with
      | zero => exact absurd HA.out (by simp [vendmeterref_Typed.l0])
      | succ k1 =>
        have H := HA.out
        clear HA
        simp only [vendmeterref_Typed.l0] at H
        by_cases c9 : x7_1 < (a0.size : Int)
        · rw [if_pos c9] at H
          have c9b0 : decide (x7_1 < (a0.size : Int)) = true := decide_eq_true c9
          clear c9
          by_cases c10 : 0 ≤ x7_1
          · rw [if_pos c10] at H
            have c10b0 := eq_true c10
            have c10b1 : decide (0 ≤ x7_1) = true := decide_eq_true c10
            clear c10
            by_cases c11 : x7_1 ≤ (a0.size : Int)
            · rw [if_pos c11] at H
              have c11b0 := eq_true c11
              have c11b1 : decide (x7_1 ≤ (a0.size : Int)) = true := decide_eq_true c11
              clear c11
              replace H := Option.bind_eq_some_iff.mp H
              obtain ⟨⟨t124, t125⟩, A120, H⟩ := H
              replace H : ((vendmeterref_Pressed.f k1 x124000_1 x124001_1 t124).bind fun bt126 => (if x5_1.length + bt126.2.2.1.length < 5864062014805 then (vendmeterref_Typed.l0 k1 a0 (x5_1 ++ bt126.2.2.1) (wrap64 (x7_1 + t125)) bt126.1 bt126.2.1) else (none))) = some (r1, r2, r3, r4) := H
              have A12 := Aside0.mk A120
              clear A120
              replace H := Option.bind_eq_some_iff.mp H
              obtain ⟨⟨t126, t127, t128, t131⟩, A130, H⟩ := H
              replace H : (if x5_1.length + t128.length < 5864062014805 then (vendmeterref_Typed.l0 k1 a0 (x5_1 ++ t128) (wrap64 (x7_1 + t125)) t126 t127) else (none)) = some (r1, r2, r3, r4) := H
              have A13 := Aside0.mk A130
              clear A130
              by_cases c14 : x5_1.length + t128.length < 5864062014805
              · rw [if_pos c14] at H
                have LMc14 := Aside0.mk c14
                clear c14
                obtain ⟨y133, hy133⟩ : ∃ y_ : List (S41), y_ = (x5_1 ++ t128) := ⟨_, rfl⟩
                replace H : (vendmeterref_Typed.l0 k1 a0 y133 (wrap64 (x7_1 + t125)) t126 t127) = some (r1, r2, r3, r4) := by first | (rw [hy133]; with_reducible exact H) | (have H2_ := (Option.bind_some _ _).symm.trans H; rw [hy133]; with_reducible exact H2_) | (have H2_ := (Option.bind_some _ _).symm.trans H; with_reducible exact H2_) | with_reducible exact H | (rw [hy133]; exact H) | exact H
                have Ny133 := Aside0.mk hy133
                clear hy133
                have H' := Aside0.mk H
                clear H
                go_wp2_with (first | ((with_reducible refine gate_callee (f := 14) rfl ?_); refine goesL_ (some 26) rfl rfl Tryd.func14 (by kernel_rfl) rfl #[.string (a0.extract (x7_1 : Int).toNat a0.size)] rfl (by (try simp only [List.map_toArray, List.map_cons, List.map_nil]); first | done | rfl | (simp only [List.length_drop, List.length_take]; rfl)) ?_; (with_reducible refine (utf8_DecodeRuneInString.calls (a0.extract (x7_1 : Int).toNat a0.size) t124 t125 _ (HTAB.go (by repeat (first | (with_reducible first | exact HB.1 | exact Below.refl _ _ | apply below_alloc | apply pw_below_drewN | apply below_drew1) | exact HB.1))) A12.out).mono ?_); rintro e w15 ⟨rfl, hb⟩; refine ⟨_, rfl, ?_⟩; have n0_ := Aside0.mk (Kd.R_below (by (with_reducible repeat (first | apply Kd.R_alloc | apply Kd.R_drewN | apply Kd.R_drew)); exact HO_5.out) hb); have n1_ := Aside0.mk (blk_below (g := gb122) (o := .cells #[.string (⟨#[]⟩ : ByteArray), .bool false] 24 (0, 0)) (by (with_reducible repeat (first | apply xn7 | apply xd7 | apply xa7)); exact BK122.1) hb); have n2_ := Aside0.mk (blk_below (g := gb123) (o := .cells #[.string x124000_1, .bool x124001_1] 24 (0, 0)) (by (with_reducible repeat (first | apply xn7 | apply xd7 | apply xa7)); exact BK123.1) hb); have n3_ := Aside0.mk (below_step (by with_reducible repeat (first | exact HB.1 | apply ya7 | apply yn7 | apply yd7 | refine below_set ?_ GE122.1 | refine below_set ?_ GE123.1)) hb); clear HO_5; clear BK122; clear BK123; clear HB; have HO_5 := n0_; have BK122 := n1_; have BK123 := n2_; have HB := n3_; clear n0_ n1_ n2_ n3_; (try clear hb); (try clear hb2); (try clear hk); (try clear hi); have hnb16 := NB123_122.1; have hnc16 := NB122_123.1; obtain ⟨hcz17_0, hcz17_1⟩ := c2_7 BK123.1; obtain ⟨hfz17_0, hfz17_1⟩ := f2_7 BK123.1) | ((with_reducible refine gate_callee (f := 15) rfl ?_); refine goesL_ (some 32) rfl rfl Tryd.func15 (by kernel_rfl) rfl #[.agg #[.string x124000_1, .bool x124001_1], .int .i32 t124] rfl (by (try simp only [List.map_toArray, List.map_cons, List.map_nil]); first | done | rfl | (simp only [List.length_drop, List.length_take]; rfl)) ?_; (with_reducible refine (vendmeterref_Pressed.calls k1 x124000_1 x124001_1 t124 t126 t127 t128 t131 _ A13.out).mono ?_); rintro e w18 ⟨v129, rfl, ho0, hb⟩; refine ⟨_, rfl, ?_⟩; have n0_ := Aside0.mk (Kd.R_elder' (by (with_reducible repeat (first | apply Kd.R_alloc | apply Kd.R_drewN | apply Kd.R_drew)); exact HO_5.out) (Kd.R_base ho0) hb); have n1_ := Aside0.mk (Kd.R_lower (Kd.R_new' ho0 (Kd.R_lt (by (with_reducible repeat (first | apply Kd.R_alloc | apply Kd.R_drewN | apply Kd.R_drew)); exact HO_5.out))) (below_size (by with_reducible repeat (first | exact HB.1 | apply ya7 | apply yn7 | apply yd7 | refine below_set ?_ GE122.1 | refine below_set ?_ GE123.1)))); have n2_ := Aside0.mk (blk_below (g := gb122) (o := .cells #[.string (⟨#[]⟩ : ByteArray), .bool false] 24 (0, 0)) (by (with_reducible repeat (first | apply xn7 | apply xd7 | apply xa7)); exact BK122.1) hb); have n3_ := Aside0.mk (blk_below (g := gb123) (o := .cells #[.string x124000_1, .bool x124001_1] 24 (0, 0)) (by (with_reducible repeat (first | apply xn7 | apply xd7 | apply xa7)); exact BK123.1) hb); have n4_ := Aside0.mk (below_step (by with_reducible repeat (first | exact HB.1 | apply ya7 | apply yn7 | apply yd7 | refine below_set ?_ GE122.1 | refine below_set ?_ GE123.1)) hb); clear HO_5; clear BK122; clear BK123; clear HB; have HO_5 := n0_; have HO130 := n1_; have BK122 := n2_; have BK123 := n3_; have HB := n4_; clear n0_ n1_ n2_ n3_ n4_; (try clear hb); (try clear hb2); (try clear hk); (try clear hi); (try clear ho0)) | ((with_reducible refine gate_dst (N := 10) rfl ?_); refine box_event ?hg (N := 10) ?hd (cs := #[.string (⟨#[]⟩ : ByteArray), .bool false]) (t := 24) ?hr ?_; (case hd => rfl); (case hg => rfl); (case hr => first | (go_simp; done) | (go_simp; rfl)); intro gb132 hg w19 hbox hb; have n0_ := Aside0.mk (Kd.R_below (by (with_reducible repeat (first | apply Kd.R_alloc | apply Kd.R_drewN | apply Kd.R_drew)); exact HO_5.out) hb); have n1_ := Aside0.mk (Kd.R_below (by (with_reducible repeat (first | apply Kd.R_alloc | apply Kd.R_drewN | apply Kd.R_drew)); exact HO130.1) hb); have n2_ := Aside0.mk (blk_below (g := gb122) (o := .cells #[.string (⟨#[]⟩ : ByteArray), .bool false] 24 (0, 0)) (by (with_reducible repeat (first | apply xn7 | apply xd7 | apply xa7)); exact BK122.1) hb); have n3_ := Aside0.mk (blk_below (g := gb123) (o := .cells #[.string x124000_1, .bool x124001_1] 24 (0, 0)) (by (with_reducible repeat (first | apply xn7 | apply xd7 | apply xa7)); exact BK123.1) hb); have n4_ := Aside0.mk (below_step (by with_reducible repeat (first | exact HB.1 | apply ya7 | apply yn7 | apply yd7 | refine below_set ?_ GE122.1 | refine below_set ?_ GE123.1)) hb); have n5_ := Aside0.mk (hbox); have n6_ := Aside0.mk ((by rw [hg]; exact (below_size (by with_reducible repeat (first | exact HB.1 | apply ya7 | apply yn7 | apply yd7 | refine below_set ?_ GE122.1 | refine below_set ?_ GE123.1))) : w.heap.size ≤ gb132)); have n7_ := n6_; have n8_ := Aside0.mk ((by rw [hg]; exact Nat.ne_of_lt (blk_lt (g := gb122) (o := .cells #[.string (⟨#[]⟩ : ByteArray), .bool false] 24 (0, 0)) (by (with_reducible repeat (first | apply xn7 | apply xd7 | apply xa7)); exact BK122.1)) : gb122 ≠ gb132)); have n9_ := Aside0.mk ((by rw [hg]; exact Nat.ne_of_gt (blk_lt (g := gb122) (o := .cells #[.string (⟨#[]⟩ : ByteArray), .bool false] 24 (0, 0)) (by (with_reducible repeat (first | apply xn7 | apply xd7 | apply xa7)); exact BK122.1)) : gb132 ≠ gb122)); have n10_ := Aside0.mk ((by rw [hg]; exact Nat.ne_of_lt (blk_lt (g := gb123) (o := .cells #[.string x124000_1, .bool x124001_1] 24 (0, 0)) (by (with_reducible repeat (first | apply xn7 | apply xd7 | apply xa7)); exact BK123.1)) : gb123 ≠ gb132)); have n11_ := Aside0.mk ((by rw [hg]; exact Nat.ne_of_gt (blk_lt (g := gb123) (o := .cells #[.string x124000_1, .bool x124001_1] 24 (0, 0)) (by (with_reducible repeat (first | apply xn7 | apply xd7 | apply xa7)); exact BK123.1)) : gb132 ≠ gb123)); clear HO_5; clear HO130; clear BK122; clear BK123; clear HB; have HO_5 := n0_; have HO130 := n1_; have BK122 := n2_; have BK123 := n3_; have HB := n4_; have BK132 := n5_; have GW132 := n6_; have GE132 := n7_; have NB122_132 := n8_; have NB132_122 := n9_; have NB123_132 := n10_; have NB132_123 := n11_; clear n0_ n1_ n2_ n3_ n4_ n5_ n6_ n7_ n8_ n9_ n10_ n11_; clear hb hbox hg; have hnb20 := NB132_122.1; have hnc20 := NB122_132.1; have hnb21 := NB132_123.1; have hnc21 := NB123_132.1; obtain ⟨hcz22_0, hcz22_1⟩ := c2_7 BK132.1; obtain ⟨hfz22_0, hfz22_1⟩ := f2_7 BK132.1; obtain ⟨Ao24, co24, eo24⟩ := Kd.R_slice HO130.1; subst eo24) | ((with_reducible refine gate_builtin (b := .append) (xs := #[.tmp 36, .tmp 37]) rfl ?_); at_builtin; refine Kd.R_append_rows k41 (w0 := w) w.heap.size rfl (.tmp 36) (.tmp 37) 22 41 (.agg #[(.string ⟨#[]⟩), (.int .i64 0)]) 24 rfl Tryd.underlying22 info41 rfl (by decide) (by omega) u5 x5_1 t128 _ _ _ (fun k_ => some k_ ≠ (.slice Ao24 t128.length co24 : Value).ownBlock) (fun _ => False) rfl rfl ?aO ?aR (fun _ _ h => h) (fun _ h => h.elim) ?aF ?aB ?aS ?aL ?_; (case aR => refine (Kd.R_reads' (e := 41) (base := w.heap.size) (ok := fun k_ => (True ∧ some k_ ≠ (u5 : Value).ownBlock)) (n := t128.length) (c := co24) ?_).2.2; exact (by (with_reducible repeat (first | apply Kd.R_alloc | apply Kd.R_drewN | apply Kd.R_drew)); exact (Kd.R_mono (Kd.R_far (p := ⟨gb132, 1, none⟩) (Kd.R_far (p := ⟨gb132, 0, none⟩) (Kd.R_types HO130.1 BK132.1 (by decide)) (fun _ hk => hk.2) (.string t126)) (fun _ hk => hk.2) (.bool t127)) (fun _ h_ => h_.1)))); (case aB => exact (by with_reducible repeat (first | exact HB.1 | apply ya7 | apply yn7 | apply yd7 | refine below_set ?_ GE122.1 | refine below_set ?_ GE123.1 | refine below_set ?_ GE132.1))); (case aF => exact (fun k_ hk => Kd.fresh' (Kd.R_lt (by (with_reducible repeat (first | apply Kd.R_alloc | apply Kd.R_drewN | apply Kd.R_drew)); exact (Kd.R_mono (Kd.R_far (p := ⟨gb132, 1, none⟩) (Kd.R_far (p := ⟨gb132, 0, none⟩) (Kd.R_types HO130.1 BK132.1 (by decide)) (fun _ hk => hk.2) (.string t126)) (fun _ hk => hk.2) (.bool t127)) (fun _ h_ => h_.1)))) k_ hk)); (case aO => exact (by (with_reducible repeat (first | apply Kd.R_alloc | apply Kd.R_drewN | apply Kd.R_drew)); exact Kd.R_mono (Kd.R_far (p := ⟨gb132, 1, none⟩) (Kd.R_far (p := ⟨gb132, 0, none⟩) (Kd.R_types HO_5.out BK132.1 (by decide)) (fun _ hk => hk.2) (.string t126)) (fun _ hk => hk.2) (.bool t127)) (fun _ hk => hk.1.2))); (case aS => exact (below_size (by with_reducible repeat (first | exact HB.1 | apply ya7 | apply yn7 | apply yd7 | refine below_set ?_ GE122.1 | refine below_set ?_ GE123.1 | refine below_set ?_ GE132.1)))); (case aL => have := LMc14.out; omega); intro v134 w23 ho hb hg hat; rw [← Ny133.out] at ho; have n0_ := Aside0.mk (blk_grown (g := gb122) (o := .cells #[.string (⟨#[]⟩ : ByteArray), .bool false] 24 (0, 0)) (by (with_reducible repeat (first | apply xn7 | apply xd7 | apply xa7)); refine blk_far ?_ NB122_132.1 _; (with_reducible repeat (first | apply xn7 | apply xd7 | apply xa7)); refine blk_far ?_ NB122_132.1 _; (with_reducible repeat (first | apply xn7 | apply xd7 | apply xa7)); exact BK122.1) hg (Kd.R_ne HO_5.out BK122.1 (by decide))); have n1_ := Aside0.mk (blk_grown (g := gb123) (o := .cells #[.string x124000_1, .bool x124001_1] 24 (0, 0)) (by (with_reducible repeat (first | apply xn7 | apply xd7 | apply xa7)); refine blk_far ?_ NB123_132.1 _; (with_reducible repeat (first | apply xn7 | apply xd7 | apply xa7)); refine blk_far ?_ NB123_132.1 _; (with_reducible repeat (first | apply xn7 | apply xd7 | apply xa7)); exact BK123.1) hg (Kd.R_ne HO_5.out BK123.1 (by decide))); have n2_ := Aside0.mk (Kd.R_after (ok := (fun _ => True)) (by (with_reducible repeat (first | apply Kd.R_alloc | apply Kd.R_drewN | apply Kd.R_drew)); exact Kd.R_mono (Kd.R_far (p := ⟨gb132, 1, none⟩) (Kd.R_far (p := ⟨gb132, 0, none⟩) (Kd.R_types HO130.1 BK132.1 (by decide)) (fun _ hk => hk.2) (.string t126)) (fun _ hk => hk.2) (.bool t127)) (fun _ hk => ⟨trivial, hk.1.2⟩)) hg hat); have n3_ := Aside0.mk (blk_grown (g := gb132) (o := .cells #[.string t126, .bool t127] 24 (0, 0)) (by (with_reducible repeat (first | apply xn7 | apply xd7 | apply xa7)); refine blk_put (cs := #[.string t126, .bool false]) ?_ 1 _ rfl; (with_reducible repeat (first | apply xn7 | apply xd7 | apply xa7)); refine blk_put (cs := #[.string (⟨#[]⟩ : ByteArray), .bool false]) ?_ 0 _ rfl; (with_reducible repeat (first | apply xn7 | apply xd7 | apply xa7)); exact BK132.1) hg (Kd.R_ne HO_5.out BK132.1 (by decide))); have n4_ := Aside0.mk (hb); have n5_ := Aside0.mk (ho); clear BK122; clear BK123; clear HO130; clear BK132; clear HB; clear HO_5; have BK122 := n0_; have BK123 := n1_; have HO130 := n2_; have BK132 := n3_; have HB := n4_; have HO135 := n5_; clear n0_ n1_ n2_ n3_ n4_ n5_; clear ho hb hg hat; obtain ⟨hcz25_0, hcz25_1⟩ := c2_7 BK132.1; obtain ⟨hfz25_0, hfz25_1⟩ := f2_7 BK132.1; obtain ⟨hcz26_0, hcz26_1⟩ := c2_7 BK123.1; obtain ⟨hfz26_0, hfz26_1⟩ := f2_7 BK123.1))
                go_roundg k1
                case measure => have := HK1.out; omega
                case rel => exact ⟨(y133), (wrap64 (x7_1 + t125)), (t126), (t127), (by first | rfl | (simp; done) | (simp [*]; done)), H', ⟨by have := HK1.out; omega⟩, ⟨by (with_reducible repeat (first | apply Kd.R_alloc | apply Kd.R_drewN | apply Kd.R_drew)); exact Kd.R_mono (Kd.R_far (p := ⟨gb123, 1, none⟩) (Kd.R_far (p := ⟨gb123, 0, none⟩) (Kd.R_types HO135.1 BK123.1 (by decide)) (fun _ hk => hk.2) (.string t126)) (fun _ hk => hk.2) (.bool t127)) (fun _ hk => trivial)⟩, ⟨by (with_reducible repeat (first | apply xn7 | apply xd7 | apply xa7)); refine blk_far ?_ NB122_123.1 _; (with_reducible repeat (first | apply xn7 | apply xd7 | apply xa7)); refine blk_far ?_ NB122_123.1 _; (with_reducible repeat (first | apply xn7 | apply xd7 | apply xa7)); exact BK122.1⟩, ⟨by (with_reducible repeat (first | apply xn7 | apply xd7 | apply xa7)); refine blk_put (cs := #[.string t126, .bool x124001_1]) ?_ 1 _ rfl; (with_reducible repeat (first | apply xn7 | apply xd7 | apply xa7)); refine blk_put (cs := #[.string x124000_1, .bool x124001_1]) ?_ 0 _ rfl; (with_reducible repeat (first | apply xn7 | apply xd7 | apply xa7)); exact BK123.1⟩, ⟨by repeat (first | (with_reducible first | exact HB.1 | apply below_alloc | apply pw_below_drewN | apply below_drew1 | refine below_set ?_ GE122.1 | refine below_set ?_ GE123.1 | refine below_set ?_ GE132.1) | exact HB.1)⟩⟩
              · rw [if_neg c14] at H
                exact absurd H (by simp)
            · rw [if_neg c11] at H
              exact absurd H (by simp)
          · rw [if_neg c10] at H
            exact absurd H (by simp)
        · rw [if_neg c9] at H
          have c9b0 : decide (x7_1 < (a0.size : Int)) = false := decide_eq_false c9
          clear c9
          simp only [Option.some.injEq, Prod.mk.injEq] at H
          obtain ⟨rfl, rfl, rfl, rfl⟩ := H
          try go_wp2
          have n0_ := Aside0.mk (Kd.R_drew HO_5.out)
          have n1_ := Aside0.mk (blk_drew BK122.1)
          have n2_ := Aside0.mk (blk_drew BK123.1)
          have n3_ := Aside0.mk (below_drew1 HB.1)
          clear HO_5
          clear BK122
          clear BK123
          clear HB
          have HO_5 := n0_
          have BK122 := n1_
          have BK123 := n2_
          have HB := n3_
          clear n0_ n1_ n2_ n3_
          refine start_ (n := 5) (S := fun w' => w'.cell? ⟨gb123, 0, none⟩ = some (.string x124000_1) ∧ w'.cell? ⟨gb123, 1, none⟩ = some (.bool x124001_1)) (ds := []) #[false, false, false, false, false] (by kernel_rfl) rfl rfl ⟨(blk_cell BK123.1 0).trans rfl, (blk_cell BK123.1 1).trans rfl⟩ (fun hHeld => ?_)
          generalize wr.drew = w27 at HO_5 BK122 BK123 HB hHeld ⊢
          refine pure_ (i := 0) (N := some 43) (v := ?_) (a' := ?_) #[true, false, false, false, false] rfl rfl (by kernel_rfl) (fun _ _ _ h => h) (Or.inl ⟨by rfl, ?_⟩) ?_ ?_
          rotate_left
          · intro w'
            go_simp
            with_reducible rfl
          rotate_left
          · simp only [Act.put, List.setIfInBounds_toArray, List.set_cons_zero, List.set_cons_succ, i64_w, i32_w]
            rfl
          refine pure_ (i := 2) (N := some 2) (v := ?_) (a' := ?_) #[true, false, true, false, false] rfl rfl (by kernel_rfl) (fun _ _ _ h => h) (Or.inl ⟨by rfl, ?_⟩) ?_ ?_
          rotate_left
          · intro w'
            go_simp
            with_reducible rfl
          rotate_left
          · simp only [Act.put, List.setIfInBounds_toArray, List.set_cons_zero, List.set_cons_succ, i64_w, i32_w]
            rfl
          refine take_ (i := 1) (N := some 44) (v := ?_) (a' := ?_) #[true, true, true, false, false] rfl rfl (by kernel_rfl) (fun _ _ _ h => h) (Or.inl ⟨by rfl, ?_⟩) hHeld ?_ ?_
          rotate_left
          · rintro w' ⟨s0, s1⟩
            go_simp
            with_reducible rfl
          rotate_left
          · simp only [Act.put, List.setIfInBounds_toArray, List.set_cons_zero, List.set_cons_succ, i64_w, i32_w]
            rfl
          refine one_ (i := 3) (N := none) #[true, true, true, true, false] rfl rfl (by kernel_rfl) (by decide) (fun K hK => ?_)
          have hs28 : w27.cell? ⟨gb122, 0, none⟩ = some (.string (⟨#[]⟩ : ByteArray)) := (blk_cell BK122.1 0).trans rfl
          have hfs28 := blk_frozen BK122.1 0
          have hns28_1 := NB123_122.1
          have hms28_1 := NB122_123.1
          have hs29 : w27.cell? ⟨gb122, 1, none⟩ = some (.bool false) := (blk_cell BK122.1 1).trans rfl
          have hfs29 := blk_frozen BK122.1 1
          have hns29_1 := NB123_122.1
          have hms29_1 := NB122_123.1
          refine skip_ (w1 := ?_) (by rfl) rfl ?_ ?_
          rotate_left
          · go_simp
            rfl
          refine hK.out _ _ ⟨((cell_far (p := ⟨gb122, _, none⟩) NB123_122.1 _).trans (((cell_far (p := ⟨gb122, _, none⟩) NB123_122.1 _).trans (hHeld.1)))), ((cell_far (p := ⟨gb122, _, none⟩) NB123_122.1 _).trans (((cell_far (p := ⟨gb122, _, none⟩) NB123_122.1 _).trans (hHeld.2))))⟩ (fun hHeld => ?_)
          clear hK K
          refine pure_ (i := 4) (N := some 4) (v := ?_) (a' := ?_) #[true, true, true, true, true] rfl rfl (by kernel_rfl) (fun _ _ _ h => h) (Or.inl ⟨by rfl, ?_⟩) ?_ ?_
          rotate_left
          · intro w'
            go_simp
            with_reducible rfl
          rotate_left
          · simp only [Act.put, List.setIfInBounds_toArray, List.set_cons_zero, List.set_cons_succ, i64_w, i32_w]
            rfl
          refine done_ (by kernel_rfl) ?_
          try go_wp2
          refine bodyPost_ret (results_list (rs := [.tmp 2, .cell 3 24, .tmp 4]) rfl (by simp) (.tmp (.cell gb122 24 #[.string x124000_1, .bool x124001_1] (0, 0) _ rfl (by (with_reducible repeat (first | apply xn7 | apply xd7 | apply xa7)); refine blk_put (cs := #[.string x124000_1, .bool false]) ?_ 1 _ rfl; (with_reducible repeat (first | apply xn7 | apply xd7 | apply xa7)); refine blk_put (cs := #[.string (⟨#[]⟩ : ByteArray), .bool false]) ?_ 0 _ rfl; (with_reducible repeat (first | apply xn7 | apply xd7 | apply xa7)); exact BK122.1) Tryd.underlying24 rfl (by kernel_rfl) (.tmp .nil)))) rfl ?_
          exact ⟨_, by first | rfl | (simp [errW_none, errW_some] <;> rfl) | (simp [*, errW_none, errW_some] <;> rfl), by (with_reducible repeat (first | apply Kd.R_alloc | apply Kd.R_drewN | apply Kd.R_drew)); exact Kd.R_mono (Kd.R_far (p := ⟨gb122, 1, none⟩) (Kd.R_far (p := ⟨gb122, 0, none⟩) (Kd.R_types HO_5.out BK122.1 (by decide)) (fun _ hk => hk.2) (.string x124000_1)) (fun _ hk => hk.2) (.bool x124001_1)) (fun _ hk => trivial), by repeat (first | (with_reducible first | exact HB.1 | apply below_alloc | apply pw_below_drewN | apply below_drew1 | refine below_set ?_ GE122.1 | refine below_set ?_ GE123.1) | exact HB.1)⟩

/-! ### vendmeterlaw_sameEntries: function 8 -/
theorem xa8 {w : World} {g : Nat} {o : Obj} (h : w.heap[g]? = some o) (o' : Obj) : (w.alloc o').heap[g]? = some o := blk_alloc h o'
theorem xd8 {w : World} {g : Nat} {o : Obj} (h : w.heap[g]? = some o) : w.drew.heap[g]? = some o := blk_drew h
theorem xn8 {w : World} {g : Nat} {o : Obj} (h : w.heap[g]? = some o) (n : Nat) : (w.drewN n).heap[g]? = some o := blk_drewN h n
def vendmeterlaw_sameEntries.l0 : Nat → List (S41) → List (S41) → Int → Option (Bool)
  | 0, _, _, _ => none
  | k + 1, x0, x1, x5 => if x5 < (x0.length : Int) then (if 0 ≤ x5 then (if x5 < (x1.length : Int) then (if (!((((rd_T41 x0 x5).f0).toList) == (((rd_T41 x1 x5).f0).toList)) || (!(((rd_T41 x0 x5).f1) == ((rd_T41 x1 x5).f1)))) = true then (some false) else (vendmeterlaw_sameEntries.l0 k x0 x1 (wrap64 (x5 + 1)))) else (none)) else (none)) else (some true)
def vendmeterlaw_sameEntries.f (k : Nat) (l0 : List (S41)) (l1 : List (S41)) : Option (Bool) := if (l0.length : Int) = (l1.length : Int) then (vendmeterlaw_sameEntries.l0 k l0 l1 0) else (some false)
theorem vendmeterlaw_sameEntries.mono_l : ∀ k, (∀ y0 y1 y2, LeO (vendmeterlaw_sameEntries.l0 k y0 y1 y2) (vendmeterlaw_sameEntries.l0 (k + 1) y0 y1 y2))
  | 0 => fun _ _ _ r h => by simp [vendmeterlaw_sameEntries.l0] at h
  | k + 1 => by
    have ih0 := vendmeterlaw_sameEntries.mono_l k
    · intro y0 y1 y2
      unfold vendmeterlaw_sameEntries.l0
      repeat' first
      | (with_reducible exact ih0 _ _ _)
      | (with_reducible exact LeO.refl _)
      | (with_reducible exact LeO.none _)
      | (with_reducible refine LeO.ite ?_ ?_)
      | (with_reducible refine LeO.bind ?_ (fun _ => ?_))
      | exact ih0 _ _ _
      | exact LeO.none _
      | refine LeO.ite ?_ ?_
      | refine LeO.bind ?_ (fun _ => ?_)
theorem vendmeterlaw_sameEntries.mono : ∀ a0 a1 k, LeO (vendmeterlaw_sameEntries.f k a0 a1) (vendmeterlaw_sameEntries.f (k + 1) a0 a1) := by
  intro a0 a1 k
  have ih0 := vendmeterlaw_sameEntries.mono_l k
  unfold vendmeterlaw_sameEntries.f
  repeat' first
      | (with_reducible exact ih0 _ _ _)
      | (with_reducible exact LeO.refl _)
      | (with_reducible exact LeO.none _)
      | (with_reducible refine LeO.ite ?_ ?_)
      | (with_reducible refine LeO.bind ?_ (fun _ => ?_))
      | exact ih0 _ _ _
      | exact LeO.none _
      | refine LeO.ite ?_ ?_
      | refine LeO.bind ?_ (fun _ => ?_)
set_option maxHeartbeats 8000000 in
set_option maxRecDepth 100000 in
theorem vendmeterlaw_sameEntries.calls (k : Nat) (A0 : Option Addr) (c0 : Nat) (l0 : List (S41)) (A1 : Option Addr) (c1 : Nat) (l1 : List (S41)) (r : Bool) (w : World) (hr0 : Kd.C k41 w A0 l0.length l0) (hc0 : l0.length ≤ c0) (hr1 : Kd.C k41 w A1 l1.length l1) (hc1 : l1.length ≤ c1) (h : vendmeterlaw_sameEntries.f k l0 l1 = some r) :
    Calls Tryd.prog 8 #[.slice A0 l0.length c0, .slice A1 l1.length c1] w fun e w' => e = .returned (.bool r) ∧ Drawn0 w w' := by
  have hu41 := Tryd.underlying41
  have HR0 := Aside0.mk hr0
  have HC0 := Aside0.mk hc0
  clear hr0 hc0
  have HR1 := Aside0.mk hr1
  have HC1 := Aside0.mk hc1
  clear hr1 hc1
  have H : (if (l0.length : Int) = (l1.length : Int) then (vendmeterlaw_sameEntries.l0 k l0 l1 0) else (some false)) = some r := h
  clear h
  by_cases c3 : (l0.length : Int) = (l1.length : Int)
  · rw [if_pos c3] at H
    have c3b0 : ((l0.length : Int) == (l1.length : Int)) = true := beq_iff_eq.mpr c3
    have c3b1 : ((l0.length : Int) != (l1.length : Int)) = false := bne_eq_false_iff_eq.mpr c3
    have c3b2 : (l0.length == l1.length) = true := by first | simpa using c3 | (simp at c3 ⊢; omega)
    clear c3
    have H' := Aside0.mk H
    clear H
    go_enter Tryd.func8, Tryd.ntmps8
    go_wp2
    repeat (go_quiet (fail); try go_wp2)
    go_loopg [5] k (fun kq v5 w' => ∃ (x5_1 : Int), v5 = .int .i64 x5_1 ∧ Aside0 (vendmeterlaw_sameEntries.l0 kq l0 l1 x5_1 = some r) ∧ Aside0 (kq ≤ k) ∧ Drawn0 w w')
    case atStart => exact ⟨(0), (by first | rfl | (simp; done) | (simp [*]; done)), H', ⟨Nat.le_refl _⟩, by repeat (first | exact Drawn0.refl _ | apply Drawn0.step)⟩
    case round =>
      clear H'
      try clear c1
      try clear p2
      try clear c3
      try clear c3b0
      try clear c3b1
      try clear c3b2
      obtain ⟨x5_1, rfl, HA, HK1, ⟨m1, rfl⟩⟩ := hrel
      cases gk with
      | zero => exact absurd HA.out (by simp [vendmeterlaw_sameEntries.l0])
      | succ k1 =>
        have H := HA.out
        clear HA
        simp only [vendmeterlaw_sameEntries.l0] at H
        by_cases c4 : x5_1 < (l0.length : Int)
        · rw [if_pos c4] at H
          have c4b0 : decide (x5_1 < (l0.length : Int)) = true := decide_eq_true c4
          clear c4
          by_cases c5 : 0 ≤ x5_1
          · rw [if_pos c5] at H
            have c5b0 : decide (0 ≤ x5_1) = true := decide_eq_true c5
            clear c5
            by_cases c6 : x5_1 < (l1.length : Int)
            · rw [if_pos c6] at H
              have c6b0 : decide (x5_1 < (l1.length : Int)) = true := decide_eq_true c6
              clear c6
              by_cases c7 : (!((((rd_T41 l0 x5_1).f0).toList) == (((rd_T41 l1 x5_1).f0).toList)) || (!(((rd_T41 l0 x5_1).f1) == ((rd_T41 l1 x5_1).f1)))) = true
              · rw [if_pos c7] at H
                have c7b0 : (!((((rd_T41 l0 x5_1).f0).toList) == (((rd_T41 l1 x5_1).f0).toList)) || (!(((rd_T41 l0 x5_1).f1) == ((rd_T41 l1 x5_1).f1)))) = true := c7
                clear c7
                obtain rfl := Option.some.inj H
                have p136 : 0 ≤ (x5_1 : Int) := of_decide_eq_true (by first | (with_reducible assumption) | assumption)
                have q136 : x5_1 < (l0.length : Int) := of_decide_eq_true (by first | (with_reducible assumption) | assumption)
                obtain ⟨ad136, e136, hx136_0, hx136_1⟩ := at_T41 HR0.out x5_1 p136 q136
                cases e136
                replace p136 := eq_true p136
                replace q136 := eq_true q136
                have p137 : 0 ≤ (x5_1 : Int) := of_decide_eq_true (by first | (with_reducible assumption) | assumption)
                have q137 : x5_1 < (l1.length : Int) := of_decide_eq_true (by first | (with_reducible assumption) | assumption)
                obtain ⟨ad137, e137, hx137_0, hx137_1⟩ := at_T41 HR1.out x5_1 p137 q137
                cases e137
                replace p137 := eq_true p137
                replace q137 := eq_true q137
                go_wp2
                repeat (go_quiet (fail); try go_wp2)
                go_ret
                exact ⟨by first | rfl | (simp; done) | (simp [*]; done), by repeat (first | exact Drawn0.refl _ | apply Drawn0.step)⟩
              · rw [if_neg c7] at H
                have c7b0 : (!((((rd_T41 l0 x5_1).f0).toList) == (((rd_T41 l1 x5_1).f0).toList)) || (!(((rd_T41 l0 x5_1).f1) == ((rd_T41 l1 x5_1).f1)))) = false := by simpa using c7
                clear c7
                have H' := Aside0.mk H
                clear H
                have p136 : 0 ≤ (x5_1 : Int) := of_decide_eq_true (by first | (with_reducible assumption) | assumption)
                have q136 : x5_1 < (l0.length : Int) := of_decide_eq_true (by first | (with_reducible assumption) | assumption)
                obtain ⟨ad136, e136, hx136_0, hx136_1⟩ := at_T41 HR0.out x5_1 p136 q136
                cases e136
                replace p136 := eq_true p136
                replace q136 := eq_true q136
                have p137 : 0 ≤ (x5_1 : Int) := of_decide_eq_true (by first | (with_reducible assumption) | assumption)
                have q137 : x5_1 < (l1.length : Int) := of_decide_eq_true (by first | (with_reducible assumption) | assumption)
                obtain ⟨ad137, e137, hx137_0, hx137_1⟩ := at_T41 HR1.out x5_1 p137 q137
                cases e137
                replace p137 := eq_true p137
                replace q137 := eq_true q137
                go_wp2
                repeat (go_quiet (fail); try go_wp2)
                go_roundg k1
                case measure => have := HK1.out; omega
                case rel => exact ⟨(wrap64 (x5_1 + 1)), (by first | rfl | (simp; done) | (simp [*]; done)), H', ⟨by have := HK1.out; omega⟩, by repeat (first | exact Drawn0.refl _ | apply Drawn0.step)⟩
            · rw [if_neg c6] at H
              exact absurd H (by simp)
          · rw [if_neg c5] at H
            exact absurd H (by simp)
        · rw [if_neg c4] at H
          have c4b0 : decide (x5_1 < (l0.length : Int)) = false := decide_eq_false c4
          clear c4
          obtain rfl := Option.some.inj H
          go_wp2
          repeat (go_quiet (fail); try go_wp2)
          go_ret
          exact ⟨by first | rfl | (simp; done) | (simp [*]; done), by repeat (first | exact Drawn0.refl _ | apply Drawn0.step)⟩
  · rw [if_neg c3] at H
    have c3b0 : ((l0.length : Int) == (l1.length : Int)) = false := beq_eq_false_iff_ne.mpr c3
    have c3b1 : ((l0.length : Int) != (l1.length : Int)) = true := bne_iff_ne.mpr c3
    have c3b2 : (l0.length == l1.length) = false := by first | simpa using c3 | (simp at c3 ⊢; omega)
    obtain rfl := Option.some.inj H
    go_enter Tryd.func8, Tryd.ntmps8
    go_wp2
    repeat (go_quiet (fail); try go_wp2)
    go_ret
    exact ⟨by first | rfl | (simp; done) | (simp [*]; done), by repeat (first | exact Drawn0.refl _ | apply Drawn0.step)⟩

/-! ### vendmeterlaw_PadKeys: function 3 -/
theorem xa3 {w : World} {g : Nat} {o : Obj} (h : w.heap[g]? = some o) (o' : Obj) : (w.alloc o').heap[g]? = some o := blk_alloc h o'
theorem xd3 {w : World} {g : Nat} {o : Obj} (h : w.heap[g]? = some o) : w.drew.heap[g]? = some o := blk_drew h
theorem xn3 {w : World} {g : Nat} {o : Obj} (h : w.heap[g]? = some o) (n : Nat) : (w.drewN n).heap[g]? = some o := blk_drewN h n
theorem ya3 {w W : World} (h : Below w.heap.size w W) (o : Obj) : Below w.heap.size w (W.alloc o) := below_alloc h o
theorem yn3 {B : Nat} {w W : World} (h : Below B w W) (n : Nat) : Below B w (W.drewN n) := pw_below_drewN h n
theorem yd3 {B : Nat} {w W : World} (h : Below B w W) : Below B w W.drew := below_drew1 h
theorem c2_3 {w : World} {g : Nat} {t : TypeId} {x0 x1 : Value} {r : List Value} (h : w.heap[g]? = some (.cells (List.toArray (x0 :: x1 :: r)) t (0, 0))) : w.cell? ⟨g, 0, none⟩ = some x0 ∧ w.cell? ⟨g, 1, none⟩ = some x1 := ⟨(blk_cell h 0).trans rfl, (blk_cell h 1).trans rfl⟩
theorem f2_3 {w : World} {g : Nat} {t : TypeId} {cs : Array Value} (h : w.heap[g]? = some (.cells cs t (0, 0))) : w.frozen? ⟨g, 0, none⟩ = false ∧ w.frozen? ⟨g, 1, none⟩ = false := ⟨blk_frozen h 0, blk_frozen h 1⟩
def vendmeterlaw_PadKeys.f (k : Nat) (a0 : ByteArray) : Option (Bool) := (keypad_Keys.f k a0).bind fun bt138 => ((vendmeterref_Typed.f k a0).bind fun bt145 => (if (bt138.2.1.toList == bt145.2.1.toList && (bt138.2.2.1 == bt145.2.2.1)) = true then (if bt138.2.2.2 = bt145.2.2.2 then ((vendmeterlaw_sameEntries.f k bt138.1 bt145.1).bind fun t152 => (some t152)) else (some false)) else (some false)))
theorem vendmeterlaw_PadKeys.mono : ∀ a0 k, LeO (vendmeterlaw_PadKeys.f k a0) (vendmeterlaw_PadKeys.f (k + 1) a0) := by
  intro a0 k
  unfold vendmeterlaw_PadKeys.f
  repeat' first
      | (with_reducible exact keypad_Keys.mono _ _)
      | (with_reducible exact vendmeterlaw_sameEntries.mono _ _ _)
      | (with_reducible exact vendmeterref_Typed.mono _ _)
      | (with_reducible exact LeO.refl _)
      | (with_reducible exact LeO.none _)
      | (with_reducible refine LeO.ite ?_ ?_)
      | (with_reducible refine LeO.bind ?_ (fun _ => ?_))
      | exact keypad_Keys.mono _ _
      | exact vendmeterlaw_sameEntries.mono _ _ _
      | exact vendmeterref_Typed.mono _ _
      | exact LeO.none _
      | refine LeO.ite ?_ ?_
      | refine LeO.bind ?_ (fun _ => ?_)
set_option maxHeartbeats 8000000 in
set_option maxRecDepth 100000 in
theorem vendmeterlaw_PadKeys.calls (k : Nat) (a0 : ByteArray) (r : Bool) (w : World) (HTAB : LaidW w) (h : vendmeterlaw_PadKeys.f k a0 = some r) :
    Calls Tryd.prog 3 #[.string a0] w fun e w' => e = .returned (.bool r) ∧ Below w.heap.size w w' := by
  have hu24 := Tryd.underlying24
  have HB := Aside0.mk (Below.refl w.heap.size w)
  have H : ((keypad_Keys.f k a0).bind fun bt138 => ((vendmeterref_Typed.f k a0).bind fun bt145 => (if (bt138.2.1.toList == bt145.2.1.toList && (bt138.2.2.1 == bt145.2.2.1)) = true then (if bt138.2.2.2 = bt145.2.2.2 then ((vendmeterlaw_sameEntries.f k bt138.1 bt145.1).bind fun t152 => (some t152)) else (some false)) else (some false)))) = some r := h
  clear h
  replace H := Option.bind_eq_some_iff.mp H
  obtain ⟨⟨t138, t141, t142, t143⟩, A20, H⟩ := H
  replace H : ((vendmeterref_Typed.f k a0).bind fun bt145 => (if (t141.toList == bt145.2.1.toList && (t142 == bt145.2.2.1)) = true then (if t143 = bt145.2.2.2 then ((vendmeterlaw_sameEntries.f k t138 bt145.1).bind fun t152 => (some t152)) else (some false)) else (some false))) = some r := H
  have A2 := Aside0.mk A20
  clear A20
  replace H := Option.bind_eq_some_iff.mp H
  obtain ⟨⟨t145, t148, t149, t150⟩, A30, H⟩ := H
  replace H : (if (t141.toList == t148.toList && (t142 == t149)) = true then (if t143 = t150 then ((vendmeterlaw_sameEntries.f k t138 t145).bind fun t152 => (some t152)) else (some false)) else (some false)) = some r := H
  have A3 := Aside0.mk A30
  clear A30
  by_cases c4 : (t141.toList == t148.toList && (t142 == t149)) = true
  · rw [if_pos c4] at H
    have c4b0 : (t141.toList == t148.toList && (t142 == t149)) = true := c4
    (try (have c4b1 : decide (t141.toList = t148.toList && (t142 == t149)) = true := by simpa using c4))
    (try (have c4b2 : (t141.toList == t148.toList && (t142 == t149)) = true := by simpa using c4))
    clear c4
    by_cases c5 : t143 = t150
    · rw [if_pos c5] at H
      have c5b0 : (t143 == t150) = true := beq_iff_eq.mpr c5
      have c5b1 : (t143 != t150) = false := bne_eq_false_iff_eq.mpr c5
      clear c5
      replace H := Option.bind_eq_some_iff.mp H
      obtain ⟨t152, A60, H⟩ := H
      replace H : (some t152) = some r := H
      have A6 := Aside0.mk A60
      clear A60
      obtain rfl := Option.some.inj H
      go_enter Tryd.func3, Tryd.ntmps3
      go_wp2_with (first | ((with_reducible refine gate_callee (f := 6) rfl ?_); refine goesL_ (some 11) rfl rfl Tryd.func6 (by kernel_rfl) rfl #[.string a0] rfl (by (try simp only [List.map_toArray, List.map_cons, List.map_nil]); first | done | rfl | (simp only [List.length_drop, List.length_take]; rfl)) ?_; (with_reducible refine (keypad_Keys.calls k a0 t138 t141 t142 t143 _ A2.out).mono ?_); rintro e w7 ⟨v139, rfl, ho0, hb⟩; refine ⟨_, rfl, ?_⟩; have n0_ := Aside0.mk (Kd.R_lower ho0 (below_size (by with_reducible repeat (first | exact HB.1 | apply ya3 | apply yn3 | apply yd3)))); have n1_ := Aside0.mk (below_step (by with_reducible repeat (first | exact HB.1 | apply ya3 | apply yn3 | apply yd3)) hb); clear HB; have HO140 := n0_; have HB := n1_; clear n0_ n1_; (try clear hb); (try clear hb2); (try clear hk); (try clear hi); (try clear ho0)) | ((with_reducible refine gate_dst (N := 4) rfl ?_); refine box_event ?hg (N := 4) ?hd (cs := #[.string (⟨#[]⟩ : ByteArray), .bool false]) (t := 24) ?hr ?_; (case hd => rfl); (case hg => rfl); (case hr => first | (go_simp; done) | (go_simp; rfl)); intro gb144 hg w8 hbox hb; have n0_ := Aside0.mk (Kd.R_below (by (with_reducible repeat (first | apply Kd.R_alloc | apply Kd.R_drewN | apply Kd.R_drew)); exact HO140.1) hb); have n1_ := Aside0.mk (below_step (by with_reducible repeat (first | exact HB.1 | apply ya3 | apply yn3 | apply yd3)) hb); have n2_ := Aside0.mk (hbox); have n3_ := Aside0.mk ((by rw [hg]; exact (below_size (by with_reducible repeat (first | exact HB.1 | apply ya3 | apply yn3 | apply yd3))) : w.heap.size ≤ gb144)); have n4_ := n3_; clear HO140; clear HB; have HO140 := n0_; have HB := n1_; have BK144 := n2_; have GW144 := n3_; have GE144 := n4_; clear n0_ n1_ n2_ n3_ n4_; clear hb hbox hg; obtain ⟨hcz9_0, hcz9_1⟩ := c2_3 BK144.1; obtain ⟨hfz9_0, hfz9_1⟩ := f2_3 BK144.1) | ((with_reducible refine gate_callee (f := 7) rfl ?_); refine goesL_ (some 17) rfl rfl Tryd.func7 (by kernel_rfl) rfl #[.string a0] rfl (by (try simp only [List.map_toArray, List.map_cons, List.map_nil]); first | done | rfl | (simp only [List.length_drop, List.length_take]; rfl)) ?_; (with_reducible refine (vendmeterref_Typed.calls k a0 t145 t148 t149 t150 _ (HTAB.go (by repeat (first | (with_reducible first | exact HB.1 | exact Below.refl _ _ | apply below_alloc | apply pw_below_drewN | apply below_drew1 | refine below_set ?_ GE144.1) | exact HB.1))) A3.out).mono ?_); rintro e w10 ⟨v146, rfl, ho0, hb⟩; refine ⟨_, rfl, ?_⟩; have n0_ := Aside0.mk (Kd.R_elder' (by (with_reducible repeat (first | apply Kd.R_alloc | apply Kd.R_drewN | apply Kd.R_drew)); exact (Kd.R_mono (Kd.R_far (p := ⟨gb144, 1, none⟩) (Kd.R_far (p := ⟨gb144, 0, none⟩) (Kd.R_types HO140.1 BK144.1 (by decide)) (fun _ hk => hk.2) (.string t141)) (fun _ hk => hk.2) (.bool t142)) (fun _ h_ => h_.1))) (Kd.R_base ho0) hb); have n1_ := Aside0.mk (Kd.R_lower (Kd.R_new' ho0 (Kd.R_lt (by (with_reducible repeat (first | apply Kd.R_alloc | apply Kd.R_drewN | apply Kd.R_drew)); exact (Kd.R_mono (Kd.R_far (p := ⟨gb144, 1, none⟩) (Kd.R_far (p := ⟨gb144, 0, none⟩) (Kd.R_types HO140.1 BK144.1 (by decide)) (fun _ hk => hk.2) (.string t141)) (fun _ hk => hk.2) (.bool t142)) (fun _ h_ => h_.1))))) (below_size (by with_reducible repeat (first | exact HB.1 | apply ya3 | apply yn3 | apply yd3 | refine below_set ?_ GE144.1)))); have n2_ := Aside0.mk (blk_below (g := gb144) (o := .cells #[.string t141, .bool t142] 24 (0, 0)) (by (with_reducible repeat (first | apply xn3 | apply xd3 | apply xa3)); refine blk_put (cs := #[.string t141, .bool false]) ?_ 1 _ rfl; (with_reducible repeat (first | apply xn3 | apply xd3 | apply xa3)); refine blk_put (cs := #[.string (⟨#[]⟩ : ByteArray), .bool false]) ?_ 0 _ rfl; (with_reducible repeat (first | apply xn3 | apply xd3 | apply xa3)); exact BK144.1) hb); have n3_ := Aside0.mk (below_step (by with_reducible repeat (first | exact HB.1 | apply ya3 | apply yn3 | apply yd3 | refine below_set ?_ GE144.1)) hb); clear HO140; clear BK144; clear HB; have HO140 := n0_; have HO147 := n1_; have BK144 := n2_; have HB := n3_; clear n0_ n1_ n2_ n3_; (try clear hb); (try clear hb2); (try clear hk); (try clear hi); (try clear ho0)) | ((with_reducible refine gate_dst (N := 7) rfl ?_); refine box_event ?hg (N := 7) ?hd (cs := #[.string (⟨#[]⟩ : ByteArray), .bool false]) (t := 24) ?hr ?_; (case hd => rfl); (case hg => rfl); (case hr => first | (go_simp; done) | (go_simp; rfl)); intro gb151 hg w11 hbox hb; have n0_ := Aside0.mk (Kd.R_below (by (with_reducible repeat (first | apply Kd.R_alloc | apply Kd.R_drewN | apply Kd.R_drew)); exact HO140.1) hb); have n1_ := Aside0.mk (Kd.R_below (by (with_reducible repeat (first | apply Kd.R_alloc | apply Kd.R_drewN | apply Kd.R_drew)); exact HO147.1) hb); have n2_ := Aside0.mk (blk_below (g := gb144) (o := .cells #[.string t141, .bool t142] 24 (0, 0)) (by (with_reducible repeat (first | apply xn3 | apply xd3 | apply xa3)); exact BK144.1) hb); have n3_ := Aside0.mk (below_step (by with_reducible repeat (first | exact HB.1 | apply ya3 | apply yn3 | apply yd3 | refine below_set ?_ GE144.1)) hb); have n4_ := Aside0.mk (hbox); have n5_ := Aside0.mk ((by rw [hg]; exact (below_size (by with_reducible repeat (first | exact HB.1 | apply ya3 | apply yn3 | apply yd3 | refine below_set ?_ GE144.1))) : w.heap.size ≤ gb151)); have n6_ := n5_; have n7_ := Aside0.mk ((by rw [hg]; exact Nat.ne_of_lt (blk_lt (g := gb144) (o := .cells #[.string t141, .bool t142] 24 (0, 0)) (by (with_reducible repeat (first | apply xn3 | apply xd3 | apply xa3)); exact BK144.1)) : gb144 ≠ gb151)); have n8_ := Aside0.mk ((by rw [hg]; exact Nat.ne_of_gt (blk_lt (g := gb144) (o := .cells #[.string t141, .bool t142] 24 (0, 0)) (by (with_reducible repeat (first | apply xn3 | apply xd3 | apply xa3)); exact BK144.1)) : gb151 ≠ gb144)); clear HO140; clear HO147; clear BK144; clear HB; have HO140 := n0_; have HO147 := n1_; have BK144 := n2_; have HB := n3_; have BK151 := n4_; have GW151 := n5_; have GE151 := n6_; have NB144_151 := n7_; have NB151_144 := n8_; clear n0_ n1_ n2_ n3_ n4_ n5_ n6_ n7_ n8_; clear hb hbox hg; have hnb12 := NB151_144.1; have hnc12 := NB144_151.1; obtain ⟨hcz13_0, hcz13_1⟩ := c2_3 BK151.1; obtain ⟨hfz13_0, hfz13_1⟩ := f2_3 BK151.1; obtain ⟨hcz14_0, hcz14_1⟩ := c2_3 BK144.1; obtain ⟨hfz14_0, hfz14_1⟩ := f2_3 BK144.1; obtain ⟨Ao15, co15, eo15⟩ := Kd.R_slice HO140.1; subst eo15; obtain ⟨Ao16, co16, eo16⟩ := Kd.R_slice HO147.1; subst eo16) | (go_at_call 8; (with_reducible refine (vendmeterlaw_sameEntries.calls k _ _ t138 _ _ t145 t152 _ ?side1 ?side2 ?side3 ?side4 A6.out).mono ?_); (case side1 => refine (Kd.R_reads' (e := 41) (base := w.heap.size) (ok := fun k_ => (True ∧ some k_ ≠ (.slice Ao16 t145.length co16 : Value).ownBlock)) (n := t138.length) (c := co15) ?_).2.2; exact (by (with_reducible repeat (first | apply Kd.R_alloc | apply Kd.R_drewN | apply Kd.R_drew)); exact (Kd.R_mono (Kd.R_far (p := ⟨gb151, 1, none⟩) (Kd.R_far (p := ⟨gb151, 0, none⟩) (Kd.R_types HO140.1 BK151.1 (by decide)) (fun _ hk => hk.2) (.string t148)) (fun _ hk => hk.2) (.bool t149)) (fun _ h_ => h_.1)))); (case side2 => exact (Kd.R_reads' HO140.1).2.1); (case side3 => refine (Kd.R_reads' (e := 41) (base := w.heap.size) (ok := fun k_ => (True ∧ some k_ ≠ (.slice Ao15 t138.length co15 : Value).ownBlock)) (n := t145.length) (c := co16) ?_).2.2; exact (by (with_reducible repeat (first | apply Kd.R_alloc | apply Kd.R_drewN | apply Kd.R_drew)); exact (Kd.R_mono (Kd.R_far (p := ⟨gb151, 1, none⟩) (Kd.R_far (p := ⟨gb151, 0, none⟩) (Kd.R_types HO147.1 BK151.1 (by decide)) (fun _ hk => hk.2) (.string t148)) (fun _ hk => hk.2) (.bool t149)) (fun _ h_ => h_.1)))); (case side4 => exact (Kd.R_reads' HO147.1).2.1); rintro e w' ⟨rfl, ⟨nd, rfl⟩⟩))
      go_ret
      exact ⟨by first | rfl | (simp [errW_none, errW_some] <;> rfl) | (simp [*, errW_none, errW_some] <;> rfl), by repeat (first | (with_reducible first | exact HB.1 | apply below_alloc | apply pw_below_drewN | apply below_drew1 | refine below_set ?_ GE144.1 | refine below_set ?_ GE151.1) | exact HB.1)⟩
    · rw [if_neg c5] at H
      have c5b0 : (t143 == t150) = false := beq_eq_false_iff_ne.mpr c5
      have c5b1 : (t143 != t150) = true := bne_iff_ne.mpr c5
      obtain rfl := Option.some.inj H
      go_enter Tryd.func3, Tryd.ntmps3
      go_wp2_with (first | ((with_reducible refine gate_callee (f := 6) rfl ?_); refine goesL_ (some 11) rfl rfl Tryd.func6 (by kernel_rfl) rfl #[.string a0] rfl (by (try simp only [List.map_toArray, List.map_cons, List.map_nil]); first | done | rfl | (simp only [List.length_drop, List.length_take]; rfl)) ?_; (with_reducible refine (keypad_Keys.calls k a0 t138 t141 t142 t143 _ A2.out).mono ?_); rintro e w17 ⟨v139, rfl, ho0, hb⟩; refine ⟨_, rfl, ?_⟩; have n0_ := Aside0.mk (Kd.R_lower ho0 (below_size (by with_reducible repeat (first | exact HB.1 | apply ya3 | apply yn3 | apply yd3)))); have n1_ := Aside0.mk (below_step (by with_reducible repeat (first | exact HB.1 | apply ya3 | apply yn3 | apply yd3)) hb); clear HB; have HO140 := n0_; have HB := n1_; clear n0_ n1_; (try clear hb); (try clear hb2); (try clear hk); (try clear hi); (try clear ho0)) | ((with_reducible refine gate_dst (N := 4) rfl ?_); refine box_event ?hg (N := 4) ?hd (cs := #[.string (⟨#[]⟩ : ByteArray), .bool false]) (t := 24) ?hr ?_; (case hd => rfl); (case hg => rfl); (case hr => first | (go_simp; done) | (go_simp; rfl)); intro gb144 hg w18 hbox hb; have n0_ := Aside0.mk (Kd.R_below (by (with_reducible repeat (first | apply Kd.R_alloc | apply Kd.R_drewN | apply Kd.R_drew)); exact HO140.1) hb); have n1_ := Aside0.mk (below_step (by with_reducible repeat (first | exact HB.1 | apply ya3 | apply yn3 | apply yd3)) hb); have n2_ := Aside0.mk (hbox); have n3_ := Aside0.mk ((by rw [hg]; exact (below_size (by with_reducible repeat (first | exact HB.1 | apply ya3 | apply yn3 | apply yd3))) : w.heap.size ≤ gb144)); have n4_ := n3_; clear HO140; clear HB; have HO140 := n0_; have HB := n1_; have BK144 := n2_; have GW144 := n3_; have GE144 := n4_; clear n0_ n1_ n2_ n3_ n4_; clear hb hbox hg; obtain ⟨hcz19_0, hcz19_1⟩ := c2_3 BK144.1; obtain ⟨hfz19_0, hfz19_1⟩ := f2_3 BK144.1) | ((with_reducible refine gate_callee (f := 7) rfl ?_); refine goesL_ (some 17) rfl rfl Tryd.func7 (by kernel_rfl) rfl #[.string a0] rfl (by (try simp only [List.map_toArray, List.map_cons, List.map_nil]); first | done | rfl | (simp only [List.length_drop, List.length_take]; rfl)) ?_; (with_reducible refine (vendmeterref_Typed.calls k a0 t145 t148 t149 t150 _ (HTAB.go (by repeat (first | (with_reducible first | exact HB.1 | exact Below.refl _ _ | apply below_alloc | apply pw_below_drewN | apply below_drew1 | refine below_set ?_ GE144.1 | refine below_set ?_ GE151.1) | exact HB.1))) A3.out).mono ?_); rintro e w20 ⟨v146, rfl, ho0, hb⟩; refine ⟨_, rfl, ?_⟩; have n0_ := Aside0.mk (Kd.R_elder' (by (with_reducible repeat (first | apply Kd.R_alloc | apply Kd.R_drewN | apply Kd.R_drew)); exact (Kd.R_mono (Kd.R_far (p := ⟨gb144, 1, none⟩) (Kd.R_far (p := ⟨gb144, 0, none⟩) (Kd.R_types HO140.1 BK144.1 (by decide)) (fun _ hk => hk.2) (.string t141)) (fun _ hk => hk.2) (.bool t142)) (fun _ h_ => h_.1))) (Kd.R_base ho0) hb); have n1_ := Aside0.mk (Kd.R_lower (Kd.R_new' ho0 (Kd.R_lt (by (with_reducible repeat (first | apply Kd.R_alloc | apply Kd.R_drewN | apply Kd.R_drew)); exact (Kd.R_mono (Kd.R_far (p := ⟨gb144, 1, none⟩) (Kd.R_far (p := ⟨gb144, 0, none⟩) (Kd.R_types HO140.1 BK144.1 (by decide)) (fun _ hk => hk.2) (.string t141)) (fun _ hk => hk.2) (.bool t142)) (fun _ h_ => h_.1))))) (below_size (by with_reducible repeat (first | exact HB.1 | apply ya3 | apply yn3 | apply yd3 | refine below_set ?_ GE144.1)))); have n2_ := Aside0.mk (blk_below (g := gb144) (o := .cells #[.string t141, .bool t142] 24 (0, 0)) (by (with_reducible repeat (first | apply xn3 | apply xd3 | apply xa3)); refine blk_put (cs := #[.string t141, .bool false]) ?_ 1 _ rfl; (with_reducible repeat (first | apply xn3 | apply xd3 | apply xa3)); refine blk_put (cs := #[.string (⟨#[]⟩ : ByteArray), .bool false]) ?_ 0 _ rfl; (with_reducible repeat (first | apply xn3 | apply xd3 | apply xa3)); exact BK144.1) hb); have n3_ := Aside0.mk (below_step (by with_reducible repeat (first | exact HB.1 | apply ya3 | apply yn3 | apply yd3 | refine below_set ?_ GE144.1)) hb); clear HO140; clear BK144; clear HB; have HO140 := n0_; have HO147 := n1_; have BK144 := n2_; have HB := n3_; clear n0_ n1_ n2_ n3_; (try clear hb); (try clear hb2); (try clear hk); (try clear hi); (try clear ho0)) | ((with_reducible refine gate_dst (N := 7) rfl ?_); refine box_event ?hg (N := 7) ?hd (cs := #[.string (⟨#[]⟩ : ByteArray), .bool false]) (t := 24) ?hr ?_; (case hd => rfl); (case hg => rfl); (case hr => first | (go_simp; done) | (go_simp; rfl)); intro gb151 hg w21 hbox hb; have n0_ := Aside0.mk (Kd.R_below (by (with_reducible repeat (first | apply Kd.R_alloc | apply Kd.R_drewN | apply Kd.R_drew)); exact HO140.1) hb); have n1_ := Aside0.mk (Kd.R_below (by (with_reducible repeat (first | apply Kd.R_alloc | apply Kd.R_drewN | apply Kd.R_drew)); exact HO147.1) hb); have n2_ := Aside0.mk (blk_below (g := gb144) (o := .cells #[.string t141, .bool t142] 24 (0, 0)) (by (with_reducible repeat (first | apply xn3 | apply xd3 | apply xa3)); exact BK144.1) hb); have n3_ := Aside0.mk (below_step (by with_reducible repeat (first | exact HB.1 | apply ya3 | apply yn3 | apply yd3 | refine below_set ?_ GE144.1)) hb); have n4_ := Aside0.mk (hbox); have n5_ := Aside0.mk ((by rw [hg]; exact (below_size (by with_reducible repeat (first | exact HB.1 | apply ya3 | apply yn3 | apply yd3 | refine below_set ?_ GE144.1))) : w.heap.size ≤ gb151)); have n6_ := n5_; have n7_ := Aside0.mk ((by rw [hg]; exact Nat.ne_of_lt (blk_lt (g := gb144) (o := .cells #[.string t141, .bool t142] 24 (0, 0)) (by (with_reducible repeat (first | apply xn3 | apply xd3 | apply xa3)); exact BK144.1)) : gb144 ≠ gb151)); have n8_ := Aside0.mk ((by rw [hg]; exact Nat.ne_of_gt (blk_lt (g := gb144) (o := .cells #[.string t141, .bool t142] 24 (0, 0)) (by (with_reducible repeat (first | apply xn3 | apply xd3 | apply xa3)); exact BK144.1)) : gb151 ≠ gb144)); clear HO140; clear HO147; clear BK144; clear HB; have HO140 := n0_; have HO147 := n1_; have BK144 := n2_; have HB := n3_; have BK151 := n4_; have GW151 := n5_; have GE151 := n6_; have NB144_151 := n7_; have NB151_144 := n8_; clear n0_ n1_ n2_ n3_ n4_ n5_ n6_ n7_ n8_; clear hb hbox hg; have hnb22 := NB151_144.1; have hnc22 := NB144_151.1; obtain ⟨hcz23_0, hcz23_1⟩ := c2_3 BK151.1; obtain ⟨hfz23_0, hfz23_1⟩ := f2_3 BK151.1; obtain ⟨hcz24_0, hcz24_1⟩ := c2_3 BK144.1; obtain ⟨hfz24_0, hfz24_1⟩ := f2_3 BK144.1))
      go_ret
      exact ⟨by first | rfl | (simp [errW_none, errW_some] <;> rfl) | (simp [*, errW_none, errW_some] <;> rfl), by repeat (first | (with_reducible first | exact HB.1 | apply below_alloc | apply pw_below_drewN | apply below_drew1 | refine below_set ?_ GE144.1 | refine below_set ?_ GE151.1) | exact HB.1)⟩
  · rw [if_neg c4] at H
    have c4b0 : (t141.toList == t148.toList && (t142 == t149)) = false := by simpa using c4
    (try (have c4b1 : decide (t141.toList = t148.toList && (t142 == t149)) = false := by simpa using c4))
    (try (have c4b2 : (t141.toList == t148.toList && (t142 == t149)) = false := by simpa using c4))
    (try (have c4b3 : ¬ (t141.toList = t148.toList && (t142 == t149)) := by simpa using c4))
    clear c4
    obtain rfl := Option.some.inj H
    go_enter Tryd.func3, Tryd.ntmps3
    go_wp2_with (first | ((with_reducible refine gate_callee (f := 6) rfl ?_); refine goesL_ (some 11) rfl rfl Tryd.func6 (by kernel_rfl) rfl #[.string a0] rfl (by (try simp only [List.map_toArray, List.map_cons, List.map_nil]); first | done | rfl | (simp only [List.length_drop, List.length_take]; rfl)) ?_; (with_reducible refine (keypad_Keys.calls k a0 t138 t141 t142 t143 _ A2.out).mono ?_); rintro e w25 ⟨v139, rfl, ho0, hb⟩; refine ⟨_, rfl, ?_⟩; have n0_ := Aside0.mk (Kd.R_lower ho0 (below_size (by with_reducible repeat (first | exact HB.1 | apply ya3 | apply yn3 | apply yd3)))); have n1_ := Aside0.mk (below_step (by with_reducible repeat (first | exact HB.1 | apply ya3 | apply yn3 | apply yd3)) hb); clear HB; have HO140 := n0_; have HB := n1_; clear n0_ n1_; (try clear hb); (try clear hb2); (try clear hk); (try clear hi); (try clear ho0)) | ((with_reducible refine gate_dst (N := 4) rfl ?_); refine box_event ?hg (N := 4) ?hd (cs := #[.string (⟨#[]⟩ : ByteArray), .bool false]) (t := 24) ?hr ?_; (case hd => rfl); (case hg => rfl); (case hr => first | (go_simp; done) | (go_simp; rfl)); intro gb144 hg w26 hbox hb; have n0_ := Aside0.mk (Kd.R_below (by (with_reducible repeat (first | apply Kd.R_alloc | apply Kd.R_drewN | apply Kd.R_drew)); exact HO140.1) hb); have n1_ := Aside0.mk (below_step (by with_reducible repeat (first | exact HB.1 | apply ya3 | apply yn3 | apply yd3)) hb); have n2_ := Aside0.mk (hbox); have n3_ := Aside0.mk ((by rw [hg]; exact (below_size (by with_reducible repeat (first | exact HB.1 | apply ya3 | apply yn3 | apply yd3))) : w.heap.size ≤ gb144)); have n4_ := n3_; clear HO140; clear HB; have HO140 := n0_; have HB := n1_; have BK144 := n2_; have GW144 := n3_; have GE144 := n4_; clear n0_ n1_ n2_ n3_ n4_; clear hb hbox hg; obtain ⟨hcz27_0, hcz27_1⟩ := c2_3 BK144.1; obtain ⟨hfz27_0, hfz27_1⟩ := f2_3 BK144.1) | ((with_reducible refine gate_callee (f := 7) rfl ?_); refine goesL_ (some 17) rfl rfl Tryd.func7 (by kernel_rfl) rfl #[.string a0] rfl (by (try simp only [List.map_toArray, List.map_cons, List.map_nil]); first | done | rfl | (simp only [List.length_drop, List.length_take]; rfl)) ?_; (with_reducible refine (vendmeterref_Typed.calls k a0 t145 t148 t149 t150 _ (HTAB.go (by repeat (first | (with_reducible first | exact HB.1 | exact Below.refl _ _ | apply below_alloc | apply pw_below_drewN | apply below_drew1 | refine below_set ?_ GE144.1 | refine below_set ?_ GE151.1) | exact HB.1))) A3.out).mono ?_); rintro e w28 ⟨v146, rfl, ho0, hb⟩; refine ⟨_, rfl, ?_⟩; have n0_ := Aside0.mk (Kd.R_elder' (by (with_reducible repeat (first | apply Kd.R_alloc | apply Kd.R_drewN | apply Kd.R_drew)); exact (Kd.R_mono (Kd.R_far (p := ⟨gb144, 1, none⟩) (Kd.R_far (p := ⟨gb144, 0, none⟩) (Kd.R_types HO140.1 BK144.1 (by decide)) (fun _ hk => hk.2) (.string t141)) (fun _ hk => hk.2) (.bool t142)) (fun _ h_ => h_.1))) (Kd.R_base ho0) hb); have n1_ := Aside0.mk (Kd.R_lower (Kd.R_new' ho0 (Kd.R_lt (by (with_reducible repeat (first | apply Kd.R_alloc | apply Kd.R_drewN | apply Kd.R_drew)); exact (Kd.R_mono (Kd.R_far (p := ⟨gb144, 1, none⟩) (Kd.R_far (p := ⟨gb144, 0, none⟩) (Kd.R_types HO140.1 BK144.1 (by decide)) (fun _ hk => hk.2) (.string t141)) (fun _ hk => hk.2) (.bool t142)) (fun _ h_ => h_.1))))) (below_size (by with_reducible repeat (first | exact HB.1 | apply ya3 | apply yn3 | apply yd3 | refine below_set ?_ GE144.1)))); have n2_ := Aside0.mk (blk_below (g := gb144) (o := .cells #[.string t141, .bool t142] 24 (0, 0)) (by (with_reducible repeat (first | apply xn3 | apply xd3 | apply xa3)); refine blk_put (cs := #[.string t141, .bool false]) ?_ 1 _ rfl; (with_reducible repeat (first | apply xn3 | apply xd3 | apply xa3)); refine blk_put (cs := #[.string (⟨#[]⟩ : ByteArray), .bool false]) ?_ 0 _ rfl; (with_reducible repeat (first | apply xn3 | apply xd3 | apply xa3)); exact BK144.1) hb); have n3_ := Aside0.mk (below_step (by with_reducible repeat (first | exact HB.1 | apply ya3 | apply yn3 | apply yd3 | refine below_set ?_ GE144.1)) hb); clear HO140; clear BK144; clear HB; have HO140 := n0_; have HO147 := n1_; have BK144 := n2_; have HB := n3_; clear n0_ n1_ n2_ n3_; (try clear hb); (try clear hb2); (try clear hk); (try clear hi); (try clear ho0)) | ((with_reducible refine gate_dst (N := 7) rfl ?_); refine box_event ?hg (N := 7) ?hd (cs := #[.string (⟨#[]⟩ : ByteArray), .bool false]) (t := 24) ?hr ?_; (case hd => rfl); (case hg => rfl); (case hr => first | (go_simp; done) | (go_simp; rfl)); intro gb151 hg w29 hbox hb; have n0_ := Aside0.mk (Kd.R_below (by (with_reducible repeat (first | apply Kd.R_alloc | apply Kd.R_drewN | apply Kd.R_drew)); exact HO140.1) hb); have n1_ := Aside0.mk (Kd.R_below (by (with_reducible repeat (first | apply Kd.R_alloc | apply Kd.R_drewN | apply Kd.R_drew)); exact HO147.1) hb); have n2_ := Aside0.mk (blk_below (g := gb144) (o := .cells #[.string t141, .bool t142] 24 (0, 0)) (by (with_reducible repeat (first | apply xn3 | apply xd3 | apply xa3)); exact BK144.1) hb); have n3_ := Aside0.mk (below_step (by with_reducible repeat (first | exact HB.1 | apply ya3 | apply yn3 | apply yd3 | refine below_set ?_ GE144.1)) hb); have n4_ := Aside0.mk (hbox); have n5_ := Aside0.mk ((by rw [hg]; exact (below_size (by with_reducible repeat (first | exact HB.1 | apply ya3 | apply yn3 | apply yd3 | refine below_set ?_ GE144.1))) : w.heap.size ≤ gb151)); have n6_ := n5_; have n7_ := Aside0.mk ((by rw [hg]; exact Nat.ne_of_lt (blk_lt (g := gb144) (o := .cells #[.string t141, .bool t142] 24 (0, 0)) (by (with_reducible repeat (first | apply xn3 | apply xd3 | apply xa3)); exact BK144.1)) : gb144 ≠ gb151)); have n8_ := Aside0.mk ((by rw [hg]; exact Nat.ne_of_gt (blk_lt (g := gb144) (o := .cells #[.string t141, .bool t142] 24 (0, 0)) (by (with_reducible repeat (first | apply xn3 | apply xd3 | apply xa3)); exact BK144.1)) : gb151 ≠ gb144)); clear HO140; clear HO147; clear BK144; clear HB; have HO140 := n0_; have HO147 := n1_; have BK144 := n2_; have HB := n3_; have BK151 := n4_; have GW151 := n5_; have GE151 := n6_; have NB144_151 := n7_; have NB151_144 := n8_; clear n0_ n1_ n2_ n3_ n4_ n5_ n6_ n7_ n8_; clear hb hbox hg; have hnb30 := NB151_144.1; have hnc30 := NB144_151.1; obtain ⟨hcz31_0, hcz31_1⟩ := c2_3 BK151.1; obtain ⟨hfz31_0, hfz31_1⟩ := f2_3 BK151.1; obtain ⟨hcz32_0, hcz32_1⟩ := c2_3 BK144.1; obtain ⟨hfz32_0, hfz32_1⟩ := f2_3 BK144.1))
    go_ret
    exact ⟨by first | rfl | (simp [errW_none, errW_some] <;> rfl) | (simp [*, errW_none, errW_some] <;> rfl), by repeat (first | (with_reducible first | exact HB.1 | apply below_alloc | apply pw_below_drewN | apply below_drew1 | refine below_set ?_ GE144.1 | refine below_set ?_ GE151.1) | exact HB.1)⟩

/-- THE ONE PURE STATEMENT of vendmeterlaw_PadKeys: yours. -/
def vendmeterlaw_PadKeys.Pure : Prop := ∀ (a0 : ByteArray), a0.size ≤ 140737488351232 → ∃ k, vendmeterlaw_PadKeys.f k a0 = some true
theorem vendmeterlaw_PadKeys.walk (P : vendmeterlaw_PadKeys.Pure) (a0 : ByteArray) (w : World) (HTAB : LaidW w) (w0 : a0.size ≤ 140737488351232) :
    Calls Tryd.prog 3 #[.string a0] w fun e w' => e = .returned (.bool true) ∧ Below w.heap.size w w' := by
  obtain ⟨k, h⟩ := P a0 w0
  refine (vendmeterlaw_PadKeys.calls k a0 true w HTAB h).mono ?_
  rintro e w' ⟨rfl, hd⟩
  exact ⟨rfl, hd⟩

end Go.Proofs.YtdijplohafjbcaaDoor.PPadKeys
