-- written by this session's program wip/xp/xprint.py (it drives the kit's print and adds to it)
import Derived.Test.YtdijplohafjbcaaDoorPPadKeysx0
import Derived.Test.YtdijplohafjbcaaDoorPPadKeysx4
namespace Go.Proofs.YtdijplohafjbcaaDoor.PPadKeys
open Go.RowKit Go.Proofs.YtdijplohafjbcaaDoorW.PrintWords Go.Proofs.YtdijplohafjbcaaDoorW.PrintLast Go.Proofs.YtdijplohafjbcaaDoorW.PrintMore
attribute [local go_sem] max2_int min2_int max_two min_two max_three min_three max_four min_four   -- for this text's walks alone
set_option linter.unusedVariables false
set_option linter.unusedSimpArgs false

/-! ### vendmeterref_Pressed: function 15 -/
theorem xa15 {w : World} {g : Nat} {o : Obj} (h : w.heap[g]? = some o) (o' : Obj) : (w.alloc o').heap[g]? = some o := blk_alloc h o'
theorem xd15 {w : World} {g : Nat} {o : Obj} (h : w.heap[g]? = some o) : w.drew.heap[g]? = some o := blk_drew h
theorem xn15 {w : World} {g : Nat} {o : Obj} (h : w.heap[g]? = some o) (n : Nat) : (w.drewN n).heap[g]? = some o := blk_drewN h n
theorem ya15 {w W : World} (h : Below w.heap.size w W) (o : Obj) : Below w.heap.size w (W.alloc o) := below_alloc h o
theorem yn15 {B : Nat} {w W : World} (h : Below B w W) (n : Nat) : Below B w (W.drewN n) := pw_below_drewN h n
theorem yd15 {B : Nat} {w W : World} (h : Below B w W) : Below B w W.drew := below_drew1 h
theorem c2_15 {w : World} {g : Nat} {t : TypeId} {x0 x1 : Value} {r : List Value} (h : w.heap[g]? = some (.cells (List.toArray (x0 :: x1 :: r)) t (0, 0))) : w.cell? ⟨g, 0, none⟩ = some x0 ∧ w.cell? ⟨g, 1, none⟩ = some x1 := ⟨(blk_cell h 0).trans rfl, (blk_cell h 1).trans rfl⟩
theorem f2_15 {w : World} {g : Nat} {t : TypeId} {cs : Array Value} (h : w.heap[g]? = some (.cells cs t (0, 0))) : w.frozen? ⟨g, 0, none⟩ = false ∧ w.frozen? ⟨g, 1, none⟩ = false := ⟨blk_frozen h 0, blk_frozen h 1⟩
mutual
def vendmeterref_Pressed.j0 : Nat → Int → Int → Int → Bool → ByteArray → Bool → Option (ByteArray × Bool × (List (S41)) × Int)
  | 0, _, _, _, _, _, _ => none
  | k + 1, x1, x7, x8, x23, x112000, x112001 => if x23 = true then ((vendmeterref_Dec.f k x8).bind fun t115 => (if x112000.size + t115.size ≤ 9223372036854775807 then (some (x112000 ++ t115, x112001, ([] : List (S41)), 0)) else (none))) else (if x1 = 32 then (vendmeterref_Pressed.j1 k x1 x7 true x112000 x112001) else (if x1 = 45 then (vendmeterref_Pressed.j1 k x1 x7 true x112000 x112001) else (vendmeterref_Pressed.j1 k x1 x7 (x1 == 160) x112000 x112001)))
def vendmeterref_Pressed.j1 : Nat → Int → Int → Bool → ByteArray → Bool → Option (ByteArray × Bool × (List (S41)) × Int)
  | 0, _, _, _, _, _ => none
  | k + 1, x1, x7, x41, x112000, x112001 => if x41 = true then (some (x112000, x112001, ([] : List (S41)), 0)) else (if x1 = 42 then (if x7 > 0 then (if 0 ≤ (wrap64 (x7 - 1)) then (if (wrap64 (x7 - 1)) ≤ (x112000.size : Int) then (some (x112000.extract 0 ((wrap64 (x7 - 1)) : Int).toNat, x112001, ([] : List (S41)), 0)) else (none)) else (none)) else (some (x112000, x112001, ([] : List (S41)), 0))) else (if x1 = 35 then (if x112001 = true then (some ((⟨#[]⟩ : ByteArray), false, (([(⟨(⟨#[]⟩ : ByteArray), 3⟩ : S41)] : List (S41))), 0)) else (if x7 = 0 then (some ((⟨#[]⟩ : ByteArray), false, ([] : List (S41)), 0)) else (some ((⟨#[]⟩ : ByteArray), false, (([(⟨x112000, 0⟩ : S41)] : List (S41))), 0)))) else (some (x112000, true, ([] : List (S41)), 0))))
end
def vendmeterref_Pressed.f (k : Nat) (a0_0 : ByteArray) (a0_1 : Bool) (a1 : Int) : Option (ByteArray × Bool × (List (S41)) × Int) := (vendmeterref_PadMay.f k a0_0 a0_1).bind fun t113 => (if t113 = true then ((vendmeterref_KeyDigit.f k a1).bind fun t114 => (if t114 ≥ 0 then (vendmeterref_Pressed.j0 k a1 (a0_0.size : Int) t114 (decide ((a0_0.size : Int) < 30)) a0_0 a0_1) else (vendmeterref_Pressed.j0 k a1 (a0_0.size : Int) t114 false a0_0 a0_1))) else (some ((⟨#[]⟩ : ByteArray), false, ([] : List (S41)), 5)))
theorem vendmeterref_Pressed.mono_l : ∀ k, (∀ y0 y1 y2 y3 y4 y5, LeO (vendmeterref_Pressed.j0 k y0 y1 y2 y3 y4 y5) (vendmeterref_Pressed.j0 (k + 1) y0 y1 y2 y3 y4 y5)) ∧ (∀ y0 y1 y2 y3 y4, LeO (vendmeterref_Pressed.j1 k y0 y1 y2 y3 y4) (vendmeterref_Pressed.j1 (k + 1) y0 y1 y2 y3 y4))
  | 0 => ⟨fun _ _ _ _ _ _ r h => by simp [vendmeterref_Pressed.j0] at h, fun _ _ _ _ _ r h => by simp [vendmeterref_Pressed.j1] at h⟩
  | k + 1 => by
    obtain ⟨ih0, ih1⟩ := vendmeterref_Pressed.mono_l k
    refine ⟨?_, ?_⟩
    · intro y0 y1 y2 y3 y4 y5
      unfold vendmeterref_Pressed.j0
      repeat' first
      | (with_reducible exact ih0 _ _ _ _ _ _)
      | (with_reducible exact ih1 _ _ _ _ _)
      | (with_reducible exact vendmeterref_Dec.mono _ _)
      | (with_reducible exact vendmeterref_KeyDigit.mono _ _)
      | (with_reducible exact vendmeterref_PadMay.mono _ _ _)
      | (with_reducible exact LeO.refl _)
      | (with_reducible exact LeO.none _)
      | (with_reducible refine LeO.ite ?_ ?_)
      | (with_reducible refine LeO.bind ?_ (fun _ => ?_))
      | exact ih0 _ _ _ _ _ _
      | exact ih1 _ _ _ _ _
      | exact vendmeterref_Dec.mono _ _
      | exact vendmeterref_KeyDigit.mono _ _
      | exact vendmeterref_PadMay.mono _ _ _
      | exact LeO.none _
      | refine LeO.ite ?_ ?_
      | refine LeO.bind ?_ (fun _ => ?_)
    · intro y0 y1 y2 y3 y4
      unfold vendmeterref_Pressed.j1
      repeat' first
      | (with_reducible exact ih0 _ _ _ _ _ _)
      | (with_reducible exact ih1 _ _ _ _ _)
      | (with_reducible exact vendmeterref_Dec.mono _ _)
      | (with_reducible exact vendmeterref_KeyDigit.mono _ _)
      | (with_reducible exact vendmeterref_PadMay.mono _ _ _)
      | (with_reducible exact LeO.refl _)
      | (with_reducible exact LeO.none _)
      | (with_reducible refine LeO.ite ?_ ?_)
      | (with_reducible refine LeO.bind ?_ (fun _ => ?_))
      | exact ih0 _ _ _ _ _ _
      | exact ih1 _ _ _ _ _
      | exact vendmeterref_Dec.mono _ _
      | exact vendmeterref_KeyDigit.mono _ _
      | exact vendmeterref_PadMay.mono _ _ _
      | exact LeO.none _
      | refine LeO.ite ?_ ?_
      | refine LeO.bind ?_ (fun _ => ?_)
theorem vendmeterref_Pressed.mono : ∀ a0 a1 a2 k, LeO (vendmeterref_Pressed.f k a0 a1 a2) (vendmeterref_Pressed.f (k + 1) a0 a1 a2) := by
  intro a0 a1 a2 k
  obtain ⟨ih0, ih1⟩ := vendmeterref_Pressed.mono_l k
  unfold vendmeterref_Pressed.f
  repeat' first
      | (with_reducible exact ih0 _ _ _ _ _ _)
      | (with_reducible exact ih1 _ _ _ _ _)
      | (with_reducible exact vendmeterref_Dec.mono _ _)
      | (with_reducible exact vendmeterref_KeyDigit.mono _ _)
      | (with_reducible exact vendmeterref_PadMay.mono _ _ _)
      | (with_reducible exact LeO.refl _)
      | (with_reducible exact LeO.none _)
      | (with_reducible refine LeO.ite ?_ ?_)
      | (with_reducible refine LeO.bind ?_ (fun _ => ?_))
      | exact ih0 _ _ _ _ _ _
      | exact ih1 _ _ _ _ _
      | exact vendmeterref_Dec.mono _ _
      | exact vendmeterref_KeyDigit.mono _ _
      | exact vendmeterref_PadMay.mono _ _ _
      | exact LeO.none _
      | refine LeO.ite ?_ ?_
      | refine LeO.bind ?_ (fun _ => ?_)
def vendmeterref_Pressed.T6 : Bool × List (List Nat × List Nat) := (true, [([], []), ([0], [0]), ([], []), ([2], [2]), ([1, 3], [1, 3]), ([], []), ([5], [5]), ([4, 6], [4, 6]), ([7, 3, 0, 1, 2, 3, 4, 5, 6, 7], [7]), ([8, 0, 1, 2, 3, 4, 5, 6, 7, 8], []), ([9, 0, 1, 2, 3, 4, 5, 6, 7, 8, 9], [])])
def vendmeterref_Pressed.B6 : List Nat := [0, 1, 0, 4, 15, 0, 32, 127, 255, 511, 1023]
theorem vendmeterref_Pressed.tab6 : rtab .any (opsOf Tryd.f15 6) = vendmeterref_Pressed.T6 := by kernel_rfl
theorem vendmeterref_Pressed.bits6 : waitsOk vendmeterref_Pressed.T6.2 vendmeterref_Pressed.B6 = true := by kernel_rfl
def vendmeterref_Pressed.T11 : Bool × List (List Nat × List Nat) := (true, [([], []), ([0], [0]), ([], []), ([2], [2]), ([1, 3], [1, 3]), ([], []), ([5], [5]), ([4, 6], [4, 6]), ([7, 0, 1, 2, 3, 4, 5, 6, 7], [7]), ([8, 0, 1, 2, 3, 4, 5, 6, 7, 8], []), ([9, 0, 1, 2, 3, 4, 5, 6, 7, 8, 9], [])])
def vendmeterref_Pressed.B11 : List Nat := [0, 1, 0, 4, 15, 0, 32, 127, 255, 511, 1023]
theorem vendmeterref_Pressed.tab11 : rtab .any (opsOf Tryd.f15 11) = vendmeterref_Pressed.T11 := by kernel_rfl
theorem vendmeterref_Pressed.bits11 : waitsOk vendmeterref_Pressed.T11.2 vendmeterref_Pressed.B11 = true := by kernel_rfl
def vendmeterref_Pressed.T18 : Bool × List (List Nat × List Nat) := (true, [([], []), ([], []), ([1], [1]), ([2], [2]), ([3], [3]), ([0, 0], [0]), ([4, 5, 0, 1, 2, 3, 4, 5], [4]), ([6, 0, 1, 2, 3, 4, 5, 6], [])])
def vendmeterref_Pressed.B18 : List Nat := [0, 0, 2, 6, 14, 1, 63, 127]
theorem vendmeterref_Pressed.tab18 : rtab .any (opsOf Tryd.f15 18) = vendmeterref_Pressed.T18 := by kernel_rfl
theorem vendmeterref_Pressed.bits18 : waitsOk vendmeterref_Pressed.T18.2 vendmeterref_Pressed.B18 = true := by kernel_rfl
set_option maxHeartbeats 8000000 in
set_option maxRecDepth 100000 in
theorem vendmeterref_Pressed.calls (k : Nat) (a0_0 : ByteArray) (a0_1 : Bool) (a1 : Int) (r1 : ByteArray) (r2 : Bool) (r3 : List (S41)) (r4 : Int) (w : World) (h : vendmeterref_Pressed.f k a0_0 a0_1 a1 = some (r1, r2, r3, r4)) :
    Calls Tryd.prog 15 #[.agg #[.string a0_0, .bool a0_1], .int .i32 a1] w fun e w' => ∃ v2_ : Value, e = .returned (.tuple #[.agg #[.string r1, .bool r2], v2_, .int .i64 r4]) ∧ Kd.R k41 41 w' w.heap.size (fun _ => True) v2_ r3 ∧ Below w.heap.size w w' := by
  have hu24 := Tryd.underlying24
  have hu41 := Tryd.underlying41
  have HB := Aside0.mk (Below.refl w.heap.size w)
  have H : ((vendmeterref_PadMay.f k a0_0 a0_1).bind fun t113 => (if t113 = true then ((vendmeterref_KeyDigit.f k a1).bind fun t114 => (if t114 ≥ 0 then (vendmeterref_Pressed.j0 k a1 (a0_0.size : Int) t114 (decide ((a0_0.size : Int) < 30)) a0_0 a0_1) else (vendmeterref_Pressed.j0 k a1 (a0_0.size : Int) t114 false a0_0 a0_1))) else (some ((⟨#[]⟩ : ByteArray), false, ([] : List (S41)), 5)))) = some (r1, r2, r3, r4) := h
  clear h
  replace H := Option.bind_eq_some_iff.mp H
  obtain ⟨t113, A30, H⟩ := H
  replace H : (if t113 = true then ((vendmeterref_KeyDigit.f k a1).bind fun t114 => (if t114 ≥ 0 then (vendmeterref_Pressed.j0 k a1 (a0_0.size : Int) t114 (decide ((a0_0.size : Int) < 30)) a0_0 a0_1) else (vendmeterref_Pressed.j0 k a1 (a0_0.size : Int) t114 false a0_0 a0_1))) else (some ((⟨#[]⟩ : ByteArray), false, ([] : List (S41)), 5))) = some (r1, r2, r3, r4) := H
  have A3 := Aside0.mk A30
  clear A30
  by_cases c4 : t113 = true
  · subst c4
    have H1 : ((vendmeterref_KeyDigit.f k a1).bind fun t114 => (if t114 ≥ 0 then (vendmeterref_Pressed.j0 k a1 (a0_0.size : Int) t114 (decide ((a0_0.size : Int) < 30)) a0_0 a0_1) else (vendmeterref_Pressed.j0 k a1 (a0_0.size : Int) t114 false a0_0 a0_1))) = some (r1, r2, r3, r4) := by rw [if_pos rfl] at H; exact H
    clear H
    have H := H1
    clear H1
    replace H := Option.bind_eq_some_iff.mp H
    obtain ⟨t114, A50, H⟩ := H
    replace H : (if t114 ≥ 0 then (vendmeterref_Pressed.j0 k a1 (a0_0.size : Int) t114 (decide ((a0_0.size : Int) < 30)) a0_0 a0_1) else (vendmeterref_Pressed.j0 k a1 (a0_0.size : Int) t114 false a0_0 a0_1)) = some (r1, r2, r3, r4) := H
    have A5 := Aside0.mk A50
    clear A50
    have HC6 := Aside0.mk H
    clear H
    go_enter Tryd.func15, Tryd.ntmps15
    go_upto_region 5 with (first | ((with_reducible refine gate_dst (N := 2) rfl ?_); refine box_event ?hg (N := 2) ?hd (cs := #[.string a0_0, .bool a0_1]) (t := 24) ?hr ?_; (case hd => rfl); (case hg => rfl); (case hr => first | (go_simp; done) | (go_simp; rfl)); intro gb111 hg w7 hbox hb; have n0_ := Aside0.mk (below_step (by with_reducible repeat (first | exact HB.1 | apply ya15 | apply yn15 | apply yd15)) hb); have n1_ := Aside0.mk (hbox); have n2_ := Aside0.mk ((by rw [hg]; exact (below_size (by with_reducible repeat (first | exact HB.1 | apply ya15 | apply yn15 | apply yd15))) : w.heap.size ≤ gb111)); have n3_ := n2_; clear HB; have HB := n0_; have BK111 := n1_; have GW111 := n2_; have GE111 := n3_; clear n0_ n1_ n2_ n3_; clear hb hbox hg) | ((with_reducible refine gate_dst (N := 4) rfl ?_); refine box_event ?hg (N := 4) ?hd (cs := #[.string (⟨#[]⟩ : ByteArray), .bool false]) (t := 24) ?hr ?_; (case hd => rfl); (case hg => rfl); (case hr => first | (go_simp; done) | (go_simp; rfl)); intro gb112 hg w8 hbox hb; have n0_ := Aside0.mk (blk_below (g := gb111) (o := .cells #[.string a0_0, .bool a0_1] 24 (0, 0)) (by (with_reducible repeat (first | apply xn15 | apply xd15 | apply xa15)); exact BK111.1) hb); have n1_ := Aside0.mk (below_step (by with_reducible repeat (first | exact HB.1 | apply ya15 | apply yn15 | apply yd15 | refine below_set ?_ GE111.1)) hb); have n2_ := Aside0.mk (hbox); have n3_ := Aside0.mk ((by rw [hg]; exact (below_size (by with_reducible repeat (first | exact HB.1 | apply ya15 | apply yn15 | apply yd15 | refine below_set ?_ GE111.1))) : w.heap.size ≤ gb112)); have n4_ := n3_; have n5_ := Aside0.mk ((by rw [hg]; exact Nat.ne_of_lt (blk_lt (g := gb111) (o := .cells #[.string a0_0, .bool a0_1] 24 (0, 0)) (by (with_reducible repeat (first | apply xn15 | apply xd15 | apply xa15)); exact BK111.1)) : gb111 ≠ gb112)); have n6_ := Aside0.mk ((by rw [hg]; exact Nat.ne_of_gt (blk_lt (g := gb111) (o := .cells #[.string a0_0, .bool a0_1] 24 (0, 0)) (by (with_reducible repeat (first | apply xn15 | apply xd15 | apply xa15)); exact BK111.1)) : gb112 ≠ gb111)); clear BK111; clear HB; have BK111 := n0_; have HB := n1_; have BK112 := n2_; have GW112 := n3_; have GE112 := n4_; have NB111_112 := n5_; have NB112_111 := n6_; clear n0_ n1_ n2_ n3_ n4_ n5_ n6_; clear hb hbox hg; have hnb9 := NB111_112.1; have hnc9 := NB112_111.1; obtain ⟨hcz10_0, hcz10_1⟩ := c2_15 BK111.1; obtain ⟨hfz10_0, hfz10_1⟩ := f2_15 BK111.1) | ((with_reducible refine gate_callee (f := 35) rfl ?_); refine goesL_ (some 10) rfl rfl Tryd.func35 (by kernel_rfl) rfl #[.agg #[.string a0_0, .bool a0_1]] rfl (by (try simp only [List.map_toArray, List.map_cons, List.map_nil]); first | done | rfl | (simp only [List.length_drop, List.length_take]; rfl)) ?_; (with_reducible refine (vendmeterref_PadMay.calls k a0_0 a0_1 true _ A3.out).mono ?_); rintro e w11 ⟨rfl, hb⟩; refine ⟨_, rfl, ?_⟩; have n0_ := Aside0.mk (blk_below (g := gb111) (o := .cells #[.string a0_0, .bool a0_1] 24 (0, 0)) (by (with_reducible repeat (first | apply xn15 | apply xd15 | apply xa15)); exact BK111.1) hb); have n1_ := Aside0.mk (blk_below (g := gb112) (o := .cells #[.string (⟨#[]⟩ : ByteArray), .bool false] 24 (0, 0)) (by (with_reducible repeat (first | apply xn15 | apply xd15 | apply xa15)); exact BK112.1) hb); have n2_ := Aside0.mk (below_step (by with_reducible repeat (first | exact HB.1 | apply ya15 | apply yn15 | apply yd15 | refine below_set ?_ GE111.1 | refine below_set ?_ GE112.1)) hb); clear BK111; clear BK112; clear HB; have BK111 := n0_; have BK112 := n1_; have HB := n2_; clear n0_ n1_ n2_; (try clear hb); (try clear hb2); (try clear hk); (try clear hi); obtain ⟨hcz12_0, hcz12_1⟩ := c2_15 BK111.1; obtain ⟨hfz12_0, hfz12_1⟩ := f2_15 BK111.1) | ((with_reducible refine gate_callee (f := 36) rfl ?_); refine goesL_ (some 17) rfl rfl Tryd.func36 (by kernel_rfl) rfl #[.int .i32 a1] rfl (by (try simp only [List.map_toArray, List.map_cons, List.map_nil]); first | done | rfl | (simp only [List.length_drop, List.length_take]; rfl)) ?_; (with_reducible refine (vendmeterref_KeyDigit.calls k a1 t114 _ A5.out).mono ?_); rintro e w' ⟨rfl, ⟨nd, rfl⟩⟩; refine ⟨_, rfl, ?_⟩))
    (try simp only [Act.put, List.setIfInBounds_toArray, List.set_cons_zero, List.set_cons_succ])
    go_cut [23] (fun v23 wc => ∃ (kq : Nat) (x23_5 : Bool), v23 = .bool x23_5 ∧ Aside0 (vendmeterref_Pressed.j0 kq a1 (a0_0.size : Int) t114 x23_5 a0_0 a0_1 = some (r1, r2, r3, r4)) ∧ Aside0 (kq ≤ k) ∧ Aside0 (wc.heap[gb111]? = some (.cells #[.string a0_0, .bool a0_1] 24 (0, 0))) ∧ Aside0 (wc.heap[gb112]? = some (.cells #[.string (⟨#[]⟩ : ByteArray), .bool false] 24 (0, 0))) ∧ Aside0 (Below w.heap.size w wc))
    case first =>
      have H := HC6.out
      clear HC6
      by_cases c13 : t114 ≥ 0
      · rw [if_pos c13] at H
        have c13b0 : decide (0 ≤ t114) = true := decide_eq_true c13
        clear c13
        (first | rw [c13b0] | (simp only [i64_w, i32_w]; rw [c13b0]) | skip)
        have H' := Aside0.mk H
        clear H
        go_wp2
        go_meet
        case rel => exact ⟨_, (decide ((a0_0.size : Int) < 30)), (by first | rfl | (simp; done) | (simp [*]; done)), H', ⟨by first | omega | exact Nat.le_refl _⟩, ⟨by (with_reducible repeat (first | apply xn15 | apply xd15 | apply xa15)); exact BK111.1⟩, ⟨by (with_reducible repeat (first | apply xn15 | apply xd15 | apply xa15)); exact BK112.1⟩, ⟨by repeat (first | (with_reducible first | exact HB.1 | apply below_alloc | apply pw_below_drewN | apply below_drew1 | refine below_set ?_ GE111.1 | refine below_set ?_ GE112.1) | exact HB.1)⟩⟩
      · rw [if_neg c13] at H
        have c13b0 : decide (0 ≤ t114) = false := decide_eq_false c13
        clear c13
        (first | rw [c13b0] | (simp only [i64_w, i32_w]; rw [c13b0]) | skip)
        have H' := Aside0.mk H
        clear H
        go_wp2
        go_meet
        case rel => exact ⟨_, (false), (by first | rfl | (simp; done) | (simp [*]; done)), H', ⟨by first | omega | exact Nat.le_refl _⟩, ⟨by (with_reducible repeat (first | apply xn15 | apply xd15 | apply xa15)); exact BK111.1⟩, ⟨by (with_reducible repeat (first | apply xn15 | apply xd15 | apply xa15)); exact BK112.1⟩, ⟨by repeat (first | (with_reducible first | exact HB.1 | apply below_alloc | apply pw_below_drewN | apply below_drew1 | refine below_set ?_ GE111.1 | refine below_set ?_ GE112.1) | exact HB.1)⟩⟩
    case rest =>
      clear HC6
      try clear c1
      try clear p2
      try clear c3
      try clear c4
      try clear c9
      try clear c13
      try clear c13b0
      try clear hcz10_0
      try clear hcz10_1
      try clear hcz12_0
      try clear hcz12_1
      try clear hfz10_0
      try clear hfz10_1
      try clear hfz12_0
      try clear hfz12_1
      obtain ⟨kq, x23_5, rfl, HA, HJ5, BK111, BK112, HB⟩ := hcut
      cases kq with
      | zero => exact absurd HA.out (by simp [vendmeterref_Pressed.j0])
      | succ kj5 =>
        have H := HA.out
        clear HA
        simp only [vendmeterref_Pressed.j0] at H
        by_cases c14 : x23_5 = true
        · subst c14
          have H1 : ((vendmeterref_Dec.f kj5 t114).bind fun t115 => (if a0_0.size + t115.size ≤ 9223372036854775807 then (some (a0_0 ++ t115, a0_1, ([] : List (S41)), 0)) else (none))) = some (r1, r2, r3, r4) := by rw [if_pos rfl] at H; exact H
          clear H
          have H := H1
          clear H1
          replace H := Option.bind_eq_some_iff.mp H
          obtain ⟨t115, A150, H⟩ := H
          replace H : (if a0_0.size + t115.size ≤ 9223372036854775807 then (some (a0_0 ++ t115, a0_1, ([] : List (S41)), 0)) else (none)) = some (r1, r2, r3, r4) := H
          have A15 := Aside0.mk A150
          clear A150
          by_cases c16 : a0_0.size + t115.size ≤ 9223372036854775807
          · rw [if_pos c16] at H
            have c16b0 := eq_true c16
            have c16b1 : decide (a0_0.size + t115.size ≤ 9223372036854775807) = true := decide_eq_true c16
            try have c16b2 : (9223372036854775807 < a0_0.size + t115.size) = False := eq_false (Nat.not_lt.2 c16)
            simp only [Option.some.injEq, Prod.mk.injEq] at H
            obtain ⟨rfl, rfl, rfl, rfl⟩ := H
            try go_wp2
            have n0_ := Aside0.mk (blk_drew BK111.1)
            have n1_ := Aside0.mk (blk_drew BK112.1)
            have n2_ := Aside0.mk (below_drew1 HB.1)
            clear BK111
            clear BK112
            clear HB
            have BK111 := n0_
            have BK112 := n1_
            have HB := n2_
            clear n0_ n1_ n2_
            refine start_ (n := 11) (S := fun w' => w'.cell? ⟨gb111, 0, none⟩ = some (.string a0_0) ∧ w'.cell? ⟨gb111, 1, none⟩ = some (.bool a0_1)) (ds := []) #[false, false, false, false, false, false, false, false, false, false, false] (by kernel_rfl) rfl rfl ⟨(blk_cell BK111.1 0).trans rfl, (blk_cell BK111.1 1).trans rfl⟩ (fun hHeld => ?_); refine with_tabW vendmeterref_Pressed.tab6 vendmeterref_Pressed.bits6 (fun HT_ HW_ => ?_)
            generalize wc.drew = w17 at BK111 BK112 HB hHeld ⊢
            refine pure_ (i := 0) (N := some 24) (v := ?_) (a' := ?_) #[true, false, false, false, false, false, false, false, false, false, false] rfl rfl (any_of HT_.out (by kernel_rfl)) (fun _ _ _ h => h) (Or.inl ⟨by rfl, ?_⟩) ?_ ?_
            rotate_left
            · intro w'
              go_simp
              with_reducible rfl
            rotate_left
            · simp only [Act.put, List.setIfInBounds_toArray, List.set_cons_zero, List.set_cons_succ, i64_w, i32_w]
              rfl
            refine pure_ (i := 2) (N := some 26) (v := ?_) (a' := ?_) #[true, false, true, false, false, false, false, false, false, false, false] rfl rfl (any_of HT_.out (by kernel_rfl)) (fun _ _ _ h => h) (Or.inl ⟨by rfl, ?_⟩) ?_ ?_
            rotate_left
            · intro w'
              go_simp
              with_reducible rfl
            rotate_left
            · simp only [Act.put, List.setIfInBounds_toArray, List.set_cons_zero, List.set_cons_succ, i64_w, i32_w]
              rfl
            refine pure_ (i := 5) (N := some 29) (v := ?_) (a' := ?_) #[true, false, true, false, false, true, false, false, false, false, false] rfl rfl (any_of HT_.out (by kernel_rfl)) (fun _ _ _ h => h) (Or.inl ⟨by rfl, ?_⟩) ?_ ?_
            rotate_left
            · intro w'
              go_simp
              with_reducible rfl
            rotate_left
            · simp only [Act.put, List.setIfInBounds_toArray, List.set_cons_zero, List.set_cons_succ, i64_w, i32_w]
              rfl
            refine take_ (i := 1) (N := some 25) (v := ?_) (a' := ?_) #[true, true, true, false, false, true, false, false, false, false, false] rfl rfl (take_ofW HT_.out HW_.out (by kernel_rfl)) (fun _ _ _ h => h) (Or.inl ⟨by rfl, ?_⟩) hHeld ?_ ?_
            rotate_left
            · rintro w' ⟨s0, s1⟩
              go_simp
              with_reducible rfl
            rotate_left
            · simp only [Act.put, List.setIfInBounds_toArray, List.set_cons_zero, List.set_cons_succ, i64_w, i32_w]
              rfl
            refine take_ (i := 6) (N := some 30) (v := ?_) (a' := ?_) #[true, true, true, false, false, true, true, false, false, false, false] rfl rfl (take_ofW HT_.out HW_.out (by kernel_rfl)) (fun _ _ _ h => h) (Or.inl ⟨by rfl, ?_⟩) hHeld ?_ ?_
            rotate_left
            · rintro w' ⟨s0, s1⟩
              go_simp
              with_reducible rfl
            rotate_left
            · simp only [Act.put, List.setIfInBounds_toArray, List.set_cons_zero, List.set_cons_succ, i64_w, i32_w]
              rfl
            refine one_ (i := 3) (N := some 27) #[true, true, true, true, false, true, true, false, false, false, false] rfl rfl (one_of HT_.out (by kernel_rfl)) (by decide) (fun K hK => ?_)
            refine goes_ Tryd.func25 (by kernel_rfl) rfl #[.int .i64 t114] (by rfl) rfl rfl (by (try simp only [List.map_toArray, List.map_cons, List.map_nil]); first | done | rfl | (simp only [List.length_drop, List.length_take]; rfl)) ?_
            with_reducible refine (vendmeterref_Dec.calls kj5 t114 t115 _ A15.out).mono ?_
            rintro e w18 ⟨rfl, hb⟩
            refine ⟨_, rfl, ?_⟩
            have n0_ := Aside0.mk (blk_below (g := gb111) (o := .cells #[.string a0_0, .bool a0_1] 24 (0, 0)) (by (with_reducible repeat (first | apply xn15 | apply xd15 | apply xa15)); exact BK111.1) hb)
            have n1_ := Aside0.mk (blk_below (g := gb112) (o := .cells #[.string (⟨#[]⟩ : ByteArray), .bool false] 24 (0, 0)) (by (with_reducible repeat (first | apply xn15 | apply xd15 | apply xa15)); exact BK112.1) hb)
            have n2_ := Aside0.mk (below_step (by with_reducible repeat (first | exact HB.1 | apply ya15 | apply yn15 | apply yd15 | refine below_set ?_ GE111.1 | refine below_set ?_ GE112.1)) hb)
            clear BK111
            clear BK112
            clear HB
            have BK111 := n0_
            have BK112 := n1_
            have HB := n2_
            clear n0_ n1_ n2_
            (try clear hb)
            (try clear hb2)
            (try clear hk)
            (try clear hi)
            refine hK.out _ _ ⟨(blk_cell BK111.1 0).trans rfl, (blk_cell BK111.1 1).trans rfl⟩ (fun hHeld => ?_)
            clear hK K
            refine norm_ (a' := ?_) ?_ ?_
            rotate_left
            · show Act.put _ (some 27) _ = _
              simp only [Act.put, List.setIfInBounds_toArray, List.set_cons_zero, List.set_cons_succ, i64_w, i32_w]
              rfl
            refine pure_ (i := 4) (N := some 28) (v := ?_) (a' := ?_) #[true, true, true, true, true, true, true, false, false, false, false] rfl rfl (any_of HT_.out (by kernel_rfl)) (fun _ _ _ h => h) (Or.inl ⟨by rfl, ?_⟩) ?_ ?_
            rotate_left
            · intro w'
              go_simp
              with_reducible rfl
            rotate_left
            · simp only [Act.put, List.setIfInBounds_toArray, List.set_cons_zero, List.set_cons_succ, i64_w, i32_w]
              rfl
            refine pure_ (i := 7) (N := some 31) (v := ?_) (a' := ?_) #[true, true, true, true, true, true, true, true, false, false, false] rfl rfl (any_of HT_.out (by kernel_rfl)) (fun _ _ _ h => h) (Or.inl ⟨by rfl, ?_⟩) ?_ ?_
            rotate_left
            · intro w'
              go_simp
              with_reducible rfl
            rotate_left
            · simp only [Act.put, List.setIfInBounds_toArray, List.set_cons_zero, List.set_cons_succ, i64_w, i32_w]
              rfl
            refine one_ (i := 8) (N := none) #[true, true, true, true, true, true, true, true, true, false, false] rfl rfl (one_of HT_.out (by kernel_rfl)) (by decide) (fun K hK => ?_)
            have hs19 : w18.cell? ⟨gb112, 0, none⟩ = some (.string (⟨#[]⟩ : ByteArray)) := (blk_cell BK112.1 0).trans rfl
            have hfs19 := blk_frozen BK112.1 0
            have hns19_0 := NB111_112.1
            have hms19_0 := NB112_111.1
            have hs20 : w18.cell? ⟨gb112, 1, none⟩ = some (.bool false) := (blk_cell BK112.1 1).trans rfl
            have hfs20 := blk_frozen BK112.1 1
            have hns20_0 := NB111_112.1
            have hms20_0 := NB112_111.1
            refine skip_ (w1 := ?_) (by rfl) rfl ?_ ?_
            rotate_left
            · go_simp
              rfl
            refine hK.out _ _ ⟨((cell_far (p := ⟨gb112, _, none⟩) NB111_112.1 _).trans (((cell_far (p := ⟨gb112, _, none⟩) NB111_112.1 _).trans (hHeld.1)))), ((cell_far (p := ⟨gb112, _, none⟩) NB111_112.1 _).trans (((cell_far (p := ⟨gb112, _, none⟩) NB111_112.1 _).trans (hHeld.2))))⟩ (fun hHeld => ?_)
            clear hK K
            refine pure_ (i := 9) (N := some 5) (v := ?_) (a' := ?_) #[true, true, true, true, true, true, true, true, true, true, false] rfl rfl (any_of HT_.out (by kernel_rfl)) (fun _ _ _ h => h) (Or.inl ⟨by rfl, ?_⟩) ?_ ?_
            rotate_left
            · intro w'
              go_simp
              with_reducible rfl
            rotate_left
            · simp only [Act.put, List.setIfInBounds_toArray, List.set_cons_zero, List.set_cons_succ, i64_w, i32_w]
              rfl
            refine pure_ (i := 10) (N := some 6) (v := ?_) (a' := ?_) #[true, true, true, true, true, true, true, true, true, true, true] rfl rfl (any_of HT_.out (by kernel_rfl)) (fun _ _ _ h => h) (Or.inl ⟨by rfl, ?_⟩) ?_ ?_
            rotate_left
            · intro w'
              go_simp
              with_reducible rfl
            rotate_left
            · simp only [Act.put, List.setIfInBounds_toArray, List.set_cons_zero, List.set_cons_succ, i64_w, i32_w]
              rfl
            refine done_ (done_of HT_.out (by kernel_rfl)) ?_
            try go_wp2
            refine bodyPost_ret (results_ctt rfl _ _ gb112 24 #[.string (a0_0 ++ t115), .bool a0_1] (0, 0) _ rfl (by (with_reducible repeat (first | apply xn15 | apply xd15 | apply xa15)); refine blk_put (cs := #[.string (a0_0 ++ t115), .bool false]) ?_ 1 _ rfl; (with_reducible repeat (first | apply xn15 | apply xd15 | apply xa15)); refine blk_put (cs := #[.string (⟨#[]⟩ : ByteArray), .bool false]) ?_ 0 _ rfl; (with_reducible repeat (first | apply xn15 | apply xd15 | apply xa15)); exact BK112.1) Tryd.underlying24 rfl (by kernel_rfl)) rfl ?_
            exact ⟨_, by first | rfl | (simp [errW_none, errW_some] <;> rfl) | (simp [*, errW_none, errW_some] <;> rfl), by first | exact Kd.R_nil _ _ _ _ _ | exact Kd.N_nil _ _ _ _ _ | exact Kd.V_nil _ _ _ _ _ | exact Kd.Q_nil _ _ _ _ _ | exact Kd.S_nil _ _ _ _ _, by repeat (first | (with_reducible first | exact HB.1 | apply below_alloc | apply pw_below_drewN | apply below_drew1 | refine below_set ?_ GE111.1 | refine below_set ?_ GE112.1) | exact HB.1)⟩
          · rw [if_neg c16] at H
            exact absurd H (by simp)
        · replace c14 := Bool.eq_false_iff.mpr c14
          subst c14
          have H1 : (if a1 = 32 then (vendmeterref_Pressed.j1 kj5 a1 (a0_0.size : Int) true a0_0 a0_1) else (if a1 = 45 then (vendmeterref_Pressed.j1 kj5 a1 (a0_0.size : Int) true a0_0 a0_1) else (vendmeterref_Pressed.j1 kj5 a1 (a0_0.size : Int) (a1 == 160) a0_0 a0_1))) = some (r1, r2, r3, r4) := by rw [if_neg (show ¬ (false = true) by decide)] at H; exact H
          clear H
          have H := H1
          clear H1
          have HC21 := Aside0.mk H
          clear H
          go_upto_region 7 with (fail)
          go_cut [41] (fun v41 wc => ∃ (kq : Nat) (x41_20 : Bool), v41 = .bool x41_20 ∧ Aside0 (vendmeterref_Pressed.j1 kq a1 (a0_0.size : Int) x41_20 a0_0 a0_1 = some (r1, r2, r3, r4)) ∧ Aside0 (kq ≤ kj5) ∧ Aside0 (wc.heap[gb111]? = some (.cells #[.string a0_0, .bool a0_1] 24 (0, 0))) ∧ Aside0 (wc.heap[gb112]? = some (.cells #[.string (⟨#[]⟩ : ByteArray), .bool false] 24 (0, 0))) ∧ Aside0 (Below w.heap.size w wc))
          case first =>
            have H := HC21.out
            clear HC21
            by_cases c22 : a1 = 32
            · rw [if_pos c22] at H
              have c22b0 : (a1 == 32) = true := beq_iff_eq.mpr c22
              have c22b1 : (a1 != 32) = false := bne_eq_false_iff_eq.mpr c22
              clear c22
              (first | rw [c22b0] | (simp only [i64_w, i32_w]; rw [c22b0]) | skip)
              have H' := Aside0.mk H
              clear H
              go_wp2
              go_meet
              case rel => exact ⟨_, (true), (by first | rfl | (simp; done) | (simp [*]; done)), H', ⟨by have := HJ5.out; first | omega | exact Nat.le_refl _⟩, ⟨by (with_reducible repeat (first | apply xn15 | apply xd15 | apply xa15)); exact BK111.1⟩, ⟨by (with_reducible repeat (first | apply xn15 | apply xd15 | apply xa15)); exact BK112.1⟩, ⟨by repeat (first | (with_reducible first | exact HB.1 | apply below_alloc | apply pw_below_drewN | apply below_drew1 | refine below_set ?_ GE111.1 | refine below_set ?_ GE112.1) | exact HB.1)⟩⟩
            · rw [if_neg c22] at H
              have c22b0 : (a1 == 32) = false := beq_eq_false_iff_ne.mpr c22
              have c22b1 : (a1 != 32) = true := bne_iff_ne.mpr c22
              (first | rw [c22b0] | (simp only [i64_w, i32_w]; rw [c22b0]) | skip)
              by_cases c23 : a1 = 45
              · rw [if_pos c23] at H
                have c23b0 : (a1 == 45) = true := beq_iff_eq.mpr c23
                have c23b1 : (a1 != 45) = false := bne_eq_false_iff_eq.mpr c23
                clear c23
                have H' := Aside0.mk H
                clear H
                go_wp2
                go_meet
                case rel => exact ⟨_, (true), (by first | rfl | (simp; done) | (simp [*]; done)), H', ⟨by have := HJ5.out; first | omega | exact Nat.le_refl _⟩, ⟨by (with_reducible repeat (first | apply xn15 | apply xd15 | apply xa15)); exact BK111.1⟩, ⟨by (with_reducible repeat (first | apply xn15 | apply xd15 | apply xa15)); exact BK112.1⟩, ⟨by repeat (first | (with_reducible first | exact HB.1 | apply below_alloc | apply pw_below_drewN | apply below_drew1 | refine below_set ?_ GE111.1 | refine below_set ?_ GE112.1) | exact HB.1)⟩⟩
              · rw [if_neg c23] at H
                have c23b0 : (a1 == 45) = false := beq_eq_false_iff_ne.mpr c23
                have c23b1 : (a1 != 45) = true := bne_iff_ne.mpr c23
                have H' := Aside0.mk H
                clear H
                go_wp2
                go_meet
                case rel => exact ⟨_, ((a1 == 160)), (by first | rfl | (simp; done) | (simp [*]; done)), H', ⟨by have := HJ5.out; first | omega | exact Nat.le_refl _⟩, ⟨by (with_reducible repeat (first | apply xn15 | apply xd15 | apply xa15)); exact BK111.1⟩, ⟨by (with_reducible repeat (first | apply xn15 | apply xd15 | apply xa15)); exact BK112.1⟩, ⟨by repeat (first | (with_reducible first | exact HB.1 | apply below_alloc | apply pw_below_drewN | apply below_drew1 | refine below_set ?_ GE111.1 | refine below_set ?_ GE112.1) | exact HB.1)⟩⟩
          case rest =>
            clear HC21
            try clear c1
            try clear c2
            try clear p2
            try clear c3
            try clear c4
            try clear c9
            try clear c13
            try clear c13b0
            try clear c14
            try clear c15
            try clear c16
            try clear c16b0
            try clear c16b1
            try clear c16b2
            try clear c22
            try clear c22b0
            try clear c22b1
            try clear c23
            try clear c23b0
            try clear c23b1
            try clear hcz10_0
            try clear hcz10_1
            try clear hcz12_0
            try clear hcz12_1
            try clear hfz10_0
            try clear hfz10_1
            try clear hfz12_0
            try clear hfz12_1
            try clear p2
            obtain ⟨kq, x41_20, rfl, HA, HJ20, BK111, BK112, HB⟩ := hcut
            cases kq with
            | zero => exact absurd HA.out (by simp [vendmeterref_Pressed.j1])
            | succ kj20 =>
              have H := HA.out
              clear HA
              simp only [vendmeterref_Pressed.j1] at H
              by_cases c24 : x41_20 = true
              · subst c24
                have H1 : (some (a0_0, a0_1, ([] : List (S41)), 0)) = some (r1, r2, r3, r4) := by rw [if_pos rfl] at H; exact H
                clear H
                have H := H1
                clear H1
                simp only [Option.some.injEq, Prod.mk.injEq] at H
                obtain ⟨rfl, rfl, rfl, rfl⟩ := H
                have hnb25 := NB111_112.1
                have hnc25 := NB112_111.1
                obtain ⟨hcz26_0, hcz26_1⟩ := c2_15 BK111.1
                obtain ⟨hfz26_0, hfz26_1⟩ := f2_15 BK111.1
                obtain ⟨hcz27_0, hcz27_1⟩ := c2_15 BK112.1
                obtain ⟨hfz27_0, hfz27_1⟩ := f2_15 BK112.1
                go_wp2
                refine bodyPost_ret (results_ctt rfl _ _ gb112 24 #[.string a0_0, .bool a0_1] (0, 0) _ rfl (by (with_reducible repeat (first | apply xn15 | apply xd15 | apply xa15)); refine blk_put (cs := #[.string a0_0, .bool false]) ?_ 1 _ rfl; (with_reducible repeat (first | apply xn15 | apply xd15 | apply xa15)); refine blk_put (cs := #[.string (⟨#[]⟩ : ByteArray), .bool false]) ?_ 0 _ rfl; (with_reducible repeat (first | apply xn15 | apply xd15 | apply xa15)); exact BK112.1) Tryd.underlying24 rfl (by kernel_rfl)) rfl ?_
                exact ⟨_, by first | rfl | (simp [errW_none, errW_some] <;> rfl) | (simp [*, errW_none, errW_some] <;> rfl), by first | exact Kd.R_nil _ _ _ _ _ | exact Kd.N_nil _ _ _ _ _ | exact Kd.V_nil _ _ _ _ _ | exact Kd.Q_nil _ _ _ _ _ | exact Kd.S_nil _ _ _ _ _, by repeat (first | (with_reducible first | exact HB.1 | apply below_alloc | apply pw_below_drewN | apply below_drew1 | refine below_set ?_ GE111.1 | refine below_set ?_ GE112.1) | exact HB.1)⟩
              · replace c24 := Bool.eq_false_iff.mpr c24
                subst c24
                have H1 : (if a1 = 42 then (if (a0_0.size : Int) > 0 then (if 0 ≤ (wrap64 ((a0_0.size : Int) - 1)) then (if (wrap64 ((a0_0.size : Int) - 1)) ≤ (a0_0.size : Int) then (some (a0_0.extract 0 ((wrap64 ((a0_0.size : Int) - 1)) : Int).toNat, a0_1, ([] : List (S41)), 0)) else (none)) else (none)) else (some (a0_0, a0_1, ([] : List (S41)), 0))) else (if a1 = 35 then (if a0_1 = true then (some ((⟨#[]⟩ : ByteArray), false, (([(⟨(⟨#[]⟩ : ByteArray), 3⟩ : S41)] : List (S41))), 0)) else (if (a0_0.size : Int) = 0 then (some ((⟨#[]⟩ : ByteArray), false, ([] : List (S41)), 0)) else (some ((⟨#[]⟩ : ByteArray), false, (([(⟨a0_0, 0⟩ : S41)] : List (S41))), 0)))) else (some (a0_0, true, ([] : List (S41)), 0)))) = some (r1, r2, r3, r4) := by rw [if_neg (show ¬ (false = true) by decide)] at H; exact H
                clear H
                have H := H1
                clear H1
                by_cases c28 : a1 = 42
                · rw [if_pos c28] at H
                  have c28b0 : (a1 == 42) = true := beq_iff_eq.mpr c28
                  have c28b1 : (a1 != 42) = false := bne_eq_false_iff_eq.mpr c28
                  clear c28
                  by_cases c29 : (a0_0.size : Int) > 0
                  · rw [if_pos c29] at H
                    have c29b0 : decide (0 < (a0_0.size : Int)) = true := decide_eq_true c29
                    have c29b1 : decide (0 < a0_0.size) = true := decide_eq_true (by omega)
                    clear c29
                    obtain ⟨ji30, hji30⟩ : ∃ j_ : Int, (wrap64 ((a0_0.size : Int) - 1)) = j_ := ⟨_, rfl⟩
                    replace H : (if 0 ≤ (ji30) then (if (ji30) ≤ (a0_0.size : Int) then (some (a0_0.extract 0 ((ji30) : Int).toNat, a0_1, ([] : List (S41)), 0)) else (none)) else (none)) = some (r1, r2, r3, r4) := by first | (rw [hji30] at H; exact H) | (simp only [hji30] at H ⊢; exact H)
                    have hji30w : (IntKind.i64.wrap ((a0_0.size : Int) - 1)) = ji30 := (i64_w _).trans hji30
                    by_cases c31 : 0 ≤ (ji30)
                    · rw [if_pos c31] at H
                      have c31b0 := eq_true c31
                      have c31b1 : decide (0 ≤ (ji30)) = true := decide_eq_true c31
                      clear c31
                      by_cases c32 : (ji30) ≤ (a0_0.size : Int)
                      · rw [if_pos c32] at H
                        have c32b0 := eq_true c32
                        have c32b1 : decide ((ji30) ≤ (a0_0.size : Int)) = true := decide_eq_true c32
                        clear c32
                        simp only [Option.some.injEq, Prod.mk.injEq] at H
                        obtain ⟨rfl, rfl, rfl, rfl⟩ := H
                        try go_wp2
                        have n0_ := Aside0.mk (blk_drew BK111.1)
                        have n1_ := Aside0.mk (blk_drew BK112.1)
                        have n2_ := Aside0.mk (below_drew1 HB.1)
                        clear BK111
                        clear BK112
                        clear HB
                        have BK111 := n0_
                        have BK112 := n1_
                        have HB := n2_
                        clear n0_ n1_ n2_
                        refine start_ (n := 11) (S := fun w' => w'.cell? ⟨gb111, 0, none⟩ = some (.string a0_0) ∧ w'.cell? ⟨gb111, 1, none⟩ = some (.bool a0_1)) (ds := []) #[false, false, false, false, false, false, false, false, false, false, false] (by kernel_rfl) rfl rfl ⟨(blk_cell BK111.1 0).trans rfl, (blk_cell BK111.1 1).trans rfl⟩ (fun hHeld => ?_); refine with_tabW vendmeterref_Pressed.tab11 vendmeterref_Pressed.bits11 (fun HT_ HW_ => ?_)
                        generalize wc.drew = w33 at BK111 BK112 HB hHeld ⊢
                        refine pure_ (i := 0) (N := some 47) (v := ?_) (a' := ?_) #[true, false, false, false, false, false, false, false, false, false, false] rfl rfl (any_of HT_.out (by kernel_rfl)) (fun _ _ _ h => h) (Or.inl ⟨by rfl, ?_⟩) ?_ ?_
                        rotate_left
                        · intro w'
                          go_simp
                          with_reducible rfl
                        rotate_left
                        · simp only [Act.put, List.setIfInBounds_toArray, List.set_cons_zero, List.set_cons_succ, i64_w, i32_w]
                          rfl
                        refine pure_ (i := 2) (N := some 49) (v := ?_) (a' := ?_) #[true, false, true, false, false, false, false, false, false, false, false] rfl rfl (any_of HT_.out (by kernel_rfl)) (fun _ _ _ h => h) (Or.inl ⟨by rfl, ?_⟩) ?_ ?_
                        rotate_left
                        · intro w'
                          go_simp
                          with_reducible rfl
                        rotate_left
                        · simp only [Act.put, List.setIfInBounds_toArray, List.set_cons_zero, List.set_cons_succ, i64_w, i32_w]
                          rfl
                        refine pure_ (i := 3) (N := some 50) (v := ?_) (a' := ?_) #[true, false, true, true, false, false, false, false, false, false, false] rfl rfl (any_of HT_.out (by kernel_rfl)) (fun _ _ _ h => h) (Or.inl ⟨by rfl, ?_⟩) ?_ ?_
                        rotate_left
                        · intro w'
                          go_simp
                          with_reducible rfl
                        rotate_left
                        · simp only [Act.put, List.setIfInBounds_toArray, List.set_cons_zero, List.set_cons_succ, i64_w, i32_w]
                          rfl
                        refine pure_ (i := 5) (N := some 52) (v := ?_) (a' := ?_) #[true, false, true, true, false, true, false, false, false, false, false] rfl rfl (any_of HT_.out (by kernel_rfl)) (fun _ _ _ h => h) (Or.inl ⟨by rfl, ?_⟩) ?_ ?_
                        rotate_left
                        · intro w'
                          go_simp
                          with_reducible rfl
                        rotate_left
                        · simp only [Act.put, List.setIfInBounds_toArray, List.set_cons_zero, List.set_cons_succ, i64_w, i32_w]
                          rfl
                        refine take_ (i := 1) (N := some 48) (v := ?_) (a' := ?_) #[true, true, true, true, false, true, false, false, false, false, false] rfl rfl (take_ofW HT_.out HW_.out (by kernel_rfl)) (fun _ _ _ h => h) (Or.inl ⟨by rfl, ?_⟩) hHeld ?_ ?_
                        rotate_left
                        · rintro w' ⟨s0, s1⟩
                          go_simp
                          with_reducible rfl
                        rotate_left
                        · simp only [Act.put, List.setIfInBounds_toArray, List.set_cons_zero, List.set_cons_succ, i64_w, i32_w]
                          rfl
                        refine pure_ (i := 4) (N := some 51) (v := ?_) (a' := ?_) #[true, true, true, true, true, true, false, false, false, false, false] rfl rfl (any_of HT_.out (by kernel_rfl)) (fun _ _ _ h => h) (Or.inl ⟨by rfl, ?_⟩) ?_ ?_
                        rotate_left
                        · intro w'
                          go_simp
                          with_reducible rfl
                        rotate_left
                        · simp only [Act.put, List.setIfInBounds_toArray, List.set_cons_zero, List.set_cons_succ, i64_w, i32_w]
                          rfl
                        refine take_ (i := 6) (N := some 53) (v := ?_) (a' := ?_) #[true, true, true, true, true, true, true, false, false, false, false] rfl rfl (take_ofW HT_.out HW_.out (by kernel_rfl)) (fun _ _ _ h => h) (Or.inl ⟨by rfl, ?_⟩) hHeld ?_ ?_
                        rotate_left
                        · rintro w' ⟨s0, s1⟩
                          go_simp
                          with_reducible rfl
                        rotate_left
                        · simp only [Act.put, List.setIfInBounds_toArray, List.set_cons_zero, List.set_cons_succ, i64_w, i32_w]
                          rfl
                        refine pure_ (i := 7) (N := some 54) (v := ?_) (a' := ?_) #[true, true, true, true, true, true, true, true, false, false, false] rfl rfl (any_of HT_.out (by kernel_rfl)) (fun _ _ _ h => h) (Or.inl ⟨by rfl, ?_⟩) ?_ ?_
                        rotate_left
                        · intro w'
                          go_simp
                          with_reducible rfl
                        rotate_left
                        · simp only [Act.put, List.setIfInBounds_toArray, List.set_cons_zero, List.set_cons_succ, i64_w, i32_w]
                          rfl
                        refine one_ (i := 8) (N := none) #[true, true, true, true, true, true, true, true, true, false, false] rfl rfl (one_of HT_.out (by kernel_rfl)) (by decide) (fun K hK => ?_)
                        have hs34 : w33.cell? ⟨gb112, 0, none⟩ = some (.string (⟨#[]⟩ : ByteArray)) := (blk_cell BK112.1 0).trans rfl
                        have hfs34 := blk_frozen BK112.1 0
                        have hns34_0 := NB111_112.1
                        have hms34_0 := NB112_111.1
                        have hs35 : w33.cell? ⟨gb112, 1, none⟩ = some (.bool false) := (blk_cell BK112.1 1).trans rfl
                        have hfs35 := blk_frozen BK112.1 1
                        have hns35_0 := NB111_112.1
                        have hms35_0 := NB112_111.1
                        refine skip_ (w1 := ?_) (by rfl) rfl ?_ ?_
                        rotate_left
                        · go_simp
                          rfl
                        refine hK.out _ _ ⟨((cell_far (p := ⟨gb112, _, none⟩) NB111_112.1 _).trans (((cell_far (p := ⟨gb112, _, none⟩) NB111_112.1 _).trans (hHeld.1)))), ((cell_far (p := ⟨gb112, _, none⟩) NB111_112.1 _).trans (((cell_far (p := ⟨gb112, _, none⟩) NB111_112.1 _).trans (hHeld.2))))⟩ (fun hHeld => ?_)
                        clear hK K
                        refine pure_ (i := 9) (N := some 5) (v := ?_) (a' := ?_) #[true, true, true, true, true, true, true, true, true, true, false] rfl rfl (any_of HT_.out (by kernel_rfl)) (fun _ _ _ h => h) (Or.inl ⟨by rfl, ?_⟩) ?_ ?_
                        rotate_left
                        · intro w'
                          go_simp
                          with_reducible rfl
                        rotate_left
                        · simp only [Act.put, List.setIfInBounds_toArray, List.set_cons_zero, List.set_cons_succ, i64_w, i32_w]
                          rfl
                        refine pure_ (i := 10) (N := some 6) (v := ?_) (a' := ?_) #[true, true, true, true, true, true, true, true, true, true, true] rfl rfl (any_of HT_.out (by kernel_rfl)) (fun _ _ _ h => h) (Or.inl ⟨by rfl, ?_⟩) ?_ ?_
                        rotate_left
                        · intro w'
                          go_simp
                          with_reducible rfl
                        rotate_left
                        · simp only [Act.put, List.setIfInBounds_toArray, List.set_cons_zero, List.set_cons_succ, i64_w, i32_w]
                          rfl
                        refine done_ (done_of HT_.out (by kernel_rfl)) ?_
                        try go_wp2
                        refine bodyPost_ret (results_ctt rfl _ _ gb112 24 #[.string (a0_0.extract 0 ((ji30) : Int).toNat), .bool a0_1] (0, 0) _ rfl (by (with_reducible repeat (first | apply xn15 | apply xd15 | apply xa15)); refine blk_put (cs := #[.string (a0_0.extract 0 ((ji30) : Int).toNat), .bool false]) ?_ 1 _ rfl; (with_reducible repeat (first | apply xn15 | apply xd15 | apply xa15)); refine blk_put (cs := #[.string (⟨#[]⟩ : ByteArray), .bool false]) ?_ 0 _ rfl; (with_reducible repeat (first | apply xn15 | apply xd15 | apply xa15)); exact BK112.1) Tryd.underlying24 rfl (by kernel_rfl)) rfl ?_
                        exact ⟨_, by first | rfl | (simp [errW_none, errW_some] <;> rfl) | (simp only [← hji30]; first | rfl | (simp [errW_none, errW_some] <;> rfl)) | (simp [*, errW_none, errW_some] <;> rfl), by first | exact Kd.R_nil _ _ _ _ _ | exact Kd.N_nil _ _ _ _ _ | exact Kd.V_nil _ _ _ _ _ | exact Kd.Q_nil _ _ _ _ _ | exact Kd.S_nil _ _ _ _ _, by repeat (first | (with_reducible first | exact HB.1 | apply below_alloc | apply pw_below_drewN | apply below_drew1 | refine below_set ?_ GE111.1 | refine below_set ?_ GE112.1) | exact HB.1)⟩
                      · rw [if_neg c32] at H
                        exact absurd H (by simp)
                    · rw [if_neg c31] at H
                      exact absurd H (by simp)
                  · rw [if_neg c29] at H
                    have c29b0 : decide (0 < (a0_0.size : Int)) = false := decide_eq_false c29
                    have c29b1 : decide (0 < a0_0.size) = false := decide_eq_false (by omega)
                    clear c29
                    simp only [Option.some.injEq, Prod.mk.injEq] at H
                    obtain ⟨rfl, rfl, rfl, rfl⟩ := H
                    have hnb36 := NB111_112.1
                    have hnc36 := NB112_111.1
                    obtain ⟨hcz37_0, hcz37_1⟩ := c2_15 BK111.1
                    obtain ⟨hfz37_0, hfz37_1⟩ := f2_15 BK111.1
                    obtain ⟨hcz38_0, hcz38_1⟩ := c2_15 BK112.1
                    obtain ⟨hfz38_0, hfz38_1⟩ := f2_15 BK112.1
                    go_wp2
                    refine bodyPost_ret (results_ctt rfl _ _ gb112 24 #[.string a0_0, .bool a0_1] (0, 0) _ rfl (by (with_reducible repeat (first | apply xn15 | apply xd15 | apply xa15)); refine blk_put (cs := #[.string a0_0, .bool false]) ?_ 1 _ rfl; (with_reducible repeat (first | apply xn15 | apply xd15 | apply xa15)); refine blk_put (cs := #[.string (⟨#[]⟩ : ByteArray), .bool false]) ?_ 0 _ rfl; (with_reducible repeat (first | apply xn15 | apply xd15 | apply xa15)); exact BK112.1) Tryd.underlying24 rfl (by kernel_rfl)) rfl ?_
                    exact ⟨_, by first | rfl | (simp [errW_none, errW_some] <;> rfl) | (simp [*, errW_none, errW_some] <;> rfl), by first | exact Kd.R_nil _ _ _ _ _ | exact Kd.N_nil _ _ _ _ _ | exact Kd.V_nil _ _ _ _ _ | exact Kd.Q_nil _ _ _ _ _ | exact Kd.S_nil _ _ _ _ _, by repeat (first | (with_reducible first | exact HB.1 | apply below_alloc | apply pw_below_drewN | apply below_drew1 | refine below_set ?_ GE111.1 | refine below_set ?_ GE112.1) | exact HB.1)⟩
                · rw [if_neg c28] at H
                  have c28b0 : (a1 == 42) = false := beq_eq_false_iff_ne.mpr c28
                  have c28b1 : (a1 != 42) = true := bne_iff_ne.mpr c28
                  by_cases c39 : a1 = 35
                  · rw [if_pos c39] at H
                    have c39b0 : (a1 == 35) = true := beq_iff_eq.mpr c39
                    have c39b1 : (a1 != 35) = false := bne_eq_false_iff_eq.mpr c39
                    clear c39
                    by_cases c40 : a0_1 = true
                    · subst c40
                      have H1 : (some ((⟨#[]⟩ : ByteArray), false, (([(⟨(⟨#[]⟩ : ByteArray), 3⟩ : S41)] : List (S41))), 0)) = some (r1, r2, r3, r4) := by rw [if_pos rfl] at H; exact H
                      clear H
                      have H := H1
                      clear H1
                      obtain ⟨y116, hy116⟩ : ∃ y_ : List (S41), y_ = (([(⟨(⟨#[]⟩ : ByteArray), 3⟩ : S41)] : List (S41))) := ⟨_, rfl⟩
                      replace H : (some ((⟨#[]⟩ : ByteArray), false, y116, 0)) = some (r1, r2, r3, r4) := by first | (rw [hy116]; with_reducible exact H) | (have H2_ := (Option.bind_some _ _).symm.trans H; rw [hy116]; with_reducible exact H2_) | (have H2_ := (Option.bind_some _ _).symm.trans H; with_reducible exact H2_) | with_reducible exact H | (rw [hy116]; exact H) | exact H
                      have Ny116 := Aside0.mk hy116
                      clear hy116
                      simp only [Option.some.injEq, Prod.mk.injEq] at H
                      obtain ⟨rfl, rfl, rfl, rfl⟩ := H
                      have hnb41 := NB111_112.1
                      have hnc41 := NB112_111.1
                      obtain ⟨hcz42_0, hcz42_1⟩ := c2_15 BK111.1
                      obtain ⟨hfz42_0, hfz42_1⟩ := f2_15 BK111.1
                      go_wp2_with (first | ((with_reducible refine gate_dst (N := 62) rfl ?_); refine Kd.R_lit k41 _ 41 ?hg (N := 62) ?hd (xs := ([(⟨(⟨#[]⟩ : ByteArray), 3⟩ : S41)] : List (S41))) (inner := [.string (⟨#[]⟩ : ByteArray), .int .i64 3]) (ok := fun _ => True) (okp := fun _ => True) ?hr ?hp (fun _ hk => hk) trivial (Below.refl _ _) (Nat.le_refl _) (by simp) ?_; (case hd => rfl); (case hg => rfl); (case hr => first | (go_simp; done) | (go_simp; rfl)); (case hp => exact (Reps.c2 (show Kd.M k41 _ _ _ (⟨(⟨#[]⟩ : ByteArray), 3⟩ : S41) [.string (⟨#[]⟩ : ByteArray), .int .i64 3] from (k41_mkM _ _ _ (⟨(⟨#[]⟩ : ByteArray), 3⟩ : S41) )) (Reps.none _ _))); intro v117 w43 ho44 hb hg_ hnew_; clear hg_ hnew_; (first | rw [← Ny116.out] at ho44 | (simp only [Int.reduceToNat] at ho44; rw [← Ny116.out] at ho44)); have n0_ := Aside0.mk (Kd.R_lower ho44 (below_size (by with_reducible repeat (first | exact HB.1 | apply ya15 | apply yn15 | apply yd15 | refine below_set ?_ GE111.1 | refine below_set ?_ GE112.1)))); have n1_ := Aside0.mk (blk_below (g := gb111) (o := .cells #[.string a0_0, .bool true] 24 (0, 0)) (by (with_reducible repeat (first | apply xn15 | apply xd15 | apply xa15)); exact BK111.1) hb); have n2_ := Aside0.mk (blk_below (g := gb112) (o := .cells #[.string (⟨#[]⟩ : ByteArray), .bool false] 24 (0, 0)) (by (with_reducible repeat (first | apply xn15 | apply xd15 | apply xa15)); exact BK112.1) hb); have n3_ := Aside0.mk (below_step (by with_reducible repeat (first | exact HB.1 | apply ya15 | apply yn15 | apply yd15 | refine below_set ?_ GE111.1 | refine below_set ?_ GE112.1)) hb); clear BK111; clear BK112; clear HB; have HO118 := n0_; have BK111 := n1_; have BK112 := n2_; have HB := n3_; clear n0_ n1_ n2_ n3_; clear hb ho44; obtain ⟨hcz45_0, hcz45_1⟩ := c2_15 BK112.1; obtain ⟨hfz45_0, hfz45_1⟩ := f2_15 BK112.1))
                      refine bodyPost_ret (results_ctt rfl _ _ gb112 24 #[.string (⟨#[]⟩ : ByteArray), .bool false] (0, 0) _ rfl (by (with_reducible repeat (first | apply xn15 | apply xd15 | apply xa15)); refine blk_put (cs := #[.string (⟨#[]⟩ : ByteArray), .bool false]) ?_ 1 _ rfl; (with_reducible repeat (first | apply xn15 | apply xd15 | apply xa15)); refine blk_put (cs := #[.string (⟨#[]⟩ : ByteArray), .bool false]) ?_ 0 _ rfl; (with_reducible repeat (first | apply xn15 | apply xd15 | apply xa15)); exact BK112.1) Tryd.underlying24 rfl (by kernel_rfl)) rfl ?_
                      exact ⟨_, by first | rfl | (simp [errW_none, errW_some] <;> rfl) | (simp [*, errW_none, errW_some] <;> rfl), by (with_reducible repeat (first | apply Kd.R_alloc | apply Kd.R_drewN | apply Kd.R_drew)); exact Kd.R_mono (Kd.R_far (p := ⟨gb112, 1, none⟩) (Kd.R_far (p := ⟨gb112, 0, none⟩) (Kd.R_types HO118.1 BK112.1 (by decide)) (fun _ hk => hk.2) (.string (⟨#[]⟩ : ByteArray))) (fun _ hk => hk.2) (.bool false)) (fun _ hk => trivial), by repeat (first | (with_reducible first | exact HB.1 | apply below_alloc | apply pw_below_drewN | apply below_drew1 | refine below_set ?_ GE111.1 | refine below_set ?_ GE112.1) | exact HB.1)⟩
                    · replace c40 := Bool.eq_false_iff.mpr c40
                      subst c40
                      have H1 : (if (a0_0.size : Int) = 0 then (some ((⟨#[]⟩ : ByteArray), false, ([] : List (S41)), 0)) else (some ((⟨#[]⟩ : ByteArray), false, (([(⟨a0_0, 0⟩ : S41)] : List (S41))), 0))) = some (r1, r2, r3, r4) := by rw [if_neg (show ¬ (false = true) by decide)] at H; exact H
                      clear H
                      have H := H1
                      clear H1
                      by_cases c46 : (a0_0.size : Int) = 0
                      · rw [if_pos c46] at H
                        have c46b0 : ((a0_0.size : Int) == 0) = true := beq_iff_eq.mpr c46
                        have c46b1 : ((a0_0.size : Int) != 0) = false := bne_eq_false_iff_eq.mpr c46
                        clear c46
                        simp only [Option.some.injEq, Prod.mk.injEq] at H
                        obtain ⟨rfl, rfl, rfl, rfl⟩ := H
                        have hnb47 := NB111_112.1
                        have hnc47 := NB112_111.1
                        obtain ⟨hcz48_0, hcz48_1⟩ := c2_15 BK111.1
                        obtain ⟨hfz48_0, hfz48_1⟩ := f2_15 BK111.1
                        obtain ⟨hcz49_0, hcz49_1⟩ := c2_15 BK112.1
                        obtain ⟨hfz49_0, hfz49_1⟩ := f2_15 BK112.1
                        go_wp2
                        refine bodyPost_ret (results_ctt rfl _ _ gb112 24 #[.string (⟨#[]⟩ : ByteArray), .bool false] (0, 0) _ rfl (by (with_reducible repeat (first | apply xn15 | apply xd15 | apply xa15)); refine blk_put (cs := #[.string (⟨#[]⟩ : ByteArray), .bool false]) ?_ 1 _ rfl; (with_reducible repeat (first | apply xn15 | apply xd15 | apply xa15)); refine blk_put (cs := #[.string (⟨#[]⟩ : ByteArray), .bool false]) ?_ 0 _ rfl; (with_reducible repeat (first | apply xn15 | apply xd15 | apply xa15)); exact BK112.1) Tryd.underlying24 rfl (by kernel_rfl)) rfl ?_
                        exact ⟨_, by first | rfl | (simp [errW_none, errW_some] <;> rfl) | (simp [*, errW_none, errW_some] <;> rfl), by first | exact Kd.R_nil _ _ _ _ _ | exact Kd.N_nil _ _ _ _ _ | exact Kd.V_nil _ _ _ _ _ | exact Kd.Q_nil _ _ _ _ _ | exact Kd.S_nil _ _ _ _ _, by repeat (first | (with_reducible first | exact HB.1 | apply below_alloc | apply pw_below_drewN | apply below_drew1 | refine below_set ?_ GE111.1 | refine below_set ?_ GE112.1) | exact HB.1)⟩
                      · rw [if_neg c46] at H
                        have c46b0 : ((a0_0.size : Int) == 0) = false := beq_eq_false_iff_ne.mpr c46
                        have c46b1 : ((a0_0.size : Int) != 0) = true := bne_iff_ne.mpr c46
                        obtain ⟨y119, hy119⟩ : ∃ y_ : List (S41), y_ = (([(⟨a0_0, 0⟩ : S41)] : List (S41))) := ⟨_, rfl⟩
                        replace H : (some ((⟨#[]⟩ : ByteArray), false, y119, 0)) = some (r1, r2, r3, r4) := by first | (rw [hy119]; with_reducible exact H) | (have H2_ := (Option.bind_some _ _).symm.trans H; rw [hy119]; with_reducible exact H2_) | (have H2_ := (Option.bind_some _ _).symm.trans H; with_reducible exact H2_) | with_reducible exact H | (rw [hy119]; exact H) | exact H
                        have Ny119 := Aside0.mk hy119
                        clear hy119
                        simp only [Option.some.injEq, Prod.mk.injEq] at H
                        obtain ⟨rfl, rfl, rfl, rfl⟩ := H
                        have hnb50 := NB111_112.1
                        have hnc50 := NB112_111.1
                        obtain ⟨hcz51_0, hcz51_1⟩ := c2_15 BK111.1
                        obtain ⟨hfz51_0, hfz51_1⟩ := f2_15 BK111.1
                        try go_wp2
                        have n0_ := Aside0.mk (blk_drew BK111.1)
                        have n1_ := Aside0.mk (blk_drew BK112.1)
                        have n2_ := Aside0.mk (below_drew1 HB.1)
                        clear BK111
                        clear BK112
                        clear HB
                        have BK111 := n0_
                        have BK112 := n1_
                        have HB := n2_
                        clear n0_ n1_ n2_
                        refine start_ (n := 8) (S := fun w' => True) (ds := []) #[false, false, false, false, false, false, false, false] (by kernel_rfl) rfl rfl trivial (fun hHeld => ?_); refine with_tabW vendmeterref_Pressed.tab18 vendmeterref_Pressed.bits18 (fun HT_ HW_ => ?_)
                        generalize wc.drew = w52 at BK111 BK112 HB hHeld ⊢
                        refine pure_ (i := 1) (N := some 67) (v := ?_) (a' := ?_) #[false, true, false, false, false, false, false, false] rfl rfl (any_of HT_.out (by kernel_rfl)) (fun _ _ _ h => h) (Or.inl ⟨by rfl, ?_⟩) ?_ ?_
                        rotate_left
                        · intro w'
                          go_simp
                          with_reducible rfl
                        rotate_left
                        · simp only [Act.put, List.setIfInBounds_toArray, List.set_cons_zero, List.set_cons_succ, i64_w, i32_w]
                          rfl
                        refine inv_at [0, 2, 3, 4, 5, 6, 7] (fun a0_ b a w' => ∃ (v120 : Value) (m6_ : Value), a = putSel a0_ b [(0, 66, .agg #[.string (⟨#[]⟩ : ByteArray), .bool false]), (2, 68, .string a0_0), (3, 69, .agg #[.string a0_0, .int .i64 0]), (4, 70, v120), (6, 5, m6_), (7, 6, .int .i64 0)] ∧ (w'.heap[gb111]? = some (.cells #[.string a0_0, .bool false] 24 (0, 0))) ∧ (w'.heap[gb112]? = some (.cells #[.string (⟨#[]⟩ : ByteArray), .bool false] 24 (0, 0))) ∧ (Below w.heap.size w w') ∧ (b 4 = true → Kd.R k41 41 w' w.heap.size (fun _ => True) v120 y119) ∧ (b 6 = true → (m6_ : Value) = v120)) HT_.out HW_.out (by kernel_rfl) (by kernel_rfl) ?_ ?_ ?_
                        · exact ⟨.bool false, .bool false, by simp only [putSel, Bool.false_eq_true, if_false], BK111.1, BK112.1, HB.1, fun h_ => absurd h_ (by decide), fun h_ => absurd h_ (by decide)⟩
                        · skip
                          clear BK111 BK112 HB
                          refine steps_cons ?_ ?_
                          · rintro b a w' ⟨v120, m6_, ha, Q_BK111, Q_BK112, Q_HB, Q_HO121, Q_X6_⟩ hb_ hon hoff
                            refine ⟨_, rfl, fun K hK => ?_⟩
                            replace ha := Aside0.mk ha
                            have BK111 := Aside0.mk Q_BK111
                            have BK112 := Aside0.mk Q_BK112
                            have HB := Aside0.mk Q_HB
                            refine value_ (w1 := w') (v := .agg #[.string (⟨#[]⟩ : ByteArray), .bool false]) (by rfl) rfl ?_ ?_
                            · go_simp
                              (try simp only [i64_w])
                              try rfl
                            refine hK.out _ _ ⟨v120, m6_, (by rw [ha.out]; exact putSel_upk 0 hb_ rfl rfl rfl), Q_BK111, Q_BK112, Q_HB, Q_HO121, fun h0_ => absurd ((hoff 6 (by kernel_rfl)).symm.trans h0_) (by decide)⟩
                          refine steps_cons ?_ ?_
                          · rintro b a w' ⟨v120, m6_, ha, Q_BK111, Q_BK112, Q_HB, Q_HO121, Q_X6_⟩ hb_ hon hoff
                            refine ⟨_, rfl, fun K hK => ?_⟩
                            have e67 : a.tmps[67]? = some (.pointer (some ⟨gb111, 0, none⟩)) := by rw [ha]; exact (putSel_off rfl).trans rfl
                            replace ha := Aside0.mk ha
                            have BK111 := Aside0.mk Q_BK111
                            have BK112 := Aside0.mk Q_BK112
                            have HB := Aside0.mk Q_HB
                            have hc0_ : w'.cell? ⟨gb111, 0, none⟩ = some (.string a0_0) := (blk_cell BK111.1 0).trans rfl
                            have hc1_ : w'.cell? ⟨gb111, 1, none⟩ = some (.bool false) := (blk_cell BK111.1 1).trans rfl
                            refine value_ (w1 := w') (v := .string a0_0) (by rfl) rfl ?_ ?_
                            · go_simp
                              (try simp only [i64_w])
                              try rfl
                            refine hK.out _ _ ⟨v120, m6_, (by rw [ha.out]; exact putSel_upk 1 hb_ rfl rfl rfl), Q_BK111, Q_BK112, Q_HB, fun h0_ => absurd ((hoff 4 (by kernel_rfl)).symm.trans h0_) (by decide), fun h0_ => absurd ((hoff 6 (by kernel_rfl)).symm.trans h0_) (by decide)⟩
                          refine steps_cons ?_ ?_
                          · rintro b a w' ⟨v120, m6_, ha, Q_BK111, Q_BK112, Q_HB, Q_HO121, Q_X6_⟩ hb_ hon hoff
                            refine ⟨_, rfl, fun K hK => ?_⟩
                            have e68 : a.tmps[68]? = some (.string a0_0) := by rw [ha]; exact putSel_on (e := (2, 68, .string a0_0)) 1 rfl rfl (hon 2 (by kernel_rfl)) rfl
                            replace ha := Aside0.mk ha
                            have BK111 := Aside0.mk Q_BK111
                            have BK112 := Aside0.mk Q_BK112
                            have HB := Aside0.mk Q_HB
                            refine value_ (w1 := w') (v := .agg #[.string a0_0, .int .i64 0]) (by rfl) rfl ?_ ?_
                            · go_simp
                              (try simp only [i64_w])
                              try rfl
                            refine hK.out _ _ ⟨v120, m6_, (by rw [ha.out]; exact putSel_upk 2 hb_ rfl rfl rfl), Q_BK111, Q_BK112, Q_HB, fun h0_ => absurd ((hoff 4 (by kernel_rfl)).symm.trans h0_) (by decide), fun h0_ => absurd ((hoff 6 (by kernel_rfl)).symm.trans h0_) (by decide)⟩
                          refine steps_cons ?_ ?_
                          · rintro b a w' ⟨v120, m6_, ha, Q_BK111, Q_BK112, Q_HB, Q_HO121, Q_X6_⟩ hb_ hon hoff
                            refine ⟨_, rfl, fun K hK => ?_⟩
                            have e69 : a.tmps[69]? = some (.agg #[.string a0_0, .int .i64 0]) := by rw [ha]; exact putSel_on (e := (3, 69, .agg #[.string a0_0, .int .i64 0])) 2 rfl rfl (hon 3 (by kernel_rfl)) rfl
                            replace ha := Aside0.mk ha
                            have BK111 := Aside0.mk Q_BK111
                            have BK112 := Aside0.mk Q_BK112
                            have HB := Aside0.mk Q_HB
                            refine Kd.R_lit_step k41 _ 41 ?hg (N := 70) ?hd (xs := ([(⟨a0_0, 0⟩ : S41)] : List (S41))) (inner := [.string a0_0, .int .i64 0]) (ok := fun _ => True) (okp := fun _ => True) ?hr ?hp (fun _ hk => hk) trivial (Below.refl _ _) (Nat.le_refl _) (by simp) ?_; (case hd => rfl); (case hg => rfl); (case hr => first | (go_simp; done) | (go_simp; rfl)); (case hp => exact (Reps.c2 (show Kd.M k41 _ _ _ (⟨a0_0, 0⟩ : S41) [.string a0_0, .int .i64 0] from (k41_mkM _ _ _ (⟨a0_0, 0⟩ : S41) )) (Reps.none _ _)))
                            intro v120 w53 ho54 hb hg_ hnew_
                            clear hg_ hnew_
                            (first | rw [← Ny119.out] at ho54 | (simp only [Int.reduceToNat] at ho54; rw [← Ny119.out] at ho54))
                            have n0_ := Aside0.mk (Kd.R_lower ho54 (below_size (by with_reducible repeat (first | exact HB.1 | apply ya15 | apply yn15 | apply yd15 | refine below_set ?_ GE111.1 | refine below_set ?_ GE112.1))))
                            have n1_ := Aside0.mk (blk_below (g := gb111) (o := .cells #[.string a0_0, .bool false] 24 (0, 0)) (by (with_reducible repeat (first | apply xn15 | apply xd15 | apply xa15)); exact BK111.1) hb)
                            have n2_ := Aside0.mk (blk_below (g := gb112) (o := .cells #[.string (⟨#[]⟩ : ByteArray), .bool false] 24 (0, 0)) (by (with_reducible repeat (first | apply xn15 | apply xd15 | apply xa15)); exact BK112.1) hb)
                            have n3_ := Aside0.mk (below_step (by with_reducible repeat (first | exact HB.1 | apply ya15 | apply yn15 | apply yd15 | refine below_set ?_ GE111.1 | refine below_set ?_ GE112.1)) hb)
                            clear BK111
                            clear BK112
                            clear HB
                            have HO121 := n0_
                            have BK111 := n1_
                            have BK112 := n2_
                            have HB := n3_
                            clear n0_ n1_ n2_ n3_
                            clear hb ho54
                            refine hK.out _ _ ⟨v120, m6_, (by rw [ha.out]; exact putSel_upk 3 hb_ rfl rfl rfl), (by (with_reducible repeat (first | apply xn15 | apply xd15 | apply xa15)); exact BK111.1), (by (with_reducible repeat (first | apply xn15 | apply xd15 | apply xa15)); exact BK112.1), (by with_reducible repeat (first | exact HB.1 | apply ya15 | apply yn15 | apply yd15 | refine below_set ?_ GE111.1 | refine below_set ?_ GE112.1)), fun _ => (by (with_reducible repeat (first | apply Kd.R_alloc | apply Kd.R_drewN | apply Kd.R_drew)); exact HO121.1), fun h0_ => absurd ((hoff 6 (by kernel_rfl)).symm.trans h0_) (by decide)⟩
                          refine steps_cons ?_ ?_
                          · rintro b a w' ⟨v120, m6_, ha, Q_BK111, Q_BK112, Q_HB, Q_HO121, Q_X6_⟩ hb_ hon hoff
                            refine ⟨_, rfl, fun K hK => ?_⟩
                            have e4 : a.tmps[4]? = some (.pointer (some ⟨gb112, 0, none⟩)) := by rw [ha]; exact (putSel_off rfl).trans rfl
                            have e66 : a.tmps[66]? = some (.agg #[.string (⟨#[]⟩ : ByteArray), .bool false]) := by rw [ha]; exact putSel_on (e := (0, 66, .agg #[.string (⟨#[]⟩ : ByteArray), .bool false])) 0 rfl rfl (hon 0 (by kernel_rfl)) rfl
                            replace ha := Aside0.mk ha
                            have BK111 := Aside0.mk Q_BK111
                            have BK112 := Aside0.mk Q_BK112
                            have HB := Aside0.mk Q_HB
                            have hs53 : w'.cell? ⟨gb112, 0, none⟩ = some (.string (⟨#[]⟩ : ByteArray)) := (blk_cell BK112.1 0).trans rfl
                            have hfs53 := blk_frozen BK112.1 0
                            have hns53_0 := NB111_112.1
                            have hms53_0 := NB112_111.1
                            have hs54 : w'.cell? ⟨gb112, 1, none⟩ = some (.bool false) := (blk_cell BK112.1 1).trans rfl
                            have hfs54 := blk_frozen BK112.1 1
                            have hns54_0 := NB111_112.1
                            have hms54_0 := NB112_111.1
                            refine skip_ (w1 := ?_) (by rfl) rfl ?_ ?_
                            rotate_left
                            · go_simp
                              rfl
                            refine hK.out _ _ ⟨v120, m6_, (by rw [ha.out]; exact putSel_none (v := undef) rfl), (by (with_reducible repeat (first | apply xn15 | apply xd15 | apply xa15)); refine blk_far ?_ NB111_112.1 _; (with_reducible repeat (first | apply xn15 | apply xd15 | apply xa15)); refine blk_far ?_ NB111_112.1 _; (with_reducible repeat (first | apply xn15 | apply xd15 | apply xa15)); exact BK111.1), (by (with_reducible repeat (first | apply xn15 | apply xd15 | apply xa15)); refine blk_put (cs := #[.string (⟨#[]⟩ : ByteArray), .bool false]) ?_ 1 _ rfl; (with_reducible repeat (first | apply xn15 | apply xd15 | apply xa15)); refine blk_put (cs := #[.string (⟨#[]⟩ : ByteArray), .bool false]) ?_ 0 _ rfl; (with_reducible repeat (first | apply xn15 | apply xd15 | apply xa15)); exact BK112.1), (by with_reducible repeat (first | exact HB.1 | apply ya15 | apply yn15 | apply yd15 | refine below_set ?_ GE111.1 | refine below_set ?_ GE112.1)), fun h0_ => (by (with_reducible repeat (first | apply Kd.R_alloc | apply Kd.R_drewN | apply Kd.R_drew)); exact Kd.R_mono (Kd.R_far (p := ⟨gb112, 1, none⟩) (Kd.R_far (p := ⟨gb112, 0, none⟩) (Kd.R_types (Q_HO121 h0_) BK112.1 (by decide)) (fun _ hk => hk.2) (.string (⟨#[]⟩ : ByteArray))) (fun _ hk => hk.2) (.bool false)) (fun _ hk => trivial)), fun h0_ => absurd ((hoff 6 (by kernel_rfl)).symm.trans h0_) (by decide)⟩
                          refine steps_cons ?_ ?_
                          · rintro b a w' ⟨v120, m6_, ha, Q_BK111, Q_BK112, Q_HB, Q_HO121, Q_X6_⟩ hb_ hon hoff
                            refine ⟨_, rfl, fun K hK => ?_⟩
                            have e70 : a.tmps[70]? = some (v120) := by rw [ha]; exact putSel_on (e := (4, 70, v120)) 3 rfl rfl (hon 4 (by kernel_rfl)) rfl
                            replace ha := Aside0.mk ha
                            have BK111 := Aside0.mk Q_BK111
                            have BK112 := Aside0.mk Q_BK112
                            have HB := Aside0.mk Q_HB
                            have HO121 := Aside0.mk (Q_HO121 (hon 4 (by kernel_rfl)))
                            refine value_ (w1 := w') (v := v120) (by rfl) rfl ?_ ?_
                            · go_simp
                              (try simp only [i64_w])
                              try rfl
                            refine hK.out _ _ ⟨v120, (v120), (by rw [ha.out]; exact putSel_upk 4 hb_ rfl rfl rfl), Q_BK111, Q_BK112, Q_HB, Q_HO121, fun _ => rfl⟩
                          refine steps_cons ?_ ?_
                          · rintro b a w' ⟨v120, m6_, ha, Q_BK111, Q_BK112, Q_HB, Q_HO121, Q_X6_⟩ hb_ hon hoff
                            refine ⟨_, rfl, fun K hK => ?_⟩
                            replace ha := Aside0.mk ha
                            have BK111 := Aside0.mk Q_BK111
                            have BK112 := Aside0.mk Q_BK112
                            have HB := Aside0.mk Q_HB
                            have HO121 := Aside0.mk (Q_HO121 (hon 4 (by kernel_rfl)))
                            refine value_ (w1 := w') (v := .int .i64 0) (by rfl) rfl ?_ ?_
                            · go_simp
                              (try simp only [i64_w])
                              try rfl
                            refine hK.out _ _ ⟨v120, m6_, (by rw [ha.out]; exact putSel_upk 5 hb_ rfl rfl rfl), Q_BK111, Q_BK112, Q_HB, Q_HO121, Q_X6_⟩
                          exact steps_nil
                        rintro b a w57 hall ⟨v120, m6_, ha, Q_BK111, Q_BK112, Q_HB, Q_HO121, Q_X6_⟩
                        clear BK111 BK112 HB
                        have hb0_ := hall 0 (by kernel_rfl)
                        have hb2_ := hall 2 (by kernel_rfl)
                        have hb3_ := hall 3 (by kernel_rfl)
                        have hb4_ := hall 4 (by kernel_rfl)
                        have hb5_ := hall 5 (by kernel_rfl)
                        have hb6_ := hall 6 (by kernel_rfl)
                        have hb7_ := hall 7 (by kernel_rfl)
                        subst ha
                        obtain rfl := Q_X6_ hb6_
                        simp only [putSel, hb0_, hb2_, hb3_, hb4_, hb5_, hb6_, hb7_, if_true, Act.put, List.setIfInBounds_toArray, List.set_cons_zero, List.set_cons_succ]
                        have BK111 := Aside0.mk Q_BK111
                        clear Q_BK111
                        have BK112 := Aside0.mk Q_BK112
                        clear Q_BK112
                        have HB := Aside0.mk Q_HB
                        clear Q_HB
                        have HO121 := Aside0.mk (Q_HO121 hb4_)
                        clear Q_HO121
                        clear hall hb0_ hb2_ hb3_ hb4_ hb5_ hb6_ hb7_
                        try go_wp2
                        refine bodyPost_ret (results_ctt rfl _ _ gb112 24 #[.string (⟨#[]⟩ : ByteArray), .bool false] (0, 0) _ rfl (by (with_reducible repeat (first | apply xn15 | apply xd15 | apply xa15)); exact BK112.1) Tryd.underlying24 rfl (by kernel_rfl)) rfl ?_
                        exact ⟨_, by first | rfl | (simp [errW_none, errW_some] <;> rfl) | (simp [*, errW_none, errW_some] <;> rfl), by (with_reducible repeat (first | apply Kd.R_alloc | apply Kd.R_drewN | apply Kd.R_drew)); exact HO121.1, by repeat (first | (with_reducible first | exact HB.1 | apply below_alloc | apply pw_below_drewN | apply below_drew1 | refine below_set ?_ GE111.1 | refine below_set ?_ GE112.1) | exact HB.1)⟩
                  · rw [if_neg c39] at H
                    have c39b0 : (a1 == 35) = false := beq_eq_false_iff_ne.mpr c39
                    have c39b1 : (a1 != 35) = true := bne_iff_ne.mpr c39
                    simp only [Option.some.injEq, Prod.mk.injEq] at H
                    obtain ⟨rfl, rfl, rfl, rfl⟩ := H
                    have hnb58 := NB111_112.1
                    have hnc58 := NB112_111.1
                    obtain ⟨hcz59_0, hcz59_1⟩ := c2_15 BK111.1
                    obtain ⟨hfz59_0, hfz59_1⟩ := f2_15 BK111.1
                    obtain ⟨hcz60_0, hcz60_1⟩ := c2_15 BK112.1
                    obtain ⟨hfz60_0, hfz60_1⟩ := f2_15 BK112.1
                    go_wp2
                    refine bodyPost_ret (results_ctt rfl _ _ gb112 24 #[.string a0_0, .bool true] (0, 0) _ rfl (by (with_reducible repeat (first | apply xn15 | apply xd15 | apply xa15)); refine blk_put (cs := #[.string a0_0, .bool false]) ?_ 1 _ rfl; (with_reducible repeat (first | apply xn15 | apply xd15 | apply xa15)); refine blk_put (cs := #[.string (⟨#[]⟩ : ByteArray), .bool false]) ?_ 0 _ rfl; (with_reducible repeat (first | apply xn15 | apply xd15 | apply xa15)); exact BK112.1) Tryd.underlying24 rfl (by kernel_rfl)) rfl ?_
                    exact ⟨_, by first | rfl | (simp [errW_none, errW_some] <;> rfl) | (simp [*, errW_none, errW_some] <;> rfl), by first | exact Kd.R_nil _ _ _ _ _ | exact Kd.N_nil _ _ _ _ _ | exact Kd.V_nil _ _ _ _ _ | exact Kd.Q_nil _ _ _ _ _ | exact Kd.S_nil _ _ _ _ _, by repeat (first | (with_reducible first | exact HB.1 | apply below_alloc | apply pw_below_drewN | apply below_drew1 | refine below_set ?_ GE111.1 | refine below_set ?_ GE112.1) | exact HB.1)⟩
  · replace c4 := Bool.eq_false_iff.mpr c4
    subst c4
    have H1 : (some ((⟨#[]⟩ : ByteArray), false, ([] : List (S41)), 5)) = some (r1, r2, r3, r4) := by rw [if_neg (show ¬ (false = true) by decide)] at H; exact H
    clear H
    have H := H1
    clear H1
    simp only [Option.some.injEq, Prod.mk.injEq] at H
    obtain ⟨rfl, rfl, rfl, rfl⟩ := H
    go_enter Tryd.func15, Tryd.ntmps15
    go_wp2_with (first | ((with_reducible refine gate_dst (N := 2) rfl ?_); refine box_event ?hg (N := 2) ?hd (cs := #[.string a0_0, .bool a0_1]) (t := 24) ?hr ?_; (case hd => rfl); (case hg => rfl); (case hr => first | (go_simp; done) | (go_simp; rfl)); intro gb111 hg w61 hbox hb; have n0_ := Aside0.mk (below_step (by with_reducible repeat (first | exact HB.1 | apply ya15 | apply yn15 | apply yd15)) hb); have n1_ := Aside0.mk (hbox); have n2_ := Aside0.mk ((by rw [hg]; exact (below_size (by with_reducible repeat (first | exact HB.1 | apply ya15 | apply yn15 | apply yd15))) : w.heap.size ≤ gb111)); have n3_ := n2_; clear HB; have HB := n0_; have BK111 := n1_; have GW111 := n2_; have GE111 := n3_; clear n0_ n1_ n2_ n3_; clear hb hbox hg) | ((with_reducible refine gate_dst (N := 4) rfl ?_); refine box_event ?hg (N := 4) ?hd (cs := #[.string (⟨#[]⟩ : ByteArray), .bool false]) (t := 24) ?hr ?_; (case hd => rfl); (case hg => rfl); (case hr => first | (go_simp; done) | (go_simp; rfl)); intro gb112 hg w62 hbox hb; have n0_ := Aside0.mk (blk_below (g := gb111) (o := .cells #[.string a0_0, .bool a0_1] 24 (0, 0)) (by (with_reducible repeat (first | apply xn15 | apply xd15 | apply xa15)); exact BK111.1) hb); have n1_ := Aside0.mk (below_step (by with_reducible repeat (first | exact HB.1 | apply ya15 | apply yn15 | apply yd15 | refine below_set ?_ GE111.1)) hb); have n2_ := Aside0.mk (hbox); have n3_ := Aside0.mk ((by rw [hg]; exact (below_size (by with_reducible repeat (first | exact HB.1 | apply ya15 | apply yn15 | apply yd15 | refine below_set ?_ GE111.1))) : w.heap.size ≤ gb112)); have n4_ := n3_; have n5_ := Aside0.mk ((by rw [hg]; exact Nat.ne_of_lt (blk_lt (g := gb111) (o := .cells #[.string a0_0, .bool a0_1] 24 (0, 0)) (by (with_reducible repeat (first | apply xn15 | apply xd15 | apply xa15)); exact BK111.1)) : gb111 ≠ gb112)); have n6_ := Aside0.mk ((by rw [hg]; exact Nat.ne_of_gt (blk_lt (g := gb111) (o := .cells #[.string a0_0, .bool a0_1] 24 (0, 0)) (by (with_reducible repeat (first | apply xn15 | apply xd15 | apply xa15)); exact BK111.1)) : gb112 ≠ gb111)); clear BK111; clear HB; have BK111 := n0_; have HB := n1_; have BK112 := n2_; have GW112 := n3_; have GE112 := n4_; have NB111_112 := n5_; have NB112_111 := n6_; clear n0_ n1_ n2_ n3_ n4_ n5_ n6_; clear hb hbox hg; have hnb63 := NB111_112.1; have hnc63 := NB112_111.1; obtain ⟨hcz64_0, hcz64_1⟩ := c2_15 BK111.1; obtain ⟨hfz64_0, hfz64_1⟩ := f2_15 BK111.1) | ((with_reducible refine gate_callee (f := 35) rfl ?_); refine goesL_ (some 10) rfl rfl Tryd.func35 (by kernel_rfl) rfl #[.agg #[.string a0_0, .bool a0_1]] rfl (by (try simp only [List.map_toArray, List.map_cons, List.map_nil]); first | done | rfl | (simp only [List.length_drop, List.length_take]; rfl)) ?_; (with_reducible refine (vendmeterref_PadMay.calls k a0_0 a0_1 false _ A3.out).mono ?_); rintro e w65 ⟨rfl, hb⟩; refine ⟨_, rfl, ?_⟩; have n0_ := Aside0.mk (blk_below (g := gb111) (o := .cells #[.string a0_0, .bool a0_1] 24 (0, 0)) (by (with_reducible repeat (first | apply xn15 | apply xd15 | apply xa15)); exact BK111.1) hb); have n1_ := Aside0.mk (blk_below (g := gb112) (o := .cells #[.string (⟨#[]⟩ : ByteArray), .bool false] 24 (0, 0)) (by (with_reducible repeat (first | apply xn15 | apply xd15 | apply xa15)); exact BK112.1) hb); have n2_ := Aside0.mk (below_step (by with_reducible repeat (first | exact HB.1 | apply ya15 | apply yn15 | apply yd15 | refine below_set ?_ GE111.1 | refine below_set ?_ GE112.1)) hb); clear BK111; clear BK112; clear HB; have BK111 := n0_; have BK112 := n1_; have HB := n2_; clear n0_ n1_ n2_; (try clear hb); (try clear hb2); (try clear hk); (try clear hi); obtain ⟨hcz66_0, hcz66_1⟩ := c2_15 BK112.1; obtain ⟨hfz66_0, hfz66_1⟩ := f2_15 BK112.1))
    refine bodyPost_ret (results_ctt rfl _ _ gb112 24 #[.string (⟨#[]⟩ : ByteArray), .bool false] (0, 0) _ rfl (by (with_reducible repeat (first | apply xn15 | apply xd15 | apply xa15)); refine blk_put (cs := #[.string (⟨#[]⟩ : ByteArray), .bool false]) ?_ 1 _ rfl; (with_reducible repeat (first | apply xn15 | apply xd15 | apply xa15)); refine blk_put (cs := #[.string (⟨#[]⟩ : ByteArray), .bool false]) ?_ 0 _ rfl; (with_reducible repeat (first | apply xn15 | apply xd15 | apply xa15)); exact BK112.1) Tryd.underlying24 rfl (by kernel_rfl)) rfl ?_
    exact ⟨_, by first | rfl | (simp [errW_none, errW_some] <;> rfl) | (simp [*, errW_none, errW_some] <;> rfl), by first | exact Kd.R_nil _ _ _ _ _ | exact Kd.N_nil _ _ _ _ _ | exact Kd.V_nil _ _ _ _ _ | exact Kd.Q_nil _ _ _ _ _ | exact Kd.S_nil _ _ _ _ _, by repeat (first | (with_reducible first | exact HB.1 | apply below_alloc | apply pw_below_drewN | apply below_drew1 | refine below_set ?_ GE111.1 | refine below_set ?_ GE112.1) | exact HB.1)⟩

end Go.Proofs.YtdijplohafjbcaaDoor.PPadKeys
