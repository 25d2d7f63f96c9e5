-- written by this session's program wip/xp/xprint.py (it drives the kit's print and adds to it)
import Derived.Test.YtoookcmablnjfaaDoorPPadPressesx0
import Derived.Test.YtoookcmablnjfaaDoorPPadPressesx4
namespace Go.Proofs.YtoookcmablnjfaaDoor.PPadPresses
open Go.RowKit Go.Proofs.YtoookcmablnjfaaDoorW.PrintWords Go.Proofs.YtoookcmablnjfaaDoorW.PrintLast Go.Proofs.YtoookcmablnjfaaDoorW.PrintMore
attribute [local go_sem] max2_int min2_int max_two min_two max_three min_three max_four min_four   -- for this text's walks alone
set_option linter.unusedVariables false
set_option linter.unusedSimpArgs false

/-! ### vendmeterref_Pressed: function 18 -/
theorem xa18 {w : World} {g : Nat} {o : Obj} (h : w.heap[g]? = some o) (o' : Obj) : (w.alloc o').heap[g]? = some o := blk_alloc h o'
theorem xd18 {w : World} {g : Nat} {o : Obj} (h : w.heap[g]? = some o) : w.drew.heap[g]? = some o := blk_drew h
theorem xn18 {w : World} {g : Nat} {o : Obj} (h : w.heap[g]? = some o) (n : Nat) : (w.drewN n).heap[g]? = some o := blk_drewN h n
theorem ya18 {w W : World} (h : Below w.heap.size w W) (o : Obj) : Below w.heap.size w (W.alloc o) := below_alloc h o
theorem yn18 {B : Nat} {w W : World} (h : Below B w W) (n : Nat) : Below B w (W.drewN n) := pw_below_drewN h n
theorem yd18 {B : Nat} {w W : World} (h : Below B w W) : Below B w W.drew := below_drew1 h
theorem c2_18 {w : World} {g : Nat} {t : TypeId} {x0 x1 : Value} {r : List Value} (h : w.heap[g]? = some (.cells (List.toArray (x0 :: x1 :: r)) t (0, 0))) : w.cell? ⟨g, 0, none⟩ = some x0 ∧ w.cell? ⟨g, 1, none⟩ = some x1 := ⟨(blk_cell h 0).trans rfl, (blk_cell h 1).trans rfl⟩
theorem f2_18 {w : World} {g : Nat} {t : TypeId} {cs : Array Value} (h : w.heap[g]? = some (.cells cs t (0, 0))) : w.frozen? ⟨g, 0, none⟩ = false ∧ w.frozen? ⟨g, 1, none⟩ = false := ⟨blk_frozen h 0, blk_frozen h 1⟩
mutual
def vendmeterref_Pressed.j0 : Nat → Int → Int → Int → Bool → ByteArray → Bool → Option (ByteArray × Bool × (List (S82)) × Int)
  | 0, _, _, _, _, _, _ => none
  | k + 1, x1, x7, x8, x23, x116000, x116001 => if x23 = true then ((vendmeterref_Dec.f k x8).bind fun t119 => (if x116000.size + t119.size ≤ 9223372036854775807 then (some (x116000 ++ t119, x116001, ([] : List (S82)), 0)) else (none))) else (if x1 = 32 then (vendmeterref_Pressed.j1 k x1 x7 true x116000 x116001) else (if x1 = 45 then (vendmeterref_Pressed.j1 k x1 x7 true x116000 x116001) else (vendmeterref_Pressed.j1 k x1 x7 (x1 == 160) x116000 x116001)))
def vendmeterref_Pressed.j1 : Nat → Int → Int → Bool → ByteArray → Bool → Option (ByteArray × Bool × (List (S82)) × Int)
  | 0, _, _, _, _, _ => none
  | k + 1, x1, x7, x41, x116000, x116001 => if x41 = true then (some (x116000, x116001, ([] : List (S82)), 0)) else (if x1 = 42 then (if x7 > 0 then (if 0 ≤ (wrap64 (x7 - 1)) then (if (wrap64 (x7 - 1)) ≤ (x116000.size : Int) then (some (x116000.extract 0 ((wrap64 (x7 - 1)) : Int).toNat, x116001, ([] : List (S82)), 0)) else (none)) else (none)) else (some (x116000, x116001, ([] : List (S82)), 0))) else (if x1 = 35 then (if x116001 = true then (some ((⟨#[]⟩ : ByteArray), false, (([(⟨(⟨#[]⟩ : ByteArray), 3⟩ : S82)] : List (S82))), 0)) else (if x7 = 0 then (some ((⟨#[]⟩ : ByteArray), false, ([] : List (S82)), 0)) else (some ((⟨#[]⟩ : ByteArray), false, (([(⟨x116000, 0⟩ : S82)] : List (S82))), 0)))) else (some (x116000, true, ([] : List (S82)), 0))))
end
def vendmeterref_Pressed.f (k : Nat) (a0_0 : ByteArray) (a0_1 : Bool) (a1 : Int) : Option (ByteArray × Bool × (List (S82)) × Int) := (vendmeterref_PadMay.f k a0_0 a0_1).bind fun t117 => (if t117 = true then ((vendmeterref_KeyDigit.f k a1).bind fun t118 => (if t118 ≥ 0 then (vendmeterref_Pressed.j0 k a1 (a0_0.size : Int) t118 (decide ((a0_0.size : Int) < 30)) a0_0 a0_1) else (vendmeterref_Pressed.j0 k a1 (a0_0.size : Int) t118 false a0_0 a0_1))) else (some ((⟨#[]⟩ : ByteArray), false, ([] : List (S82)), 5)))
theorem vendmeterref_Pressed.mono_l : ∀ k, (∀ y0 y1 y2 y3 y4 y5, LeO (vendmeterref_Pressed.j0 k y0 y1 y2 y3 y4 y5) (vendmeterref_Pressed.j0 (k + 1) y0 y1 y2 y3 y4 y5)) ∧ (∀ y0 y1 y2 y3 y4, LeO (vendmeterref_Pressed.j1 k y0 y1 y2 y3 y4) (vendmeterref_Pressed.j1 (k + 1) y0 y1 y2 y3 y4))
  | 0 => ⟨fun _ _ _ _ _ _ r h => by simp [vendmeterref_Pressed.j0] at h, fun _ _ _ _ _ r h => by simp [vendmeterref_Pressed.j1] at h⟩
  | k + 1 => by
    obtain ⟨ih0, ih1⟩ := vendmeterref_Pressed.mono_l k
    refine ⟨?_, ?_⟩
    · intro y0 y1 y2 y3 y4 y5
      unfold vendmeterref_Pressed.j0
      repeat' first
      | (with_reducible exact ih0 _ _ _ _ _ _)
      | (with_reducible exact ih1 _ _ _ _ _)
      | (with_reducible exact vendmeterref_Dec.mono _ _)
      | (with_reducible exact vendmeterref_KeyDigit.mono _ _)
      | (with_reducible exact vendmeterref_PadMay.mono _ _ _)
      | (with_reducible exact LeO.refl _)
      | (with_reducible exact LeO.none _)
      | (with_reducible refine LeO.ite ?_ ?_)
      | (with_reducible refine LeO.bind ?_ (fun _ => ?_))
      | exact ih0 _ _ _ _ _ _
      | exact ih1 _ _ _ _ _
      | exact vendmeterref_Dec.mono _ _
      | exact vendmeterref_KeyDigit.mono _ _
      | exact vendmeterref_PadMay.mono _ _ _
      | exact LeO.none _
      | refine LeO.ite ?_ ?_
      | refine LeO.bind ?_ (fun _ => ?_)
    · intro y0 y1 y2 y3 y4
      unfold vendmeterref_Pressed.j1
      repeat' first
      | (with_reducible exact ih0 _ _ _ _ _ _)
      | (with_reducible exact ih1 _ _ _ _ _)
      | (with_reducible exact vendmeterref_Dec.mono _ _)
      | (with_reducible exact vendmeterref_KeyDigit.mono _ _)
      | (with_reducible exact vendmeterref_PadMay.mono _ _ _)
      | (with_reducible exact LeO.refl _)
      | (with_reducible exact LeO.none _)
      | (with_reducible refine LeO.ite ?_ ?_)
      | (with_reducible refine LeO.bind ?_ (fun _ => ?_))
      | exact ih0 _ _ _ _ _ _
      | exact ih1 _ _ _ _ _
      | exact vendmeterref_Dec.mono _ _
      | exact vendmeterref_KeyDigit.mono _ _
      | exact vendmeterref_PadMay.mono _ _ _
      | exact LeO.none _
      | refine LeO.ite ?_ ?_
      | refine LeO.bind ?_ (fun _ => ?_)
theorem vendmeterref_Pressed.mono : ∀ a0 a1 a2 k, LeO (vendmeterref_Pressed.f k a0 a1 a2) (vendmeterref_Pressed.f (k + 1) a0 a1 a2) := by
  intro a0 a1 a2 k
  obtain ⟨ih0, ih1⟩ := vendmeterref_Pressed.mono_l k
  unfold vendmeterref_Pressed.f
  repeat' first
      | (with_reducible exact ih0 _ _ _ _ _ _)
      | (with_reducible exact ih1 _ _ _ _ _)
      | (with_reducible exact vendmeterref_Dec.mono _ _)
      | (with_reducible exact vendmeterref_KeyDigit.mono _ _)
      | (with_reducible exact vendmeterref_PadMay.mono _ _ _)
      | (with_reducible exact LeO.refl _)
      | (with_reducible exact LeO.none _)
      | (with_reducible refine LeO.ite ?_ ?_)
      | (with_reducible refine LeO.bind ?_ (fun _ => ?_))
      | exact ih0 _ _ _ _ _ _
      | exact ih1 _ _ _ _ _
      | exact vendmeterref_Dec.mono _ _
      | exact vendmeterref_KeyDigit.mono _ _
      | exact vendmeterref_PadMay.mono _ _ _
      | exact LeO.none _
      | refine LeO.ite ?_ ?_
      | refine LeO.bind ?_ (fun _ => ?_)
def vendmeterref_Pressed.T6 : Bool × List (List Nat × List Nat) := (true, [([], []), ([0], [0]), ([], []), ([2], [2]), ([1, 3], [1, 3]), ([], []), ([5], [5]), ([4, 6], [4, 6]), ([7, 3, 0, 1, 2, 3, 4, 5, 6, 7], [7]), ([8, 0, 1, 2, 3, 4, 5, 6, 7, 8], []), ([9, 0, 1, 2, 3, 4, 5, 6, 7, 8, 9], [])])
def vendmeterref_Pressed.B6 : List Nat := [0, 1, 0, 4, 15, 0, 32, 127, 255, 511, 1023]
theorem vendmeterref_Pressed.tab6 : rtab .any (opsOf Tryd.f18 6) = vendmeterref_Pressed.T6 := by kernel_rfl
theorem vendmeterref_Pressed.bits6 : waitsOk vendmeterref_Pressed.T6.2 vendmeterref_Pressed.B6 = true := by kernel_rfl
def vendmeterref_Pressed.T11 : Bool × List (List Nat × List Nat) := (true, [([], []), ([0], [0]), ([], []), ([2], [2]), ([1, 3], [1, 3]), ([], []), ([5], [5]), ([4, 6], [4, 6]), ([7, 0, 1, 2, 3, 4, 5, 6, 7], [7]), ([8, 0, 1, 2, 3, 4, 5, 6, 7, 8], []), ([9, 0, 1, 2, 3, 4, 5, 6, 7, 8, 9], [])])
def vendmeterref_Pressed.B11 : List Nat := [0, 1, 0, 4, 15, 0, 32, 127, 255, 511, 1023]
theorem vendmeterref_Pressed.tab11 : rtab .any (opsOf Tryd.f18 11) = vendmeterref_Pressed.T11 := by kernel_rfl
theorem vendmeterref_Pressed.bits11 : waitsOk vendmeterref_Pressed.T11.2 vendmeterref_Pressed.B11 = true := by kernel_rfl
def vendmeterref_Pressed.T18 : Bool × List (List Nat × List Nat) := (true, [([], []), ([], []), ([1], [1]), ([2], [2]), ([3], [3]), ([0, 0], [0]), ([4, 5, 0, 1, 2, 3, 4, 5], [4]), ([6, 0, 1, 2, 3, 4, 5, 6], [])])
def vendmeterref_Pressed.B18 : List Nat := [0, 0, 2, 6, 14, 1, 63, 127]
theorem vendmeterref_Pressed.tab18 : rtab .any (opsOf Tryd.f18 18) = vendmeterref_Pressed.T18 := by kernel_rfl
theorem vendmeterref_Pressed.bits18 : waitsOk vendmeterref_Pressed.T18.2 vendmeterref_Pressed.B18 = true := by kernel_rfl
set_option maxHeartbeats 8000000 in
set_option maxRecDepth 100000 in
theorem vendmeterref_Pressed.calls (k : Nat) (a0_0 : ByteArray) (a0_1 : Bool) (a1 : Int) (r1 : ByteArray) (r2 : Bool) (r3 : List (S82)) (r4 : Int) (w : World) (h : vendmeterref_Pressed.f k a0_0 a0_1 a1 = some (r1, r2, r3, r4)) :
    Calls Tryd.prog 18 #[.agg #[.string a0_0, .bool a0_1], .int .i32 a1] w fun e w' => ∃ v2_ : Value, e = .returned (.tuple #[.agg #[.string r1, .bool r2], v2_, .int .i64 r4]) ∧ Kd.R k82 82 w' w.heap.size (fun _ => True) v2_ r3 ∧ Below w.heap.size w w' := by
  have hu33 := Tryd.underlying33
  have hu82 := Tryd.underlying82
  have HB := Aside0.mk (Below.refl w.heap.size w)
  have H : ((vendmeterref_PadMay.f k a0_0 a0_1).bind fun t117 => (if t117 = true then ((vendmeterref_KeyDigit.f k a1).bind fun t118 => (if t118 ≥ 0 then (vendmeterref_Pressed.j0 k a1 (a0_0.size : Int) t118 (decide ((a0_0.size : Int) < 30)) a0_0 a0_1) else (vendmeterref_Pressed.j0 k a1 (a0_0.size : Int) t118 false a0_0 a0_1))) else (some ((⟨#[]⟩ : ByteArray), false, ([] : List (S82)), 5)))) = some (r1, r2, r3, r4) := h
  clear h
  replace H := Option.bind_eq_some_iff.mp H
  obtain ⟨t117, A30, H⟩ := H
  replace H : (if t117 = true then ((vendmeterref_KeyDigit.f k a1).bind fun t118 => (if t118 ≥ 0 then (vendmeterref_Pressed.j0 k a1 (a0_0.size : Int) t118 (decide ((a0_0.size : Int) < 30)) a0_0 a0_1) else (vendmeterref_Pressed.j0 k a1 (a0_0.size : Int) t118 false a0_0 a0_1))) else (some ((⟨#[]⟩ : ByteArray), false, ([] : List (S82)), 5))) = some (r1, r2, r3, r4) := H
  have A3 := Aside0.mk A30
  clear A30
  by_cases c4 : t117 = true
  · subst c4
    have H1 : ((vendmeterref_KeyDigit.f k a1).bind fun t118 => (if t118 ≥ 0 then (vendmeterref_Pressed.j0 k a1 (a0_0.size : Int) t118 (decide ((a0_0.size : Int) < 30)) a0_0 a0_1) else (vendmeterref_Pressed.j0 k a1 (a0_0.size : Int) t118 false a0_0 a0_1))) = some (r1, r2, r3, r4) := by rw [if_pos rfl] at H; exact H
    clear H
    have H := H1
    clear H1
    replace H := Option.bind_eq_some_iff.mp H
    obtain ⟨t118, A50, H⟩ := H
    replace H : (if t118 ≥ 0 then (vendmeterref_Pressed.j0 k a1 (a0_0.size : Int) t118 (decide ((a0_0.size : Int) < 30)) a0_0 a0_1) else (vendmeterref_Pressed.j0 k a1 (a0_0.size : Int) t118 false a0_0 a0_1)) = some (r1, r2, r3, r4) := H
    have A5 := Aside0.mk A50
    clear A50
    have HC6 := Aside0.mk H
    clear H
    go_enter Tryd.func18, Tryd.ntmps18
    go_upto_region 5 with (first | ((with_reducible refine gate_dst (N := 2) rfl ?_); refine box_event ?hg (N := 2) ?hd (cs := #[.string a0_0, .bool a0_1]) (t := 33) ?hr ?_; (case hd => rfl); (case hg => rfl); (case hr => first | (go_simp; done) | (go_simp; rfl)); intro gb115 hg w7 hbox hb; have n0_ := Aside0.mk (below_step (by with_reducible repeat (first | exact HB.1 | apply ya18 | apply yn18 | apply yd18)) hb); have n1_ := Aside0.mk (hbox); have n2_ := Aside0.mk ((by rw [hg]; exact (below_size (by with_reducible repeat (first | exact HB.1 | apply ya18 | apply yn18 | apply yd18))) : w.heap.size ≤ gb115)); have n3_ := n2_; clear HB; have HB := n0_; have BK115 := n1_; have GW115 := n2_; have GE115 := n3_; clear n0_ n1_ n2_ n3_; clear hb hbox hg) | ((with_reducible refine gate_dst (N := 4) rfl ?_); refine box_event ?hg (N := 4) ?hd (cs := #[.string (⟨#[]⟩ : ByteArray), .bool false]) (t := 33) ?hr ?_; (case hd => rfl); (case hg => rfl); (case hr => first | (go_simp; done) | (go_simp; rfl)); intro gb116 hg w8 hbox hb; have n0_ := Aside0.mk (blk_below (g := gb115) (o := .cells #[.string a0_0, .bool a0_1] 33 (0, 0)) (by (with_reducible repeat (first | apply xn18 | apply xd18 | apply xa18)); exact BK115.1) hb); have n1_ := Aside0.mk (below_step (by with_reducible repeat (first | exact HB.1 | apply ya18 | apply yn18 | apply yd18 | refine below_set ?_ GE115.1)) hb); have n2_ := Aside0.mk (hbox); have n3_ := Aside0.mk ((by rw [hg]; exact (below_size (by with_reducible repeat (first | exact HB.1 | apply ya18 | apply yn18 | apply yd18 | refine below_set ?_ GE115.1))) : w.heap.size ≤ gb116)); have n4_ := n3_; have n5_ := Aside0.mk ((by rw [hg]; exact Nat.ne_of_lt (blk_lt (g := gb115) (o := .cells #[.string a0_0, .bool a0_1] 33 (0, 0)) (by (with_reducible repeat (first | apply xn18 | apply xd18 | apply xa18)); exact BK115.1)) : gb115 ≠ gb116)); have n6_ := Aside0.mk ((by rw [hg]; exact Nat.ne_of_gt (blk_lt (g := gb115) (o := .cells #[.string a0_0, .bool a0_1] 33 (0, 0)) (by (with_reducible repeat (first | apply xn18 | apply xd18 | apply xa18)); exact BK115.1)) : gb116 ≠ gb115)); clear BK115; clear HB; have BK115 := n0_; have HB := n1_; have BK116 := n2_; have GW116 := n3_; have GE116 := n4_; have NB115_116 := n5_; have NB116_115 := n6_; clear n0_ n1_ n2_ n3_ n4_ n5_ n6_; clear hb hbox hg; have hnb9 := NB115_116.1; have hnc9 := NB116_115.1; obtain ⟨hcz10_0, hcz10_1⟩ := c2_18 BK115.1; obtain ⟨hfz10_0, hfz10_1⟩ := f2_18 BK115.1) | ((with_reducible refine gate_callee (f := 47) rfl ?_); refine goesL_ (some 10) rfl rfl Tryd.func47 (by kernel_rfl) rfl #[.agg #[.string a0_0, .bool a0_1]] rfl (by (try simp only [List.map_toArray, List.map_cons, List.map_nil]); first | done | rfl | (simp only [List.length_drop, List.length_take]; rfl)) ?_; (with_reducible refine (vendmeterref_PadMay.calls k a0_0 a0_1 true _ A3.out).mono ?_); rintro e w11 ⟨rfl, hb⟩; refine ⟨_, rfl, ?_⟩; have n0_ := Aside0.mk (blk_below (g := gb115) (o := .cells #[.string a0_0, .bool a0_1] 33 (0, 0)) (by (with_reducible repeat (first | apply xn18 | apply xd18 | apply xa18)); exact BK115.1) hb); have n1_ := Aside0.mk (blk_below (g := gb116) (o := .cells #[.string (⟨#[]⟩ : ByteArray), .bool false] 33 (0, 0)) (by (with_reducible repeat (first | apply xn18 | apply xd18 | apply xa18)); exact BK116.1) hb); have n2_ := Aside0.mk (below_step (by with_reducible repeat (first | exact HB.1 | apply ya18 | apply yn18 | apply yd18 | refine below_set ?_ GE115.1 | refine below_set ?_ GE116.1)) hb); clear BK115; clear BK116; clear HB; have BK115 := n0_; have BK116 := n1_; have HB := n2_; clear n0_ n1_ n2_; (try clear hb); (try clear hb2); (try clear hk); (try clear hi); obtain ⟨hcz12_0, hcz12_1⟩ := c2_18 BK115.1; obtain ⟨hfz12_0, hfz12_1⟩ := f2_18 BK115.1) | ((with_reducible refine gate_callee (f := 48) rfl ?_); refine goesL_ (some 17) rfl rfl Tryd.func48 (by kernel_rfl) rfl #[.int .i32 a1] rfl (by (try simp only [List.map_toArray, List.map_cons, List.map_nil]); first | done | rfl | (simp only [List.length_drop, List.length_take]; rfl)) ?_; (with_reducible refine (vendmeterref_KeyDigit.calls k a1 t118 _ A5.out).mono ?_); rintro e w' ⟨rfl, ⟨nd, rfl⟩⟩; refine ⟨_, rfl, ?_⟩))
    (try simp only [Act.put, List.setIfInBounds_toArray, List.set_cons_zero, List.set_cons_succ])
    go_cut [23] (fun v23 wc => ∃ (kq : Nat) (x23_5 : Bool), v23 = .bool x23_5 ∧ Aside0 (vendmeterref_Pressed.j0 kq a1 (a0_0.size : Int) t118 x23_5 a0_0 a0_1 = some (r1, r2, r3, r4)) ∧ Aside0 (kq ≤ k) ∧ Aside0 (wc.heap[gb115]? = some (.cells #[.string a0_0, .bool a0_1] 33 (0, 0))) ∧ Aside0 (wc.heap[gb116]? = some (.cells #[.string (⟨#[]⟩ : ByteArray), .bool false] 33 (0, 0))) ∧ Aside0 (Below w.heap.size w wc))
    case first =>
      have H := HC6.out
      clear HC6
      by_cases c13 : t118 ≥ 0
      · rw [if_pos c13] at H
        have c13b0 : decide (0 ≤ t118) = true := decide_eq_true c13
        clear c13
        (first | rw [c13b0] | (simp only [i64_w, i32_w]; rw [c13b0]) | skip)
        have H' := Aside0.mk H
        clear H
        go_wp2
        go_meet
        case rel => exact ⟨_, (decide ((a0_0.size : Int) < 30)), (by first | rfl | (simp; done) | (simp [*]; done)), H', ⟨by first | omega | exact Nat.le_refl _⟩, ⟨by (with_reducible repeat (first | apply xn18 | apply xd18 | apply xa18)); exact BK115.1⟩, ⟨by (with_reducible repeat (first | apply xn18 | apply xd18 | apply xa18)); exact BK116.1⟩, ⟨by repeat (first | (with_reducible first | exact HB.1 | apply below_alloc | apply pw_below_drewN | apply below_drew1 | refine below_set ?_ GE115.1 | refine below_set ?_ GE116.1) | exact HB.1)⟩⟩
      · rw [if_neg c13] at H
        have c13b0 : decide (0 ≤ t118) = false := decide_eq_false c13
        clear c13
        (first | rw [c13b0] | (simp only [i64_w, i32_w]; rw [c13b0]) | skip)
        have H' := Aside0.mk H
        clear H
        go_wp2
        go_meet
        case rel => exact ⟨_, (false), (by first | rfl | (simp; done) | (simp [*]; done)), H', ⟨by first | omega | exact Nat.le_refl _⟩, ⟨by (with_reducible repeat (first | apply xn18 | apply xd18 | apply xa18)); exact BK115.1⟩, ⟨by (with_reducible repeat (first | apply xn18 | apply xd18 | apply xa18)); exact BK116.1⟩, ⟨by repeat (first | (with_reducible first | exact HB.1 | apply below_alloc | apply pw_below_drewN | apply below_drew1 | refine below_set ?_ GE115.1 | refine below_set ?_ GE116.1) | exact HB.1)⟩⟩
    case rest =>
      clear HC6
      try clear c1
      try clear p2
      try clear c4
      try clear c9
      try clear c13
      try clear c13b0
      try clear hcz10_0
      try clear hcz10_1
      try clear hcz12_0
      try clear hcz12_1
      try clear hfz10_0
      try clear hfz10_1
      try clear hfz12_0
      try clear hfz12_1
      obtain ⟨kq, x23_5, rfl, HA, HJ5, BK115, BK116, HB⟩ := hcut
      cases kq with
      | zero => exact absurd HA.out (by simp [vendmeterref_Pressed.j0])
      | succ kj5 =>
        have H := HA.out
        clear HA
        simp only [vendmeterref_Pressed.j0] at H
        by_cases c14 : x23_5 = true
        · subst c14
          have H1 : ((vendmeterref_Dec.f kj5 t118).bind fun t119 => (if a0_0.size + t119.size ≤ 9223372036854775807 then (some (a0_0 ++ t119, a0_1, ([] : List (S82)), 0)) else (none))) = some (r1, r2, r3, r4) := by rw [if_pos rfl] at H; exact H
          clear H
          have H := H1
          clear H1
          replace H := Option.bind_eq_some_iff.mp H
          obtain ⟨t119, A150, H⟩ := H
          replace H : (if a0_0.size + t119.size ≤ 9223372036854775807 then (some (a0_0 ++ t119, a0_1, ([] : List (S82)), 0)) else (none)) = some (r1, r2, r3, r4) := H
          have A15 := Aside0.mk A150
          clear A150
          by_cases c16 : a0_0.size + t119.size ≤ 9223372036854775807
          · rw [if_pos c16] at H
            have c16b0 := eq_true c16
            have c16b1 : decide (a0_0.size + t119.size ≤ 9223372036854775807) = true := decide_eq_true c16
            try have c16b2 : (9223372036854775807 < a0_0.size + t119.size) = False := eq_false (Nat.not_lt.2 c16)
            simp only [Option.some.injEq, Prod.mk.injEq] at H
            obtain ⟨rfl, rfl, rfl, rfl⟩ := H
            try go_wp2
            have n0_ := Aside0.mk (blk_drew BK115.1)
            have n1_ := Aside0.mk (blk_drew BK116.1)
            have n2_ := Aside0.mk (below_drew1 HB.1)
            clear BK115
            clear BK116
            clear HB
            have BK115 := n0_
            have BK116 := n1_
            have HB := n2_
            clear n0_ n1_ n2_
            refine start_ (n := 11) (S := fun w' => w'.cell? ⟨gb115, 0, none⟩ = some (.string a0_0) ∧ w'.cell? ⟨gb115, 1, none⟩ = some (.bool a0_1)) (ds := []) #[false, false, false, false, false, false, false, false, false, false, false] (by kernel_rfl) rfl rfl ⟨(blk_cell BK115.1 0).trans rfl, (blk_cell BK115.1 1).trans rfl⟩ (fun hHeld => ?_); refine with_tabW vendmeterref_Pressed.tab6 vendmeterref_Pressed.bits6 (fun HT_ HW_ => ?_)
            generalize wc.drew = w17 at BK115 BK116 HB hHeld ⊢
            refine pure_ (i := 0) (N := some 24) (v := ?_) (a' := ?_) #[true, false, false, false, false, false, false, false, false, false, false] rfl rfl (any_of HT_.out (by kernel_rfl)) (fun _ _ _ h => h) (Or.inl ⟨by rfl, ?_⟩) ?_ ?_
            rotate_left
            · intro w'
              go_simp
              with_reducible rfl
            rotate_left
            · simp only [Act.put, List.setIfInBounds_toArray, List.set_cons_zero, List.set_cons_succ, i64_w, i32_w]
              rfl
            refine pure_ (i := 2) (N := some 26) (v := ?_) (a' := ?_) #[true, false, true, false, false, false, false, false, false, false, false] rfl rfl (any_of HT_.out (by kernel_rfl)) (fun _ _ _ h => h) (Or.inl ⟨by rfl, ?_⟩) ?_ ?_
            rotate_left
            · intro w'
              go_simp
              with_reducible rfl
            rotate_left
            · simp only [Act.put, List.setIfInBounds_toArray, List.set_cons_zero, List.set_cons_succ, i64_w, i32_w]
              rfl
            refine pure_ (i := 5) (N := some 29) (v := ?_) (a' := ?_) #[true, false, true, false, false, true, false, false, false, false, false] rfl rfl (any_of HT_.out (by kernel_rfl)) (fun _ _ _ h => h) (Or.inl ⟨by rfl, ?_⟩) ?_ ?_
            rotate_left
            · intro w'
              go_simp
              with_reducible rfl
            rotate_left
            · simp only [Act.put, List.setIfInBounds_toArray, List.set_cons_zero, List.set_cons_succ, i64_w, i32_w]
              rfl
            refine take_ (i := 1) (N := some 25) (v := ?_) (a' := ?_) #[true, true, true, false, false, true, false, false, false, false, false] rfl rfl (take_ofW HT_.out HW_.out (by kernel_rfl)) (fun _ _ _ h => h) (Or.inl ⟨by rfl, ?_⟩) hHeld ?_ ?_
            rotate_left
            · rintro w' ⟨s0, s1⟩
              go_simp
              with_reducible rfl
            rotate_left
            · simp only [Act.put, List.setIfInBounds_toArray, List.set_cons_zero, List.set_cons_succ, i64_w, i32_w]
              rfl
            refine take_ (i := 6) (N := some 30) (v := ?_) (a' := ?_) #[true, true, true, false, false, true, true, false, false, false, false] rfl rfl (take_ofW HT_.out HW_.out (by kernel_rfl)) (fun _ _ _ h => h) (Or.inl ⟨by rfl, ?_⟩) hHeld ?_ ?_
            rotate_left
            · rintro w' ⟨s0, s1⟩
              go_simp
              with_reducible rfl
            rotate_left
            · simp only [Act.put, List.setIfInBounds_toArray, List.set_cons_zero, List.set_cons_succ, i64_w, i32_w]
              rfl
            refine one_ (i := 3) (N := some 27) #[true, true, true, true, false, true, true, false, false, false, false] rfl rfl (one_of HT_.out (by kernel_rfl)) (by decide) (fun K hK => ?_)
            refine goes_ Tryd.func43 (by kernel_rfl) rfl #[.int .i64 t118] (by rfl) rfl rfl (by (try simp only [List.map_toArray, List.map_cons, List.map_nil]); first | done | rfl | (simp only [List.length_drop, List.length_take]; rfl)) ?_
            with_reducible refine (vendmeterref_Dec.calls kj5 t118 t119 _ A15.out).mono ?_
            rintro e w18 ⟨rfl, hb⟩
            refine ⟨_, rfl, ?_⟩
            have n0_ := Aside0.mk (blk_below (g := gb115) (o := .cells #[.string a0_0, .bool a0_1] 33 (0, 0)) (by (with_reducible repeat (first | apply xn18 | apply xd18 | apply xa18)); exact BK115.1) hb)
            have n1_ := Aside0.mk (blk_below (g := gb116) (o := .cells #[.string (⟨#[]⟩ : ByteArray), .bool false] 33 (0, 0)) (by (with_reducible repeat (first | apply xn18 | apply xd18 | apply xa18)); exact BK116.1) hb)
            have n2_ := Aside0.mk (below_step (by with_reducible repeat (first | exact HB.1 | apply ya18 | apply yn18 | apply yd18 | refine below_set ?_ GE115.1 | refine below_set ?_ GE116.1)) hb)
            clear BK115
            clear BK116
            clear HB
            have BK115 := n0_
            have BK116 := n1_
            have HB := n2_
            clear n0_ n1_ n2_
            (try clear hb)
            (try clear hb2)
            (try clear hk)
            (try clear hi)
            refine hK.out _ _ ⟨(blk_cell BK115.1 0).trans rfl, (blk_cell BK115.1 1).trans rfl⟩ (fun hHeld => ?_)
            clear hK K
            refine norm_ (a' := ?_) ?_ ?_
            rotate_left
            · show Act.put _ (some 27) _ = _
              simp only [Act.put, List.setIfInBounds_toArray, List.set_cons_zero, List.set_cons_succ, i64_w, i32_w]
              rfl
            refine pure_ (i := 4) (N := some 28) (v := ?_) (a' := ?_) #[true, true, true, true, true, true, true, false, false, false, false] rfl rfl (any_of HT_.out (by kernel_rfl)) (fun _ _ _ h => h) (Or.inl ⟨by rfl, ?_⟩) ?_ ?_
            rotate_left
            · intro w'
              go_simp
              with_reducible rfl
            rotate_left
            · simp only [Act.put, List.setIfInBounds_toArray, List.set_cons_zero, List.set_cons_succ, i64_w, i32_w]
              rfl
            refine pure_ (i := 7) (N := some 31) (v := ?_) (a' := ?_) #[true, true, true, true, true, true, true, true, false, false, false] rfl rfl (any_of HT_.out (by kernel_rfl)) (fun _ _ _ h => h) (Or.inl ⟨by rfl, ?_⟩) ?_ ?_
            rotate_left
            · intro w'
              go_simp
              with_reducible rfl
            rotate_left
            · simp only [Act.put, List.setIfInBounds_toArray, List.set_cons_zero, List.set_cons_succ, i64_w, i32_w]
              rfl
            refine one_ (i := 8) (N := none) #[true, true, true, true, true, true, true, true, true, false, false] rfl rfl (one_of HT_.out (by kernel_rfl)) (by decide) (fun K hK => ?_)
            have hs19 : w18.cell? ⟨gb116, 0, none⟩ = some (.string (⟨#[]⟩ : ByteArray)) := (blk_cell BK116.1 0).trans rfl
            have hfs19 := blk_frozen BK116.1 0
            have hns19_0 := NB115_116.1
            have hms19_0 := NB116_115.1
            have hs20 : w18.cell? ⟨gb116, 1, none⟩ = some (.bool false) := (blk_cell BK116.1 1).trans rfl
            have hfs20 := blk_frozen BK116.1 1
            have hns20_0 := NB115_116.1
            have hms20_0 := NB116_115.1
            refine skip_ (w1 := ?_) (by rfl) rfl ?_ ?_
            rotate_left
            · go_simp
              rfl
            refine hK.out _ _ ⟨((cell_far (p := ⟨gb116, _, none⟩) NB115_116.1 _).trans (((cell_far (p := ⟨gb116, _, none⟩) NB115_116.1 _).trans (hHeld.1)))), ((cell_far (p := ⟨gb116, _, none⟩) NB115_116.1 _).trans (((cell_far (p := ⟨gb116, _, none⟩) NB115_116.1 _).trans (hHeld.2))))⟩ (fun hHeld => ?_)
            clear hK K
            refine pure_ (i := 9) (N := some 5) (v := ?_) (a' := ?_) #[true, true, true, true, true, true, true, true, true, true, false] rfl rfl (any_of HT_.out (by kernel_rfl)) (fun _ _ _ h => h) (Or.inl ⟨by rfl, ?_⟩) ?_ ?_
            rotate_left
            · intro w'
              go_simp
              with_reducible rfl
            rotate_left
            · simp only [Act.put, List.setIfInBounds_toArray, List.set_cons_zero, List.set_cons_succ, i64_w, i32_w]
              rfl
            refine pure_ (i := 10) (N := some 6) (v := ?_) (a' := ?_) #[true, true, true, true, true, true, true, true, true, true, true] rfl rfl (any_of HT_.out (by kernel_rfl)) (fun _ _ _ h => h) (Or.inl ⟨by rfl, ?_⟩) ?_ ?_
            rotate_left
            · intro w'
              go_simp
              with_reducible rfl
            rotate_left
            · simp only [Act.put, List.setIfInBounds_toArray, List.set_cons_zero, List.set_cons_succ, i64_w, i32_w]
              rfl
            refine done_ (done_of HT_.out (by kernel_rfl)) ?_
            try go_wp2
            refine bodyPost_ret (results_ctt rfl _ _ gb116 33 #[.string (a0_0 ++ t119), .bool a0_1] (0, 0) _ rfl (by (with_reducible repeat (first | apply xn18 | apply xd18 | apply xa18)); refine blk_put (cs := #[.string (a0_0 ++ t119), .bool false]) ?_ 1 _ rfl; (with_reducible repeat (first | apply xn18 | apply xd18 | apply xa18)); refine blk_put (cs := #[.string (⟨#[]⟩ : ByteArray), .bool false]) ?_ 0 _ rfl; (with_reducible repeat (first | apply xn18 | apply xd18 | apply xa18)); exact BK116.1) Tryd.underlying33 rfl (by kernel_rfl)) rfl ?_
            exact ⟨_, by first | rfl | (simp [errW_none, errW_some] <;> rfl) | (simp [*, errW_none, errW_some] <;> rfl), by first | exact Kd.R_nil _ _ _ _ _ | exact Kd.N_nil _ _ _ _ _ | exact Kd.V_nil _ _ _ _ _ | exact Kd.Q_nil _ _ _ _ _ | exact Kd.S_nil _ _ _ _ _, by repeat (first | (with_reducible first | exact HB.1 | apply below_alloc | apply pw_below_drewN | apply below_drew1 | refine below_set ?_ GE115.1 | refine below_set ?_ GE116.1) | exact HB.1)⟩
          · rw [if_neg c16] at H
            exact absurd H (by simp)
        · replace c14 := Bool.eq_false_iff.mpr c14
          subst c14
          have H1 : (if a1 = 32 then (vendmeterref_Pressed.j1 kj5 a1 (a0_0.size : Int) true a0_0 a0_1) else (if a1 = 45 then (vendmeterref_Pressed.j1 kj5 a1 (a0_0.size : Int) true a0_0 a0_1) else (vendmeterref_Pressed.j1 kj5 a1 (a0_0.size : Int) (a1 == 160) a0_0 a0_1))) = some (r1, r2, r3, r4) := by rw [if_neg (show ¬ (false = true) by decide)] at H; exact H
          clear H
          have H := H1
          clear H1
          have HC21 := Aside0.mk H
          clear H
          go_upto_region 7 with (fail)
          go_cut [41] (fun v41 wc => ∃ (kq : Nat) (x41_20 : Bool), v41 = .bool x41_20 ∧ Aside0 (vendmeterref_Pressed.j1 kq a1 (a0_0.size : Int) x41_20 a0_0 a0_1 = some (r1, r2, r3, r4)) ∧ Aside0 (kq ≤ kj5) ∧ Aside0 (wc.heap[gb115]? = some (.cells #[.string a0_0, .bool a0_1] 33 (0, 0))) ∧ Aside0 (wc.heap[gb116]? = some (.cells #[.string (⟨#[]⟩ : ByteArray), .bool false] 33 (0, 0))) ∧ Aside0 (Below w.heap.size w wc))
          case first =>
            have H := HC21.out
            clear HC21
            by_cases c22 : a1 = 32
            · rw [if_pos c22] at H
              have c22b0 : (a1 == 32) = true := beq_iff_eq.mpr c22
              have c22b1 : (a1 != 32) = false := bne_eq_false_iff_eq.mpr c22
              clear c22
              (first | rw [c22b0] | (simp only [i64_w, i32_w]; rw [c22b0]) | skip)
              have H' := Aside0.mk H
              clear H
              go_wp2
              go_meet
              case rel => exact ⟨_, (true), (by first | rfl | (simp; done) | (simp [*]; done)), H', ⟨by have := HJ5.out; first | omega | exact Nat.le_refl _⟩, ⟨by (with_reducible repeat (first | apply xn18 | apply xd18 | apply xa18)); exact BK115.1⟩, ⟨by (with_reducible repeat (first | apply xn18 | apply xd18 | apply xa18)); exact BK116.1⟩, ⟨by repeat (first | (with_reducible first | exact HB.1 | apply below_alloc | apply pw_below_drewN | apply below_drew1 | refine below_set ?_ GE115.1 | refine below_set ?_ GE116.1) | exact HB.1)⟩⟩
            · rw [if_neg c22] at H
              have c22b0 : (a1 == 32) = false := beq_eq_false_iff_ne.mpr c22
              have c22b1 : (a1 != 32) = true := bne_iff_ne.mpr c22
              (first | rw [c22b0] | (simp only [i64_w, i32_w]; rw [c22b0]) | skip)
              by_cases c23 : a1 = 45
              · rw [if_pos c23] at H
                have c23b0 : (a1 == 45) = true := beq_iff_eq.mpr c23
                have c23b1 : (a1 != 45) = false := bne_eq_false_iff_eq.mpr c23
                clear c23
                have H' := Aside0.mk H
                clear H
                go_wp2
                go_meet
                case rel => exact ⟨_, (true), (by first | rfl | (simp; done) | (simp [*]; done)), H', ⟨by have := HJ5.out; first | omega | exact Nat.le_refl _⟩, ⟨by (with_reducible repeat (first | apply xn18 | apply xd18 | apply xa18)); exact BK115.1⟩, ⟨by (with_reducible repeat (first | apply xn18 | apply xd18 | apply xa18)); exact BK116.1⟩, ⟨by repeat (first | (with_reducible first | exact HB.1 | apply below_alloc | apply pw_below_drewN | apply below_drew1 | refine below_set ?_ GE115.1 | refine below_set ?_ GE116.1) | exact HB.1)⟩⟩
              · rw [if_neg c23] at H
                have c23b0 : (a1 == 45) = false := beq_eq_false_iff_ne.mpr c23
                have c23b1 : (a1 != 45) = true := bne_iff_ne.mpr c23
                have H' := Aside0.mk H
                clear H
                go_wp2
                go_meet
                case rel => exact ⟨_, ((a1 == 160)), (by first | rfl | (simp; done) | (simp [*]; done)), H', ⟨by have := HJ5.out; first | omega | exact Nat.le_refl _⟩, ⟨by (with_reducible repeat (first | apply xn18 | apply xd18 | apply xa18)); exact BK115.1⟩, ⟨by (with_reducible repeat (first | apply xn18 | apply xd18 | apply xa18)); exact BK116.1⟩, ⟨by repeat (first | (with_reducible first | exact HB.1 | apply below_alloc | apply pw_below_drewN | apply below_drew1 | refine below_set ?_ GE115.1 | refine below_set ?_ GE116.1) | exact HB.1)⟩⟩
          case rest =>
            clear HC21
            try clear c1
            try clear c2
            try clear p2
            try clear c4
            try clear c9
            try clear c13
            try clear c13b0
            try clear c14
            try clear c16
            try clear c16b0
            try clear c16b1
            try clear c16b2
            try clear c18
            try clear c22
            try clear c22b0
            try clear c22b1
            try clear c23
            try clear c23b0
            try clear c23b1
            try clear hcz10_0
            try clear hcz10_1
            try clear hcz12_0
            try clear hcz12_1
            try clear hfz10_0
            try clear hfz10_1
            try clear hfz12_0
            try clear hfz12_1
            try clear p2
            obtain ⟨kq, x41_20, rfl, HA, HJ20, BK115, BK116, HB⟩ := hcut
            cases kq with
            | zero => exact absurd HA.out (by simp [vendmeterref_Pressed.j1])
            | succ kj20 =>
              have H := HA.out
              clear HA
              simp only [vendmeterref_Pressed.j1] at H
              by_cases c24 : x41_20 = true
              · subst c24
                have H1 : (some (a0_0, a0_1, ([] : List (S82)), 0)) = some (r1, r2, r3, r4) := by rw [if_pos rfl] at H; exact H
                clear H
                have H := H1
                clear H1
                simp only [Option.some.injEq, Prod.mk.injEq] at H
                obtain ⟨rfl, rfl, rfl, rfl⟩ := H
                have hnb25 := NB115_116.1
                have hnc25 := NB116_115.1
                obtain ⟨hcz26_0, hcz26_1⟩ := c2_18 BK115.1
                obtain ⟨hfz26_0, hfz26_1⟩ := f2_18 BK115.1
                obtain ⟨hcz27_0, hcz27_1⟩ := c2_18 BK116.1
                obtain ⟨hfz27_0, hfz27_1⟩ := f2_18 BK116.1
                go_wp2
                refine bodyPost_ret (results_ctt rfl _ _ gb116 33 #[.string a0_0, .bool a0_1] (0, 0) _ rfl (by (with_reducible repeat (first | apply xn18 | apply xd18 | apply xa18)); refine blk_put (cs := #[.string a0_0, .bool false]) ?_ 1 _ rfl; (with_reducible repeat (first | apply xn18 | apply xd18 | apply xa18)); refine blk_put (cs := #[.string (⟨#[]⟩ : ByteArray), .bool false]) ?_ 0 _ rfl; (with_reducible repeat (first | apply xn18 | apply xd18 | apply xa18)); exact BK116.1) Tryd.underlying33 rfl (by kernel_rfl)) rfl ?_
                exact ⟨_, by first | rfl | (simp [errW_none, errW_some] <;> rfl) | (simp [*, errW_none, errW_some] <;> rfl), by first | exact Kd.R_nil _ _ _ _ _ | exact Kd.N_nil _ _ _ _ _ | exact Kd.V_nil _ _ _ _ _ | exact Kd.Q_nil _ _ _ _ _ | exact Kd.S_nil _ _ _ _ _, by repeat (first | (with_reducible first | exact HB.1 | apply below_alloc | apply pw_below_drewN | apply below_drew1 | refine below_set ?_ GE115.1 | refine below_set ?_ GE116.1) | exact HB.1)⟩
              · replace c24 := Bool.eq_false_iff.mpr c24
                subst c24
                have H1 : (if a1 = 42 then (if (a0_0.size : Int) > 0 then (if 0 ≤ (wrap64 ((a0_0.size : Int) - 1)) then (if (wrap64 ((a0_0.size : Int) - 1)) ≤ (a0_0.size : Int) then (some (a0_0.extract 0 ((wrap64 ((a0_0.size : Int) - 1)) : Int).toNat, a0_1, ([] : List (S82)), 0)) else (none)) else (none)) else (some (a0_0, a0_1, ([] : List (S82)), 0))) else (if a1 = 35 then (if a0_1 = true then (some ((⟨#[]⟩ : ByteArray), false, (([(⟨(⟨#[]⟩ : ByteArray), 3⟩ : S82)] : List (S82))), 0)) else (if (a0_0.size : Int) = 0 then (some ((⟨#[]⟩ : ByteArray), false, ([] : List (S82)), 0)) else (some ((⟨#[]⟩ : ByteArray), false, (([(⟨a0_0, 0⟩ : S82)] : List (S82))), 0)))) else (some (a0_0, true, ([] : List (S82)), 0)))) = some (r1, r2, r3, r4) := by rw [if_neg (show ¬ (false = true) by decide)] at H; exact H
                clear H
                have H := H1
                clear H1
                by_cases c28 : a1 = 42
                · rw [if_pos c28] at H
                  have c28b0 : (a1 == 42) = true := beq_iff_eq.mpr c28
                  have c28b1 : (a1 != 42) = false := bne_eq_false_iff_eq.mpr c28
                  clear c28
                  by_cases c29 : (a0_0.size : Int) > 0
                  · rw [if_pos c29] at H
                    have c29b0 : decide (0 < (a0_0.size : Int)) = true := decide_eq_true c29
                    have c29b1 : decide (0 < a0_0.size) = true := decide_eq_true (by omega)
                    clear c29
                    obtain ⟨ji30, hji30⟩ : ∃ j_ : Int, (wrap64 ((a0_0.size : Int) - 1)) = j_ := ⟨_, rfl⟩
                    replace H : (if 0 ≤ (ji30) then (if (ji30) ≤ (a0_0.size : Int) then (some (a0_0.extract 0 ((ji30) : Int).toNat, a0_1, ([] : List (S82)), 0)) else (none)) else (none)) = some (r1, r2, r3, r4) := by first | (rw [hji30] at H; exact H) | (simp only [hji30] at H ⊢; exact H)
                    have hji30w : (IntKind.i64.wrap ((a0_0.size : Int) - 1)) = ji30 := (i64_w _).trans hji30
                    by_cases c31 : 0 ≤ (ji30)
                    · rw [if_pos c31] at H
                      have c31b0 := eq_true c31
                      have c31b1 : decide (0 ≤ (ji30)) = true := decide_eq_true c31
                      clear c31
                      by_cases c32 : (ji30) ≤ (a0_0.size : Int)
                      · rw [if_pos c32] at H
                        have c32b0 := eq_true c32
                        have c32b1 : decide ((ji30) ≤ (a0_0.size : Int)) = true := decide_eq_true c32
                        clear c32
                        simp only [Option.some.injEq, Prod.mk.injEq] at H
                        obtain ⟨rfl, rfl, rfl, rfl⟩ := H
                        try go_wp2
                        have n0_ := Aside0.mk (blk_drew BK115.1)
                        have n1_ := Aside0.mk (blk_drew BK116.1)
                        have n2_ := Aside0.mk (below_drew1 HB.1)
                        clear BK115
                        clear BK116
                        clear HB
                        have BK115 := n0_
                        have BK116 := n1_
                        have HB := n2_
                        clear n0_ n1_ n2_
                        refine start_ (n := 11) (S := fun w' => w'.cell? ⟨gb115, 0, none⟩ = some (.string a0_0) ∧ w'.cell? ⟨gb115, 1, none⟩ = some (.bool a0_1)) (ds := []) #[false, false, false, false, false, false, false, false, false, false, false] (by kernel_rfl) rfl rfl ⟨(blk_cell BK115.1 0).trans rfl, (blk_cell BK115.1 1).trans rfl⟩ (fun hHeld => ?_); refine with_tabW vendmeterref_Pressed.tab11 vendmeterref_Pressed.bits11 (fun HT_ HW_ => ?_)
                        generalize wc.drew = w33 at BK115 BK116 HB hHeld ⊢
                        refine pure_ (i := 0) (N := some 47) (v := ?_) (a' := ?_) #[true, false, false, false, false, false, false, false, false, false, false] rfl rfl (any_of HT_.out (by kernel_rfl)) (fun _ _ _ h => h) (Or.inl ⟨by rfl, ?_⟩) ?_ ?_
                        rotate_left
                        · intro w'
                          go_simp
                          with_reducible rfl
                        rotate_left
                        · simp only [Act.put, List.setIfInBounds_toArray, List.set_cons_zero, List.set_cons_succ, i64_w, i32_w]
                          rfl
                        refine pure_ (i := 2) (N := some 49) (v := ?_) (a' := ?_) #[true, false, true, false, false, false, false, false, false, false, false] rfl rfl (any_of HT_.out (by kernel_rfl)) (fun _ _ _ h => h) (Or.inl ⟨by rfl, ?_⟩) ?_ ?_
                        rotate_left
                        · intro w'
                          go_simp
                          with_reducible rfl
                        rotate_left
                        · simp only [Act.put, List.setIfInBounds_toArray, List.set_cons_zero, List.set_cons_succ, i64_w, i32_w]
                          rfl
                        refine pure_ (i := 3) (N := some 50) (v := ?_) (a' := ?_) #[true, false, true, true, false, false, false, false, false, false, false] rfl rfl (any_of HT_.out (by kernel_rfl)) (fun _ _ _ h => h) (Or.inl ⟨by rfl, ?_⟩) ?_ ?_
                        rotate_left
                        · intro w'
                          go_simp
                          with_reducible rfl
                        rotate_left
                        · simp only [Act.put, List.setIfInBounds_toArray, List.set_cons_zero, List.set_cons_succ, i64_w, i32_w]
                          rfl
                        refine pure_ (i := 5) (N := some 52) (v := ?_) (a' := ?_) #[true, false, true, true, false, true, false, false, false, false, false] rfl rfl (any_of HT_.out (by kernel_rfl)) (fun _ _ _ h => h) (Or.inl ⟨by rfl, ?_⟩) ?_ ?_
                        rotate_left
                        · intro w'
                          go_simp
                          with_reducible rfl
                        rotate_left
                        · simp only [Act.put, List.setIfInBounds_toArray, List.set_cons_zero, List.set_cons_succ, i64_w, i32_w]
                          rfl
                        refine take_ (i := 1) (N := some 48) (v := ?_) (a' := ?_) #[true, true, true, true, false, true, false, false, false, false, false] rfl rfl (take_ofW HT_.out HW_.out (by kernel_rfl)) (fun _ _ _ h => h) (Or.inl ⟨by rfl, ?_⟩) hHeld ?_ ?_
                        rotate_left
                        · rintro w' ⟨s0, s1⟩
                          go_simp
                          with_reducible rfl
                        rotate_left
                        · simp only [Act.put, List.setIfInBounds_toArray, List.set_cons_zero, List.set_cons_succ, i64_w, i32_w]
                          rfl
                        refine pure_ (i := 4) (N := some 51) (v := ?_) (a' := ?_) #[true, true, true, true, true, true, false, false, false, false, false] rfl rfl (any_of HT_.out (by kernel_rfl)) (fun _ _ _ h => h) (Or.inl ⟨by rfl, ?_⟩) ?_ ?_
                        rotate_left
                        · intro w'
                          go_simp
                          with_reducible rfl
                        rotate_left
                        · simp only [Act.put, List.setIfInBounds_toArray, List.set_cons_zero, List.set_cons_succ, i64_w, i32_w]
                          rfl
                        refine take_ (i := 6) (N := some 53) (v := ?_) (a' := ?_) #[true, true, true, true, true, true, true, false, false, false, false] rfl rfl (take_ofW HT_.out HW_.out (by kernel_rfl)) (fun _ _ _ h => h) (Or.inl ⟨by rfl, ?_⟩) hHeld ?_ ?_
                        rotate_left
                        · rintro w' ⟨s0, s1⟩
                          go_simp
                          with_reducible rfl
                        rotate_left
                        · simp only [Act.put, List.setIfInBounds_toArray, List.set_cons_zero, List.set_cons_succ, i64_w, i32_w]
                          rfl
                        refine pure_ (i := 7) (N := some 54) (v := ?_) (a' := ?_) #[true, true, true, true, true, true, true, true, false, false, false] rfl rfl (any_of HT_.out (by kernel_rfl)) (fun _ _ _ h => h) (Or.inl ⟨by rfl, ?_⟩) ?_ ?_
                        rotate_left
                        · intro w'
                          go_simp
                          with_reducible rfl
                        rotate_left
                        · simp only [Act.put, List.setIfInBounds_toArray, List.set_cons_zero, List.set_cons_succ, i64_w, i32_w]
                          rfl
                        refine one_ (i := 8) (N := none) #[true, true, true, true, true, true, true, true, true, false, false] rfl rfl (one_of HT_.out (by kernel_rfl)) (by decide) (fun K hK => ?_)
                        have hs34 : w33.cell? ⟨gb116, 0, none⟩ = some (.string (⟨#[]⟩ : ByteArray)) := (blk_cell BK116.1 0).trans rfl
                        have hfs34 := blk_frozen BK116.1 0
                        have hns34_0 := NB115_116.1
                        have hms34_0 := NB116_115.1
                        have hs35 : w33.cell? ⟨gb116, 1, none⟩ = some (.bool false) := (blk_cell BK116.1 1).trans rfl
                        have hfs35 := blk_frozen BK116.1 1
                        have hns35_0 := NB115_116.1
                        have hms35_0 := NB116_115.1
                        refine skip_ (w1 := ?_) (by rfl) rfl ?_ ?_
                        rotate_left
                        · go_simp
                          rfl
                        refine hK.out _ _ ⟨((cell_far (p := ⟨gb116, _, none⟩) NB115_116.1 _).trans (((cell_far (p := ⟨gb116, _, none⟩) NB115_116.1 _).trans (hHeld.1)))), ((cell_far (p := ⟨gb116, _, none⟩) NB115_116.1 _).trans (((cell_far (p := ⟨gb116, _, none⟩) NB115_116.1 _).trans (hHeld.2))))⟩ (fun hHeld => ?_)
                        clear hK K
                        refine pure_ (i := 9) (N := some 5) (v := ?_) (a' := ?_) #[true, true, true, true, true, true, true, true, true, true, false] rfl rfl (any_of HT_.out (by kernel_rfl)) (fun _ _ _ h => h) (Or.inl ⟨by rfl, ?_⟩) ?_ ?_
                        rotate_left
                        · intro w'
                          go_simp
                          with_reducible rfl
                        rotate_left
                        · simp only [Act.put, List.setIfInBounds_toArray, List.set_cons_zero, List.set_cons_succ, i64_w, i32_w]
                          rfl
                        refine pure_ (i := 10) (N := some 6) (v := ?_) (a' := ?_) #[true, true, true, true, true, true, true, true, true, true, true] rfl rfl (any_of HT_.out (by kernel_rfl)) (fun _ _ _ h => h) (Or.inl ⟨by rfl, ?_⟩) ?_ ?_
                        rotate_left
                        · intro w'
                          go_simp
                          with_reducible rfl
                        rotate_left
                        · simp only [Act.put, List.setIfInBounds_toArray, List.set_cons_zero, List.set_cons_succ, i64_w, i32_w]
                          rfl
                        refine done_ (done_of HT_.out (by kernel_rfl)) ?_
                        try go_wp2
                        refine bodyPost_ret (results_ctt rfl _ _ gb116 33 #[.string (a0_0.extract 0 ((ji30) : Int).toNat), .bool a0_1] (0, 0) _ rfl (by (with_reducible repeat (first | apply xn18 | apply xd18 | apply xa18)); refine blk_put (cs := #[.string (a0_0.extract 0 ((ji30) : Int).toNat), .bool false]) ?_ 1 _ rfl; (with_reducible repeat (first | apply xn18 | apply xd18 | apply xa18)); refine blk_put (cs := #[.string (⟨#[]⟩ : ByteArray), .bool false]) ?_ 0 _ rfl; (with_reducible repeat (first | apply xn18 | apply xd18 | apply xa18)); exact BK116.1) Tryd.underlying33 rfl (by kernel_rfl)) rfl ?_
                        exact ⟨_, by first | rfl | (simp [errW_none, errW_some] <;> rfl) | (simp only [← hji30]; first | rfl | (simp [errW_none, errW_some] <;> rfl)) | (simp [*, errW_none, errW_some] <;> rfl), by first | exact Kd.R_nil _ _ _ _ _ | exact Kd.N_nil _ _ _ _ _ | exact Kd.V_nil _ _ _ _ _ | exact Kd.Q_nil _ _ _ _ _ | exact Kd.S_nil _ _ _ _ _, by repeat (first | (with_reducible first | exact HB.1 | apply below_alloc | apply pw_below_drewN | apply below_drew1 | refine below_set ?_ GE115.1 | refine below_set ?_ GE116.1) | exact HB.1)⟩
                      · rw [if_neg c32] at H
                        exact absurd H (by simp)
                    · rw [if_neg c31] at H
                      exact absurd H (by simp)
                  · rw [if_neg c29] at H
                    have c29b0 : decide (0 < (a0_0.size : Int)) = false := decide_eq_false c29
                    have c29b1 : decide (0 < a0_0.size) = false := decide_eq_false (by omega)
                    clear c29
                    simp only [Option.some.injEq, Prod.mk.injEq] at H
                    obtain ⟨rfl, rfl, rfl, rfl⟩ := H
                    have hnb36 := NB115_116.1
                    have hnc36 := NB116_115.1
                    obtain ⟨hcz37_0, hcz37_1⟩ := c2_18 BK115.1
                    obtain ⟨hfz37_0, hfz37_1⟩ := f2_18 BK115.1
                    obtain ⟨hcz38_0, hcz38_1⟩ := c2_18 BK116.1
                    obtain ⟨hfz38_0, hfz38_1⟩ := f2_18 BK116.1
                    go_wp2
                    refine bodyPost_ret (results_ctt rfl _ _ gb116 33 #[.string a0_0, .bool a0_1] (0, 0) _ rfl (by (with_reducible repeat (first | apply xn18 | apply xd18 | apply xa18)); refine blk_put (cs := #[.string a0_0, .bool false]) ?_ 1 _ rfl; (with_reducible repeat (first | apply xn18 | apply xd18 | apply xa18)); refine blk_put (cs := #[.string (⟨#[]⟩ : ByteArray), .bool false]) ?_ 0 _ rfl; (with_reducible repeat (first | apply xn18 | apply xd18 | apply xa18)); exact BK116.1) Tryd.underlying33 rfl (by kernel_rfl)) rfl ?_
                    exact ⟨_, by first | rfl | (simp [errW_none, errW_some] <;> rfl) | (simp [*, errW_none, errW_some] <;> rfl), by first | exact Kd.R_nil _ _ _ _ _ | exact Kd.N_nil _ _ _ _ _ | exact Kd.V_nil _ _ _ _ _ | exact Kd.Q_nil _ _ _ _ _ | exact Kd.S_nil _ _ _ _ _, by repeat (first | (with_reducible first | exact HB.1 | apply below_alloc | apply pw_below_drewN | apply below_drew1 | refine below_set ?_ GE115.1 | refine below_set ?_ GE116.1) | exact HB.1)⟩
                · rw [if_neg c28] at H
                  have c28b0 : (a1 == 42) = false := beq_eq_false_iff_ne.mpr c28
                  have c28b1 : (a1 != 42) = true := bne_iff_ne.mpr c28
                  by_cases c39 : a1 = 35
                  · rw [if_pos c39] at H
                    have c39b0 : (a1 == 35) = true := beq_iff_eq.mpr c39
                    have c39b1 : (a1 != 35) = false := bne_eq_false_iff_eq.mpr c39
                    clear c39
                    by_cases c40 : a0_1 = true
                    · subst c40
                      have H1 : (some ((⟨#[]⟩ : ByteArray), false, (([(⟨(⟨#[]⟩ : ByteArray), 3⟩ : S82)] : List (S82))), 0)) = some (r1, r2, r3, r4) := by rw [if_pos rfl] at H; exact H
                      clear H
                      have H := H1
                      clear H1
                      obtain ⟨y120, hy120⟩ : ∃ y_ : List (S82), y_ = (([(⟨(⟨#[]⟩ : ByteArray), 3⟩ : S82)] : List (S82))) := ⟨_, rfl⟩
                      replace H : (some ((⟨#[]⟩ : ByteArray), false, y120, 0)) = some (r1, r2, r3, r4) := by first | (rw [hy120]; with_reducible exact H) | (have H2_ := (Option.bind_some _ _).symm.trans H; rw [hy120]; with_reducible exact H2_) | (have H2_ := (Option.bind_some _ _).symm.trans H; with_reducible exact H2_) | with_reducible exact H | (rw [hy120]; exact H) | exact H
                      have Ny120 := Aside0.mk hy120
                      clear hy120
                      simp only [Option.some.injEq, Prod.mk.injEq] at H
                      obtain ⟨rfl, rfl, rfl, rfl⟩ := H
                      have hnb41 := NB115_116.1
                      have hnc41 := NB116_115.1
                      obtain ⟨hcz42_0, hcz42_1⟩ := c2_18 BK115.1
                      obtain ⟨hfz42_0, hfz42_1⟩ := f2_18 BK115.1
                      go_wp2_with (first | ((with_reducible refine gate_dst (N := 62) rfl ?_); refine Kd.R_lit k82 _ 82 ?hg (N := 62) ?hd (xs := ([(⟨(⟨#[]⟩ : ByteArray), 3⟩ : S82)] : List (S82))) (inner := [.string (⟨#[]⟩ : ByteArray), .int .i64 3]) (ok := fun _ => True) (okp := fun _ => True) ?hr ?hp (fun _ hk => hk) trivial (Below.refl _ _) (Nat.le_refl _) (by simp) ?_; (case hd => rfl); (case hg => rfl); (case hr => first | (go_simp; done) | (go_simp; rfl)); (case hp => exact (Reps.c2 (show Kd.M k82 _ _ _ (⟨(⟨#[]⟩ : ByteArray), 3⟩ : S82) [.string (⟨#[]⟩ : ByteArray), .int .i64 3] from (k82_mkM _ _ _ (⟨(⟨#[]⟩ : ByteArray), 3⟩ : S82) )) (Reps.none _ _))); intro v121 w43 ho44 hb hg_ hnew_; clear hg_ hnew_; (first | rw [← Ny120.out] at ho44 | (simp only [Int.reduceToNat] at ho44; rw [← Ny120.out] at ho44)); have n0_ := Aside0.mk (Kd.R_lower ho44 (below_size (by with_reducible repeat (first | exact HB.1 | apply ya18 | apply yn18 | apply yd18 | refine below_set ?_ GE115.1 | refine below_set ?_ GE116.1)))); have n1_ := Aside0.mk (blk_below (g := gb115) (o := .cells #[.string a0_0, .bool true] 33 (0, 0)) (by (with_reducible repeat (first | apply xn18 | apply xd18 | apply xa18)); exact BK115.1) hb); have n2_ := Aside0.mk (blk_below (g := gb116) (o := .cells #[.string (⟨#[]⟩ : ByteArray), .bool false] 33 (0, 0)) (by (with_reducible repeat (first | apply xn18 | apply xd18 | apply xa18)); exact BK116.1) hb); have n3_ := Aside0.mk (below_step (by with_reducible repeat (first | exact HB.1 | apply ya18 | apply yn18 | apply yd18 | refine below_set ?_ GE115.1 | refine below_set ?_ GE116.1)) hb); clear BK115; clear BK116; clear HB; have HO122 := n0_; have BK115 := n1_; have BK116 := n2_; have HB := n3_; clear n0_ n1_ n2_ n3_; clear hb ho44; obtain ⟨hcz45_0, hcz45_1⟩ := c2_18 BK116.1; obtain ⟨hfz45_0, hfz45_1⟩ := f2_18 BK116.1))
                      refine bodyPost_ret (results_ctt rfl _ _ gb116 33 #[.string (⟨#[]⟩ : ByteArray), .bool false] (0, 0) _ rfl (by (with_reducible repeat (first | apply xn18 | apply xd18 | apply xa18)); refine blk_put (cs := #[.string (⟨#[]⟩ : ByteArray), .bool false]) ?_ 1 _ rfl; (with_reducible repeat (first | apply xn18 | apply xd18 | apply xa18)); refine blk_put (cs := #[.string (⟨#[]⟩ : ByteArray), .bool false]) ?_ 0 _ rfl; (with_reducible repeat (first | apply xn18 | apply xd18 | apply xa18)); exact BK116.1) Tryd.underlying33 rfl (by kernel_rfl)) rfl ?_
                      exact ⟨_, by first | rfl | (simp [errW_none, errW_some] <;> rfl) | (simp [*, errW_none, errW_some] <;> rfl), by (with_reducible repeat (first | apply Kd.R_alloc | apply Kd.R_drewN | apply Kd.R_drew)); exact Kd.R_mono (Kd.R_far (p := ⟨gb116, 1, none⟩) (Kd.R_far (p := ⟨gb116, 0, none⟩) (Kd.R_types HO122.1 BK116.1 (by decide)) (fun _ hk => hk.2) (.string (⟨#[]⟩ : ByteArray))) (fun _ hk => hk.2) (.bool false)) (fun _ hk => trivial), by repeat (first | (with_reducible first | exact HB.1 | apply below_alloc | apply pw_below_drewN | apply below_drew1 | refine below_set ?_ GE115.1 | refine below_set ?_ GE116.1) | exact HB.1)⟩
                    · replace c40 := Bool.eq_false_iff.mpr c40
                      subst c40
                      have H1 : (if (a0_0.size : Int) = 0 then (some ((⟨#[]⟩ : ByteArray), false, ([] : List (S82)), 0)) else (some ((⟨#[]⟩ : ByteArray), false, (([(⟨a0_0, 0⟩ : S82)] : List (S82))), 0))) = some (r1, r2, r3, r4) := by rw [if_neg (show ¬ (false = true) by decide)] at H; exact H
                      clear H
                      have H := H1
                      clear H1
                      by_cases c46 : (a0_0.size : Int) = 0
                      · rw [if_pos c46] at H
                        have c46b0 : ((a0_0.size : Int) == 0) = true := beq_iff_eq.mpr c46
                        have c46b1 : ((a0_0.size : Int) != 0) = false := bne_eq_false_iff_eq.mpr c46
                        clear c46
                        simp only [Option.some.injEq, Prod.mk.injEq] at H
                        obtain ⟨rfl, rfl, rfl, rfl⟩ := H
                        have hnb47 := NB115_116.1
                        have hnc47 := NB116_115.1
                        obtain ⟨hcz48_0, hcz48_1⟩ := c2_18 BK115.1
                        obtain ⟨hfz48_0, hfz48_1⟩ := f2_18 BK115.1
                        obtain ⟨hcz49_0, hcz49_1⟩ := c2_18 BK116.1
                        obtain ⟨hfz49_0, hfz49_1⟩ := f2_18 BK116.1
                        go_wp2
                        refine bodyPost_ret (results_ctt rfl _ _ gb116 33 #[.string (⟨#[]⟩ : ByteArray), .bool false] (0, 0) _ rfl (by (with_reducible repeat (first | apply xn18 | apply xd18 | apply xa18)); refine blk_put (cs := #[.string (⟨#[]⟩ : ByteArray), .bool false]) ?_ 1 _ rfl; (with_reducible repeat (first | apply xn18 | apply xd18 | apply xa18)); refine blk_put (cs := #[.string (⟨#[]⟩ : ByteArray), .bool false]) ?_ 0 _ rfl; (with_reducible repeat (first | apply xn18 | apply xd18 | apply xa18)); exact BK116.1) Tryd.underlying33 rfl (by kernel_rfl)) rfl ?_
                        exact ⟨_, by first | rfl | (simp [errW_none, errW_some] <;> rfl) | (simp [*, errW_none, errW_some] <;> rfl), by first | exact Kd.R_nil _ _ _ _ _ | exact Kd.N_nil _ _ _ _ _ | exact Kd.V_nil _ _ _ _ _ | exact Kd.Q_nil _ _ _ _ _ | exact Kd.S_nil _ _ _ _ _, by repeat (first | (with_reducible first | exact HB.1 | apply below_alloc | apply pw_below_drewN | apply below_drew1 | refine below_set ?_ GE115.1 | refine below_set ?_ GE116.1) | exact HB.1)⟩
                      · rw [if_neg c46] at H
                        have c46b0 : ((a0_0.size : Int) == 0) = false := beq_eq_false_iff_ne.mpr c46
                        have c46b1 : ((a0_0.size : Int) != 0) = true := bne_iff_ne.mpr c46
                        obtain ⟨y123, hy123⟩ : ∃ y_ : List (S82), y_ = (([(⟨a0_0, 0⟩ : S82)] : List (S82))) := ⟨_, rfl⟩
                        replace H : (some ((⟨#[]⟩ : ByteArray), false, y123, 0)) = some (r1, r2, r3, r4) := by first | (rw [hy123]; with_reducible exact H) | (have H2_ := (Option.bind_some _ _).symm.trans H; rw [hy123]; with_reducible exact H2_) | (have H2_ := (Option.bind_some _ _).symm.trans H; with_reducible exact H2_) | with_reducible exact H | (rw [hy123]; exact H) | exact H
                        have Ny123 := Aside0.mk hy123
                        clear hy123
                        simp only [Option.some.injEq, Prod.mk.injEq] at H
                        obtain ⟨rfl, rfl, rfl, rfl⟩ := H
                        have hnb50 := NB115_116.1
                        have hnc50 := NB116_115.1
                        obtain ⟨hcz51_0, hcz51_1⟩ := c2_18 BK115.1
                        obtain ⟨hfz51_0, hfz51_1⟩ := f2_18 BK115.1
                        try go_wp2
                        have n0_ := Aside0.mk (blk_drew BK115.1)
                        have n1_ := Aside0.mk (blk_drew BK116.1)
                        have n2_ := Aside0.mk (below_drew1 HB.1)
                        clear BK115
                        clear BK116
                        clear HB
                        have BK115 := n0_
                        have BK116 := n1_
                        have HB := n2_
                        clear n0_ n1_ n2_
                        refine start_ (n := 8) (S := fun w' => True) (ds := []) #[false, false, false, false, false, false, false, false] (by kernel_rfl) rfl rfl trivial (fun hHeld => ?_); refine with_tabW vendmeterref_Pressed.tab18 vendmeterref_Pressed.bits18 (fun HT_ HW_ => ?_)
                        generalize wc.drew = w52 at BK115 BK116 HB hHeld ⊢
                        refine pure_ (i := 1) (N := some 67) (v := ?_) (a' := ?_) #[false, true, false, false, false, false, false, false] rfl rfl (any_of HT_.out (by kernel_rfl)) (fun _ _ _ h => h) (Or.inl ⟨by rfl, ?_⟩) ?_ ?_
                        rotate_left
                        · intro w'
                          go_simp
                          with_reducible rfl
                        rotate_left
                        · simp only [Act.put, List.setIfInBounds_toArray, List.set_cons_zero, List.set_cons_succ, i64_w, i32_w]
                          rfl
                        refine inv_at [0, 2, 3, 4, 5, 6, 7] (fun a0_ b a w' => ∃ (v124 : Value) (m6_ : Value), a = putSel a0_ b [(0, 66, .agg #[.string (⟨#[]⟩ : ByteArray), .bool false]), (2, 68, .string a0_0), (3, 69, .agg #[.string a0_0, .int .i64 0]), (4, 70, v124), (6, 5, m6_), (7, 6, .int .i64 0)] ∧ (w'.heap[gb115]? = some (.cells #[.string a0_0, .bool false] 33 (0, 0))) ∧ (w'.heap[gb116]? = some (.cells #[.string (⟨#[]⟩ : ByteArray), .bool false] 33 (0, 0))) ∧ (Below w.heap.size w w') ∧ (b 4 = true → Kd.R k82 82 w' w.heap.size (fun _ => True) v124 y123) ∧ (b 6 = true → (m6_ : Value) = v124)) HT_.out HW_.out (by kernel_rfl) (by kernel_rfl) ?_ ?_ ?_
                        · exact ⟨.bool false, .bool false, by simp only [putSel, Bool.false_eq_true, if_false], BK115.1, BK116.1, HB.1, fun h_ => absurd h_ (by decide), fun h_ => absurd h_ (by decide)⟩
                        · skip
                          clear BK115 BK116 HB
                          refine steps_cons ?_ ?_
                          · rintro b a w' ⟨v124, m6_, ha, Q_BK115, Q_BK116, Q_HB, Q_HO125, Q_X6_⟩ hb_ hon hoff
                            refine ⟨_, rfl, fun K hK => ?_⟩
                            replace ha := Aside0.mk ha
                            have BK115 := Aside0.mk Q_BK115
                            have BK116 := Aside0.mk Q_BK116
                            have HB := Aside0.mk Q_HB
                            refine value_ (w1 := w') (v := .agg #[.string (⟨#[]⟩ : ByteArray), .bool false]) (by rfl) rfl ?_ ?_
                            · go_simp
                              (try simp only [i64_w])
                              try rfl
                            refine hK.out _ _ ⟨v124, m6_, (by rw [ha.out]; exact putSel_upk 0 hb_ rfl rfl rfl), Q_BK115, Q_BK116, Q_HB, Q_HO125, fun h0_ => absurd ((hoff 6 (by kernel_rfl)).symm.trans h0_) (by decide)⟩
                          refine steps_cons ?_ ?_
                          · rintro b a w' ⟨v124, m6_, ha, Q_BK115, Q_BK116, Q_HB, Q_HO125, Q_X6_⟩ hb_ hon hoff
                            refine ⟨_, rfl, fun K hK => ?_⟩
                            have e67 : a.tmps[67]? = some (.pointer (some ⟨gb115, 0, none⟩)) := by rw [ha]; exact (putSel_off rfl).trans rfl
                            replace ha := Aside0.mk ha
                            have BK115 := Aside0.mk Q_BK115
                            have BK116 := Aside0.mk Q_BK116
                            have HB := Aside0.mk Q_HB
                            have hc0_ : w'.cell? ⟨gb115, 0, none⟩ = some (.string a0_0) := (blk_cell BK115.1 0).trans rfl
                            have hc1_ : w'.cell? ⟨gb115, 1, none⟩ = some (.bool false) := (blk_cell BK115.1 1).trans rfl
                            refine value_ (w1 := w') (v := .string a0_0) (by rfl) rfl ?_ ?_
                            · go_simp
                              (try simp only [i64_w])
                              try rfl
                            refine hK.out _ _ ⟨v124, m6_, (by rw [ha.out]; exact putSel_upk 1 hb_ rfl rfl rfl), Q_BK115, Q_BK116, Q_HB, fun h0_ => absurd ((hoff 4 (by kernel_rfl)).symm.trans h0_) (by decide), fun h0_ => absurd ((hoff 6 (by kernel_rfl)).symm.trans h0_) (by decide)⟩
                          refine steps_cons ?_ ?_
                          · rintro b a w' ⟨v124, m6_, ha, Q_BK115, Q_BK116, Q_HB, Q_HO125, Q_X6_⟩ hb_ hon hoff
                            refine ⟨_, rfl, fun K hK => ?_⟩
                            have e68 : a.tmps[68]? = some (.string a0_0) := by rw [ha]; exact putSel_on (e := (2, 68, .string a0_0)) 1 rfl rfl (hon 2 (by kernel_rfl)) rfl
                            replace ha := Aside0.mk ha
                            have BK115 := Aside0.mk Q_BK115
                            have BK116 := Aside0.mk Q_BK116
                            have HB := Aside0.mk Q_HB
                            refine value_ (w1 := w') (v := .agg #[.string a0_0, .int .i64 0]) (by rfl) rfl ?_ ?_
                            · go_simp
                              (try simp only [i64_w])
                              try rfl
                            refine hK.out _ _ ⟨v124, m6_, (by rw [ha.out]; exact putSel_upk 2 hb_ rfl rfl rfl), Q_BK115, Q_BK116, Q_HB, fun h0_ => absurd ((hoff 4 (by kernel_rfl)).symm.trans h0_) (by decide), fun h0_ => absurd ((hoff 6 (by kernel_rfl)).symm.trans h0_) (by decide)⟩
                          refine steps_cons ?_ ?_
                          · rintro b a w' ⟨v124, m6_, ha, Q_BK115, Q_BK116, Q_HB, Q_HO125, Q_X6_⟩ hb_ hon hoff
                            refine ⟨_, rfl, fun K hK => ?_⟩
                            have e69 : a.tmps[69]? = some (.agg #[.string a0_0, .int .i64 0]) := by rw [ha]; exact putSel_on (e := (3, 69, .agg #[.string a0_0, .int .i64 0])) 2 rfl rfl (hon 3 (by kernel_rfl)) rfl
                            replace ha := Aside0.mk ha
                            have BK115 := Aside0.mk Q_BK115
                            have BK116 := Aside0.mk Q_BK116
                            have HB := Aside0.mk Q_HB
                            refine Kd.R_lit_step k82 _ 82 ?hg (N := 70) ?hd (xs := ([(⟨a0_0, 0⟩ : S82)] : List (S82))) (inner := [.string a0_0, .int .i64 0]) (ok := fun _ => True) (okp := fun _ => True) ?hr ?hp (fun _ hk => hk) trivial (Below.refl _ _) (Nat.le_refl _) (by simp) ?_; (case hd => rfl); (case hg => rfl); (case hr => first | (go_simp; done) | (go_simp; rfl)); (case hp => exact (Reps.c2 (show Kd.M k82 _ _ _ (⟨a0_0, 0⟩ : S82) [.string a0_0, .int .i64 0] from (k82_mkM _ _ _ (⟨a0_0, 0⟩ : S82) )) (Reps.none _ _)))
                            intro v124 w53 ho54 hb hg_ hnew_
                            clear hg_ hnew_
                            (first | rw [← Ny123.out] at ho54 | (simp only [Int.reduceToNat] at ho54; rw [← Ny123.out] at ho54))
                            have n0_ := Aside0.mk (Kd.R_lower ho54 (below_size (by with_reducible repeat (first | exact HB.1 | apply ya18 | apply yn18 | apply yd18 | refine below_set ?_ GE115.1 | refine below_set ?_ GE116.1))))
                            have n1_ := Aside0.mk (blk_below (g := gb115) (o := .cells #[.string a0_0, .bool false] 33 (0, 0)) (by (with_reducible repeat (first | apply xn18 | apply xd18 | apply xa18)); exact BK115.1) hb)
                            have n2_ := Aside0.mk (blk_below (g := gb116) (o := .cells #[.string (⟨#[]⟩ : ByteArray), .bool false] 33 (0, 0)) (by (with_reducible repeat (first | apply xn18 | apply xd18 | apply xa18)); exact BK116.1) hb)
                            have n3_ := Aside0.mk (below_step (by with_reducible repeat (first | exact HB.1 | apply ya18 | apply yn18 | apply yd18 | refine below_set ?_ GE115.1 | refine below_set ?_ GE116.1)) hb)
                            clear BK115
                            clear BK116
                            clear HB
                            have HO125 := n0_
                            have BK115 := n1_
                            have BK116 := n2_
                            have HB := n3_
                            clear n0_ n1_ n2_ n3_
                            clear hb ho54
                            refine hK.out _ _ ⟨v124, m6_, (by rw [ha.out]; exact putSel_upk 3 hb_ rfl rfl rfl), (by (with_reducible repeat (first | apply xn18 | apply xd18 | apply xa18)); exact BK115.1), (by (with_reducible repeat (first | apply xn18 | apply xd18 | apply xa18)); exact BK116.1), (by with_reducible repeat (first | exact HB.1 | apply ya18 | apply yn18 | apply yd18 | refine below_set ?_ GE115.1 | refine below_set ?_ GE116.1)), fun _ => (by (with_reducible repeat (first | apply Kd.R_alloc | apply Kd.R_drewN | apply Kd.R_drew)); exact HO125.1), fun h0_ => absurd ((hoff 6 (by kernel_rfl)).symm.trans h0_) (by decide)⟩
                          refine steps_cons ?_ ?_
                          · rintro b a w' ⟨v124, m6_, ha, Q_BK115, Q_BK116, Q_HB, Q_HO125, Q_X6_⟩ hb_ hon hoff
                            refine ⟨_, rfl, fun K hK => ?_⟩
                            have e4 : a.tmps[4]? = some (.pointer (some ⟨gb116, 0, none⟩)) := by rw [ha]; exact (putSel_off rfl).trans rfl
                            have e66 : a.tmps[66]? = some (.agg #[.string (⟨#[]⟩ : ByteArray), .bool false]) := by rw [ha]; exact putSel_on (e := (0, 66, .agg #[.string (⟨#[]⟩ : ByteArray), .bool false])) 0 rfl rfl (hon 0 (by kernel_rfl)) rfl
                            replace ha := Aside0.mk ha
                            have BK115 := Aside0.mk Q_BK115
                            have BK116 := Aside0.mk Q_BK116
                            have HB := Aside0.mk Q_HB
                            have hs53 : w'.cell? ⟨gb116, 0, none⟩ = some (.string (⟨#[]⟩ : ByteArray)) := (blk_cell BK116.1 0).trans rfl
                            have hfs53 := blk_frozen BK116.1 0
                            have hns53_0 := NB115_116.1
                            have hms53_0 := NB116_115.1
                            have hs54 : w'.cell? ⟨gb116, 1, none⟩ = some (.bool false) := (blk_cell BK116.1 1).trans rfl
                            have hfs54 := blk_frozen BK116.1 1
                            have hns54_0 := NB115_116.1
                            have hms54_0 := NB116_115.1
                            refine skip_ (w1 := ?_) (by rfl) rfl ?_ ?_
                            rotate_left
                            · go_simp
                              rfl
                            refine hK.out _ _ ⟨v124, m6_, (by rw [ha.out]; exact putSel_none (v := undef) rfl), (by (with_reducible repeat (first | apply xn18 | apply xd18 | apply xa18)); refine blk_far ?_ NB115_116.1 _; (with_reducible repeat (first | apply xn18 | apply xd18 | apply xa18)); refine blk_far ?_ NB115_116.1 _; (with_reducible repeat (first | apply xn18 | apply xd18 | apply xa18)); exact BK115.1), (by (with_reducible repeat (first | apply xn18 | apply xd18 | apply xa18)); refine blk_put (cs := #[.string (⟨#[]⟩ : ByteArray), .bool false]) ?_ 1 _ rfl; (with_reducible repeat (first | apply xn18 | apply xd18 | apply xa18)); refine blk_put (cs := #[.string (⟨#[]⟩ : ByteArray), .bool false]) ?_ 0 _ rfl; (with_reducible repeat (first | apply xn18 | apply xd18 | apply xa18)); exact BK116.1), (by with_reducible repeat (first | exact HB.1 | apply ya18 | apply yn18 | apply yd18 | refine below_set ?_ GE115.1 | refine below_set ?_ GE116.1)), fun h0_ => (by (with_reducible repeat (first | apply Kd.R_alloc | apply Kd.R_drewN | apply Kd.R_drew)); exact Kd.R_mono (Kd.R_far (p := ⟨gb116, 1, none⟩) (Kd.R_far (p := ⟨gb116, 0, none⟩) (Kd.R_types (Q_HO125 h0_) BK116.1 (by decide)) (fun _ hk => hk.2) (.string (⟨#[]⟩ : ByteArray))) (fun _ hk => hk.2) (.bool false)) (fun _ hk => trivial)), fun h0_ => absurd ((hoff 6 (by kernel_rfl)).symm.trans h0_) (by decide)⟩
                          refine steps_cons ?_ ?_
                          · rintro b a w' ⟨v124, m6_, ha, Q_BK115, Q_BK116, Q_HB, Q_HO125, Q_X6_⟩ hb_ hon hoff
                            refine ⟨_, rfl, fun K hK => ?_⟩
                            have e70 : a.tmps[70]? = some (v124) := by rw [ha]; exact putSel_on (e := (4, 70, v124)) 3 rfl rfl (hon 4 (by kernel_rfl)) rfl
                            replace ha := Aside0.mk ha
                            have BK115 := Aside0.mk Q_BK115
                            have BK116 := Aside0.mk Q_BK116
                            have HB := Aside0.mk Q_HB
                            have HO125 := Aside0.mk (Q_HO125 (hon 4 (by kernel_rfl)))
                            refine value_ (w1 := w') (v := v124) (by rfl) rfl ?_ ?_
                            · go_simp
                              (try simp only [i64_w])
                              try rfl
                            refine hK.out _ _ ⟨v124, (v124), (by rw [ha.out]; exact putSel_upk 4 hb_ rfl rfl rfl), Q_BK115, Q_BK116, Q_HB, Q_HO125, fun _ => rfl⟩
                          refine steps_cons ?_ ?_
                          · rintro b a w' ⟨v124, m6_, ha, Q_BK115, Q_BK116, Q_HB, Q_HO125, Q_X6_⟩ hb_ hon hoff
                            refine ⟨_, rfl, fun K hK => ?_⟩
                            replace ha := Aside0.mk ha
                            have BK115 := Aside0.mk Q_BK115
                            have BK116 := Aside0.mk Q_BK116
                            have HB := Aside0.mk Q_HB
                            have HO125 := Aside0.mk (Q_HO125 (hon 4 (by kernel_rfl)))
                            refine value_ (w1 := w') (v := .int .i64 0) (by rfl) rfl ?_ ?_
                            · go_simp
                              (try simp only [i64_w])
                              try rfl
                            refine hK.out _ _ ⟨v124, m6_, (by rw [ha.out]; exact putSel_upk 5 hb_ rfl rfl rfl), Q_BK115, Q_BK116, Q_HB, Q_HO125, Q_X6_⟩
                          exact steps_nil
                        rintro b a w57 hall ⟨v124, m6_, ha, Q_BK115, Q_BK116, Q_HB, Q_HO125, Q_X6_⟩
                        clear BK115 BK116 HB
                        have hb0_ := hall 0 (by kernel_rfl)
                        have hb2_ := hall 2 (by kernel_rfl)
                        have hb3_ := hall 3 (by kernel_rfl)
                        have hb4_ := hall 4 (by kernel_rfl)
                        have hb5_ := hall 5 (by kernel_rfl)
                        have hb6_ := hall 6 (by kernel_rfl)
                        have hb7_ := hall 7 (by kernel_rfl)
                        subst ha
                        obtain rfl := Q_X6_ hb6_
                        simp only [putSel, hb0_, hb2_, hb3_, hb4_, hb5_, hb6_, hb7_, if_true, Act.put, List.setIfInBounds_toArray, List.set_cons_zero, List.set_cons_succ]
                        have BK115 := Aside0.mk Q_BK115
                        clear Q_BK115
                        have BK116 := Aside0.mk Q_BK116
                        clear Q_BK116
                        have HB := Aside0.mk Q_HB
                        clear Q_HB
                        have HO125 := Aside0.mk (Q_HO125 hb4_)
                        clear Q_HO125
                        clear hall hb0_ hb2_ hb3_ hb4_ hb5_ hb6_ hb7_
                        try go_wp2
                        refine bodyPost_ret (results_ctt rfl _ _ gb116 33 #[.string (⟨#[]⟩ : ByteArray), .bool false] (0, 0) _ rfl (by (with_reducible repeat (first | apply xn18 | apply xd18 | apply xa18)); exact BK116.1) Tryd.underlying33 rfl (by kernel_rfl)) rfl ?_
                        exact ⟨_, by first | rfl | (simp [errW_none, errW_some] <;> rfl) | (simp [*, errW_none, errW_some] <;> rfl), by (with_reducible repeat (first | apply Kd.R_alloc | apply Kd.R_drewN | apply Kd.R_drew)); exact HO125.1, by repeat (first | (with_reducible first | exact HB.1 | apply below_alloc | apply pw_below_drewN | apply below_drew1 | refine below_set ?_ GE115.1 | refine below_set ?_ GE116.1) | exact HB.1)⟩
                  · rw [if_neg c39] at H
                    have c39b0 : (a1 == 35) = false := beq_eq_false_iff_ne.mpr c39
                    have c39b1 : (a1 != 35) = true := bne_iff_ne.mpr c39
                    simp only [Option.some.injEq, Prod.mk.injEq] at H
                    obtain ⟨rfl, rfl, rfl, rfl⟩ := H
                    have hnb58 := NB115_116.1
                    have hnc58 := NB116_115.1
                    obtain ⟨hcz59_0, hcz59_1⟩ := c2_18 BK115.1
                    obtain ⟨hfz59_0, hfz59_1⟩ := f2_18 BK115.1
                    obtain ⟨hcz60_0, hcz60_1⟩ := c2_18 BK116.1
                    obtain ⟨hfz60_0, hfz60_1⟩ := f2_18 BK116.1
                    go_wp2
                    refine bodyPost_ret (results_ctt rfl _ _ gb116 33 #[.string a0_0, .bool true] (0, 0) _ rfl (by (with_reducible repeat (first | apply xn18 | apply xd18 | apply xa18)); refine blk_put (cs := #[.string a0_0, .bool false]) ?_ 1 _ rfl; (with_reducible repeat (first | apply xn18 | apply xd18 | apply xa18)); refine blk_put (cs := #[.string (⟨#[]⟩ : ByteArray), .bool false]) ?_ 0 _ rfl; (with_reducible repeat (first | apply xn18 | apply xd18 | apply xa18)); exact BK116.1) Tryd.underlying33 rfl (by kernel_rfl)) rfl ?_
                    exact ⟨_, by first | rfl | (simp [errW_none, errW_some] <;> rfl) | (simp [*, errW_none, errW_some] <;> rfl), by first | exact Kd.R_nil _ _ _ _ _ | exact Kd.N_nil _ _ _ _ _ | exact Kd.V_nil _ _ _ _ _ | exact Kd.Q_nil _ _ _ _ _ | exact Kd.S_nil _ _ _ _ _, by repeat (first | (with_reducible first | exact HB.1 | apply below_alloc | apply pw_below_drewN | apply below_drew1 | refine below_set ?_ GE115.1 | refine below_set ?_ GE116.1) | exact HB.1)⟩
  · replace c4 := Bool.eq_false_iff.mpr c4
    subst c4
    have H1 : (some ((⟨#[]⟩ : ByteArray), false, ([] : List (S82)), 5)) = some (r1, r2, r3, r4) := by rw [if_neg (show ¬ (false = true) by decide)] at H; exact H
    clear H
    have H := H1
    clear H1
    simp only [Option.some.injEq, Prod.mk.injEq] at H
    obtain ⟨rfl, rfl, rfl, rfl⟩ := H
    go_enter Tryd.func18, Tryd.ntmps18
    go_wp2_with (first | ((with_reducible refine gate_dst (N := 2) rfl ?_); refine box_event ?hg (N := 2) ?hd (cs := #[.string a0_0, .bool a0_1]) (t := 33) ?hr ?_; (case hd => rfl); (case hg => rfl); (case hr => first | (go_simp; done) | (go_simp; rfl)); intro gb115 hg w61 hbox hb; have n0_ := Aside0.mk (below_step (by with_reducible repeat (first | exact HB.1 | apply ya18 | apply yn18 | apply yd18)) hb); have n1_ := Aside0.mk (hbox); have n2_ := Aside0.mk ((by rw [hg]; exact (below_size (by with_reducible repeat (first | exact HB.1 | apply ya18 | apply yn18 | apply yd18))) : w.heap.size ≤ gb115)); have n3_ := n2_; clear HB; have HB := n0_; have BK115 := n1_; have GW115 := n2_; have GE115 := n3_; clear n0_ n1_ n2_ n3_; clear hb hbox hg) | ((with_reducible refine gate_dst (N := 4) rfl ?_); refine box_event ?hg (N := 4) ?hd (cs := #[.string (⟨#[]⟩ : ByteArray), .bool false]) (t := 33) ?hr ?_; (case hd => rfl); (case hg => rfl); (case hr => first | (go_simp; done) | (go_simp; rfl)); intro gb116 hg w62 hbox hb; have n0_ := Aside0.mk (blk_below (g := gb115) (o := .cells #[.string a0_0, .bool a0_1] 33 (0, 0)) (by (with_reducible repeat (first | apply xn18 | apply xd18 | apply xa18)); exact BK115.1) hb); have n1_ := Aside0.mk (below_step (by with_reducible repeat (first | exact HB.1 | apply ya18 | apply yn18 | apply yd18 | refine below_set ?_ GE115.1)) hb); have n2_ := Aside0.mk (hbox); have n3_ := Aside0.mk ((by rw [hg]; exact (below_size (by with_reducible repeat (first | exact HB.1 | apply ya18 | apply yn18 | apply yd18 | refine below_set ?_ GE115.1))) : w.heap.size ≤ gb116)); have n4_ := n3_; have n5_ := Aside0.mk ((by rw [hg]; exact Nat.ne_of_lt (blk_lt (g := gb115) (o := .cells #[.string a0_0, .bool a0_1] 33 (0, 0)) (by (with_reducible repeat (first | apply xn18 | apply xd18 | apply xa18)); exact BK115.1)) : gb115 ≠ gb116)); have n6_ := Aside0.mk ((by rw [hg]; exact Nat.ne_of_gt (blk_lt (g := gb115) (o := .cells #[.string a0_0, .bool a0_1] 33 (0, 0)) (by (with_reducible repeat (first | apply xn18 | apply xd18 | apply xa18)); exact BK115.1)) : gb116 ≠ gb115)); clear BK115; clear HB; have BK115 := n0_; have HB := n1_; have BK116 := n2_; have GW116 := n3_; have GE116 := n4_; have NB115_116 := n5_; have NB116_115 := n6_; clear n0_ n1_ n2_ n3_ n4_ n5_ n6_; clear hb hbox hg; have hnb63 := NB115_116.1; have hnc63 := NB116_115.1; obtain ⟨hcz64_0, hcz64_1⟩ := c2_18 BK115.1; obtain ⟨hfz64_0, hfz64_1⟩ := f2_18 BK115.1) | ((with_reducible refine gate_callee (f := 47) rfl ?_); refine goesL_ (some 10) rfl rfl Tryd.func47 (by kernel_rfl) rfl #[.agg #[.string a0_0, .bool a0_1]] rfl (by (try simp only [List.map_toArray, List.map_cons, List.map_nil]); first | done | rfl | (simp only [List.length_drop, List.length_take]; rfl)) ?_; (with_reducible refine (vendmeterref_PadMay.calls k a0_0 a0_1 false _ A3.out).mono ?_); rintro e w65 ⟨rfl, hb⟩; refine ⟨_, rfl, ?_⟩; have n0_ := Aside0.mk (blk_below (g := gb115) (o := .cells #[.string a0_0, .bool a0_1] 33 (0, 0)) (by (with_reducible repeat (first | apply xn18 | apply xd18 | apply xa18)); exact BK115.1) hb); have n1_ := Aside0.mk (blk_below (g := gb116) (o := .cells #[.string (⟨#[]⟩ : ByteArray), .bool false] 33 (0, 0)) (by (with_reducible repeat (first | apply xn18 | apply xd18 | apply xa18)); exact BK116.1) hb); have n2_ := Aside0.mk (below_step (by with_reducible repeat (first | exact HB.1 | apply ya18 | apply yn18 | apply yd18 | refine below_set ?_ GE115.1 | refine below_set ?_ GE116.1)) hb); clear BK115; clear BK116; clear HB; have BK115 := n0_; have BK116 := n1_; have HB := n2_; clear n0_ n1_ n2_; (try clear hb); (try clear hb2); (try clear hk); (try clear hi); obtain ⟨hcz66_0, hcz66_1⟩ := c2_18 BK116.1; obtain ⟨hfz66_0, hfz66_1⟩ := f2_18 BK116.1))
    refine bodyPost_ret (results_ctt rfl _ _ gb116 33 #[.string (⟨#[]⟩ : ByteArray), .bool false] (0, 0) _ rfl (by (with_reducible repeat (first | apply xn18 | apply xd18 | apply xa18)); refine blk_put (cs := #[.string (⟨#[]⟩ : ByteArray), .bool false]) ?_ 1 _ rfl; (with_reducible repeat (first | apply xn18 | apply xd18 | apply xa18)); refine blk_put (cs := #[.string (⟨#[]⟩ : ByteArray), .bool false]) ?_ 0 _ rfl; (with_reducible repeat (first | apply xn18 | apply xd18 | apply xa18)); exact BK116.1) Tryd.underlying33 rfl (by kernel_rfl)) rfl ?_
    exact ⟨_, by first | rfl | (simp [errW_none, errW_some] <;> rfl) | (simp [*, errW_none, errW_some] <;> rfl), by first | exact Kd.R_nil _ _ _ _ _ | exact Kd.N_nil _ _ _ _ _ | exact Kd.V_nil _ _ _ _ _ | exact Kd.Q_nil _ _ _ _ _ | exact Kd.S_nil _ _ _ _ _, by repeat (first | (with_reducible first | exact HB.1 | apply below_alloc | apply pw_below_drewN | apply below_drew1 | refine below_set ?_ GE115.1 | refine below_set ?_ GE116.1) | exact HB.1)⟩

end Go.Proofs.YtoookcmablnjfaaDoor.PPadPresses
