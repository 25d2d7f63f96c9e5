-- written by this session's program wip/xp/xprint.py (it drives the kit's print and adds to it)
import Derived.Test.YtoookcmablnjfaaPWorldBeginsx0
import Derived.Test.YtoookcmablnjfaaPWorldBeginsx2
import Derived.Test.YtoookcmablnjfaaPWorldBeginsx3
import Derived.Test.YtoookcmablnjfaaPWorldBeginsx6
import Derived.Test.YtoookcmablnjfaaPWorldBeginsx7
import Derived.Test.YtoookcmablnjfaaPWorldBeginsx8
namespace Go.Proofs.Ytoookcmablnjfaa.PWorldBegins
open Go.RowKit Go.Proofs.YtoookcmablnjfaaW.PrintWords Go.Proofs.YtoookcmablnjfaaW.PrintLast Go.Proofs.YtoookcmablnjfaaW.PrintMore
attribute [local go_sem] max2_int min2_int max_two min_two max_three min_three max_four min_four   -- for this text's walks alone
set_option linter.unusedVariables false
set_option linter.unusedSimpArgs false

attribute [local go_sem high] eqA126 eqA129
/-! ### vendmeterref_WorldBegun: function 18 -/
theorem xa18 {w : World} {g : Nat} {o : Obj} (h : w.heap[g]? = some o) (o' : Obj) : (w.alloc o').heap[g]? = some o := blk_alloc h o'
theorem xd18 {w : World} {g : Nat} {o : Obj} (h : w.heap[g]? = some o) : w.drew.heap[g]? = some o := blk_drew h
theorem xn18 {w : World} {g : Nat} {o : Obj} (h : w.heap[g]? = some o) (n : Nat) : (w.drewN n).heap[g]? = some o := blk_drewN h n
theorem ya18 {w W : World} (h : Below w.heap.size w W) (o : Obj) : Below w.heap.size w (W.alloc o) := below_alloc h o
theorem yn18 {B : Nat} {w W : World} (h : Below B w W) (n : Nat) : Below B w (W.drewN n) := pw_below_drewN h n
theorem yd18 {B : Nat} {w W : World} (h : Below B w W) : Below B w W.drew := below_drew1 h
theorem c5_18 {w : World} {g : Nat} {t : TypeId} {x0 x1 x2 x3 x4 : Value} {r : List Value} (h : w.heap[g]? = some (.cells (List.toArray (x0 :: x1 :: x2 :: x3 :: x4 :: r)) t (0, 0))) : w.cell? ⟨g, 0, none⟩ = some x0 ∧ w.cell? ⟨g, 1, none⟩ = some x1 ∧ w.cell? ⟨g, 2, none⟩ = some x2 ∧ w.cell? ⟨g, 3, none⟩ = some x3 ∧ w.cell? ⟨g, 4, none⟩ = some x4 := ⟨(blk_cell h 0).trans rfl, (blk_cell h 1).trans rfl, (blk_cell h 2).trans rfl, (blk_cell h 3).trans rfl, (blk_cell h 4).trans rfl⟩
theorem c8_18 {w : World} {g : Nat} {t : TypeId} {x0 x1 x2 x3 x4 x5 x6 x7 : Value} {r : List Value} (h : w.heap[g]? = some (.cells (List.toArray (x0 :: x1 :: x2 :: x3 :: x4 :: x5 :: x6 :: x7 :: r)) t (0, 0))) : w.cell? ⟨g, 0, none⟩ = some x0 ∧ w.cell? ⟨g, 1, none⟩ = some x1 ∧ w.cell? ⟨g, 2, none⟩ = some x2 ∧ w.cell? ⟨g, 3, none⟩ = some x3 ∧ w.cell? ⟨g, 4, none⟩ = some x4 ∧ w.cell? ⟨g, 5, none⟩ = some x5 ∧ w.cell? ⟨g, 6, none⟩ = some x6 ∧ w.cell? ⟨g, 7, none⟩ = some x7 := ⟨(blk_cell h 0).trans rfl, (blk_cell h 1).trans rfl, (blk_cell h 2).trans rfl, (blk_cell h 3).trans rfl, (blk_cell h 4).trans rfl, (blk_cell h 5).trans rfl, (blk_cell h 6).trans rfl, (blk_cell h 7).trans rfl⟩
theorem f5_18 {w : World} {g : Nat} {t : TypeId} {cs : Array Value} (h : w.heap[g]? = some (.cells cs t (0, 0))) : w.frozen? ⟨g, 0, none⟩ = false ∧ w.frozen? ⟨g, 1, none⟩ = false ∧ w.frozen? ⟨g, 2, none⟩ = false ∧ w.frozen? ⟨g, 3, none⟩ = false ∧ w.frozen? ⟨g, 4, none⟩ = false := ⟨blk_frozen h 0, blk_frozen h 1, blk_frozen h 2, blk_frozen h 3, blk_frozen h 4⟩
theorem f8_18 {w : World} {g : Nat} {t : TypeId} {cs : Array Value} (h : w.heap[g]? = some (.cells cs t (0, 0))) : w.frozen? ⟨g, 0, none⟩ = false ∧ w.frozen? ⟨g, 1, none⟩ = false ∧ w.frozen? ⟨g, 2, none⟩ = false ∧ w.frozen? ⟨g, 3, none⟩ = false ∧ w.frozen? ⟨g, 4, none⟩ = false ∧ w.frozen? ⟨g, 5, none⟩ = false ∧ w.frozen? ⟨g, 6, none⟩ = false ∧ w.frozen? ⟨g, 7, none⟩ = false := ⟨blk_frozen h 0, blk_frozen h 1, blk_frozen h 2, blk_frozen h 3, blk_frozen h 4, blk_frozen h 5, blk_frozen h 6, blk_frozen h 7⟩
def vendmeterref_WorldBegun.l0 : Nat → Int → Int → List (S126) → Int → Int → Int → Int → List Int → List (S129) → List (List Int) → Option ((List (S126)) × Int × Int × Int × Int × List Int × (List (S129)) × (List (List Int)) × Int)
  | 0, _, _, _, _, _, _, _, _, _, _ => none
  | k + 1, x2, x11, x271000, x271001, x271002, x271003, x271004, x271005, x271006, x271007 => if x11 < x2 then ((vendmeterref_PocketMade.f x11).bind fun bt271 => (if x271007.length < 5864062014805 then (vendmeterref_WorldBegun.l0 k x2 (wrap64 (x11 + 1)) x271000 x271001 x271002 x271003 x271004 x271005 x271006 (x271007 ++ [bt271.1])) else (none))) else (some (x271000, x271001, x271002, x271003, x271004, x271005, x271006, x271007, 0))
def vendmeterref_WorldBegun.f (k : Nat) (l0_0 : List (S126)) (a0_1 : Int) (a0_2 : Int) (a0_3 : Int) (a0_4 : Int) (a1 : Int) (a2 : Int) : Option ((List (S126)) × Int × Int × Int × Int × List Int × (List (S129)) × (List (List Int)) × Int) := (vendmeterref_TermsFault.f k l0_0 a0_1 a0_2 a0_3 a0_4).bind fun t248 => (if t248 = 0 then ((vendmeterref_Blanked.f k a1).bind fun bt249 => (if bt249.2 = 0 then ((vendmeterref_In.f a2 0 50).bind fun t253 => (if t253 = true then ((vendmeterref_WorldCopy.f k l0_0 a0_1 a0_2 a0_3 a0_4 bt249.1 ([] : List (S129)) ([] : List (List Int))).bind fun bt254 => (vendmeterref_WorldBegun.l0 k a2 0 bt254.1 bt254.2.1 bt254.2.2.1 bt254.2.2.2.1 bt254.2.2.2.2.1 bt254.2.2.2.2.2.1 bt254.2.2.2.2.2.2.1 bt254.2.2.2.2.2.2.2)) else (some (([] : List (S126)), 0, 0, 0, 0, ([] : List Int), ([] : List (S129)), ([] : List (List Int)), 2)))) else (some (([] : List (S126)), 0, 0, 0, 0, ([] : List Int), ([] : List (S129)), ([] : List (List Int)), bt249.2)))) else (some (([] : List (S126)), 0, 0, 0, 0, ([] : List Int), ([] : List (S129)), ([] : List (List Int)), t248)))
theorem vendmeterref_WorldBegun.mono_l : ∀ k, (∀ y0 y1 y2 y3 y4 y5 y6 y7 y8 y9, LeO (vendmeterref_WorldBegun.l0 k y0 y1 y2 y3 y4 y5 y6 y7 y8 y9) (vendmeterref_WorldBegun.l0 (k + 1) y0 y1 y2 y3 y4 y5 y6 y7 y8 y9))
  | 0 => fun _ _ _ _ _ _ _ _ _ _ r h => by simp [vendmeterref_WorldBegun.l0] at h
  | k + 1 => by
    have ih0 := vendmeterref_WorldBegun.mono_l k
    · intro y0 y1 y2 y3 y4 y5 y6 y7 y8 y9
      unfold vendmeterref_WorldBegun.l0
      repeat' first
      | (with_reducible exact ih0 _ _ _ _ _ _ _ _ _ _)
      | (with_reducible exact vendmeterref_Blanked.mono _ _)
      | (with_reducible exact vendmeterref_TermsFault.mono _ _ _ _ _ _)
      | (with_reducible exact vendmeterref_WorldCopy.mono _ _ _ _ _ _ _ _ _)
      | (with_reducible exact LeO.refl _)
      | (with_reducible exact LeO.none _)
      | (with_reducible refine LeO.ite ?_ ?_)
      | (with_reducible refine LeO.bind ?_ (fun _ => ?_))
      | exact ih0 _ _ _ _ _ _ _ _ _ _
      | exact vendmeterref_Blanked.mono _ _
      | exact vendmeterref_TermsFault.mono _ _ _ _ _ _
      | exact vendmeterref_WorldCopy.mono _ _ _ _ _ _ _ _ _
      | exact LeO.none _
      | refine LeO.ite ?_ ?_
      | refine LeO.bind ?_ (fun _ => ?_)
theorem vendmeterref_WorldBegun.mono : ∀ a0 a1 a2 a3 a4 a5 a6 k, LeO (vendmeterref_WorldBegun.f k a0 a1 a2 a3 a4 a5 a6) (vendmeterref_WorldBegun.f (k + 1) a0 a1 a2 a3 a4 a5 a6) := by
  intro a0 a1 a2 a3 a4 a5 a6 k
  have ih0 := vendmeterref_WorldBegun.mono_l k
  unfold vendmeterref_WorldBegun.f
  repeat' first
      | (with_reducible exact ih0 _ _ _ _ _ _ _ _ _ _)
      | (with_reducible exact vendmeterref_Blanked.mono _ _)
      | (with_reducible exact vendmeterref_TermsFault.mono _ _ _ _ _ _)
      | (with_reducible exact vendmeterref_WorldCopy.mono _ _ _ _ _ _ _ _ _)
      | (with_reducible exact LeO.refl _)
      | (with_reducible exact LeO.none _)
      | (with_reducible refine LeO.ite ?_ ?_)
      | (with_reducible refine LeO.bind ?_ (fun _ => ?_))
      | exact ih0 _ _ _ _ _ _ _ _ _ _
      | exact vendmeterref_Blanked.mono _ _
      | exact vendmeterref_TermsFault.mono _ _ _ _ _ _
      | exact vendmeterref_WorldCopy.mono _ _ _ _ _ _ _ _ _
      | exact LeO.none _
      | refine LeO.ite ?_ ?_
      | refine LeO.bind ?_ (fun _ => ?_)
set_option maxHeartbeats 8000000 in
set_option maxRecDepth 100000 in
theorem vendmeterref_WorldBegun.calls (k : Nat) (A0_0 : Option Addr) (c0_0 : Nat) (l0_0 : List (S126)) (a0_1 : Int) (a0_2 : Int) (a0_3 : Int) (a0_4 : Int) (a1 : Int) (a2 : Int) (r1 : List (S126)) (r2 : Int) (r3 : Int) (r4 : Int) (r5 : Int) (r6 : List Int) (r7 : List (S129)) (r8 : List (List Int)) (r9 : Int) (w : World) (hr0_0 : Kd.C k126 w A0_0 l0_0.length l0_0) (hc0_0 : l0_0.length ≤ c0_0) (h : vendmeterref_WorldBegun.f k l0_0 a0_1 a0_2 a0_3 a0_4 a1 a2 = some (r1, r2, r3, r4, r5, r6, r7, r8, r9)) :
    Calls Try.prog 18 #[.agg #[.slice A0_0 l0_0.length c0_0, .int .i64 a0_1, .int .i64 a0_2, .int .i64 a0_3, .int .i64 a0_4], .int .i64 a1, .int .i64 a2] w fun e w' => ∃ v0_ v5_ v6_ v7_ : Value, e = .returned (.tuple #[.agg #[v0_, .int .i64 r2, .int .i64 r3, .int .i64 r4, .int .i64 r5, v5_, v6_, v7_], .int .i64 r9]) ∧ Kd.R k126 126 w' w.heap.size (fun _ => True) v0_ r1 ∧ Kd.R (Kd.int .u32) 22 w' w.heap.size (fun _ => True) v5_ r6 ∧ Kd.R k129 129 w' w.heap.size (fun _ => True) v6_ r7 ∧ Kd.S (Kd.slice 22 (Kd.int .u32)) 42 w' w.heap.size (fun k_ => some k_ ≠ (v5_ : Value).ownBlock) v7_ r8 ∧ Below w.heap.size w w' := by
  have hu40 := Try.underlying40
  have hu48 := Try.underlying48
  have HR0_0 := Aside0.mk hr0_0
  have HC0_0 := Aside0.mk hc0_0
  clear hr0_0 hc0_0
  have HB := Aside0.mk (Below.refl w.heap.size w)
  have H : ((vendmeterref_TermsFault.f k l0_0 a0_1 a0_2 a0_3 a0_4).bind fun t248 => (if t248 = 0 then ((vendmeterref_Blanked.f k a1).bind fun bt249 => (if bt249.2 = 0 then ((vendmeterref_In.f a2 0 50).bind fun t253 => (if t253 = true then ((vendmeterref_WorldCopy.f k l0_0 a0_1 a0_2 a0_3 a0_4 bt249.1 ([] : List (S129)) ([] : List (List Int))).bind fun bt254 => (vendmeterref_WorldBegun.l0 k a2 0 bt254.1 bt254.2.1 bt254.2.2.1 bt254.2.2.2.1 bt254.2.2.2.2.1 bt254.2.2.2.2.2.1 bt254.2.2.2.2.2.2.1 bt254.2.2.2.2.2.2.2)) else (some (([] : List (S126)), 0, 0, 0, 0, ([] : List Int), ([] : List (S129)), ([] : List (List Int)), 2)))) else (some (([] : List (S126)), 0, 0, 0, 0, ([] : List Int), ([] : List (S129)), ([] : List (List Int)), bt249.2)))) else (some (([] : List (S126)), 0, 0, 0, 0, ([] : List Int), ([] : List (S129)), ([] : List (List Int)), t248)))) = some (r1, r2, r3, r4, r5, r6, r7, r8, r9) := h
  clear h
  replace H := Option.bind_eq_some_iff.mp H
  obtain ⟨t248, A40, H⟩ := H
  replace H : (if t248 = 0 then ((vendmeterref_Blanked.f k a1).bind fun bt249 => (if bt249.2 = 0 then ((vendmeterref_In.f a2 0 50).bind fun t253 => (if t253 = true then ((vendmeterref_WorldCopy.f k l0_0 a0_1 a0_2 a0_3 a0_4 bt249.1 ([] : List (S129)) ([] : List (List Int))).bind fun bt254 => (vendmeterref_WorldBegun.l0 k a2 0 bt254.1 bt254.2.1 bt254.2.2.1 bt254.2.2.2.1 bt254.2.2.2.2.1 bt254.2.2.2.2.2.1 bt254.2.2.2.2.2.2.1 bt254.2.2.2.2.2.2.2)) else (some (([] : List (S126)), 0, 0, 0, 0, ([] : List Int), ([] : List (S129)), ([] : List (List Int)), 2)))) else (some (([] : List (S126)), 0, 0, 0, 0, ([] : List Int), ([] : List (S129)), ([] : List (List Int)), bt249.2)))) else (some (([] : List (S126)), 0, 0, 0, 0, ([] : List Int), ([] : List (S129)), ([] : List (List Int)), t248))) = some (r1, r2, r3, r4, r5, r6, r7, r8, r9) := H
  have A4 := Aside0.mk A40
  clear A40
  by_cases c5 : t248 = 0
  · rw [if_pos c5] at H
    have c5b0 : (t248 == 0) = true := beq_iff_eq.mpr c5
    have c5b1 : (t248 != 0) = false := bne_eq_false_iff_eq.mpr c5
    clear c5
    replace H := Option.bind_eq_some_iff.mp H
    obtain ⟨⟨t249, t250⟩, A60, H⟩ := H
    replace H : (if t250 = 0 then ((vendmeterref_In.f a2 0 50).bind fun t253 => (if t253 = true then ((vendmeterref_WorldCopy.f k l0_0 a0_1 a0_2 a0_3 a0_4 t249 ([] : List (S129)) ([] : List (List Int))).bind fun bt254 => (vendmeterref_WorldBegun.l0 k a2 0 bt254.1 bt254.2.1 bt254.2.2.1 bt254.2.2.2.1 bt254.2.2.2.2.1 bt254.2.2.2.2.2.1 bt254.2.2.2.2.2.2.1 bt254.2.2.2.2.2.2.2)) else (some (([] : List (S126)), 0, 0, 0, 0, ([] : List Int), ([] : List (S129)), ([] : List (List Int)), 2)))) else (some (([] : List (S126)), 0, 0, 0, 0, ([] : List Int), ([] : List (S129)), ([] : List (List Int)), t250))) = some (r1, r2, r3, r4, r5, r6, r7, r8, r9) := H
    have A6 := Aside0.mk A60
    clear A60
    by_cases c7 : t250 = 0
    · rw [if_pos c7] at H
      have c7b0 : (t250 == 0) = true := beq_iff_eq.mpr c7
      have c7b1 : (t250 != 0) = false := bne_eq_false_iff_eq.mpr c7
      clear c7
      replace H := Option.bind_eq_some_iff.mp H
      obtain ⟨t253, A80, H⟩ := H
      replace H : (if t253 = true then ((vendmeterref_WorldCopy.f k l0_0 a0_1 a0_2 a0_3 a0_4 t249 ([] : List (S129)) ([] : List (List Int))).bind fun bt254 => (vendmeterref_WorldBegun.l0 k a2 0 bt254.1 bt254.2.1 bt254.2.2.1 bt254.2.2.2.1 bt254.2.2.2.2.1 bt254.2.2.2.2.2.1 bt254.2.2.2.2.2.2.1 bt254.2.2.2.2.2.2.2)) else (some (([] : List (S126)), 0, 0, 0, 0, ([] : List Int), ([] : List (S129)), ([] : List (List Int)), 2))) = some (r1, r2, r3, r4, r5, r6, r7, r8, r9) := H
      have A8 := Aside0.mk A80
      clear A80
      by_cases c9 : t253 = true
      · subst c9
        have H1 : ((vendmeterref_WorldCopy.f k l0_0 a0_1 a0_2 a0_3 a0_4 t249 ([] : List (S129)) ([] : List (List Int))).bind fun bt254 => (vendmeterref_WorldBegun.l0 k a2 0 bt254.1 bt254.2.1 bt254.2.2.1 bt254.2.2.2.1 bt254.2.2.2.2.1 bt254.2.2.2.2.2.1 bt254.2.2.2.2.2.2.1 bt254.2.2.2.2.2.2.2)) = some (r1, r2, r3, r4, r5, r6, r7, r8, r9) := by rw [if_pos rfl] at H; exact H
        clear H
        have H := H1
        clear H1
        replace H := Option.bind_eq_some_iff.mp H
        obtain ⟨⟨t254, t257, t258, t259, t260, t261, t264, t267⟩, A100, H⟩ := H
        replace H : (vendmeterref_WorldBegun.l0 k a2 0 t254 t257 t258 t259 t260 t261 t264 t267) = some (r1, r2, r3, r4, r5, r6, r7, r8, r9) := H
        have A10 := Aside0.mk A100
        clear A100
        have H' := Aside0.mk H
        clear H
        go_enter Try.func18, Try.ntmps18
        go_wp2_with (first | ((with_reducible refine gate_dst (N := 3) rfl ?_); refine box_event ?hg (N := 3) ?hd (cs := #[.slice A0_0 l0_0.length c0_0, .int .i64 a0_1, .int .i64 a0_2, .int .i64 a0_3, .int .i64 a0_4]) (t := 40) ?hr ?_; (case hd => rfl); (case hg => rfl); (case hr => first | (go_simp; done) | (go_simp; rfl)); intro gb246 hg w11 hbox hb; have n0_ := Aside0.mk (below_step (by with_reducible repeat (first | exact HB.1 | apply ya18 | apply yn18 | apply yd18)) hb); have n1_ := Aside0.mk (hbox); have n2_ := Aside0.mk ((by rw [hg]; exact (below_size (by with_reducible repeat (first | exact HB.1 | apply ya18 | apply yn18 | apply yd18))) : w.heap.size ≤ gb246)); have n3_ := n2_; clear HB; have HB := n0_; have BK246 := n1_; have GW246 := n2_; have GE246 := n3_; clear n0_ n1_ n2_ n3_; clear hb hbox hg) | ((with_reducible refine gate_dst (N := 6) rfl ?_); refine box_event ?hg (N := 6) ?hd (cs := #[.slice none 0 0, .int .i64 0, .int .i64 0, .int .i64 0, .int .i64 0, .slice none 0 0, .slice none 0 0, .slice none 0 0]) (t := 48) ?hr ?_; (case hd => rfl); (case hg => rfl); (case hr => first | (go_simp; done) | (go_simp; rfl)); intro gb247 hg w12 hbox hb; have n0_ := Aside0.mk (blk_below (g := gb246) (o := .cells #[.slice A0_0 l0_0.length c0_0, .int .i64 a0_1, .int .i64 a0_2, .int .i64 a0_3, .int .i64 a0_4] 40 (0, 0)) (by (with_reducible repeat (first | apply xn18 | apply xd18 | apply xa18)); exact BK246.1) hb); have n1_ := Aside0.mk (below_step (by with_reducible repeat (first | exact HB.1 | apply ya18 | apply yn18 | apply yd18 | refine below_set ?_ GE246.1)) hb); have n2_ := Aside0.mk (hbox); have n3_ := Aside0.mk ((by rw [hg]; exact (below_size (by with_reducible repeat (first | exact HB.1 | apply ya18 | apply yn18 | apply yd18 | refine below_set ?_ GE246.1))) : w.heap.size ≤ gb247)); have n4_ := n3_; have n5_ := Aside0.mk ((by rw [hg]; exact Nat.ne_of_lt (blk_lt (g := gb246) (o := .cells #[.slice A0_0 l0_0.length c0_0, .int .i64 a0_1, .int .i64 a0_2, .int .i64 a0_3, .int .i64 a0_4] 40 (0, 0)) (by (with_reducible repeat (first | apply xn18 | apply xd18 | apply xa18)); exact BK246.1)) : gb246 ≠ gb247)); have n6_ := Aside0.mk ((by rw [hg]; exact Nat.ne_of_gt (blk_lt (g := gb246) (o := .cells #[.slice A0_0 l0_0.length c0_0, .int .i64 a0_1, .int .i64 a0_2, .int .i64 a0_3, .int .i64 a0_4] 40 (0, 0)) (by (with_reducible repeat (first | apply xn18 | apply xd18 | apply xa18)); exact BK246.1)) : gb247 ≠ gb246)); clear BK246; clear HB; have BK246 := n0_; have HB := n1_; have BK247 := n2_; have GW247 := n3_; have GE247 := n4_; have NB246_247 := n5_; have NB247_246 := n6_; clear n0_ n1_ n2_ n3_ n4_ n5_ n6_; clear hb hbox hg; have hnb13 := NB246_247.1; have hnc13 := NB247_246.1; obtain ⟨hcz14_0, hcz14_1, hcz14_2, hcz14_3, hcz14_4⟩ := c5_18 BK246.1; obtain ⟨hfz14_0, hfz14_1, hfz14_2, hfz14_3, hfz14_4⟩ := f5_18 BK246.1) | ((with_reducible refine gate_callee (f := 41) rfl ?_); refine goesL_ (some 15) rfl rfl Try.func41 (by kernel_rfl) rfl #[.agg #[.slice A0_0 l0_0.length c0_0, .int .i64 a0_1, .int .i64 a0_2, .int .i64 a0_3, .int .i64 a0_4]] rfl (by (try simp only [List.map_toArray, List.map_cons, List.map_nil]); first | done | rfl | (simp only [List.length_drop, List.length_take]; rfl)) ?_; (with_reducible refine (vendmeterref_TermsFault.calls k _ _ l0_0 a0_1 a0_2 a0_3 a0_4 t248 _ ?side1 ?side2 A4.out).mono ?_); (case side1 => repeat (first | exact (Kd.C_below HR0_0.out HB.1) | (with_reducible refine Kd.C_alloc ?_ _) | (with_reducible refine Kd.C_drewN ?_ _) | (with_reducible refine Kd.C_drew ?_))); (case side2 => exact HC0_0.out); rintro e w15 ⟨rfl, hb⟩; refine ⟨_, rfl, ?_⟩; have n0_ := Aside0.mk (blk_below (g := gb246) (o := .cells #[.slice A0_0 l0_0.length c0_0, .int .i64 a0_1, .int .i64 a0_2, .int .i64 a0_3, .int .i64 a0_4] 40 (0, 0)) (by (with_reducible repeat (first | apply xn18 | apply xd18 | apply xa18)); exact BK246.1) hb); have n1_ := Aside0.mk (blk_below (g := gb247) (o := .cells #[.slice none 0 0, .int .i64 0, .int .i64 0, .int .i64 0, .int .i64 0, .slice none 0 0, .slice none 0 0, .slice none 0 0] 48 (0, 0)) (by (with_reducible repeat (first | apply xn18 | apply xd18 | apply xa18)); exact BK247.1) hb); have n2_ := Aside0.mk (below_step (by with_reducible repeat (first | exact HB.1 | apply ya18 | apply yn18 | apply yd18 | refine below_set ?_ GE246.1 | refine below_set ?_ GE247.1)) hb); clear BK246; clear BK247; clear HB; have BK246 := n0_; have BK247 := n1_; have HB := n2_; clear n0_ n1_ n2_; (try clear hb); (try clear hb2); (try clear hk); (try clear hi)) | ((with_reducible refine gate_callee (f := 42) rfl ?_); refine goesL_ (some 22) rfl rfl Try.func42 (by kernel_rfl) rfl #[.int .i64 a1] rfl (by (try simp only [List.map_toArray, List.map_cons, List.map_nil]); first | done | rfl | (simp only [List.length_drop, List.length_take]; rfl)) ?_; (with_reducible refine (vendmeterref_Blanked.calls k a1 t249 t250 _ A6.out).mono ?_); rintro e w16 ⟨v251, rfl, ho0, hb⟩; refine ⟨_, rfl, ?_⟩; have n0_ := Aside0.mk (Kd.R_lower ho0 (below_size (by with_reducible repeat (first | exact HB.1 | apply ya18 | apply yn18 | apply yd18 | refine below_set ?_ GE246.1 | refine below_set ?_ GE247.1)))); have n1_ := Aside0.mk (blk_below (g := gb246) (o := .cells #[.slice A0_0 l0_0.length c0_0, .int .i64 a0_1, .int .i64 a0_2, .int .i64 a0_3, .int .i64 a0_4] 40 (0, 0)) (by (with_reducible repeat (first | apply xn18 | apply xd18 | apply xa18)); exact BK246.1) hb); have n2_ := Aside0.mk (blk_below (g := gb247) (o := .cells #[.slice none 0 0, .int .i64 0, .int .i64 0, .int .i64 0, .int .i64 0, .slice none 0 0, .slice none 0 0, .slice none 0 0] 48 (0, 0)) (by (with_reducible repeat (first | apply xn18 | apply xd18 | apply xa18)); exact BK247.1) hb); have n3_ := Aside0.mk (below_step (by with_reducible repeat (first | exact HB.1 | apply ya18 | apply yn18 | apply yd18 | refine below_set ?_ GE246.1 | refine below_set ?_ GE247.1)) hb); clear BK246; clear BK247; clear HB; have HO252 := n0_; have BK246 := n1_; have BK247 := n2_; have HB := n3_; clear n0_ n1_ n2_ n3_; (try clear hb); (try clear hb2); (try clear hk); (try clear hi); (try clear ho0)) | ((with_reducible refine gate_callee (f := 43) rfl ?_); refine goesL_ (some 30) rfl rfl Try.func43 (by kernel_rfl) rfl #[.int .i64 a2, .int .i64 0, .int .i64 50] rfl (by (try simp only [List.map_toArray, List.map_cons, List.map_nil]); first | done | rfl | (simp only [List.length_drop, List.length_take]; rfl)) ?_; (with_reducible refine (vendmeterref_In.calls a2 0 50 true _ A8.out).mono ?_); rintro e w' ⟨rfl, ⟨nd, rfl⟩⟩; refine ⟨_, rfl, ?_⟩; (try (rw [drewN_self w16]; generalize hq_ : World.drewN w16 _ = w16; have n0_ : Aside0 (Kd.R (Kd.int .u32) 22 w16 w.heap.size (fun _ => True) v251 t249) := ⟨by rw [← hq_]; exact (by (with_reducible repeat (first | apply Kd.R_alloc | apply Kd.R_drewN | apply Kd.R_drew)); exact HO252.1)⟩; have n1_ : Aside0 (w16.heap[gb246]? = some (.cells #[.slice A0_0 l0_0.length c0_0, .int .i64 a0_1, .int .i64 a0_2, .int .i64 a0_3, .int .i64 a0_4] 40 (0, 0))) := ⟨by rw [← hq_]; exact (by (with_reducible repeat (first | apply xn18 | apply xd18 | apply xa18)); exact BK246.1)⟩; have n2_ : Aside0 (w16.heap[gb247]? = some (.cells #[.slice none 0 0, .int .i64 0, .int .i64 0, .int .i64 0, .int .i64 0, .slice none 0 0, .slice none 0 0, .slice none 0 0] 48 (0, 0))) := ⟨by rw [← hq_]; exact (by (with_reducible repeat (first | apply xn18 | apply xd18 | apply xa18)); exact BK247.1)⟩; have n3_ : Aside0 (Below w.heap.size w w16) := ⟨by rw [← hq_]; exact (by with_reducible repeat (first | exact HB.1 | apply ya18 | apply yn18 | apply yd18 | refine below_set ?_ GE246.1 | refine below_set ?_ GE247.1))⟩; clear HO252 BK246 BK247 HB hq_; have HO252 := n0_; have BK246 := n1_; have BK247 := n2_; have HB := n3_; clear n0_ n1_ n2_ n3_; (try (have hcu246_0 : w16.cell? ⟨gb246, 0, none⟩ = some (.slice A0_0 l0_0.length c0_0) := (blk_cell BK246.1 0).trans rfl)); (try (have hfu246_0 := blk_frozen BK246.1 0)); (try (have hcu246_1 : w16.cell? ⟨gb246, 1, none⟩ = some (.int .i64 a0_1) := (blk_cell BK246.1 1).trans rfl)); (try (have hfu246_1 := blk_frozen BK246.1 1)); (try (have hcu246_2 : w16.cell? ⟨gb246, 2, none⟩ = some (.int .i64 a0_2) := (blk_cell BK246.1 2).trans rfl)); (try (have hfu246_2 := blk_frozen BK246.1 2)); (try (have hcu246_3 : w16.cell? ⟨gb246, 3, none⟩ = some (.int .i64 a0_3) := (blk_cell BK246.1 3).trans rfl)); (try (have hfu246_3 := blk_frozen BK246.1 3)); (try (have hcu246_4 : w16.cell? ⟨gb246, 4, none⟩ = some (.int .i64 a0_4) := (blk_cell BK246.1 4).trans rfl)); (try (have hfu246_4 := blk_frozen BK246.1 4)); (try (have hcu247_0 : w16.cell? ⟨gb247, 0, none⟩ = some (.slice none 0 0) := (blk_cell BK247.1 0).trans rfl)); (try (have hfu247_0 := blk_frozen BK247.1 0)); (try (have hcu247_1 : w16.cell? ⟨gb247, 1, none⟩ = some (.int .i64 0) := (blk_cell BK247.1 1).trans rfl)); (try (have hfu247_1 := blk_frozen BK247.1 1)); (try (have hcu247_2 : w16.cell? ⟨gb247, 2, none⟩ = some (.int .i64 0) := (blk_cell BK247.1 2).trans rfl)); (try (have hfu247_2 := blk_frozen BK247.1 2)); (try (have hcu247_3 : w16.cell? ⟨gb247, 3, none⟩ = some (.int .i64 0) := (blk_cell BK247.1 3).trans rfl)); (try (have hfu247_3 := blk_frozen BK247.1 3)); (try (have hcu247_4 : w16.cell? ⟨gb247, 4, none⟩ = some (.int .i64 0) := (blk_cell BK247.1 4).trans rfl)); (try (have hfu247_4 := blk_frozen BK247.1 4)); (try (have hcu247_5 : w16.cell? ⟨gb247, 5, none⟩ = some (.slice none 0 0) := (blk_cell BK247.1 5).trans rfl)); (try (have hfu247_5 := blk_frozen BK247.1 5)); (try (have hcu247_6 : w16.cell? ⟨gb247, 6, none⟩ = some (.slice none 0 0) := (blk_cell BK247.1 6).trans rfl)); (try (have hfu247_6 := blk_frozen BK247.1 6)); (try (have hcu247_7 : w16.cell? ⟨gb247, 7, none⟩ = some (.slice none 0 0) := (blk_cell BK247.1 7).trans rfl)); (try (have hfu247_7 := blk_frozen BK247.1 7)))); obtain ⟨hcz17_0, hcz17_1, hcz17_2, hcz17_3, hcz17_4⟩ := c5_18 BK246.1; obtain ⟨hfz17_0, hfz17_1, hfz17_2, hfz17_3, hfz17_4⟩ := f5_18 BK246.1; obtain ⟨Ao18, co18, eo18⟩ := Kd.R_slice HO252.1; subst eo18) | ((with_reducible refine gate_callee (f := 44) rfl ?_); refine goesL_ (some 36) rfl rfl Try.func44 (by kernel_rfl) rfl #[.agg #[.slice A0_0 l0_0.length c0_0, .int .i64 a0_1, .int .i64 a0_2, .int .i64 a0_3, .int .i64 a0_4, .slice Ao18 t249.length co18, .slice none 0 0, .slice none 0 0]] rfl (by (try simp only [List.map_toArray, List.map_cons, List.map_nil]); first | done | rfl | (simp only [List.length_drop, List.length_take]; rfl)) ?_; (refine (vendmeterref_WorldCopy.calls k _ _ l0_0 a0_1 a0_2 a0_3 a0_4 _ _ t249 _ _ ([] : List (S129)) _ _ ([] : List (List Int)) t254 t257 t258 t259 t260 t261 t264 t267 _ ?side1 ?side2 ?side3 ?side4 ?side5 ?side6 ?side7 ?side8 A10.out).mono ?_); (case side1 => repeat (first | exact (Kd.C_below HR0_0.out HB.1) | (with_reducible refine Kd.C_alloc ?_ _) | (with_reducible refine Kd.C_drewN ?_ _) | (with_reducible refine Kd.C_drew ?_))); (case side2 => exact HC0_0.out); (case side3 => repeat (first | exact (Kd.R_reads' HO252.1).2.2 | (with_reducible refine Kd.C_alloc ?_ _) | (with_reducible refine Kd.C_drewN ?_ _) | (with_reducible refine Kd.C_drew ?_))); (case side4 => exact (Kd.R_reads' HO252.1).2.1); (case side5 => exact Kd.C_nil _ _); (case side6 => exact Nat.le_refl _); (case side7 => exact Kd.C_nil _ _); (case side8 => exact Nat.le_refl _); rintro e w19 ⟨v255, v262, v265, v268, rfl, ho0, ho1, ho2, ho3, hb⟩; refine ⟨_, rfl, ?_⟩; have n0_ := Aside0.mk (Kd.R_elder' (by (with_reducible repeat (first | apply Kd.R_alloc | apply Kd.R_drewN | apply Kd.R_drew)); exact HO252.1) (Kd.R_base ho1) hb); have n1_ := Aside0.mk (Kd.R_lower ho0 (below_size (by with_reducible repeat (first | exact HB.1 | apply ya18 | apply yn18 | apply yd18 | refine below_set ?_ GE246.1 | refine below_set ?_ GE247.1)))); have n2_ := Aside0.mk (Kd.R_lower (Kd.R_new' ho1 (Kd.R_lt (by (with_reducible repeat (first | apply Kd.R_alloc | apply Kd.R_drewN | apply Kd.R_drew)); exact HO252.1))) (below_size (by with_reducible repeat (first | exact HB.1 | apply ya18 | apply yn18 | apply yd18 | refine below_set ?_ GE246.1 | refine below_set ?_ GE247.1)))); have n3_ := Aside0.mk (Kd.R_lower ho2 (below_size (by with_reducible repeat (first | exact HB.1 | apply ya18 | apply yn18 | apply yd18 | refine below_set ?_ GE246.1 | refine below_set ?_ GE247.1)))); have n4_ := Aside0.mk (Kd.S_lower (Kd.S_new' ho3 (Kd.R_lt (by (with_reducible repeat (first | apply Kd.R_alloc | apply Kd.R_drewN | apply Kd.R_drew)); exact HO252.1))) (below_size (by with_reducible repeat (first | exact HB.1 | apply ya18 | apply yn18 | apply yd18 | refine below_set ?_ GE246.1 | refine below_set ?_ GE247.1)))); have n5_ := Aside0.mk (blk_below (g := gb246) (o := .cells #[.slice A0_0 l0_0.length c0_0, .int .i64 a0_1, .int .i64 a0_2, .int .i64 a0_3, .int .i64 a0_4] 40 (0, 0)) (by (with_reducible repeat (first | apply xn18 | apply xd18 | apply xa18)); exact BK246.1) hb); have n6_ := Aside0.mk (blk_below (g := gb247) (o := .cells #[.slice none 0 0, .int .i64 0, .int .i64 0, .int .i64 0, .int .i64 0, .slice none 0 0, .slice none 0 0, .slice none 0 0] 48 (0, 0)) (by (with_reducible repeat (first | apply xn18 | apply xd18 | apply xa18)); exact BK247.1) hb); have n7_ := Aside0.mk (below_step (by with_reducible repeat (first | exact HB.1 | apply ya18 | apply yn18 | apply yd18 | refine below_set ?_ GE246.1 | refine below_set ?_ GE247.1)) hb); clear HO252; clear BK246; clear BK247; clear HB; have HO252 := n0_; have HO256 := n1_; have HO263 := n2_; have HO266 := n3_; have HO269 := n4_; have BK246 := n5_; have BK247 := n6_; have HB := n7_; clear n0_ n1_ n2_ n3_ n4_ n5_ n6_ n7_; (try clear hb); (try clear hb2); (try clear hk); (try clear hi); (try clear ho0); (try clear ho1); (try clear ho2); (try clear ho3)) | ((with_reducible refine gate_dst (N := 10) rfl ?_); refine box_event ?hg (N := 10) ?hd (cs := #[.slice none 0 0, .int .i64 0, .int .i64 0, .int .i64 0, .int .i64 0, .slice none 0 0, .slice none 0 0, .slice none 0 0]) (t := 48) ?hr ?_; (case hd => rfl); (case hg => rfl); (case hr => first | (go_simp; done) | (go_simp; rfl)); intro gb270 hg w20 hbox hb; have n0_ := Aside0.mk (Kd.R_below (by (with_reducible repeat (first | apply Kd.R_alloc | apply Kd.R_drewN | apply Kd.R_drew)); exact HO252.1) hb); have n1_ := Aside0.mk (Kd.R_below (by (with_reducible repeat (first | apply Kd.R_alloc | apply Kd.R_drewN | apply Kd.R_drew)); exact HO256.1) hb); have n2_ := Aside0.mk (Kd.R_below (by (with_reducible repeat (first | apply Kd.R_alloc | apply Kd.R_drewN | apply Kd.R_drew)); exact HO263.1) hb); have n3_ := Aside0.mk (Kd.R_below (by (with_reducible repeat (first | apply Kd.R_alloc | apply Kd.R_drewN | apply Kd.R_drew)); exact HO266.1) hb); have n4_ := Aside0.mk (Kd.S_below (by (with_reducible repeat (first | apply Kd.S_alloc | apply Kd.S_drewN | apply Kd.S_drew)); exact HO269.1) hb); have n5_ := Aside0.mk (blk_below (g := gb246) (o := .cells #[.slice A0_0 l0_0.length c0_0, .int .i64 a0_1, .int .i64 a0_2, .int .i64 a0_3, .int .i64 a0_4] 40 (0, 0)) (by (with_reducible repeat (first | apply xn18 | apply xd18 | apply xa18)); exact BK246.1) hb); have n6_ := Aside0.mk (blk_below (g := gb247) (o := .cells #[.slice none 0 0, .int .i64 0, .int .i64 0, .int .i64 0, .int .i64 0, .slice none 0 0, .slice none 0 0, .slice none 0 0] 48 (0, 0)) (by (with_reducible repeat (first | apply xn18 | apply xd18 | apply xa18)); exact BK247.1) hb); have n7_ := Aside0.mk (below_step (by with_reducible repeat (first | exact HB.1 | apply ya18 | apply yn18 | apply yd18 | refine below_set ?_ GE246.1 | refine below_set ?_ GE247.1)) hb); have n8_ := Aside0.mk (hbox); have n9_ := Aside0.mk ((by rw [hg]; exact (below_size (by with_reducible repeat (first | exact HB.1 | apply ya18 | apply yn18 | apply yd18 | refine below_set ?_ GE246.1 | refine below_set ?_ GE247.1))) : w.heap.size ≤ gb270)); have n10_ := n9_; have n11_ := Aside0.mk ((by rw [hg]; exact Nat.ne_of_lt (blk_lt (g := gb246) (o := .cells #[.slice A0_0 l0_0.length c0_0, .int .i64 a0_1, .int .i64 a0_2, .int .i64 a0_3, .int .i64 a0_4] 40 (0, 0)) (by (with_reducible repeat (first | apply xn18 | apply xd18 | apply xa18)); exact BK246.1)) : gb246 ≠ gb270)); have n12_ := Aside0.mk ((by rw [hg]; exact Nat.ne_of_gt (blk_lt (g := gb246) (o := .cells #[.slice A0_0 l0_0.length c0_0, .int .i64 a0_1, .int .i64 a0_2, .int .i64 a0_3, .int .i64 a0_4] 40 (0, 0)) (by (with_reducible repeat (first | apply xn18 | apply xd18 | apply xa18)); exact BK246.1)) : gb270 ≠ gb246)); have n13_ := Aside0.mk ((by rw [hg]; exact Nat.ne_of_lt (blk_lt (g := gb247) (o := .cells #[.slice none 0 0, .int .i64 0, .int .i64 0, .int .i64 0, .int .i64 0, .slice none 0 0, .slice none 0 0, .slice none 0 0] 48 (0, 0)) (by (with_reducible repeat (first | apply xn18 | apply xd18 | apply xa18)); exact BK247.1)) : gb247 ≠ gb270)); have n14_ := Aside0.mk ((by rw [hg]; exact Nat.ne_of_gt (blk_lt (g := gb247) (o := .cells #[.slice none 0 0, .int .i64 0, .int .i64 0, .int .i64 0, .int .i64 0, .slice none 0 0, .slice none 0 0, .slice none 0 0] 48 (0, 0)) (by (with_reducible repeat (first | apply xn18 | apply xd18 | apply xa18)); exact BK247.1)) : gb270 ≠ gb247)); clear HO252; clear HO256; clear HO263; clear HO266; clear HO269; clear BK246; clear BK247; clear HB; have HO252 := n0_; have HO256 := n1_; have HO263 := n2_; have HO266 := n3_; have HO269 := n4_; have BK246 := n5_; have BK247 := n6_; have HB := n7_; have BK270 := n8_; have GW270 := n9_; have GE270 := n10_; have NB246_270 := n11_; have NB270_246 := n12_; have NB247_270 := n13_; have NB270_247 := n14_; clear n0_ n1_ n2_ n3_ n4_ n5_ n6_ n7_ n8_ n9_ n10_ n11_ n12_ n13_ n14_; clear hb hbox hg; obtain ⟨Ao21, co21, eo21⟩ := Kd.R_slice HO256.1; subst eo21; have hnb22 := NB270_246.1; have hnc22 := NB246_270.1; have hnb23 := NB270_247.1; have hnc23 := NB247_270.1; obtain ⟨hcz24_0, hcz24_1, hcz24_2, hcz24_3, hcz24_4, hcz24_5, hcz24_6, hcz24_7⟩ := c8_18 BK270.1; obtain ⟨hfz24_0, hfz24_1, hfz24_2, hfz24_3, hfz24_4, hfz24_5, hfz24_6, hfz24_7⟩ := f8_18 BK270.1; obtain ⟨Ao25, co25, eo25⟩ := Kd.R_slice HO263.1; subst eo25; obtain ⟨Ao26, co26, eo26⟩ := Kd.R_slice HO266.1; subst eo26; obtain ⟨Ao27, co27, eo27⟩ := Kd.S_slice HO269.1; subst eo27))
        go_loopg [11] k (fun kq v11 w' => ∃ (x11_1 : Int) (x271007_1 : List (List Int)) (u271007 : Value), v11 = .int .i64 x11_1 ∧ Aside0 (vendmeterref_WorldBegun.l0 kq a2 x11_1 t254 t257 t258 t259 t260 t261 t264 x271007_1 = some (r1, r2, r3, r4, r5, r6, r7, r8, r9)) ∧ Aside0 (kq ≤ k) ∧ Aside0 (Kd.R k126 126 w' w.heap.size (fun _ => True) (.slice Ao21 t254.length co21) t254) ∧ Aside0 (Kd.R (Kd.int .u32) 22 w' w.heap.size (fun _ => True) (.slice Ao25 t261.length co25) t261) ∧ Aside0 (Kd.R k129 129 w' w.heap.size (fun _ => True) (.slice Ao26 t264.length co26) t264) ∧ Aside0 (Kd.S (Kd.slice 22 (Kd.int .u32)) 42 w' w.heap.size (fun k_ => some k_ ≠ ((.slice Ao25 t261.length co25) : Value).ownBlock) u271007 x271007_1) ∧ Aside0 (w'.heap[gb246]? = some (.cells #[(.slice A0_0 l0_0.length c0_0), .int .i64 a0_1, .int .i64 a0_2, .int .i64 a0_3, .int .i64 a0_4] 40 (0, 0))) ∧ Aside0 (w'.heap[gb247]? = some (.cells #[(.slice none 0 0), .int .i64 0, .int .i64 0, .int .i64 0, .int .i64 0, (.slice none 0 0), (.slice none 0 0), (.slice none 0 0)] 48 (0, 0))) ∧ Aside0 (w'.heap[gb270]? = some (.cells #[(.slice Ao21 t254.length co21), .int .i64 t257, .int .i64 t258, .int .i64 t259, .int .i64 t260, (.slice Ao25 t261.length co25), (.slice Ao26 t264.length co26), u271007] 48 (0, 0))) ∧ Aside0 (Below w.heap.size w w'))
        case atStart => exact ⟨(0), (t267), (.slice Ao27 t267.length co27), (by first | rfl | (simp; done) | (simp [*]; done)), H', ⟨Nat.le_refl _⟩, ⟨by (with_reducible repeat (first | apply Kd.R_alloc | apply Kd.R_drewN | apply Kd.R_drew)); exact Kd.R_mono (Kd.R_far (p := ⟨gb270, 7, none⟩) (Kd.R_far (p := ⟨gb270, 6, none⟩) (Kd.R_far (p := ⟨gb270, 5, none⟩) (Kd.R_far (p := ⟨gb270, 4, none⟩) (Kd.R_far (p := ⟨gb270, 3, none⟩) (Kd.R_far (p := ⟨gb270, 2, none⟩) (Kd.R_far (p := ⟨gb270, 1, none⟩) (Kd.R_far (p := ⟨gb270, 0, none⟩) (Kd.R_types HO256.1 BK270.1 (by decide)) (fun _ hk => hk.2) (.slice Ao21 t254.length co21)) (fun _ hk => hk.2) (.int .i64 t257)) (fun _ hk => hk.2) (.int .i64 t258)) (fun _ hk => hk.2) (.int .i64 t259)) (fun _ hk => hk.2) (.int .i64 t260)) (fun _ hk => hk.2) (.slice Ao25 t261.length co25)) (fun _ hk => hk.2) (.slice Ao26 t264.length co26)) (fun _ hk => hk.2) (.slice Ao27 t267.length co27)) (fun _ hk => trivial)⟩, ⟨by (with_reducible repeat (first | apply Kd.R_alloc | apply Kd.R_drewN | apply Kd.R_drew)); exact Kd.R_mono (Kd.R_far (p := ⟨gb270, 7, none⟩) (Kd.R_far (p := ⟨gb270, 6, none⟩) (Kd.R_far (p := ⟨gb270, 5, none⟩) (Kd.R_far (p := ⟨gb270, 4, none⟩) (Kd.R_far (p := ⟨gb270, 3, none⟩) (Kd.R_far (p := ⟨gb270, 2, none⟩) (Kd.R_far (p := ⟨gb270, 1, none⟩) (Kd.R_far (p := ⟨gb270, 0, none⟩) (Kd.R_types HO263.1 BK270.1 (by decide)) (fun _ hk => hk.2) (.slice Ao21 t254.length co21)) (fun _ hk => hk.2) (.int .i64 t257)) (fun _ hk => hk.2) (.int .i64 t258)) (fun _ hk => hk.2) (.int .i64 t259)) (fun _ hk => hk.2) (.int .i64 t260)) (fun _ hk => hk.2) (.slice Ao25 t261.length co25)) (fun _ hk => hk.2) (.slice Ao26 t264.length co26)) (fun _ hk => hk.2) (.slice Ao27 t267.length co27)) (fun _ hk => trivial)⟩, ⟨by (with_reducible repeat (first | apply Kd.R_alloc | apply Kd.R_drewN | apply Kd.R_drew)); exact Kd.R_mono (Kd.R_far (p := ⟨gb270, 7, none⟩) (Kd.R_far (p := ⟨gb270, 6, none⟩) (Kd.R_far (p := ⟨gb270, 5, none⟩) (Kd.R_far (p := ⟨gb270, 4, none⟩) (Kd.R_far (p := ⟨gb270, 3, none⟩) (Kd.R_far (p := ⟨gb270, 2, none⟩) (Kd.R_far (p := ⟨gb270, 1, none⟩) (Kd.R_far (p := ⟨gb270, 0, none⟩) (Kd.R_types HO266.1 BK270.1 (by decide)) (fun _ hk => hk.2) (.slice Ao21 t254.length co21)) (fun _ hk => hk.2) (.int .i64 t257)) (fun _ hk => hk.2) (.int .i64 t258)) (fun _ hk => hk.2) (.int .i64 t259)) (fun _ hk => hk.2) (.int .i64 t260)) (fun _ hk => hk.2) (.slice Ao25 t261.length co25)) (fun _ hk => hk.2) (.slice Ao26 t264.length co26)) (fun _ hk => hk.2) (.slice Ao27 t267.length co27)) (fun _ hk => trivial)⟩, ⟨by (with_reducible repeat (first | apply Kd.S_alloc | apply Kd.S_drewN | apply Kd.S_drew)); exact Kd.S_mono (Kd.S_far (p := ⟨gb270, 7, none⟩) (Kd.S_far (p := ⟨gb270, 6, none⟩) (Kd.S_far (p := ⟨gb270, 5, none⟩) (Kd.S_far (p := ⟨gb270, 4, none⟩) (Kd.S_far (p := ⟨gb270, 3, none⟩) (Kd.S_far (p := ⟨gb270, 2, none⟩) (Kd.S_far (p := ⟨gb270, 1, none⟩) (Kd.S_far (p := ⟨gb270, 0, none⟩) (Kd.S_types HO269.1 BK270.1 (by decide)) (fun _ hk => hk.2) (.slice Ao21 t254.length co21)) (fun _ hk => hk.2) (.int .i64 t257)) (fun _ hk => hk.2) (.int .i64 t258)) (fun _ hk => hk.2) (.int .i64 t259)) (fun _ hk => hk.2) (.int .i64 t260)) (fun _ hk => hk.2) (.slice Ao25 t261.length co25)) (fun _ hk => hk.2) (.slice Ao26 t264.length co26)) (fun _ hk => hk.2) (.slice Ao27 t267.length co27)) (fun _ hk => hk.1.1)⟩, ⟨by (with_reducible repeat (first | apply xn18 | apply xd18 | apply xa18)); refine blk_far ?_ NB246_270.1 _; (with_reducible repeat (first | apply xn18 | apply xd18 | apply xa18)); refine blk_far ?_ NB246_270.1 _; (with_reducible repeat (first | apply xn18 | apply xd18 | apply xa18)); refine blk_far ?_ NB246_270.1 _; (with_reducible repeat (first | apply xn18 | apply xd18 | apply xa18)); refine blk_far ?_ NB246_270.1 _; (with_reducible repeat (first | apply xn18 | apply xd18 | apply xa18)); refine blk_far ?_ NB246_270.1 _; (with_reducible repeat (first | apply xn18 | apply xd18 | apply xa18)); refine blk_far ?_ NB246_270.1 _; (with_reducible repeat (first | apply xn18 | apply xd18 | apply xa18)); refine blk_far ?_ NB246_270.1 _; (with_reducible repeat (first | apply xn18 | apply xd18 | apply xa18)); refine blk_far ?_ NB246_270.1 _; (with_reducible repeat (first | apply xn18 | apply xd18 | apply xa18)); exact BK246.1⟩, ⟨by (with_reducible repeat (first | apply xn18 | apply xd18 | apply xa18)); refine blk_far ?_ NB247_270.1 _; (with_reducible repeat (first | apply xn18 | apply xd18 | apply xa18)); refine blk_far ?_ NB247_270.1 _; (with_reducible repeat (first | apply xn18 | apply xd18 | apply xa18)); refine blk_far ?_ NB247_270.1 _; (with_reducible repeat (first | apply xn18 | apply xd18 | apply xa18)); refine blk_far ?_ NB247_270.1 _; (with_reducible repeat (first | apply xn18 | apply xd18 | apply xa18)); refine blk_far ?_ NB247_270.1 _; (with_reducible repeat (first | apply xn18 | apply xd18 | apply xa18)); refine blk_far ?_ NB247_270.1 _; (with_reducible repeat (first | apply xn18 | apply xd18 | apply xa18)); refine blk_far ?_ NB247_270.1 _; (with_reducible repeat (first | apply xn18 | apply xd18 | apply xa18)); refine blk_far ?_ NB247_270.1 _; (with_reducible repeat (first | apply xn18 | apply xd18 | apply xa18)); exact BK247.1⟩, ⟨by (with_reducible repeat (first | apply xn18 | apply xd18 | apply xa18)); refine blk_put (cs := #[.slice Ao21 t254.length co21, .int .i64 t257, .int .i64 t258, .int .i64 t259, .int .i64 t260, .slice Ao25 t261.length co25, .slice Ao26 t264.length co26, .slice none 0 0]) ?_ 7 _ rfl; (with_reducible repeat (first | apply xn18 | apply xd18 | apply xa18)); refine blk_put (cs := #[.slice Ao21 t254.length co21, .int .i64 t257, .int .i64 t258, .int .i64 t259, .int .i64 t260, .slice Ao25 t261.length co25, .slice none 0 0, .slice none 0 0]) ?_ 6 _ rfl; (with_reducible repeat (first | apply xn18 | apply xd18 | apply xa18)); refine blk_put (cs := #[.slice Ao21 t254.length co21, .int .i64 t257, .int .i64 t258, .int .i64 t259, .int .i64 t260, .slice none 0 0, .slice none 0 0, .slice none 0 0]) ?_ 5 _ rfl; (with_reducible repeat (first | apply xn18 | apply xd18 | apply xa18)); refine blk_put (cs := #[.slice Ao21 t254.length co21, .int .i64 t257, .int .i64 t258, .int .i64 t259, .int .i64 0, .slice none 0 0, .slice none 0 0, .slice none 0 0]) ?_ 4 _ rfl; (with_reducible repeat (first | apply xn18 | apply xd18 | apply xa18)); refine blk_put (cs := #[.slice Ao21 t254.length co21, .int .i64 t257, .int .i64 t258, .int .i64 0, .int .i64 0, .slice none 0 0, .slice none 0 0, .slice none 0 0]) ?_ 3 _ rfl; (with_reducible repeat (first | apply xn18 | apply xd18 | apply xa18)); refine blk_put (cs := #[.slice Ao21 t254.length co21, .int .i64 t257, .int .i64 0, .int .i64 0, .int .i64 0, .slice none 0 0, .slice none 0 0, .slice none 0 0]) ?_ 2 _ rfl; (with_reducible repeat (first | apply xn18 | apply xd18 | apply xa18)); refine blk_put (cs := #[.slice Ao21 t254.length co21, .int .i64 0, .int .i64 0, .int .i64 0, .int .i64 0, .slice none 0 0, .slice none 0 0, .slice none 0 0]) ?_ 1 _ rfl; (with_reducible repeat (first | apply xn18 | apply xd18 | apply xa18)); refine blk_put (cs := #[.slice none 0 0, .int .i64 0, .int .i64 0, .int .i64 0, .int .i64 0, .slice none 0 0, .slice none 0 0, .slice none 0 0]) ?_ 0 _ rfl; (with_reducible repeat (first | apply xn18 | apply xd18 | apply xa18)); exact BK270.1⟩, ⟨by repeat (first | (with_reducible first | exact HB.1 | apply below_alloc | apply pw_below_drewN | apply below_drew1 | refine below_set ?_ GE246.1 | refine below_set ?_ GE247.1 | refine below_set ?_ GE270.1) | exact HB.1)⟩⟩
        case round =>
          clear H'
          try clear c1
          try clear c2
          try clear p2
          try clear c4
          try clear c5
          try clear c5b0
          try clear c5b1
          try clear c7
          try clear c7b0
          try clear c7b1
          try clear c9
          try clear c13
          try clear c18
          try clear c22
          try clear c23
          try clear hcz14_0
          try clear hcz14_1
          try clear hcz14_2
          try clear hcz14_3
          try clear hcz14_4
          try clear hcz17_0
          try clear hcz17_1
          try clear hcz17_2
          try clear hcz17_3
          try clear hcz17_4
          try clear hcz24_0
          try clear hcz24_1
          try clear hcz24_2
          try clear hcz24_3
          try clear hcz24_4
          try clear hcz24_5
          try clear hcz24_6
          try clear hcz24_7
          try clear hfz14_0
          try clear hfz14_1
          try clear hfz14_2
          try clear hfz14_3
          try clear hfz14_4
          try clear hfz17_0
          try clear hfz17_1
          try clear hfz17_2
          try clear hfz17_3
          try clear hfz17_4
          try clear hfz24_0
          try clear hfz24_1
          try clear hfz24_2
          try clear hfz24_3
          try clear hfz24_4
          try clear hfz24_5
          try clear hfz24_6
          try clear hfz24_7
          obtain ⟨x11_1, x271007_1, u271007, rfl, HA, HK1, HO_271000, HO_271005, HO_271006, HO_271007, BK246, BK247, BK270, HB⟩ := hrel
          cases gk with
          | zero => exact absurd HA.out (by simp [vendmeterref_WorldBegun.l0])
          | succ k1 =>
            have H := HA.out
            clear HA
            simp only [vendmeterref_WorldBegun.l0] at H
            by_cases c28 : x11_1 < a2
            · rw [if_pos c28] at H
              have c28b0 : decide (x11_1 < a2) = true := decide_eq_true c28
              clear c28
              replace H := Option.bind_eq_some_iff.mp H
              obtain ⟨⟨t271, t272⟩, A290, H⟩ := H
              replace H : (if x271007_1.length < 5864062014805 then (vendmeterref_WorldBegun.l0 k1 a2 (wrap64 (x11_1 + 1)) t254 t257 t258 t259 t260 t261 t264 (x271007_1 ++ [t271])) else (none)) = some (r1, r2, r3, r4, r5, r6, r7, r8, r9) := H
              have A29 := Aside0.mk A290
              clear A290
              by_cases c30 : x271007_1.length < 5864062014805
              · rw [if_pos c30] at H
                have LMc30 := Aside0.mk c30
                clear c30
                obtain ⟨y275, hy275⟩ : ∃ y_ : List (List Int), y_ = (x271007_1 ++ [t271]) := ⟨_, rfl⟩
                replace H : (vendmeterref_WorldBegun.l0 k1 a2 (wrap64 (x11_1 + 1)) t254 t257 t258 t259 t260 t261 t264 y275) = some (r1, r2, r3, r4, r5, r6, r7, r8, r9) := by first | (rw [hy275]; with_reducible exact H) | (have H2_ := (Option.bind_some _ _).symm.trans H; rw [hy275]; with_reducible exact H2_) | (have H2_ := (Option.bind_some _ _).symm.trans H; with_reducible exact H2_) | with_reducible exact H | (rw [hy275]; exact H) | exact H
                have Ny275 := Aside0.mk hy275
                clear hy275
                have H' := Aside0.mk H
                clear H
                go_wp2_with (first | ((with_reducible refine gate_callee (f := 45) rfl ?_); refine goesL_ (some 44) rfl rfl Try.func45 (by kernel_rfl) rfl #[.int .i64 x11_1] rfl (by (try simp only [List.map_toArray, List.map_cons, List.map_nil]); first | done | rfl | (simp only [List.length_drop, List.length_take]; rfl)) ?_; (with_reducible refine (vendmeterref_PocketMade.calls x11_1 t271 t272 _ A29.out).mono ?_); rintro e w31 ⟨v273, rfl, ho0, hb⟩; refine ⟨_, rfl, ?_⟩; have n0_ := Aside0.mk (Kd.R_below (by (with_reducible repeat (first | apply Kd.R_alloc | apply Kd.R_drewN | apply Kd.R_drew)); exact HO_271000.out) hb); have n1_ := Aside0.mk (Kd.R_elder' (by (with_reducible repeat (first | apply Kd.R_alloc | apply Kd.R_drewN | apply Kd.R_drew)); exact HO_271005.out) (Kd.R_base ho0) hb); have n2_ := Aside0.mk (Kd.R_below (by (with_reducible repeat (first | apply Kd.R_alloc | apply Kd.R_drewN | apply Kd.R_drew)); exact HO_271006.out) hb); have n3_ := Aside0.mk (Kd.S_elder' (by (with_reducible repeat (first | apply Kd.S_alloc | apply Kd.S_drewN | apply Kd.S_drew)); exact HO_271007.out) (Kd.R_base ho0) hb); have n4_ := Aside0.mk (Kd.R_lower (Kd.R_new' ho0 (Kd.R_lt (by (with_reducible repeat (first | apply Kd.R_alloc | apply Kd.R_drewN | apply Kd.R_drew)); exact HO_271005.out))) (below_size (by with_reducible repeat (first | exact HB.1 | apply ya18 | apply yn18 | apply yd18 | refine below_set ?_ GE246.1 | refine below_set ?_ GE247.1 | refine below_set ?_ GE270.1)))); have n5_ := Aside0.mk (blk_below (g := gb246) (o := .cells #[.slice A0_0 l0_0.length c0_0, .int .i64 a0_1, .int .i64 a0_2, .int .i64 a0_3, .int .i64 a0_4] 40 (0, 0)) (by (with_reducible repeat (first | apply xn18 | apply xd18 | apply xa18)); exact BK246.1) hb); have n6_ := Aside0.mk (blk_below (g := gb247) (o := .cells #[.slice none 0 0, .int .i64 0, .int .i64 0, .int .i64 0, .int .i64 0, .slice none 0 0, .slice none 0 0, .slice none 0 0] 48 (0, 0)) (by (with_reducible repeat (first | apply xn18 | apply xd18 | apply xa18)); exact BK247.1) hb); have n7_ := Aside0.mk (blk_below (g := gb270) (o := .cells #[.slice Ao21 t254.length co21, .int .i64 t257, .int .i64 t258, .int .i64 t259, .int .i64 t260, .slice Ao25 t261.length co25, .slice Ao26 t264.length co26, u271007] 48 (0, 0)) (by (with_reducible repeat (first | apply xn18 | apply xd18 | apply xa18)); exact BK270.1) hb); have n8_ := Aside0.mk (below_step (by with_reducible repeat (first | exact HB.1 | apply ya18 | apply yn18 | apply yd18 | refine below_set ?_ GE246.1 | refine below_set ?_ GE247.1 | refine below_set ?_ GE270.1)) hb); clear HO_271000; clear HO_271005; clear HO_271006; clear HO_271007; clear BK246; clear BK247; clear BK270; clear HB; have HO_271000 := n0_; have HO_271005 := n1_; have HO_271006 := n2_; have HO_271007 := n3_; have HO274 := n4_; have BK246 := n5_; have BK247 := n6_; have BK270 := n7_; have HB := n8_; clear n0_ n1_ n2_ n3_ n4_ n5_ n6_ n7_ n8_; (try clear hb); (try clear hb2); (try clear hk); (try clear hi); (try clear ho0); have hnb32 := NB270_246.1; have hnc32 := NB246_270.1; have hnb33 := NB270_247.1; have hnc33 := NB247_270.1; obtain ⟨hcz34_0, hcz34_1, hcz34_2, hcz34_3, hcz34_4, hcz34_5, hcz34_6, hcz34_7⟩ := c8_18 BK270.1; obtain ⟨hfz34_0, hfz34_1, hfz34_2, hfz34_3, hfz34_4, hfz34_5, hfz34_6, hfz34_7⟩ := f8_18 BK270.1; obtain ⟨Ao36, co36, eo36⟩ := Kd.R_slice HO274.1; subst eo36) | ((with_reducible refine gate_builtin (b := .append) (xs := #[.tmp 48, .tmp 50]) rfl ?_); at_builtin; refine Kd.S_append (Kd.slice 22 (Kd.int .u32)) (w0 := w) w.heap.size rfl (.tmp 48) (.tmp 50) 46 42 (.slice none 0 0) 24 rfl Try.underlying46 info42 rfl (by decide) (by omega) u271007 x271007_1 t271 [.slice Ao36 t271.length co36] (fun k_ => some k_ ≠ (.slice Ao25 t261.length co25 : Value).ownBlock) (fun k_ => some k_ = (.slice Ao36 t271.length co36 : Value).ownBlock) rfl rfl ?aP (fun k_ hk_ => ((Kd.R_mono (ok' := fun k_ => ((fun k_ => some k_ ≠ (.slice Ao25 t261.length co25 : Value).ownBlock)) k_ ∧ some k_ ≠ (u271007 : Value).ownBlock) (Kd.R_apart' (HO274.1) (Kd.S_typed HO_271007.out) (by decide)) (fun k_ hk => ⟨hk.1.2, hk.2⟩))).1 k_ hk_.symm) ?aF ?aO ?aB ?aS ?aL ?_; (case aP => exact Kd.M_row (Kd.R_mono (Kd.R_tight rfl (Kd.R_mono (ok' := fun k_ => ((fun k_ => some k_ ≠ (.slice Ao25 t261.length co25 : Value).ownBlock)) k_ ∧ some k_ ≠ (u271007 : Value).ownBlock) (Kd.R_apart' (HO274.1) (Kd.S_typed HO_271007.out) (by decide)) (fun k_ hk => ⟨hk.1.2, hk.2⟩))) (fun _ h_ => h_))); (case aB => exact (by with_reducible repeat (first | exact HB.1 | apply ya18 | apply yn18 | apply yd18 | refine below_set ?_ GE246.1 | refine below_set ?_ GE247.1 | refine below_set ?_ GE270.1))); (case aF => exact (fun k_ hk => Kd.fresh' (Kd.R_lt (by (with_reducible repeat (first | apply Kd.R_alloc | apply Kd.R_drewN | apply Kd.R_drew)); exact HO_271005.out)) k_ hk)); (case aO => exact (by (with_reducible repeat (first | apply Kd.S_alloc | apply Kd.S_drewN | apply Kd.S_drew)); exact Kd.S_mono HO_271007.out (fun k_ hk => ⟨hk.1, fun e_ => hk.2 e_⟩))); (case aS => exact (below_size (by with_reducible repeat (first | exact HB.1 | apply ya18 | apply yn18 | apply yd18 | refine below_set ?_ GE246.1 | refine below_set ?_ GE247.1 | refine below_set ?_ GE270.1)))); (case aL => have := LMc30.out; omega); intro v276 w35 ho hb hg hat; rw [← Ny275.out] at ho; have n0_ := Aside0.mk (Kd.R_over' (by (with_reducible repeat (first | apply Kd.R_alloc | apply Kd.R_drewN | apply Kd.R_drew)); exact HO_271000.out) (Kd.S_typed (by (with_reducible repeat (first | apply Kd.S_alloc | apply Kd.S_drewN | apply Kd.S_drew)); exact HO_271007.out)) (by decide) hg); have n1_ := Aside0.mk (Kd.R_over' (by (with_reducible repeat (first | apply Kd.R_alloc | apply Kd.R_drewN | apply Kd.R_drew)); exact HO_271005.out) (Kd.S_typed (by (with_reducible repeat (first | apply Kd.S_alloc | apply Kd.S_drewN | apply Kd.S_drew)); exact HO_271007.out)) (by decide) hg); have n2_ := Aside0.mk (Kd.R_over' (by (with_reducible repeat (first | apply Kd.R_alloc | apply Kd.R_drewN | apply Kd.R_drew)); exact HO_271006.out) (Kd.S_typed (by (with_reducible repeat (first | apply Kd.S_alloc | apply Kd.S_drewN | apply Kd.S_drew)); exact HO_271007.out)) (by decide) hg); have n3_ := Aside0.mk (blk_grown (g := gb246) (o := .cells #[.slice A0_0 l0_0.length c0_0, .int .i64 a0_1, .int .i64 a0_2, .int .i64 a0_3, .int .i64 a0_4] 40 (0, 0)) (by (with_reducible repeat (first | apply xn18 | apply xd18 | apply xa18)); exact BK246.1) hg (Kd.S_ne HO_271007.out BK246.1 (by decide))); have n4_ := Aside0.mk (blk_grown (g := gb247) (o := .cells #[.slice none 0 0, .int .i64 0, .int .i64 0, .int .i64 0, .int .i64 0, .slice none 0 0, .slice none 0 0, .slice none 0 0] 48 (0, 0)) (by (with_reducible repeat (first | apply xn18 | apply xd18 | apply xa18)); exact BK247.1) hg (Kd.S_ne HO_271007.out BK247.1 (by decide))); have n5_ := Aside0.mk (blk_grown (g := gb270) (o := .cells #[.slice Ao21 t254.length co21, .int .i64 t257, .int .i64 t258, .int .i64 t259, .int .i64 t260, .slice Ao25 t261.length co25, .slice Ao26 t264.length co26, u271007] 48 (0, 0)) (by (with_reducible repeat (first | apply xn18 | apply xd18 | apply xa18)); exact BK270.1) hg (Kd.S_ne HO_271007.out BK270.1 (by decide))); have n6_ := Aside0.mk (hb); have n7_ := Aside0.mk (ho); clear HO_271000; clear HO_271005; clear HO_271006; clear BK246; clear BK247; clear BK270; clear HB; clear HO_271007; clear HO274; have HO_271000 := n0_; have HO_271005 := n1_; have HO_271006 := n2_; have BK246 := n3_; have BK247 := n4_; have BK270 := n5_; have HB := n6_; have HO277 := n7_; clear n0_ n1_ n2_ n3_ n4_ n5_ n6_ n7_; clear ho hb hg hat; obtain ⟨Ao37, co37, eo37⟩ := Kd.S_slice HO277.1; subst eo37; obtain ⟨hcz38_0, hcz38_1, hcz38_2, hcz38_3, hcz38_4, hcz38_5, hcz38_6, hcz38_7⟩ := c8_18 BK270.1; obtain ⟨hfz38_0, hfz38_1, hfz38_2, hfz38_3, hfz38_4, hfz38_5, hfz38_6, hfz38_7⟩ := f8_18 BK270.1))
                go_roundg k1
                case measure => have := HK1.out; omega
                case rel => exact ⟨(wrap64 (x11_1 + 1)), (y275), (.slice Ao37 y275.length co37), (by first | rfl | (simp; done) | (simp [*]; done)), H', ⟨by have := HK1.out; omega⟩, ⟨by (with_reducible repeat (first | apply Kd.R_alloc | apply Kd.R_drewN | apply Kd.R_drew)); exact Kd.R_mono (Kd.R_far (p := ⟨gb270, 7, none⟩) (Kd.R_types HO_271000.out BK270.1 (by decide)) (fun _ hk => hk.2) (.slice Ao37 y275.length co37)) (fun _ hk => trivial)⟩, ⟨by (with_reducible repeat (first | apply Kd.R_alloc | apply Kd.R_drewN | apply Kd.R_drew)); exact Kd.R_mono (Kd.R_far (p := ⟨gb270, 7, none⟩) (Kd.R_types HO_271005.out BK270.1 (by decide)) (fun _ hk => hk.2) (.slice Ao37 y275.length co37)) (fun _ hk => trivial)⟩, ⟨by (with_reducible repeat (first | apply Kd.R_alloc | apply Kd.R_drewN | apply Kd.R_drew)); exact Kd.R_mono (Kd.R_far (p := ⟨gb270, 7, none⟩) (Kd.R_types HO_271006.out BK270.1 (by decide)) (fun _ hk => hk.2) (.slice Ao37 y275.length co37)) (fun _ hk => trivial)⟩, ⟨by (with_reducible repeat (first | apply Kd.S_alloc | apply Kd.S_drewN | apply Kd.S_drew)); exact Kd.S_mono (Kd.S_far (p := ⟨gb270, 7, none⟩) (Kd.S_types HO277.1 BK270.1 (by decide)) (fun _ hk => hk.2) (.slice Ao37 y275.length co37)) (fun _ hk => hk.1)⟩, ⟨by (with_reducible repeat (first | apply xn18 | apply xd18 | apply xa18)); refine blk_far ?_ NB246_270.1 _; (with_reducible repeat (first | apply xn18 | apply xd18 | apply xa18)); exact BK246.1⟩, ⟨by (with_reducible repeat (first | apply xn18 | apply xd18 | apply xa18)); refine blk_far ?_ NB247_270.1 _; (with_reducible repeat (first | apply xn18 | apply xd18 | apply xa18)); exact BK247.1⟩, ⟨by (with_reducible repeat (first | apply xn18 | apply xd18 | apply xa18)); refine blk_put (cs := #[.slice Ao21 t254.length co21, .int .i64 t257, .int .i64 t258, .int .i64 t259, .int .i64 t260, .slice Ao25 t261.length co25, .slice Ao26 t264.length co26, u271007]) ?_ 7 _ rfl; (with_reducible repeat (first | apply xn18 | apply xd18 | apply xa18)); exact BK270.1⟩, ⟨by repeat (first | (with_reducible first | exact HB.1 | apply below_alloc | apply pw_below_drewN | apply below_drew1 | refine below_set ?_ GE246.1 | refine below_set ?_ GE247.1 | refine below_set ?_ GE270.1) | exact HB.1)⟩⟩
              · rw [if_neg c30] at H
                exact absurd H (by simp)
            · rw [if_neg c28] at H
              have c28b0 : decide (x11_1 < a2) = false := decide_eq_false c28
              clear c28
              simp only [Option.some.injEq, Prod.mk.injEq] at H
              obtain ⟨rfl, rfl, rfl, rfl, rfl, rfl, rfl, rfl, rfl⟩ := H
              have hnb39 := NB270_246.1
              have hnc39 := NB246_270.1
              have hnb40 := NB270_247.1
              have hnc40 := NB247_270.1
              obtain ⟨hcz41_0, hcz41_1, hcz41_2, hcz41_3, hcz41_4, hcz41_5, hcz41_6, hcz41_7⟩ := c8_18 BK270.1
              obtain ⟨hfz41_0, hfz41_1, hfz41_2, hfz41_3, hfz41_4, hfz41_5, hfz41_6, hfz41_7⟩ := f8_18 BK270.1
              have hnb42 := NB247_246.1
              have hnc42 := NB246_247.1
              obtain ⟨hcz43_0, hcz43_1, hcz43_2, hcz43_3, hcz43_4, hcz43_5, hcz43_6, hcz43_7⟩ := c8_18 BK247.1
              obtain ⟨hfz43_0, hfz43_1, hfz43_2, hfz43_3, hfz43_4, hfz43_5, hfz43_6, hfz43_7⟩ := f8_18 BK247.1
              obtain ⟨Ao44, co44, eo44⟩ := Kd.S_slice HO_271007.out
              subst eo44
              go_wp2
              refine bodyPost_ret (results_ct rfl _ _ gb247 48 #[.slice Ao21 t254.length co21, .int .i64 t257, .int .i64 t258, .int .i64 t259, .int .i64 t260, .slice Ao25 t261.length co25, .slice Ao26 t264.length co26, .slice Ao44 x271007_1.length co44] (0, 0) _ rfl (by (with_reducible repeat (first | apply xn18 | apply xd18 | apply xa18)); refine blk_put (cs := #[.slice Ao21 t254.length co21, .int .i64 t257, .int .i64 t258, .int .i64 t259, .int .i64 t260, .slice Ao25 t261.length co25, .slice Ao26 t264.length co26, .slice none 0 0]) ?_ 7 _ rfl; (with_reducible repeat (first | apply xn18 | apply xd18 | apply xa18)); refine blk_put (cs := #[.slice Ao21 t254.length co21, .int .i64 t257, .int .i64 t258, .int .i64 t259, .int .i64 t260, .slice Ao25 t261.length co25, .slice none 0 0, .slice none 0 0]) ?_ 6 _ rfl; (with_reducible repeat (first | apply xn18 | apply xd18 | apply xa18)); refine blk_put (cs := #[.slice Ao21 t254.length co21, .int .i64 t257, .int .i64 t258, .int .i64 t259, .int .i64 t260, .slice none 0 0, .slice none 0 0, .slice none 0 0]) ?_ 5 _ rfl; (with_reducible repeat (first | apply xn18 | apply xd18 | apply xa18)); refine blk_put (cs := #[.slice Ao21 t254.length co21, .int .i64 t257, .int .i64 t258, .int .i64 t259, .int .i64 0, .slice none 0 0, .slice none 0 0, .slice none 0 0]) ?_ 4 _ rfl; (with_reducible repeat (first | apply xn18 | apply xd18 | apply xa18)); refine blk_put (cs := #[.slice Ao21 t254.length co21, .int .i64 t257, .int .i64 t258, .int .i64 0, .int .i64 0, .slice none 0 0, .slice none 0 0, .slice none 0 0]) ?_ 3 _ rfl; (with_reducible repeat (first | apply xn18 | apply xd18 | apply xa18)); refine blk_put (cs := #[.slice Ao21 t254.length co21, .int .i64 t257, .int .i64 0, .int .i64 0, .int .i64 0, .slice none 0 0, .slice none 0 0, .slice none 0 0]) ?_ 2 _ rfl; (with_reducible repeat (first | apply xn18 | apply xd18 | apply xa18)); refine blk_put (cs := #[.slice Ao21 t254.length co21, .int .i64 0, .int .i64 0, .int .i64 0, .int .i64 0, .slice none 0 0, .slice none 0 0, .slice none 0 0]) ?_ 1 _ rfl; (with_reducible repeat (first | apply xn18 | apply xd18 | apply xa18)); refine blk_put (cs := #[.slice none 0 0, .int .i64 0, .int .i64 0, .int .i64 0, .int .i64 0, .slice none 0 0, .slice none 0 0, .slice none 0 0]) ?_ 0 _ rfl; (with_reducible repeat (first | apply xn18 | apply xd18 | apply xa18)); exact BK247.1) Try.underlying48 rfl (by kernel_rfl)) rfl ?_
              exact ⟨_, _, _, _, by first | rfl | (simp [errW_none, errW_some] <;> rfl) | (simp [*, errW_none, errW_some] <;> rfl), by (with_reducible repeat (first | apply Kd.R_alloc | apply Kd.R_drewN | apply Kd.R_drew)); exact Kd.R_mono (Kd.R_far (p := ⟨gb247, 7, none⟩) (Kd.R_far (p := ⟨gb247, 6, none⟩) (Kd.R_far (p := ⟨gb247, 5, none⟩) (Kd.R_far (p := ⟨gb247, 4, none⟩) (Kd.R_far (p := ⟨gb247, 3, none⟩) (Kd.R_far (p := ⟨gb247, 2, none⟩) (Kd.R_far (p := ⟨gb247, 1, none⟩) (Kd.R_far (p := ⟨gb247, 0, none⟩) (Kd.R_types HO_271000.out BK247.1 (by decide)) (fun _ hk => hk.2) (.slice Ao21 t254.length co21)) (fun _ hk => hk.2) (.int .i64 t257)) (fun _ hk => hk.2) (.int .i64 t258)) (fun _ hk => hk.2) (.int .i64 t259)) (fun _ hk => hk.2) (.int .i64 t260)) (fun _ hk => hk.2) (.slice Ao25 t261.length co25)) (fun _ hk => hk.2) (.slice Ao26 t264.length co26)) (fun _ hk => hk.2) (.slice Ao44 x271007_1.length co44)) (fun _ hk => trivial), by (with_reducible repeat (first | apply Kd.R_alloc | apply Kd.R_drewN | apply Kd.R_drew)); exact Kd.R_mono (Kd.R_far (p := ⟨gb247, 7, none⟩) (Kd.R_far (p := ⟨gb247, 6, none⟩) (Kd.R_far (p := ⟨gb247, 5, none⟩) (Kd.R_far (p := ⟨gb247, 4, none⟩) (Kd.R_far (p := ⟨gb247, 3, none⟩) (Kd.R_far (p := ⟨gb247, 2, none⟩) (Kd.R_far (p := ⟨gb247, 1, none⟩) (Kd.R_far (p := ⟨gb247, 0, none⟩) (Kd.R_types HO_271005.out BK247.1 (by decide)) (fun _ hk => hk.2) (.slice Ao21 t254.length co21)) (fun _ hk => hk.2) (.int .i64 t257)) (fun _ hk => hk.2) (.int .i64 t258)) (fun _ hk => hk.2) (.int .i64 t259)) (fun _ hk => hk.2) (.int .i64 t260)) (fun _ hk => hk.2) (.slice Ao25 t261.length co25)) (fun _ hk => hk.2) (.slice Ao26 t264.length co26)) (fun _ hk => hk.2) (.slice Ao44 x271007_1.length co44)) (fun _ hk => trivial), by (with_reducible repeat (first | apply Kd.R_alloc | apply Kd.R_drewN | apply Kd.R_drew)); exact Kd.R_mono (Kd.R_far (p := ⟨gb247, 7, none⟩) (Kd.R_far (p := ⟨gb247, 6, none⟩) (Kd.R_far (p := ⟨gb247, 5, none⟩) (Kd.R_far (p := ⟨gb247, 4, none⟩) (Kd.R_far (p := ⟨gb247, 3, none⟩) (Kd.R_far (p := ⟨gb247, 2, none⟩) (Kd.R_far (p := ⟨gb247, 1, none⟩) (Kd.R_far (p := ⟨gb247, 0, none⟩) (Kd.R_types HO_271006.out BK247.1 (by decide)) (fun _ hk => hk.2) (.slice Ao21 t254.length co21)) (fun _ hk => hk.2) (.int .i64 t257)) (fun _ hk => hk.2) (.int .i64 t258)) (fun _ hk => hk.2) (.int .i64 t259)) (fun _ hk => hk.2) (.int .i64 t260)) (fun _ hk => hk.2) (.slice Ao25 t261.length co25)) (fun _ hk => hk.2) (.slice Ao26 t264.length co26)) (fun _ hk => hk.2) (.slice Ao44 x271007_1.length co44)) (fun _ hk => trivial), by (with_reducible repeat (first | apply Kd.S_alloc | apply Kd.S_drewN | apply Kd.S_drew)); exact Kd.S_mono (Kd.S_far (p := ⟨gb247, 7, none⟩) (Kd.S_far (p := ⟨gb247, 6, none⟩) (Kd.S_far (p := ⟨gb247, 5, none⟩) (Kd.S_far (p := ⟨gb247, 4, none⟩) (Kd.S_far (p := ⟨gb247, 3, none⟩) (Kd.S_far (p := ⟨gb247, 2, none⟩) (Kd.S_far (p := ⟨gb247, 1, none⟩) (Kd.S_far (p := ⟨gb247, 0, none⟩) (Kd.S_types HO_271007.out BK247.1 (by decide)) (fun _ hk => hk.2) (.slice Ao21 t254.length co21)) (fun _ hk => hk.2) (.int .i64 t257)) (fun _ hk => hk.2) (.int .i64 t258)) (fun _ hk => hk.2) (.int .i64 t259)) (fun _ hk => hk.2) (.int .i64 t260)) (fun _ hk => hk.2) (.slice Ao25 t261.length co25)) (fun _ hk => hk.2) (.slice Ao26 t264.length co26)) (fun _ hk => hk.2) (.slice Ao44 x271007_1.length co44)) (fun _ hk => hk.1), by repeat (first | (with_reducible first | exact HB.1 | apply below_alloc | apply pw_below_drewN | apply below_drew1 | refine below_set ?_ GE246.1 | refine below_set ?_ GE247.1 | refine below_set ?_ GE270.1) | exact HB.1)⟩
      · replace c9 := Bool.eq_false_iff.mpr c9
        subst c9
        have H1 : (some (([] : List (S126)), 0, 0, 0, 0, ([] : List Int), ([] : List (S129)), ([] : List (List Int)), 2)) = some (r1, r2, r3, r4, r5, r6, r7, r8, r9) := by rw [if_neg (show ¬ (false = true) by decide)] at H; exact H
        clear H
        have H := H1
        clear H1
        simp only [Option.some.injEq, Prod.mk.injEq] at H
        obtain ⟨rfl, rfl, rfl, rfl, rfl, rfl, rfl, rfl, rfl⟩ := H
        go_enter Try.func18, Try.ntmps18
        go_wp2_with (first | ((with_reducible refine gate_dst (N := 3) rfl ?_); refine box_event ?hg (N := 3) ?hd (cs := #[.slice A0_0 l0_0.length c0_0, .int .i64 a0_1, .int .i64 a0_2, .int .i64 a0_3, .int .i64 a0_4]) (t := 40) ?hr ?_; (case hd => rfl); (case hg => rfl); (case hr => first | (go_simp; done) | (go_simp; rfl)); intro gb246 hg w45 hbox hb; have n0_ := Aside0.mk (below_step (by with_reducible repeat (first | exact HB.1 | apply ya18 | apply yn18 | apply yd18)) hb); have n1_ := Aside0.mk (hbox); have n2_ := Aside0.mk ((by rw [hg]; exact (below_size (by with_reducible repeat (first | exact HB.1 | apply ya18 | apply yn18 | apply yd18))) : w.heap.size ≤ gb246)); have n3_ := n2_; clear HB; have HB := n0_; have BK246 := n1_; have GW246 := n2_; have GE246 := n3_; clear n0_ n1_ n2_ n3_; clear hb hbox hg) | ((with_reducible refine gate_dst (N := 6) rfl ?_); refine box_event ?hg (N := 6) ?hd (cs := #[.slice none 0 0, .int .i64 0, .int .i64 0, .int .i64 0, .int .i64 0, .slice none 0 0, .slice none 0 0, .slice none 0 0]) (t := 48) ?hr ?_; (case hd => rfl); (case hg => rfl); (case hr => first | (go_simp; done) | (go_simp; rfl)); intro gb247 hg w46 hbox hb; have n0_ := Aside0.mk (blk_below (g := gb246) (o := .cells #[.slice A0_0 l0_0.length c0_0, .int .i64 a0_1, .int .i64 a0_2, .int .i64 a0_3, .int .i64 a0_4] 40 (0, 0)) (by (with_reducible repeat (first | apply xn18 | apply xd18 | apply xa18)); exact BK246.1) hb); have n1_ := Aside0.mk (below_step (by with_reducible repeat (first | exact HB.1 | apply ya18 | apply yn18 | apply yd18 | refine below_set ?_ GE246.1)) hb); have n2_ := Aside0.mk (hbox); have n3_ := Aside0.mk ((by rw [hg]; exact (below_size (by with_reducible repeat (first | exact HB.1 | apply ya18 | apply yn18 | apply yd18 | refine below_set ?_ GE246.1))) : w.heap.size ≤ gb247)); have n4_ := n3_; have n5_ := Aside0.mk ((by rw [hg]; exact Nat.ne_of_lt (blk_lt (g := gb246) (o := .cells #[.slice A0_0 l0_0.length c0_0, .int .i64 a0_1, .int .i64 a0_2, .int .i64 a0_3, .int .i64 a0_4] 40 (0, 0)) (by (with_reducible repeat (first | apply xn18 | apply xd18 | apply xa18)); exact BK246.1)) : gb246 ≠ gb247)); have n6_ := Aside0.mk ((by rw [hg]; exact Nat.ne_of_gt (blk_lt (g := gb246) (o := .cells #[.slice A0_0 l0_0.length c0_0, .int .i64 a0_1, .int .i64 a0_2, .int .i64 a0_3, .int .i64 a0_4] 40 (0, 0)) (by (with_reducible repeat (first | apply xn18 | apply xd18 | apply xa18)); exact BK246.1)) : gb247 ≠ gb246)); clear BK246; clear HB; have BK246 := n0_; have HB := n1_; have BK247 := n2_; have GW247 := n3_; have GE247 := n4_; have NB246_247 := n5_; have NB247_246 := n6_; clear n0_ n1_ n2_ n3_ n4_ n5_ n6_; clear hb hbox hg; have hnb47 := NB246_247.1; have hnc47 := NB247_246.1; obtain ⟨hcz48_0, hcz48_1, hcz48_2, hcz48_3, hcz48_4⟩ := c5_18 BK246.1; obtain ⟨hfz48_0, hfz48_1, hfz48_2, hfz48_3, hfz48_4⟩ := f5_18 BK246.1) | ((with_reducible refine gate_callee (f := 41) rfl ?_); refine goesL_ (some 15) rfl rfl Try.func41 (by kernel_rfl) rfl #[.agg #[.slice A0_0 l0_0.length c0_0, .int .i64 a0_1, .int .i64 a0_2, .int .i64 a0_3, .int .i64 a0_4]] rfl (by (try simp only [List.map_toArray, List.map_cons, List.map_nil]); first | done | rfl | (simp only [List.length_drop, List.length_take]; rfl)) ?_; (with_reducible refine (vendmeterref_TermsFault.calls k _ _ l0_0 a0_1 a0_2 a0_3 a0_4 t248 _ ?side1 ?side2 A4.out).mono ?_); (case side1 => repeat (first | exact (Kd.C_below HR0_0.out HB.1) | (with_reducible refine Kd.C_alloc ?_ _) | (with_reducible refine Kd.C_drewN ?_ _) | (with_reducible refine Kd.C_drew ?_))); (case side2 => exact HC0_0.out); rintro e w49 ⟨rfl, hb⟩; refine ⟨_, rfl, ?_⟩; have n0_ := Aside0.mk (blk_below (g := gb246) (o := .cells #[.slice A0_0 l0_0.length c0_0, .int .i64 a0_1, .int .i64 a0_2, .int .i64 a0_3, .int .i64 a0_4] 40 (0, 0)) (by (with_reducible repeat (first | apply xn18 | apply xd18 | apply xa18)); exact BK246.1) hb); have n1_ := Aside0.mk (blk_below (g := gb247) (o := .cells #[.slice none 0 0, .int .i64 0, .int .i64 0, .int .i64 0, .int .i64 0, .slice none 0 0, .slice none 0 0, .slice none 0 0] 48 (0, 0)) (by (with_reducible repeat (first | apply xn18 | apply xd18 | apply xa18)); exact BK247.1) hb); have n2_ := Aside0.mk (below_step (by with_reducible repeat (first | exact HB.1 | apply ya18 | apply yn18 | apply yd18 | refine below_set ?_ GE246.1 | refine below_set ?_ GE247.1)) hb); clear BK246; clear BK247; clear HB; have BK246 := n0_; have BK247 := n1_; have HB := n2_; clear n0_ n1_ n2_; (try clear hb); (try clear hb2); (try clear hk); (try clear hi)) | ((with_reducible refine gate_callee (f := 42) rfl ?_); refine goesL_ (some 22) rfl rfl Try.func42 (by kernel_rfl) rfl #[.int .i64 a1] rfl (by (try simp only [List.map_toArray, List.map_cons, List.map_nil]); first | done | rfl | (simp only [List.length_drop, List.length_take]; rfl)) ?_; (with_reducible refine (vendmeterref_Blanked.calls k a1 t249 t250 _ A6.out).mono ?_); rintro e w50 ⟨v251, rfl, ho0, hb⟩; refine ⟨_, rfl, ?_⟩; have n0_ := Aside0.mk (Kd.R_lower ho0 (below_size (by with_reducible repeat (first | exact HB.1 | apply ya18 | apply yn18 | apply yd18 | refine below_set ?_ GE246.1 | refine below_set ?_ GE247.1)))); have n1_ := Aside0.mk (blk_below (g := gb246) (o := .cells #[.slice A0_0 l0_0.length c0_0, .int .i64 a0_1, .int .i64 a0_2, .int .i64 a0_3, .int .i64 a0_4] 40 (0, 0)) (by (with_reducible repeat (first | apply xn18 | apply xd18 | apply xa18)); exact BK246.1) hb); have n2_ := Aside0.mk (blk_below (g := gb247) (o := .cells #[.slice none 0 0, .int .i64 0, .int .i64 0, .int .i64 0, .int .i64 0, .slice none 0 0, .slice none 0 0, .slice none 0 0] 48 (0, 0)) (by (with_reducible repeat (first | apply xn18 | apply xd18 | apply xa18)); exact BK247.1) hb); have n3_ := Aside0.mk (below_step (by with_reducible repeat (first | exact HB.1 | apply ya18 | apply yn18 | apply yd18 | refine below_set ?_ GE246.1 | refine below_set ?_ GE247.1)) hb); clear BK246; clear BK247; clear HB; have HO252 := n0_; have BK246 := n1_; have BK247 := n2_; have HB := n3_; clear n0_ n1_ n2_ n3_; (try clear hb); (try clear hb2); (try clear hk); (try clear hi); (try clear ho0)) | ((with_reducible refine gate_callee (f := 43) rfl ?_); refine goesL_ (some 30) rfl rfl Try.func43 (by kernel_rfl) rfl #[.int .i64 a2, .int .i64 0, .int .i64 50] rfl (by (try simp only [List.map_toArray, List.map_cons, List.map_nil]); first | done | rfl | (simp only [List.length_drop, List.length_take]; rfl)) ?_; (with_reducible refine (vendmeterref_In.calls a2 0 50 false _ A8.out).mono ?_); rintro e w' ⟨rfl, ⟨nd, rfl⟩⟩; refine ⟨_, rfl, ?_⟩; (try (rw [drewN_self w50]; generalize hq_ : World.drewN w50 _ = w50; have n0_ : Aside0 (Kd.R (Kd.int .u32) 22 w50 w.heap.size (fun _ => True) v251 t249) := ⟨by rw [← hq_]; exact (by (with_reducible repeat (first | apply Kd.R_alloc | apply Kd.R_drewN | apply Kd.R_drew)); exact HO252.1)⟩; have n1_ : Aside0 (w50.heap[gb246]? = some (.cells #[.slice A0_0 l0_0.length c0_0, .int .i64 a0_1, .int .i64 a0_2, .int .i64 a0_3, .int .i64 a0_4] 40 (0, 0))) := ⟨by rw [← hq_]; exact (by (with_reducible repeat (first | apply xn18 | apply xd18 | apply xa18)); exact BK246.1)⟩; have n2_ : Aside0 (w50.heap[gb247]? = some (.cells #[.slice none 0 0, .int .i64 0, .int .i64 0, .int .i64 0, .int .i64 0, .slice none 0 0, .slice none 0 0, .slice none 0 0] 48 (0, 0))) := ⟨by rw [← hq_]; exact (by (with_reducible repeat (first | apply xn18 | apply xd18 | apply xa18)); exact BK247.1)⟩; have n3_ : Aside0 (Below w.heap.size w w50) := ⟨by rw [← hq_]; exact (by with_reducible repeat (first | exact HB.1 | apply ya18 | apply yn18 | apply yd18 | refine below_set ?_ GE246.1 | refine below_set ?_ GE247.1))⟩; clear HO252 BK246 BK247 HB hq_; have HO252 := n0_; have BK246 := n1_; have BK247 := n2_; have HB := n3_; clear n0_ n1_ n2_ n3_; (try (have hcu246_0 : w50.cell? ⟨gb246, 0, none⟩ = some (.slice A0_0 l0_0.length c0_0) := (blk_cell BK246.1 0).trans rfl)); (try (have hfu246_0 := blk_frozen BK246.1 0)); (try (have hcu246_1 : w50.cell? ⟨gb246, 1, none⟩ = some (.int .i64 a0_1) := (blk_cell BK246.1 1).trans rfl)); (try (have hfu246_1 := blk_frozen BK246.1 1)); (try (have hcu246_2 : w50.cell? ⟨gb246, 2, none⟩ = some (.int .i64 a0_2) := (blk_cell BK246.1 2).trans rfl)); (try (have hfu246_2 := blk_frozen BK246.1 2)); (try (have hcu246_3 : w50.cell? ⟨gb246, 3, none⟩ = some (.int .i64 a0_3) := (blk_cell BK246.1 3).trans rfl)); (try (have hfu246_3 := blk_frozen BK246.1 3)); (try (have hcu246_4 : w50.cell? ⟨gb246, 4, none⟩ = some (.int .i64 a0_4) := (blk_cell BK246.1 4).trans rfl)); (try (have hfu246_4 := blk_frozen BK246.1 4)); (try (have hcu247_0 : w50.cell? ⟨gb247, 0, none⟩ = some (.slice none 0 0) := (blk_cell BK247.1 0).trans rfl)); (try (have hfu247_0 := blk_frozen BK247.1 0)); (try (have hcu247_1 : w50.cell? ⟨gb247, 1, none⟩ = some (.int .i64 0) := (blk_cell BK247.1 1).trans rfl)); (try (have hfu247_1 := blk_frozen BK247.1 1)); (try (have hcu247_2 : w50.cell? ⟨gb247, 2, none⟩ = some (.int .i64 0) := (blk_cell BK247.1 2).trans rfl)); (try (have hfu247_2 := blk_frozen BK247.1 2)); (try (have hcu247_3 : w50.cell? ⟨gb247, 3, none⟩ = some (.int .i64 0) := (blk_cell BK247.1 3).trans rfl)); (try (have hfu247_3 := blk_frozen BK247.1 3)); (try (have hcu247_4 : w50.cell? ⟨gb247, 4, none⟩ = some (.int .i64 0) := (blk_cell BK247.1 4).trans rfl)); (try (have hfu247_4 := blk_frozen BK247.1 4)); (try (have hcu247_5 : w50.cell? ⟨gb247, 5, none⟩ = some (.slice none 0 0) := (blk_cell BK247.1 5).trans rfl)); (try (have hfu247_5 := blk_frozen BK247.1 5)); (try (have hcu247_6 : w50.cell? ⟨gb247, 6, none⟩ = some (.slice none 0 0) := (blk_cell BK247.1 6).trans rfl)); (try (have hfu247_6 := blk_frozen BK247.1 6)); (try (have hcu247_7 : w50.cell? ⟨gb247, 7, none⟩ = some (.slice none 0 0) := (blk_cell BK247.1 7).trans rfl)); (try (have hfu247_7 := blk_frozen BK247.1 7)))); obtain ⟨hcz51_0, hcz51_1, hcz51_2, hcz51_3, hcz51_4, hcz51_5, hcz51_6, hcz51_7⟩ := c8_18 BK247.1; obtain ⟨hfz51_0, hfz51_1, hfz51_2, hfz51_3, hfz51_4, hfz51_5, hfz51_6, hfz51_7⟩ := f8_18 BK247.1))
        refine bodyPost_ret (results_ct rfl _ _ gb247 48 #[.slice none 0 0, .int .i64 0, .int .i64 0, .int .i64 0, .int .i64 0, .slice none 0 0, .slice none 0 0, .slice none 0 0] (0, 0) _ rfl (by (with_reducible repeat (first | apply xn18 | apply xd18 | apply xa18)); refine blk_put (cs := #[.slice none 0 0, .int .i64 0, .int .i64 0, .int .i64 0, .int .i64 0, .slice none 0 0, .slice none 0 0, .slice none 0 0]) ?_ 7 _ rfl; (with_reducible repeat (first | apply xn18 | apply xd18 | apply xa18)); refine blk_put (cs := #[.slice none 0 0, .int .i64 0, .int .i64 0, .int .i64 0, .int .i64 0, .slice none 0 0, .slice none 0 0, .slice none 0 0]) ?_ 6 _ rfl; (with_reducible repeat (first | apply xn18 | apply xd18 | apply xa18)); refine blk_put (cs := #[.slice none 0 0, .int .i64 0, .int .i64 0, .int .i64 0, .int .i64 0, .slice none 0 0, .slice none 0 0, .slice none 0 0]) ?_ 5 _ rfl; (with_reducible repeat (first | apply xn18 | apply xd18 | apply xa18)); refine blk_put (cs := #[.slice none 0 0, .int .i64 0, .int .i64 0, .int .i64 0, .int .i64 0, .slice none 0 0, .slice none 0 0, .slice none 0 0]) ?_ 4 _ rfl; (with_reducible repeat (first | apply xn18 | apply xd18 | apply xa18)); refine blk_put (cs := #[.slice none 0 0, .int .i64 0, .int .i64 0, .int .i64 0, .int .i64 0, .slice none 0 0, .slice none 0 0, .slice none 0 0]) ?_ 3 _ rfl; (with_reducible repeat (first | apply xn18 | apply xd18 | apply xa18)); refine blk_put (cs := #[.slice none 0 0, .int .i64 0, .int .i64 0, .int .i64 0, .int .i64 0, .slice none 0 0, .slice none 0 0, .slice none 0 0]) ?_ 2 _ rfl; (with_reducible repeat (first | apply xn18 | apply xd18 | apply xa18)); refine blk_put (cs := #[.slice none 0 0, .int .i64 0, .int .i64 0, .int .i64 0, .int .i64 0, .slice none 0 0, .slice none 0 0, .slice none 0 0]) ?_ 1 _ rfl; (with_reducible repeat (first | apply xn18 | apply xd18 | apply xa18)); refine blk_put (cs := #[.slice none 0 0, .int .i64 0, .int .i64 0, .int .i64 0, .int .i64 0, .slice none 0 0, .slice none 0 0, .slice none 0 0]) ?_ 0 _ rfl; (with_reducible repeat (first | apply xn18 | apply xd18 | apply xa18)); exact BK247.1) Try.underlying48 rfl (by kernel_rfl)) rfl ?_
        exact ⟨_, _, _, _, by first | rfl | (simp [errW_none, errW_some] <;> rfl) | (simp [*, errW_none, errW_some] <;> rfl), by first | exact Kd.R_nil _ _ _ _ _ | exact Kd.N_nil _ _ _ _ _ | exact Kd.V_nil _ _ _ _ _ | exact Kd.Q_nil _ _ _ _ _ | exact Kd.S_nil _ _ _ _ _, by first | exact Kd.R_nil _ _ _ _ _ | exact Kd.N_nil _ _ _ _ _ | exact Kd.V_nil _ _ _ _ _ | exact Kd.Q_nil _ _ _ _ _ | exact Kd.S_nil _ _ _ _ _, by first | exact Kd.R_nil _ _ _ _ _ | exact Kd.N_nil _ _ _ _ _ | exact Kd.V_nil _ _ _ _ _ | exact Kd.Q_nil _ _ _ _ _ | exact Kd.S_nil _ _ _ _ _, by first | exact Kd.S_nil _ _ _ _ _ | exact Kd.N_nil _ _ _ _ _ | exact Kd.V_nil _ _ _ _ _ | exact Kd.Q_nil _ _ _ _ _ | exact Kd.R_nil _ _ _ _ _, by repeat (first | (with_reducible first | exact HB.1 | apply below_alloc | apply pw_below_drewN | apply below_drew1 | refine below_set ?_ GE246.1 | refine below_set ?_ GE247.1) | exact HB.1)⟩
    · rw [if_neg c7] at H
      have c7b0 : (t250 == 0) = false := beq_eq_false_iff_ne.mpr c7
      have c7b1 : (t250 != 0) = true := bne_iff_ne.mpr c7
      simp only [Option.some.injEq, Prod.mk.injEq] at H
      obtain ⟨rfl, rfl, rfl, rfl, rfl, rfl, rfl, rfl, rfl⟩ := H
      go_enter Try.func18, Try.ntmps18
      go_wp2_with (first | ((with_reducible refine gate_dst (N := 3) rfl ?_); refine box_event ?hg (N := 3) ?hd (cs := #[.slice A0_0 l0_0.length c0_0, .int .i64 a0_1, .int .i64 a0_2, .int .i64 a0_3, .int .i64 a0_4]) (t := 40) ?hr ?_; (case hd => rfl); (case hg => rfl); (case hr => first | (go_simp; done) | (go_simp; rfl)); intro gb246 hg w52 hbox hb; have n0_ := Aside0.mk (below_step (by with_reducible repeat (first | exact HB.1 | apply ya18 | apply yn18 | apply yd18)) hb); have n1_ := Aside0.mk (hbox); have n2_ := Aside0.mk ((by rw [hg]; exact (below_size (by with_reducible repeat (first | exact HB.1 | apply ya18 | apply yn18 | apply yd18))) : w.heap.size ≤ gb246)); have n3_ := n2_; clear HB; have HB := n0_; have BK246 := n1_; have GW246 := n2_; have GE246 := n3_; clear n0_ n1_ n2_ n3_; clear hb hbox hg) | ((with_reducible refine gate_dst (N := 6) rfl ?_); refine box_event ?hg (N := 6) ?hd (cs := #[.slice none 0 0, .int .i64 0, .int .i64 0, .int .i64 0, .int .i64 0, .slice none 0 0, .slice none 0 0, .slice none 0 0]) (t := 48) ?hr ?_; (case hd => rfl); (case hg => rfl); (case hr => first | (go_simp; done) | (go_simp; rfl)); intro gb247 hg w53 hbox hb; have n0_ := Aside0.mk (blk_below (g := gb246) (o := .cells #[.slice A0_0 l0_0.length c0_0, .int .i64 a0_1, .int .i64 a0_2, .int .i64 a0_3, .int .i64 a0_4] 40 (0, 0)) (by (with_reducible repeat (first | apply xn18 | apply xd18 | apply xa18)); exact BK246.1) hb); have n1_ := Aside0.mk (below_step (by with_reducible repeat (first | exact HB.1 | apply ya18 | apply yn18 | apply yd18 | refine below_set ?_ GE246.1)) hb); have n2_ := Aside0.mk (hbox); have n3_ := Aside0.mk ((by rw [hg]; exact (below_size (by with_reducible repeat (first | exact HB.1 | apply ya18 | apply yn18 | apply yd18 | refine below_set ?_ GE246.1))) : w.heap.size ≤ gb247)); have n4_ := n3_; have n5_ := Aside0.mk ((by rw [hg]; exact Nat.ne_of_lt (blk_lt (g := gb246) (o := .cells #[.slice A0_0 l0_0.length c0_0, .int .i64 a0_1, .int .i64 a0_2, .int .i64 a0_3, .int .i64 a0_4] 40 (0, 0)) (by (with_reducible repeat (first | apply xn18 | apply xd18 | apply xa18)); exact BK246.1)) : gb246 ≠ gb247)); have n6_ := Aside0.mk ((by rw [hg]; exact Nat.ne_of_gt (blk_lt (g := gb246) (o := .cells #[.slice A0_0 l0_0.length c0_0, .int .i64 a0_1, .int .i64 a0_2, .int .i64 a0_3, .int .i64 a0_4] 40 (0, 0)) (by (with_reducible repeat (first | apply xn18 | apply xd18 | apply xa18)); exact BK246.1)) : gb247 ≠ gb246)); clear BK246; clear HB; have BK246 := n0_; have HB := n1_; have BK247 := n2_; have GW247 := n3_; have GE247 := n4_; have NB246_247 := n5_; have NB247_246 := n6_; clear n0_ n1_ n2_ n3_ n4_ n5_ n6_; clear hb hbox hg; have hnb54 := NB246_247.1; have hnc54 := NB247_246.1; obtain ⟨hcz55_0, hcz55_1, hcz55_2, hcz55_3, hcz55_4⟩ := c5_18 BK246.1; obtain ⟨hfz55_0, hfz55_1, hfz55_2, hfz55_3, hfz55_4⟩ := f5_18 BK246.1) | ((with_reducible refine gate_callee (f := 41) rfl ?_); refine goesL_ (some 15) rfl rfl Try.func41 (by kernel_rfl) rfl #[.agg #[.slice A0_0 l0_0.length c0_0, .int .i64 a0_1, .int .i64 a0_2, .int .i64 a0_3, .int .i64 a0_4]] rfl (by (try simp only [List.map_toArray, List.map_cons, List.map_nil]); first | done | rfl | (simp only [List.length_drop, List.length_take]; rfl)) ?_; (with_reducible refine (vendmeterref_TermsFault.calls k _ _ l0_0 a0_1 a0_2 a0_3 a0_4 t248 _ ?side1 ?side2 A4.out).mono ?_); (case side1 => repeat (first | exact (Kd.C_below HR0_0.out HB.1) | (with_reducible refine Kd.C_alloc ?_ _) | (with_reducible refine Kd.C_drewN ?_ _) | (with_reducible refine Kd.C_drew ?_))); (case side2 => exact HC0_0.out); rintro e w56 ⟨rfl, hb⟩; refine ⟨_, rfl, ?_⟩; have n0_ := Aside0.mk (blk_below (g := gb246) (o := .cells #[.slice A0_0 l0_0.length c0_0, .int .i64 a0_1, .int .i64 a0_2, .int .i64 a0_3, .int .i64 a0_4] 40 (0, 0)) (by (with_reducible repeat (first | apply xn18 | apply xd18 | apply xa18)); exact BK246.1) hb); have n1_ := Aside0.mk (blk_below (g := gb247) (o := .cells #[.slice none 0 0, .int .i64 0, .int .i64 0, .int .i64 0, .int .i64 0, .slice none 0 0, .slice none 0 0, .slice none 0 0] 48 (0, 0)) (by (with_reducible repeat (first | apply xn18 | apply xd18 | apply xa18)); exact BK247.1) hb); have n2_ := Aside0.mk (below_step (by with_reducible repeat (first | exact HB.1 | apply ya18 | apply yn18 | apply yd18 | refine below_set ?_ GE246.1 | refine below_set ?_ GE247.1)) hb); clear BK246; clear BK247; clear HB; have BK246 := n0_; have BK247 := n1_; have HB := n2_; clear n0_ n1_ n2_; (try clear hb); (try clear hb2); (try clear hk); (try clear hi)) | ((with_reducible refine gate_callee (f := 42) rfl ?_); refine goesL_ (some 22) rfl rfl Try.func42 (by kernel_rfl) rfl #[.int .i64 a1] rfl (by (try simp only [List.map_toArray, List.map_cons, List.map_nil]); first | done | rfl | (simp only [List.length_drop, List.length_take]; rfl)) ?_; (with_reducible refine (vendmeterref_Blanked.calls k a1 t249 t250 _ A6.out).mono ?_); rintro e w57 ⟨v251, rfl, ho0, hb⟩; refine ⟨_, rfl, ?_⟩; have n0_ := Aside0.mk (Kd.R_lower ho0 (below_size (by with_reducible repeat (first | exact HB.1 | apply ya18 | apply yn18 | apply yd18 | refine below_set ?_ GE246.1 | refine below_set ?_ GE247.1)))); have n1_ := Aside0.mk (blk_below (g := gb246) (o := .cells #[.slice A0_0 l0_0.length c0_0, .int .i64 a0_1, .int .i64 a0_2, .int .i64 a0_3, .int .i64 a0_4] 40 (0, 0)) (by (with_reducible repeat (first | apply xn18 | apply xd18 | apply xa18)); exact BK246.1) hb); have n2_ := Aside0.mk (blk_below (g := gb247) (o := .cells #[.slice none 0 0, .int .i64 0, .int .i64 0, .int .i64 0, .int .i64 0, .slice none 0 0, .slice none 0 0, .slice none 0 0] 48 (0, 0)) (by (with_reducible repeat (first | apply xn18 | apply xd18 | apply xa18)); exact BK247.1) hb); have n3_ := Aside0.mk (below_step (by with_reducible repeat (first | exact HB.1 | apply ya18 | apply yn18 | apply yd18 | refine below_set ?_ GE246.1 | refine below_set ?_ GE247.1)) hb); clear BK246; clear BK247; clear HB; have HO252 := n0_; have BK246 := n1_; have BK247 := n2_; have HB := n3_; clear n0_ n1_ n2_ n3_; (try clear hb); (try clear hb2); (try clear hk); (try clear hi); (try clear ho0); obtain ⟨hcz58_0, hcz58_1, hcz58_2, hcz58_3, hcz58_4, hcz58_5, hcz58_6, hcz58_7⟩ := c8_18 BK247.1; obtain ⟨hfz58_0, hfz58_1, hfz58_2, hfz58_3, hfz58_4, hfz58_5, hfz58_6, hfz58_7⟩ := f8_18 BK247.1))
      refine bodyPost_ret (results_ct rfl _ _ gb247 48 #[.slice none 0 0, .int .i64 0, .int .i64 0, .int .i64 0, .int .i64 0, .slice none 0 0, .slice none 0 0, .slice none 0 0] (0, 0) _ rfl (by (with_reducible repeat (first | apply xn18 | apply xd18 | apply xa18)); refine blk_put (cs := #[.slice none 0 0, .int .i64 0, .int .i64 0, .int .i64 0, .int .i64 0, .slice none 0 0, .slice none 0 0, .slice none 0 0]) ?_ 7 _ rfl; (with_reducible repeat (first | apply xn18 | apply xd18 | apply xa18)); refine blk_put (cs := #[.slice none 0 0, .int .i64 0, .int .i64 0, .int .i64 0, .int .i64 0, .slice none 0 0, .slice none 0 0, .slice none 0 0]) ?_ 6 _ rfl; (with_reducible repeat (first | apply xn18 | apply xd18 | apply xa18)); refine blk_put (cs := #[.slice none 0 0, .int .i64 0, .int .i64 0, .int .i64 0, .int .i64 0, .slice none 0 0, .slice none 0 0, .slice none 0 0]) ?_ 5 _ rfl; (with_reducible repeat (first | apply xn18 | apply xd18 | apply xa18)); refine blk_put (cs := #[.slice none 0 0, .int .i64 0, .int .i64 0, .int .i64 0, .int .i64 0, .slice none 0 0, .slice none 0 0, .slice none 0 0]) ?_ 4 _ rfl; (with_reducible repeat (first | apply xn18 | apply xd18 | apply xa18)); refine blk_put (cs := #[.slice none 0 0, .int .i64 0, .int .i64 0, .int .i64 0, .int .i64 0, .slice none 0 0, .slice none 0 0, .slice none 0 0]) ?_ 3 _ rfl; (with_reducible repeat (first | apply xn18 | apply xd18 | apply xa18)); refine blk_put (cs := #[.slice none 0 0, .int .i64 0, .int .i64 0, .int .i64 0, .int .i64 0, .slice none 0 0, .slice none 0 0, .slice none 0 0]) ?_ 2 _ rfl; (with_reducible repeat (first | apply xn18 | apply xd18 | apply xa18)); refine blk_put (cs := #[.slice none 0 0, .int .i64 0, .int .i64 0, .int .i64 0, .int .i64 0, .slice none 0 0, .slice none 0 0, .slice none 0 0]) ?_ 1 _ rfl; (with_reducible repeat (first | apply xn18 | apply xd18 | apply xa18)); refine blk_put (cs := #[.slice none 0 0, .int .i64 0, .int .i64 0, .int .i64 0, .int .i64 0, .slice none 0 0, .slice none 0 0, .slice none 0 0]) ?_ 0 _ rfl; (with_reducible repeat (first | apply xn18 | apply xd18 | apply xa18)); exact BK247.1) Try.underlying48 rfl (by kernel_rfl)) rfl ?_
      exact ⟨_, _, _, _, by first | rfl | (simp [errW_none, errW_some] <;> rfl) | (simp [*, errW_none, errW_some] <;> rfl), by first | exact Kd.R_nil _ _ _ _ _ | exact Kd.N_nil _ _ _ _ _ | exact Kd.V_nil _ _ _ _ _ | exact Kd.Q_nil _ _ _ _ _ | exact Kd.S_nil _ _ _ _ _, by first | exact Kd.R_nil _ _ _ _ _ | exact Kd.N_nil _ _ _ _ _ | exact Kd.V_nil _ _ _ _ _ | exact Kd.Q_nil _ _ _ _ _ | exact Kd.S_nil _ _ _ _ _, by first | exact Kd.R_nil _ _ _ _ _ | exact Kd.N_nil _ _ _ _ _ | exact Kd.V_nil _ _ _ _ _ | exact Kd.Q_nil _ _ _ _ _ | exact Kd.S_nil _ _ _ _ _, by first | exact Kd.S_nil _ _ _ _ _ | exact Kd.N_nil _ _ _ _ _ | exact Kd.V_nil _ _ _ _ _ | exact Kd.Q_nil _ _ _ _ _ | exact Kd.R_nil _ _ _ _ _, by repeat (first | (with_reducible first | exact HB.1 | apply below_alloc | apply pw_below_drewN | apply below_drew1 | refine below_set ?_ GE246.1 | refine below_set ?_ GE247.1) | exact HB.1)⟩
  · rw [if_neg c5] at H
    have c5b0 : (t248 == 0) = false := beq_eq_false_iff_ne.mpr c5
    have c5b1 : (t248 != 0) = true := bne_iff_ne.mpr c5
    simp only [Option.some.injEq, Prod.mk.injEq] at H
    obtain ⟨rfl, rfl, rfl, rfl, rfl, rfl, rfl, rfl, rfl⟩ := H
    go_enter Try.func18, Try.ntmps18
    go_wp2_with (first | ((with_reducible refine gate_dst (N := 3) rfl ?_); refine box_event ?hg (N := 3) ?hd (cs := #[.slice A0_0 l0_0.length c0_0, .int .i64 a0_1, .int .i64 a0_2, .int .i64 a0_3, .int .i64 a0_4]) (t := 40) ?hr ?_; (case hd => rfl); (case hg => rfl); (case hr => first | (go_simp; done) | (go_simp; rfl)); intro gb246 hg w59 hbox hb; have n0_ := Aside0.mk (below_step (by with_reducible repeat (first | exact HB.1 | apply ya18 | apply yn18 | apply yd18)) hb); have n1_ := Aside0.mk (hbox); have n2_ := Aside0.mk ((by rw [hg]; exact (below_size (by with_reducible repeat (first | exact HB.1 | apply ya18 | apply yn18 | apply yd18))) : w.heap.size ≤ gb246)); have n3_ := n2_; clear HB; have HB := n0_; have BK246 := n1_; have GW246 := n2_; have GE246 := n3_; clear n0_ n1_ n2_ n3_; clear hb hbox hg) | ((with_reducible refine gate_dst (N := 6) rfl ?_); refine box_event ?hg (N := 6) ?hd (cs := #[.slice none 0 0, .int .i64 0, .int .i64 0, .int .i64 0, .int .i64 0, .slice none 0 0, .slice none 0 0, .slice none 0 0]) (t := 48) ?hr ?_; (case hd => rfl); (case hg => rfl); (case hr => first | (go_simp; done) | (go_simp; rfl)); intro gb247 hg w60 hbox hb; have n0_ := Aside0.mk (blk_below (g := gb246) (o := .cells #[.slice A0_0 l0_0.length c0_0, .int .i64 a0_1, .int .i64 a0_2, .int .i64 a0_3, .int .i64 a0_4] 40 (0, 0)) (by (with_reducible repeat (first | apply xn18 | apply xd18 | apply xa18)); exact BK246.1) hb); have n1_ := Aside0.mk (below_step (by with_reducible repeat (first | exact HB.1 | apply ya18 | apply yn18 | apply yd18 | refine below_set ?_ GE246.1)) hb); have n2_ := Aside0.mk (hbox); have n3_ := Aside0.mk ((by rw [hg]; exact (below_size (by with_reducible repeat (first | exact HB.1 | apply ya18 | apply yn18 | apply yd18 | refine below_set ?_ GE246.1))) : w.heap.size ≤ gb247)); have n4_ := n3_; have n5_ := Aside0.mk ((by rw [hg]; exact Nat.ne_of_lt (blk_lt (g := gb246) (o := .cells #[.slice A0_0 l0_0.length c0_0, .int .i64 a0_1, .int .i64 a0_2, .int .i64 a0_3, .int .i64 a0_4] 40 (0, 0)) (by (with_reducible repeat (first | apply xn18 | apply xd18 | apply xa18)); exact BK246.1)) : gb246 ≠ gb247)); have n6_ := Aside0.mk ((by rw [hg]; exact Nat.ne_of_gt (blk_lt (g := gb246) (o := .cells #[.slice A0_0 l0_0.length c0_0, .int .i64 a0_1, .int .i64 a0_2, .int .i64 a0_3, .int .i64 a0_4] 40 (0, 0)) (by (with_reducible repeat (first | apply xn18 | apply xd18 | apply xa18)); exact BK246.1)) : gb247 ≠ gb246)); clear BK246; clear HB; have BK246 := n0_; have HB := n1_; have BK247 := n2_; have GW247 := n3_; have GE247 := n4_; have NB246_247 := n5_; have NB247_246 := n6_; clear n0_ n1_ n2_ n3_ n4_ n5_ n6_; clear hb hbox hg; have hnb61 := NB246_247.1; have hnc61 := NB247_246.1; obtain ⟨hcz62_0, hcz62_1, hcz62_2, hcz62_3, hcz62_4⟩ := c5_18 BK246.1; obtain ⟨hfz62_0, hfz62_1, hfz62_2, hfz62_3, hfz62_4⟩ := f5_18 BK246.1) | ((with_reducible refine gate_callee (f := 41) rfl ?_); refine goesL_ (some 15) rfl rfl Try.func41 (by kernel_rfl) rfl #[.agg #[.slice A0_0 l0_0.length c0_0, .int .i64 a0_1, .int .i64 a0_2, .int .i64 a0_3, .int .i64 a0_4]] rfl (by (try simp only [List.map_toArray, List.map_cons, List.map_nil]); first | done | rfl | (simp only [List.length_drop, List.length_take]; rfl)) ?_; (with_reducible refine (vendmeterref_TermsFault.calls k _ _ l0_0 a0_1 a0_2 a0_3 a0_4 t248 _ ?side1 ?side2 A4.out).mono ?_); (case side1 => repeat (first | exact (Kd.C_below HR0_0.out HB.1) | (with_reducible refine Kd.C_alloc ?_ _) | (with_reducible refine Kd.C_drewN ?_ _) | (with_reducible refine Kd.C_drew ?_))); (case side2 => exact HC0_0.out); rintro e w63 ⟨rfl, hb⟩; refine ⟨_, rfl, ?_⟩; have n0_ := Aside0.mk (blk_below (g := gb246) (o := .cells #[.slice A0_0 l0_0.length c0_0, .int .i64 a0_1, .int .i64 a0_2, .int .i64 a0_3, .int .i64 a0_4] 40 (0, 0)) (by (with_reducible repeat (first | apply xn18 | apply xd18 | apply xa18)); exact BK246.1) hb); have n1_ := Aside0.mk (blk_below (g := gb247) (o := .cells #[.slice none 0 0, .int .i64 0, .int .i64 0, .int .i64 0, .int .i64 0, .slice none 0 0, .slice none 0 0, .slice none 0 0] 48 (0, 0)) (by (with_reducible repeat (first | apply xn18 | apply xd18 | apply xa18)); exact BK247.1) hb); have n2_ := Aside0.mk (below_step (by with_reducible repeat (first | exact HB.1 | apply ya18 | apply yn18 | apply yd18 | refine below_set ?_ GE246.1 | refine below_set ?_ GE247.1)) hb); clear BK246; clear BK247; clear HB; have BK246 := n0_; have BK247 := n1_; have HB := n2_; clear n0_ n1_ n2_; (try clear hb); (try clear hb2); (try clear hk); (try clear hi); obtain ⟨hcz64_0, hcz64_1, hcz64_2, hcz64_3, hcz64_4, hcz64_5, hcz64_6, hcz64_7⟩ := c8_18 BK247.1; obtain ⟨hfz64_0, hfz64_1, hfz64_2, hfz64_3, hfz64_4, hfz64_5, hfz64_6, hfz64_7⟩ := f8_18 BK247.1))
    refine bodyPost_ret (results_ct rfl _ _ gb247 48 #[.slice none 0 0, .int .i64 0, .int .i64 0, .int .i64 0, .int .i64 0, .slice none 0 0, .slice none 0 0, .slice none 0 0] (0, 0) _ rfl (by (with_reducible repeat (first | apply xn18 | apply xd18 | apply xa18)); refine blk_put (cs := #[.slice none 0 0, .int .i64 0, .int .i64 0, .int .i64 0, .int .i64 0, .slice none 0 0, .slice none 0 0, .slice none 0 0]) ?_ 7 _ rfl; (with_reducible repeat (first | apply xn18 | apply xd18 | apply xa18)); refine blk_put (cs := #[.slice none 0 0, .int .i64 0, .int .i64 0, .int .i64 0, .int .i64 0, .slice none 0 0, .slice none 0 0, .slice none 0 0]) ?_ 6 _ rfl; (with_reducible repeat (first | apply xn18 | apply xd18 | apply xa18)); refine blk_put (cs := #[.slice none 0 0, .int .i64 0, .int .i64 0, .int .i64 0, .int .i64 0, .slice none 0 0, .slice none 0 0, .slice none 0 0]) ?_ 5 _ rfl; (with_reducible repeat (first | apply xn18 | apply xd18 | apply xa18)); refine blk_put (cs := #[.slice none 0 0, .int .i64 0, .int .i64 0, .int .i64 0, .int .i64 0, .slice none 0 0, .slice none 0 0, .slice none 0 0]) ?_ 4 _ rfl; (with_reducible repeat (first | apply xn18 | apply xd18 | apply xa18)); refine blk_put (cs := #[.slice none 0 0, .int .i64 0, .int .i64 0, .int .i64 0, .int .i64 0, .slice none 0 0, .slice none 0 0, .slice none 0 0]) ?_ 3 _ rfl; (with_reducible repeat (first | apply xn18 | apply xd18 | apply xa18)); refine blk_put (cs := #[.slice none 0 0, .int .i64 0, .int .i64 0, .int .i64 0, .int .i64 0, .slice none 0 0, .slice none 0 0, .slice none 0 0]) ?_ 2 _ rfl; (with_reducible repeat (first | apply xn18 | apply xd18 | apply xa18)); refine blk_put (cs := #[.slice none 0 0, .int .i64 0, .int .i64 0, .int .i64 0, .int .i64 0, .slice none 0 0, .slice none 0 0, .slice none 0 0]) ?_ 1 _ rfl; (with_reducible repeat (first | apply xn18 | apply xd18 | apply xa18)); refine blk_put (cs := #[.slice none 0 0, .int .i64 0, .int .i64 0, .int .i64 0, .int .i64 0, .slice none 0 0, .slice none 0 0, .slice none 0 0]) ?_ 0 _ rfl; (with_reducible repeat (first | apply xn18 | apply xd18 | apply xa18)); exact BK247.1) Try.underlying48 rfl (by kernel_rfl)) rfl ?_
    exact ⟨_, _, _, _, by first | rfl | (simp [errW_none, errW_some] <;> rfl) | (simp [*, errW_none, errW_some] <;> rfl), by first | exact Kd.R_nil _ _ _ _ _ | exact Kd.N_nil _ _ _ _ _ | exact Kd.V_nil _ _ _ _ _ | exact Kd.Q_nil _ _ _ _ _ | exact Kd.S_nil _ _ _ _ _, by first | exact Kd.R_nil _ _ _ _ _ | exact Kd.N_nil _ _ _ _ _ | exact Kd.V_nil _ _ _ _ _ | exact Kd.Q_nil _ _ _ _ _ | exact Kd.S_nil _ _ _ _ _, by first | exact Kd.R_nil _ _ _ _ _ | exact Kd.N_nil _ _ _ _ _ | exact Kd.V_nil _ _ _ _ _ | exact Kd.Q_nil _ _ _ _ _ | exact Kd.S_nil _ _ _ _ _, by first | exact Kd.S_nil _ _ _ _ _ | exact Kd.N_nil _ _ _ _ _ | exact Kd.V_nil _ _ _ _ _ | exact Kd.Q_nil _ _ _ _ _ | exact Kd.R_nil _ _ _ _ _, by repeat (first | (with_reducible first | exact HB.1 | apply below_alloc | apply pw_below_drewN | apply below_drew1 | refine below_set ?_ GE246.1 | refine below_set ?_ GE247.1) | exact HB.1)⟩

/-! ### vendmeterlaw_sameSteps: function 49 -/
theorem xa49 {w : World} {g : Nat} {o : Obj} (h : w.heap[g]? = some o) (o' : Obj) : (w.alloc o').heap[g]? = some o := blk_alloc h o'
theorem xd49 {w : World} {g : Nat} {o : Obj} (h : w.heap[g]? = some o) : w.drew.heap[g]? = some o := blk_drew h
theorem xn49 {w : World} {g : Nat} {o : Obj} (h : w.heap[g]? = some o) (n : Nat) : (w.drewN n).heap[g]? = some o := blk_drewN h n
def vendmeterlaw_sameSteps.l0 : Nat → List (S126) → List (S126) → Int → Option (Bool)
  | 0, _, _, _ => none
  | k + 1, x0, x1, x5 => if x5 < (x0.length : Int) then (if 0 ≤ x5 then (if x5 < (x1.length : Int) then (if (!(((rd_T126 x0 x5).f0) == ((rd_T126 x1 x5).f0)) || (!(((rd_T126 x0 x5).f1) == ((rd_T126 x1 x5).f1)))) = true then (some false) else (vendmeterlaw_sameSteps.l0 k x0 x1 (wrap64 (x5 + 1)))) else (none)) else (none)) else (some true)
def vendmeterlaw_sameSteps.f (k : Nat) (l0 : List (S126)) (l1 : List (S126)) : Option (Bool) := if (l0.length : Int) = (l1.length : Int) then (vendmeterlaw_sameSteps.l0 k l0 l1 0) else (some false)
theorem vendmeterlaw_sameSteps.mono_l : ∀ k, (∀ y0 y1 y2, LeO (vendmeterlaw_sameSteps.l0 k y0 y1 y2) (vendmeterlaw_sameSteps.l0 (k + 1) y0 y1 y2))
  | 0 => fun _ _ _ r h => by simp [vendmeterlaw_sameSteps.l0] at h
  | k + 1 => by
    have ih0 := vendmeterlaw_sameSteps.mono_l k
    · intro y0 y1 y2
      unfold vendmeterlaw_sameSteps.l0
      repeat' first
      | (with_reducible exact ih0 _ _ _)
      | (with_reducible exact LeO.refl _)
      | (with_reducible exact LeO.none _)
      | (with_reducible refine LeO.ite ?_ ?_)
      | (with_reducible refine LeO.bind ?_ (fun _ => ?_))
      | exact ih0 _ _ _
      | exact LeO.none _
      | refine LeO.ite ?_ ?_
      | refine LeO.bind ?_ (fun _ => ?_)
theorem vendmeterlaw_sameSteps.mono : ∀ a0 a1 k, LeO (vendmeterlaw_sameSteps.f k a0 a1) (vendmeterlaw_sameSteps.f (k + 1) a0 a1) := by
  intro a0 a1 k
  have ih0 := vendmeterlaw_sameSteps.mono_l k
  unfold vendmeterlaw_sameSteps.f
  repeat' first
      | (with_reducible exact ih0 _ _ _)
      | (with_reducible exact LeO.refl _)
      | (with_reducible exact LeO.none _)
      | (with_reducible refine LeO.ite ?_ ?_)
      | (with_reducible refine LeO.bind ?_ (fun _ => ?_))
      | exact ih0 _ _ _
      | exact LeO.none _
      | refine LeO.ite ?_ ?_
      | refine LeO.bind ?_ (fun _ => ?_)
set_option maxHeartbeats 8000000 in
set_option maxRecDepth 100000 in
theorem vendmeterlaw_sameSteps.calls (k : Nat) (A0 : Option Addr) (c0 : Nat) (l0 : List (S126)) (A1 : Option Addr) (c1 : Nat) (l1 : List (S126)) (r : Bool) (w : World) (hr0 : Kd.C k126 w A0 l0.length l0) (hc0 : l0.length ≤ c0) (hr1 : Kd.C k126 w A1 l1.length l1) (hc1 : l1.length ≤ c1) (h : vendmeterlaw_sameSteps.f k l0 l1 = some r) :
    Calls Try.prog 49 #[.slice A0 l0.length c0, .slice A1 l1.length c1] w fun e w' => e = .returned (.bool r) ∧ Drawn0 w w' := by
  have hu126 := Try.underlying126
  have HR0 := Aside0.mk hr0
  have HC0 := Aside0.mk hc0
  clear hr0 hc0
  have HR1 := Aside0.mk hr1
  have HC1 := Aside0.mk hc1
  clear hr1 hc1
  have H : (if (l0.length : Int) = (l1.length : Int) then (vendmeterlaw_sameSteps.l0 k l0 l1 0) else (some false)) = some r := h
  clear h
  by_cases c3 : (l0.length : Int) = (l1.length : Int)
  · rw [if_pos c3] at H
    have c3b0 : ((l0.length : Int) == (l1.length : Int)) = true := beq_iff_eq.mpr c3
    have c3b1 : ((l0.length : Int) != (l1.length : Int)) = false := bne_eq_false_iff_eq.mpr c3
    have c3b2 : (l0.length == l1.length) = true := by first | simpa using c3 | (simp at c3 ⊢; omega)
    clear c3
    have H' := Aside0.mk H
    clear H
    go_enter Try.func49, Try.ntmps49
    go_wp2
    repeat (go_quiet (fail); try go_wp2)
    go_loopg [5] k (fun kq v5 w' => ∃ (x5_1 : Int), v5 = .int .i64 x5_1 ∧ Aside0 (vendmeterlaw_sameSteps.l0 kq l0 l1 x5_1 = some r) ∧ Aside0 (kq ≤ k) ∧ Drawn0 w w')
    case atStart => exact ⟨(0), (by first | rfl | (simp; done) | (simp [*]; done)), H', ⟨Nat.le_refl _⟩, by repeat (first | exact Drawn0.refl _ | apply Drawn0.step)⟩
    case round =>
      clear H'
      try clear c1
      try clear p2
      try clear c3
      try clear c3b0
      try clear c3b1
      try clear c3b2
      obtain ⟨x5_1, rfl, HA, HK1, ⟨m1, rfl⟩⟩ := hrel
      cases gk with
      | zero => exact absurd HA.out (by simp [vendmeterlaw_sameSteps.l0])
      | succ k1 =>
        have H := HA.out
        clear HA
        simp only [vendmeterlaw_sameSteps.l0] at H
        by_cases c4 : x5_1 < (l0.length : Int)
        · rw [if_pos c4] at H
          have c4b0 : decide (x5_1 < (l0.length : Int)) = true := decide_eq_true c4
          clear c4
          by_cases c5 : 0 ≤ x5_1
          · rw [if_pos c5] at H
            have c5b0 : decide (0 ≤ x5_1) = true := decide_eq_true c5
            clear c5
            by_cases c6 : x5_1 < (l1.length : Int)
            · rw [if_pos c6] at H
              have c6b0 : decide (x5_1 < (l1.length : Int)) = true := decide_eq_true c6
              clear c6
              by_cases c7 : (!(((rd_T126 l0 x5_1).f0) == ((rd_T126 l1 x5_1).f0)) || (!(((rd_T126 l0 x5_1).f1) == ((rd_T126 l1 x5_1).f1)))) = true
              · rw [if_pos c7] at H
                have c7b0 : (!(((rd_T126 l0 x5_1).f0) == ((rd_T126 l1 x5_1).f0)) || (!(((rd_T126 l0 x5_1).f1) == ((rd_T126 l1 x5_1).f1)))) = true := c7
                clear c7
                obtain rfl := Option.some.inj H
                have p278 : 0 ≤ (x5_1 : Int) := of_decide_eq_true (by first | (with_reducible assumption) | assumption)
                have q278 : x5_1 < (l0.length : Int) := of_decide_eq_true (by first | (with_reducible assumption) | assumption)
                obtain ⟨ad278, e278, hx278_0, hx278_1⟩ := at_T126 HR0.out x5_1 p278 q278
                cases e278
                replace p278 := eq_true p278
                replace q278 := eq_true q278
                have p279 : 0 ≤ (x5_1 : Int) := of_decide_eq_true (by first | (with_reducible assumption) | assumption)
                have q279 : x5_1 < (l1.length : Int) := of_decide_eq_true (by first | (with_reducible assumption) | assumption)
                obtain ⟨ad279, e279, hx279_0, hx279_1⟩ := at_T126 HR1.out x5_1 p279 q279
                cases e279
                replace p279 := eq_true p279
                replace q279 := eq_true q279
                go_wp2
                repeat (go_quiet (fail); try go_wp2)
                go_ret
                exact ⟨by first | rfl | (simp; done) | (simp [*]; done), by repeat (first | exact Drawn0.refl _ | apply Drawn0.step)⟩
              · rw [if_neg c7] at H
                have c7b0 : (!(((rd_T126 l0 x5_1).f0) == ((rd_T126 l1 x5_1).f0)) || (!(((rd_T126 l0 x5_1).f1) == ((rd_T126 l1 x5_1).f1)))) = false := by simpa using c7
                clear c7
                have H' := Aside0.mk H
                clear H
                have p278 : 0 ≤ (x5_1 : Int) := of_decide_eq_true (by first | (with_reducible assumption) | assumption)
                have q278 : x5_1 < (l0.length : Int) := of_decide_eq_true (by first | (with_reducible assumption) | assumption)
                obtain ⟨ad278, e278, hx278_0, hx278_1⟩ := at_T126 HR0.out x5_1 p278 q278
                cases e278
                replace p278 := eq_true p278
                replace q278 := eq_true q278
                have p279 : 0 ≤ (x5_1 : Int) := of_decide_eq_true (by first | (with_reducible assumption) | assumption)
                have q279 : x5_1 < (l1.length : Int) := of_decide_eq_true (by first | (with_reducible assumption) | assumption)
                obtain ⟨ad279, e279, hx279_0, hx279_1⟩ := at_T126 HR1.out x5_1 p279 q279
                cases e279
                replace p279 := eq_true p279
                replace q279 := eq_true q279
                go_wp2
                repeat (go_quiet (fail); try go_wp2)
                go_roundg k1
                case measure => have := HK1.out; omega
                case rel => exact ⟨(wrap64 (x5_1 + 1)), (by first | rfl | (simp; done) | (simp [*]; done)), H', ⟨by have := HK1.out; omega⟩, by repeat (first | exact Drawn0.refl _ | apply Drawn0.step)⟩
            · rw [if_neg c6] at H
              exact absurd H (by simp)
          · rw [if_neg c5] at H
            exact absurd H (by simp)
        · rw [if_neg c4] at H
          have c4b0 : decide (x5_1 < (l0.length : Int)) = false := decide_eq_false c4
          clear c4
          obtain rfl := Option.some.inj H
          go_wp2
          repeat (go_quiet (fail); try go_wp2)
          go_ret
          exact ⟨by first | rfl | (simp; done) | (simp [*]; done), by repeat (first | exact Drawn0.refl _ | apply Drawn0.step)⟩
  · rw [if_neg c3] at H
    have c3b0 : ((l0.length : Int) == (l1.length : Int)) = false := beq_eq_false_iff_ne.mpr c3
    have c3b1 : ((l0.length : Int) != (l1.length : Int)) = true := bne_iff_ne.mpr c3
    have c3b2 : (l0.length == l1.length) = false := by first | simpa using c3 | (simp at c3 ⊢; omega)
    obtain rfl := Option.some.inj H
    go_enter Try.func49, Try.ntmps49
    go_wp2
    repeat (go_quiet (fail); try go_wp2)
    go_ret
    exact ⟨by first | rfl | (simp; done) | (simp [*]; done), by repeat (first | exact Drawn0.refl _ | apply Drawn0.step)⟩

/-! ### vendmeterlaw_sameTerms: function 20 -/
theorem xa20 {w : World} {g : Nat} {o : Obj} (h : w.heap[g]? = some o) (o' : Obj) : (w.alloc o').heap[g]? = some o := blk_alloc h o'
theorem xd20 {w : World} {g : Nat} {o : Obj} (h : w.heap[g]? = some o) : w.drew.heap[g]? = some o := blk_drew h
theorem xn20 {w : World} {g : Nat} {o : Obj} (h : w.heap[g]? = some o) (n : Nat) : (w.drewN n).heap[g]? = some o := blk_drewN h n
theorem ya20 {w W : World} (h : Below w.heap.size w W) (o : Obj) : Below w.heap.size w (W.alloc o) := below_alloc h o
theorem yn20 {B : Nat} {w W : World} (h : Below B w W) (n : Nat) : Below B w (W.drewN n) := pw_below_drewN h n
theorem yd20 {B : Nat} {w W : World} (h : Below B w W) : Below B w W.drew := below_drew1 h
theorem c5_20 {w : World} {g : Nat} {t : TypeId} {x0 x1 x2 x3 x4 : Value} {r : List Value} (h : w.heap[g]? = some (.cells (List.toArray (x0 :: x1 :: x2 :: x3 :: x4 :: r)) t (0, 0))) : w.cell? ⟨g, 0, none⟩ = some x0 ∧ w.cell? ⟨g, 1, none⟩ = some x1 ∧ w.cell? ⟨g, 2, none⟩ = some x2 ∧ w.cell? ⟨g, 3, none⟩ = some x3 ∧ w.cell? ⟨g, 4, none⟩ = some x4 := ⟨(blk_cell h 0).trans rfl, (blk_cell h 1).trans rfl, (blk_cell h 2).trans rfl, (blk_cell h 3).trans rfl, (blk_cell h 4).trans rfl⟩
theorem f5_20 {w : World} {g : Nat} {t : TypeId} {cs : Array Value} (h : w.heap[g]? = some (.cells cs t (0, 0))) : w.frozen? ⟨g, 0, none⟩ = false ∧ w.frozen? ⟨g, 1, none⟩ = false ∧ w.frozen? ⟨g, 2, none⟩ = false ∧ w.frozen? ⟨g, 3, none⟩ = false ∧ w.frozen? ⟨g, 4, none⟩ = false := ⟨blk_frozen h 0, blk_frozen h 1, blk_frozen h 2, blk_frozen h 3, blk_frozen h 4⟩
def vendmeterlaw_sameTerms.f (k : Nat) (l0_0 : List (S126)) (a0_1 : Int) (a0_2 : Int) (a0_3 : Int) (a0_4 : Int) (l1_0 : List (S126)) (a1_1 : Int) (a1_2 : Int) (a1_3 : Int) (a1_4 : Int) : Option (Bool) := if a0_1 = a1_1 then (if a0_2 = a1_2 then (if a0_3 = a1_3 then (if a0_4 = a1_4 then ((vendmeterlaw_sameSteps.f k l0_0 l1_0).bind fun t282 => (some t282)) else (some false)) else (some false)) else (some false)) else (some false)
theorem vendmeterlaw_sameTerms.mono : ∀ a0 a1 a2 a3 a4 a5 a6 a7 a8 a9 k, LeO (vendmeterlaw_sameTerms.f k a0 a1 a2 a3 a4 a5 a6 a7 a8 a9) (vendmeterlaw_sameTerms.f (k + 1) a0 a1 a2 a3 a4 a5 a6 a7 a8 a9) := by
  intro a0 a1 a2 a3 a4 a5 a6 a7 a8 a9 k
  unfold vendmeterlaw_sameTerms.f
  repeat' first
      | (with_reducible exact vendmeterlaw_sameSteps.mono _ _ _)
      | (with_reducible exact LeO.refl _)
      | (with_reducible exact LeO.none _)
      | (with_reducible refine LeO.ite ?_ ?_)
      | (with_reducible refine LeO.bind ?_ (fun _ => ?_))
      | exact vendmeterlaw_sameSteps.mono _ _ _
      | exact LeO.none _
      | refine LeO.ite ?_ ?_
      | refine LeO.bind ?_ (fun _ => ?_)
set_option maxHeartbeats 8000000 in
set_option maxRecDepth 100000 in
theorem vendmeterlaw_sameTerms.calls (k : Nat) (A0_0 : Option Addr) (c0_0 : Nat) (l0_0 : List (S126)) (a0_1 : Int) (a0_2 : Int) (a0_3 : Int) (a0_4 : Int) (A1_0 : Option Addr) (c1_0 : Nat) (l1_0 : List (S126)) (a1_1 : Int) (a1_2 : Int) (a1_3 : Int) (a1_4 : Int) (r : Bool) (w : World) (hr0_0 : Kd.C k126 w A0_0 l0_0.length l0_0) (hc0_0 : l0_0.length ≤ c0_0) (hr1_0 : Kd.C k126 w A1_0 l1_0.length l1_0) (hc1_0 : l1_0.length ≤ c1_0) (h : vendmeterlaw_sameTerms.f k l0_0 a0_1 a0_2 a0_3 a0_4 l1_0 a1_1 a1_2 a1_3 a1_4 = some r) :
    Calls Try.prog 20 #[.agg #[.slice A0_0 l0_0.length c0_0, .int .i64 a0_1, .int .i64 a0_2, .int .i64 a0_3, .int .i64 a0_4], .agg #[.slice A1_0 l1_0.length c1_0, .int .i64 a1_1, .int .i64 a1_2, .int .i64 a1_3, .int .i64 a1_4]] w fun e w' => e = .returned (.bool r) ∧ Below w.heap.size w w' := by
  have hu40 := Try.underlying40
  have HR0_0 := Aside0.mk hr0_0
  have HC0_0 := Aside0.mk hc0_0
  clear hr0_0 hc0_0
  have HR1_0 := Aside0.mk hr1_0
  have HC1_0 := Aside0.mk hc1_0
  clear hr1_0 hc1_0
  have HB := Aside0.mk (Below.refl w.heap.size w)
  have H : (if a0_1 = a1_1 then (if a0_2 = a1_2 then (if a0_3 = a1_3 then (if a0_4 = a1_4 then ((vendmeterlaw_sameSteps.f k l0_0 l1_0).bind fun t282 => (some t282)) else (some false)) else (some false)) else (some false)) else (some false)) = some r := h
  clear h
  by_cases c3 : a0_1 = a1_1
  · rw [if_pos c3] at H
    have c3b0 : (a0_1 == a1_1) = true := beq_iff_eq.mpr c3
    have c3b1 : (a0_1 != a1_1) = false := bne_eq_false_iff_eq.mpr c3
    clear c3
    by_cases c4 : a0_2 = a1_2
    · rw [if_pos c4] at H
      have c4b0 : (a0_2 == a1_2) = true := beq_iff_eq.mpr c4
      have c4b1 : (a0_2 != a1_2) = false := bne_eq_false_iff_eq.mpr c4
      clear c4
      by_cases c5 : a0_3 = a1_3
      · rw [if_pos c5] at H
        have c5b0 : (a0_3 == a1_3) = true := beq_iff_eq.mpr c5
        have c5b1 : (a0_3 != a1_3) = false := bne_eq_false_iff_eq.mpr c5
        clear c5
        by_cases c6 : a0_4 = a1_4
        · rw [if_pos c6] at H
          have c6b0 : (a0_4 == a1_4) = true := beq_iff_eq.mpr c6
          have c6b1 : (a0_4 != a1_4) = false := bne_eq_false_iff_eq.mpr c6
          clear c6
          replace H := Option.bind_eq_some_iff.mp H
          obtain ⟨t282, A70, H⟩ := H
          replace H : (some t282) = some r := H
          have A7 := Aside0.mk A70
          clear A70
          obtain rfl := Option.some.inj H
          go_enter Try.func20, Try.ntmps20
          go_wp2_with (first | ((with_reducible refine gate_dst (N := 2) rfl ?_); refine box_event ?hg (N := 2) ?hd (cs := #[.slice A0_0 l0_0.length c0_0, .int .i64 a0_1, .int .i64 a0_2, .int .i64 a0_3, .int .i64 a0_4]) (t := 40) ?hr ?_; (case hd => rfl); (case hg => rfl); (case hr => first | (go_simp; done) | (go_simp; rfl)); intro gb280 hg w8 hbox hb; have n0_ := Aside0.mk (below_step (by with_reducible repeat (first | exact HB.1 | apply ya20 | apply yn20 | apply yd20)) hb); have n1_ := Aside0.mk (hbox); have n2_ := Aside0.mk ((by rw [hg]; exact (below_size (by with_reducible repeat (first | exact HB.1 | apply ya20 | apply yn20 | apply yd20))) : w.heap.size ≤ gb280)); have n3_ := n2_; clear HB; have HB := n0_; have BK280 := n1_; have GW280 := n2_; have GE280 := n3_; clear n0_ n1_ n2_ n3_; clear hb hbox hg) | ((with_reducible refine gate_dst (N := 3) rfl ?_); refine box_event ?hg (N := 3) ?hd (cs := #[.slice A1_0 l1_0.length c1_0, .int .i64 a1_1, .int .i64 a1_2, .int .i64 a1_3, .int .i64 a1_4]) (t := 40) ?hr ?_; (case hd => rfl); (case hg => rfl); (case hr => first | (go_simp; done) | (go_simp; rfl)); intro gb281 hg w9 hbox hb; have n0_ := Aside0.mk (blk_below (g := gb280) (o := .cells #[.slice A0_0 l0_0.length c0_0, .int .i64 a0_1, .int .i64 a0_2, .int .i64 a0_3, .int .i64 a0_4] 40 (0, 0)) (by (with_reducible repeat (first | apply xn20 | apply xd20 | apply xa20)); exact BK280.1) hb); have n1_ := Aside0.mk (below_step (by with_reducible repeat (first | exact HB.1 | apply ya20 | apply yn20 | apply yd20 | refine below_set ?_ GE280.1)) hb); have n2_ := Aside0.mk (hbox); have n3_ := Aside0.mk ((by rw [hg]; exact (below_size (by with_reducible repeat (first | exact HB.1 | apply ya20 | apply yn20 | apply yd20 | refine below_set ?_ GE280.1))) : w.heap.size ≤ gb281)); have n4_ := n3_; have n5_ := Aside0.mk ((by rw [hg]; exact Nat.ne_of_lt (blk_lt (g := gb280) (o := .cells #[.slice A0_0 l0_0.length c0_0, .int .i64 a0_1, .int .i64 a0_2, .int .i64 a0_3, .int .i64 a0_4] 40 (0, 0)) (by (with_reducible repeat (first | apply xn20 | apply xd20 | apply xa20)); exact BK280.1)) : gb280 ≠ gb281)); have n6_ := Aside0.mk ((by rw [hg]; exact Nat.ne_of_gt (blk_lt (g := gb280) (o := .cells #[.slice A0_0 l0_0.length c0_0, .int .i64 a0_1, .int .i64 a0_2, .int .i64 a0_3, .int .i64 a0_4] 40 (0, 0)) (by (with_reducible repeat (first | apply xn20 | apply xd20 | apply xa20)); exact BK280.1)) : gb281 ≠ gb280)); clear BK280; clear HB; have BK280 := n0_; have HB := n1_; have BK281 := n2_; have GW281 := n3_; have GE281 := n4_; have NB280_281 := n5_; have NB281_280 := n6_; clear n0_ n1_ n2_ n3_ n4_ n5_ n6_; clear hb hbox hg; have hnb10 := NB280_281.1; have hnc10 := NB281_280.1; obtain ⟨hcz11_0, hcz11_1, hcz11_2, hcz11_3, hcz11_4⟩ := c5_20 BK280.1; obtain ⟨hfz11_0, hfz11_1, hfz11_2, hfz11_3, hfz11_4⟩ := f5_20 BK280.1; obtain ⟨hcz12_0, hcz12_1, hcz12_2, hcz12_3, hcz12_4⟩ := c5_20 BK281.1; obtain ⟨hfz12_0, hfz12_1, hfz12_2, hfz12_3, hfz12_4⟩ := f5_20 BK281.1) | (go_at_call 49; (with_reducible refine (vendmeterlaw_sameSteps.calls k _ _ l0_0 _ _ l1_0 t282 _ ?side1 ?side2 ?side3 ?side4 A7.out).mono ?_); (case side1 => repeat (first | exact (Kd.C_below HR0_0.out HB.1) | (with_reducible refine Kd.C_alloc ?_ _) | (with_reducible refine Kd.C_drewN ?_ _) | (with_reducible refine Kd.C_drew ?_))); (case side2 => exact HC0_0.out); (case side3 => repeat (first | exact (Kd.C_below HR1_0.out HB.1) | (with_reducible refine Kd.C_alloc ?_ _) | (with_reducible refine Kd.C_drewN ?_ _) | (with_reducible refine Kd.C_drew ?_))); (case side4 => exact HC1_0.out); rintro e w' ⟨rfl, ⟨nd, rfl⟩⟩))
          go_ret
          exact ⟨by first | rfl | (simp [errW_none, errW_some] <;> rfl) | (simp [*, errW_none, errW_some] <;> rfl), by repeat (first | (with_reducible first | exact HB.1 | apply below_alloc | apply pw_below_drewN | apply below_drew1 | refine below_set ?_ GE280.1 | refine below_set ?_ GE281.1) | exact HB.1)⟩
        · rw [if_neg c6] at H
          have c6b0 : (a0_4 == a1_4) = false := beq_eq_false_iff_ne.mpr c6
          have c6b1 : (a0_4 != a1_4) = true := bne_iff_ne.mpr c6
          obtain rfl := Option.some.inj H
          go_enter Try.func20, Try.ntmps20
          go_wp2_with (first | ((with_reducible refine gate_dst (N := 2) rfl ?_); refine box_event ?hg (N := 2) ?hd (cs := #[.slice A0_0 l0_0.length c0_0, .int .i64 a0_1, .int .i64 a0_2, .int .i64 a0_3, .int .i64 a0_4]) (t := 40) ?hr ?_; (case hd => rfl); (case hg => rfl); (case hr => first | (go_simp; done) | (go_simp; rfl)); intro gb280 hg w13 hbox hb; have n0_ := Aside0.mk (below_step (by with_reducible repeat (first | exact HB.1 | apply ya20 | apply yn20 | apply yd20)) hb); have n1_ := Aside0.mk (hbox); have n2_ := Aside0.mk ((by rw [hg]; exact (below_size (by with_reducible repeat (first | exact HB.1 | apply ya20 | apply yn20 | apply yd20))) : w.heap.size ≤ gb280)); have n3_ := n2_; clear HB; have HB := n0_; have BK280 := n1_; have GW280 := n2_; have GE280 := n3_; clear n0_ n1_ n2_ n3_; clear hb hbox hg) | ((with_reducible refine gate_dst (N := 3) rfl ?_); refine box_event ?hg (N := 3) ?hd (cs := #[.slice A1_0 l1_0.length c1_0, .int .i64 a1_1, .int .i64 a1_2, .int .i64 a1_3, .int .i64 a1_4]) (t := 40) ?hr ?_; (case hd => rfl); (case hg => rfl); (case hr => first | (go_simp; done) | (go_simp; rfl)); intro gb281 hg w14 hbox hb; have n0_ := Aside0.mk (blk_below (g := gb280) (o := .cells #[.slice A0_0 l0_0.length c0_0, .int .i64 a0_1, .int .i64 a0_2, .int .i64 a0_3, .int .i64 a0_4] 40 (0, 0)) (by (with_reducible repeat (first | apply xn20 | apply xd20 | apply xa20)); exact BK280.1) hb); have n1_ := Aside0.mk (below_step (by with_reducible repeat (first | exact HB.1 | apply ya20 | apply yn20 | apply yd20 | refine below_set ?_ GE280.1)) hb); have n2_ := Aside0.mk (hbox); have n3_ := Aside0.mk ((by rw [hg]; exact (below_size (by with_reducible repeat (first | exact HB.1 | apply ya20 | apply yn20 | apply yd20 | refine below_set ?_ GE280.1))) : w.heap.size ≤ gb281)); have n4_ := n3_; have n5_ := Aside0.mk ((by rw [hg]; exact Nat.ne_of_lt (blk_lt (g := gb280) (o := .cells #[.slice A0_0 l0_0.length c0_0, .int .i64 a0_1, .int .i64 a0_2, .int .i64 a0_3, .int .i64 a0_4] 40 (0, 0)) (by (with_reducible repeat (first | apply xn20 | apply xd20 | apply xa20)); exact BK280.1)) : gb280 ≠ gb281)); have n6_ := Aside0.mk ((by rw [hg]; exact Nat.ne_of_gt (blk_lt (g := gb280) (o := .cells #[.slice A0_0 l0_0.length c0_0, .int .i64 a0_1, .int .i64 a0_2, .int .i64 a0_3, .int .i64 a0_4] 40 (0, 0)) (by (with_reducible repeat (first | apply xn20 | apply xd20 | apply xa20)); exact BK280.1)) : gb281 ≠ gb280)); clear BK280; clear HB; have BK280 := n0_; have HB := n1_; have BK281 := n2_; have GW281 := n3_; have GE281 := n4_; have NB280_281 := n5_; have NB281_280 := n6_; clear n0_ n1_ n2_ n3_ n4_ n5_ n6_; clear hb hbox hg; have hnb15 := NB280_281.1; have hnc15 := NB281_280.1; obtain ⟨hcz16_0, hcz16_1, hcz16_2, hcz16_3, hcz16_4⟩ := c5_20 BK280.1; obtain ⟨hfz16_0, hfz16_1, hfz16_2, hfz16_3, hfz16_4⟩ := f5_20 BK280.1; obtain ⟨hcz17_0, hcz17_1, hcz17_2, hcz17_3, hcz17_4⟩ := c5_20 BK281.1; obtain ⟨hfz17_0, hfz17_1, hfz17_2, hfz17_3, hfz17_4⟩ := f5_20 BK281.1))
          go_ret
          exact ⟨by first | rfl | (simp [errW_none, errW_some] <;> rfl) | (simp [*, errW_none, errW_some] <;> rfl), by repeat (first | (with_reducible first | exact HB.1 | apply below_alloc | apply pw_below_drewN | apply below_drew1 | refine below_set ?_ GE280.1 | refine below_set ?_ GE281.1) | exact HB.1)⟩
      · rw [if_neg c5] at H
        have c5b0 : (a0_3 == a1_3) = false := beq_eq_false_iff_ne.mpr c5
        have c5b1 : (a0_3 != a1_3) = true := bne_iff_ne.mpr c5
        obtain rfl := Option.some.inj H
        go_enter Try.func20, Try.ntmps20
        go_wp2_with (first | ((with_reducible refine gate_dst (N := 2) rfl ?_); refine box_event ?hg (N := 2) ?hd (cs := #[.slice A0_0 l0_0.length c0_0, .int .i64 a0_1, .int .i64 a0_2, .int .i64 a0_3, .int .i64 a0_4]) (t := 40) ?hr ?_; (case hd => rfl); (case hg => rfl); (case hr => first | (go_simp; done) | (go_simp; rfl)); intro gb280 hg w18 hbox hb; have n0_ := Aside0.mk (below_step (by with_reducible repeat (first | exact HB.1 | apply ya20 | apply yn20 | apply yd20)) hb); have n1_ := Aside0.mk (hbox); have n2_ := Aside0.mk ((by rw [hg]; exact (below_size (by with_reducible repeat (first | exact HB.1 | apply ya20 | apply yn20 | apply yd20))) : w.heap.size ≤ gb280)); have n3_ := n2_; clear HB; have HB := n0_; have BK280 := n1_; have GW280 := n2_; have GE280 := n3_; clear n0_ n1_ n2_ n3_; clear hb hbox hg) | ((with_reducible refine gate_dst (N := 3) rfl ?_); refine box_event ?hg (N := 3) ?hd (cs := #[.slice A1_0 l1_0.length c1_0, .int .i64 a1_1, .int .i64 a1_2, .int .i64 a1_3, .int .i64 a1_4]) (t := 40) ?hr ?_; (case hd => rfl); (case hg => rfl); (case hr => first | (go_simp; done) | (go_simp; rfl)); intro gb281 hg w19 hbox hb; have n0_ := Aside0.mk (blk_below (g := gb280) (o := .cells #[.slice A0_0 l0_0.length c0_0, .int .i64 a0_1, .int .i64 a0_2, .int .i64 a0_3, .int .i64 a0_4] 40 (0, 0)) (by (with_reducible repeat (first | apply xn20 | apply xd20 | apply xa20)); exact BK280.1) hb); have n1_ := Aside0.mk (below_step (by with_reducible repeat (first | exact HB.1 | apply ya20 | apply yn20 | apply yd20 | refine below_set ?_ GE280.1)) hb); have n2_ := Aside0.mk (hbox); have n3_ := Aside0.mk ((by rw [hg]; exact (below_size (by with_reducible repeat (first | exact HB.1 | apply ya20 | apply yn20 | apply yd20 | refine below_set ?_ GE280.1))) : w.heap.size ≤ gb281)); have n4_ := n3_; have n5_ := Aside0.mk ((by rw [hg]; exact Nat.ne_of_lt (blk_lt (g := gb280) (o := .cells #[.slice A0_0 l0_0.length c0_0, .int .i64 a0_1, .int .i64 a0_2, .int .i64 a0_3, .int .i64 a0_4] 40 (0, 0)) (by (with_reducible repeat (first | apply xn20 | apply xd20 | apply xa20)); exact BK280.1)) : gb280 ≠ gb281)); have n6_ := Aside0.mk ((by rw [hg]; exact Nat.ne_of_gt (blk_lt (g := gb280) (o := .cells #[.slice A0_0 l0_0.length c0_0, .int .i64 a0_1, .int .i64 a0_2, .int .i64 a0_3, .int .i64 a0_4] 40 (0, 0)) (by (with_reducible repeat (first | apply xn20 | apply xd20 | apply xa20)); exact BK280.1)) : gb281 ≠ gb280)); clear BK280; clear HB; have BK280 := n0_; have HB := n1_; have BK281 := n2_; have GW281 := n3_; have GE281 := n4_; have NB280_281 := n5_; have NB281_280 := n6_; clear n0_ n1_ n2_ n3_ n4_ n5_ n6_; clear hb hbox hg; have hnb20 := NB280_281.1; have hnc20 := NB281_280.1; obtain ⟨hcz21_0, hcz21_1, hcz21_2, hcz21_3, hcz21_4⟩ := c5_20 BK280.1; obtain ⟨hfz21_0, hfz21_1, hfz21_2, hfz21_3, hfz21_4⟩ := f5_20 BK280.1; obtain ⟨hcz22_0, hcz22_1, hcz22_2, hcz22_3, hcz22_4⟩ := c5_20 BK281.1; obtain ⟨hfz22_0, hfz22_1, hfz22_2, hfz22_3, hfz22_4⟩ := f5_20 BK281.1))
        go_ret
        exact ⟨by first | rfl | (simp [errW_none, errW_some] <;> rfl) | (simp [*, errW_none, errW_some] <;> rfl), by repeat (first | (with_reducible first | exact HB.1 | apply below_alloc | apply pw_below_drewN | apply below_drew1 | refine below_set ?_ GE280.1 | refine below_set ?_ GE281.1) | exact HB.1)⟩
    · rw [if_neg c4] at H
      have c4b0 : (a0_2 == a1_2) = false := beq_eq_false_iff_ne.mpr c4
      have c4b1 : (a0_2 != a1_2) = true := bne_iff_ne.mpr c4
      obtain rfl := Option.some.inj H
      go_enter Try.func20, Try.ntmps20
      go_wp2_with (first | ((with_reducible refine gate_dst (N := 2) rfl ?_); refine box_event ?hg (N := 2) ?hd (cs := #[.slice A0_0 l0_0.length c0_0, .int .i64 a0_1, .int .i64 a0_2, .int .i64 a0_3, .int .i64 a0_4]) (t := 40) ?hr ?_; (case hd => rfl); (case hg => rfl); (case hr => first | (go_simp; done) | (go_simp; rfl)); intro gb280 hg w23 hbox hb; have n0_ := Aside0.mk (below_step (by with_reducible repeat (first | exact HB.1 | apply ya20 | apply yn20 | apply yd20)) hb); have n1_ := Aside0.mk (hbox); have n2_ := Aside0.mk ((by rw [hg]; exact (below_size (by with_reducible repeat (first | exact HB.1 | apply ya20 | apply yn20 | apply yd20))) : w.heap.size ≤ gb280)); have n3_ := n2_; clear HB; have HB := n0_; have BK280 := n1_; have GW280 := n2_; have GE280 := n3_; clear n0_ n1_ n2_ n3_; clear hb hbox hg) | ((with_reducible refine gate_dst (N := 3) rfl ?_); refine box_event ?hg (N := 3) ?hd (cs := #[.slice A1_0 l1_0.length c1_0, .int .i64 a1_1, .int .i64 a1_2, .int .i64 a1_3, .int .i64 a1_4]) (t := 40) ?hr ?_; (case hd => rfl); (case hg => rfl); (case hr => first | (go_simp; done) | (go_simp; rfl)); intro gb281 hg w24 hbox hb; have n0_ := Aside0.mk (blk_below (g := gb280) (o := .cells #[.slice A0_0 l0_0.length c0_0, .int .i64 a0_1, .int .i64 a0_2, .int .i64 a0_3, .int .i64 a0_4] 40 (0, 0)) (by (with_reducible repeat (first | apply xn20 | apply xd20 | apply xa20)); exact BK280.1) hb); have n1_ := Aside0.mk (below_step (by with_reducible repeat (first | exact HB.1 | apply ya20 | apply yn20 | apply yd20 | refine below_set ?_ GE280.1)) hb); have n2_ := Aside0.mk (hbox); have n3_ := Aside0.mk ((by rw [hg]; exact (below_size (by with_reducible repeat (first | exact HB.1 | apply ya20 | apply yn20 | apply yd20 | refine below_set ?_ GE280.1))) : w.heap.size ≤ gb281)); have n4_ := n3_; have n5_ := Aside0.mk ((by rw [hg]; exact Nat.ne_of_lt (blk_lt (g := gb280) (o := .cells #[.slice A0_0 l0_0.length c0_0, .int .i64 a0_1, .int .i64 a0_2, .int .i64 a0_3, .int .i64 a0_4] 40 (0, 0)) (by (with_reducible repeat (first | apply xn20 | apply xd20 | apply xa20)); exact BK280.1)) : gb280 ≠ gb281)); have n6_ := Aside0.mk ((by rw [hg]; exact Nat.ne_of_gt (blk_lt (g := gb280) (o := .cells #[.slice A0_0 l0_0.length c0_0, .int .i64 a0_1, .int .i64 a0_2, .int .i64 a0_3, .int .i64 a0_4] 40 (0, 0)) (by (with_reducible repeat (first | apply xn20 | apply xd20 | apply xa20)); exact BK280.1)) : gb281 ≠ gb280)); clear BK280; clear HB; have BK280 := n0_; have HB := n1_; have BK281 := n2_; have GW281 := n3_; have GE281 := n4_; have NB280_281 := n5_; have NB281_280 := n6_; clear n0_ n1_ n2_ n3_ n4_ n5_ n6_; clear hb hbox hg; have hnb25 := NB280_281.1; have hnc25 := NB281_280.1; obtain ⟨hcz26_0, hcz26_1, hcz26_2, hcz26_3, hcz26_4⟩ := c5_20 BK280.1; obtain ⟨hfz26_0, hfz26_1, hfz26_2, hfz26_3, hfz26_4⟩ := f5_20 BK280.1; obtain ⟨hcz27_0, hcz27_1, hcz27_2, hcz27_3, hcz27_4⟩ := c5_20 BK281.1; obtain ⟨hfz27_0, hfz27_1, hfz27_2, hfz27_3, hfz27_4⟩ := f5_20 BK281.1))
      go_ret
      exact ⟨by first | rfl | (simp [errW_none, errW_some] <;> rfl) | (simp [*, errW_none, errW_some] <;> rfl), by repeat (first | (with_reducible first | exact HB.1 | apply below_alloc | apply pw_below_drewN | apply below_drew1 | refine below_set ?_ GE280.1 | refine below_set ?_ GE281.1) | exact HB.1)⟩
  · rw [if_neg c3] at H
    have c3b0 : (a0_1 == a1_1) = false := beq_eq_false_iff_ne.mpr c3
    have c3b1 : (a0_1 != a1_1) = true := bne_iff_ne.mpr c3
    obtain rfl := Option.some.inj H
    go_enter Try.func20, Try.ntmps20
    go_wp2_with (first | ((with_reducible refine gate_dst (N := 2) rfl ?_); refine box_event ?hg (N := 2) ?hd (cs := #[.slice A0_0 l0_0.length c0_0, .int .i64 a0_1, .int .i64 a0_2, .int .i64 a0_3, .int .i64 a0_4]) (t := 40) ?hr ?_; (case hd => rfl); (case hg => rfl); (case hr => first | (go_simp; done) | (go_simp; rfl)); intro gb280 hg w28 hbox hb; have n0_ := Aside0.mk (below_step (by with_reducible repeat (first | exact HB.1 | apply ya20 | apply yn20 | apply yd20)) hb); have n1_ := Aside0.mk (hbox); have n2_ := Aside0.mk ((by rw [hg]; exact (below_size (by with_reducible repeat (first | exact HB.1 | apply ya20 | apply yn20 | apply yd20))) : w.heap.size ≤ gb280)); have n3_ := n2_; clear HB; have HB := n0_; have BK280 := n1_; have GW280 := n2_; have GE280 := n3_; clear n0_ n1_ n2_ n3_; clear hb hbox hg) | ((with_reducible refine gate_dst (N := 3) rfl ?_); refine box_event ?hg (N := 3) ?hd (cs := #[.slice A1_0 l1_0.length c1_0, .int .i64 a1_1, .int .i64 a1_2, .int .i64 a1_3, .int .i64 a1_4]) (t := 40) ?hr ?_; (case hd => rfl); (case hg => rfl); (case hr => first | (go_simp; done) | (go_simp; rfl)); intro gb281 hg w29 hbox hb; have n0_ := Aside0.mk (blk_below (g := gb280) (o := .cells #[.slice A0_0 l0_0.length c0_0, .int .i64 a0_1, .int .i64 a0_2, .int .i64 a0_3, .int .i64 a0_4] 40 (0, 0)) (by (with_reducible repeat (first | apply xn20 | apply xd20 | apply xa20)); exact BK280.1) hb); have n1_ := Aside0.mk (below_step (by with_reducible repeat (first | exact HB.1 | apply ya20 | apply yn20 | apply yd20 | refine below_set ?_ GE280.1)) hb); have n2_ := Aside0.mk (hbox); have n3_ := Aside0.mk ((by rw [hg]; exact (below_size (by with_reducible repeat (first | exact HB.1 | apply ya20 | apply yn20 | apply yd20 | refine below_set ?_ GE280.1))) : w.heap.size ≤ gb281)); have n4_ := n3_; have n5_ := Aside0.mk ((by rw [hg]; exact Nat.ne_of_lt (blk_lt (g := gb280) (o := .cells #[.slice A0_0 l0_0.length c0_0, .int .i64 a0_1, .int .i64 a0_2, .int .i64 a0_3, .int .i64 a0_4] 40 (0, 0)) (by (with_reducible repeat (first | apply xn20 | apply xd20 | apply xa20)); exact BK280.1)) : gb280 ≠ gb281)); have n6_ := Aside0.mk ((by rw [hg]; exact Nat.ne_of_gt (blk_lt (g := gb280) (o := .cells #[.slice A0_0 l0_0.length c0_0, .int .i64 a0_1, .int .i64 a0_2, .int .i64 a0_3, .int .i64 a0_4] 40 (0, 0)) (by (with_reducible repeat (first | apply xn20 | apply xd20 | apply xa20)); exact BK280.1)) : gb281 ≠ gb280)); clear BK280; clear HB; have BK280 := n0_; have HB := n1_; have BK281 := n2_; have GW281 := n3_; have GE281 := n4_; have NB280_281 := n5_; have NB281_280 := n6_; clear n0_ n1_ n2_ n3_ n4_ n5_ n6_; clear hb hbox hg; have hnb30 := NB280_281.1; have hnc30 := NB281_280.1; obtain ⟨hcz31_0, hcz31_1, hcz31_2, hcz31_3, hcz31_4⟩ := c5_20 BK280.1; obtain ⟨hfz31_0, hfz31_1, hfz31_2, hfz31_3, hfz31_4⟩ := f5_20 BK280.1; obtain ⟨hcz32_0, hcz32_1, hcz32_2, hcz32_3, hcz32_4⟩ := c5_20 BK281.1; obtain ⟨hfz32_0, hfz32_1, hfz32_2, hfz32_3, hfz32_4⟩ := f5_20 BK281.1))
    go_ret
    exact ⟨by first | rfl | (simp [errW_none, errW_some] <;> rfl) | (simp [*, errW_none, errW_some] <;> rfl), by repeat (first | (with_reducible first | exact HB.1 | apply below_alloc | apply pw_below_drewN | apply below_drew1 | refine below_set ?_ GE280.1 | refine below_set ?_ GE281.1) | exact HB.1)⟩

/-! ### vendmeterlaw_sameWords: function 46 -/
theorem xa46 {w : World} {g : Nat} {o : Obj} (h : w.heap[g]? = some o) (o' : Obj) : (w.alloc o').heap[g]? = some o := blk_alloc h o'
theorem xd46 {w : World} {g : Nat} {o : Obj} (h : w.heap[g]? = some o) : w.drew.heap[g]? = some o := blk_drew h
theorem xn46 {w : World} {g : Nat} {o : Obj} (h : w.heap[g]? = some o) (n : Nat) : (w.drewN n).heap[g]? = some o := blk_drewN h n
def vendmeterlaw_sameWords.l0 : Nat → List Int → List Int → Int → Option (Bool)
  | 0, _, _, _ => none
  | k + 1, x0, x1, x5 => if x5 < (x0.length : Int) then (if 0 ≤ x5 then (if x5 < (x1.length : Int) then (if (rd x0 x5) = (rd x1 x5) then (vendmeterlaw_sameWords.l0 k x0 x1 (wrap64 (x5 + 1))) else (some false)) else (none)) else (none)) else (some true)
def vendmeterlaw_sameWords.f (k : Nat) (l0 : List Int) (l1 : List Int) : Option (Bool) := if (l0.length : Int) = (l1.length : Int) then (vendmeterlaw_sameWords.l0 k l0 l1 0) else (some false)
theorem vendmeterlaw_sameWords.mono_l : ∀ k, (∀ y0 y1 y2, LeO (vendmeterlaw_sameWords.l0 k y0 y1 y2) (vendmeterlaw_sameWords.l0 (k + 1) y0 y1 y2))
  | 0 => fun _ _ _ r h => by simp [vendmeterlaw_sameWords.l0] at h
  | k + 1 => by
    have ih0 := vendmeterlaw_sameWords.mono_l k
    · intro y0 y1 y2
      unfold vendmeterlaw_sameWords.l0
      repeat' first
      | (with_reducible exact ih0 _ _ _)
      | (with_reducible exact LeO.refl _)
      | (with_reducible exact LeO.none _)
      | (with_reducible refine LeO.ite ?_ ?_)
      | (with_reducible refine LeO.bind ?_ (fun _ => ?_))
      | exact ih0 _ _ _
      | exact LeO.none _
      | refine LeO.ite ?_ ?_
      | refine LeO.bind ?_ (fun _ => ?_)
theorem vendmeterlaw_sameWords.mono : ∀ a0 a1 k, LeO (vendmeterlaw_sameWords.f k a0 a1) (vendmeterlaw_sameWords.f (k + 1) a0 a1) := by
  intro a0 a1 k
  have ih0 := vendmeterlaw_sameWords.mono_l k
  unfold vendmeterlaw_sameWords.f
  repeat' first
      | (with_reducible exact ih0 _ _ _)
      | (with_reducible exact LeO.refl _)
      | (with_reducible exact LeO.none _)
      | (with_reducible refine LeO.ite ?_ ?_)
      | (with_reducible refine LeO.bind ?_ (fun _ => ?_))
      | exact ih0 _ _ _
      | exact LeO.none _
      | refine LeO.ite ?_ ?_
      | refine LeO.bind ?_ (fun _ => ?_)
set_option maxHeartbeats 8000000 in
set_option maxRecDepth 100000 in
theorem vendmeterlaw_sameWords.calls (k : Nat) (A0 : Option Addr) (c0 : Nat) (l0 : List Int) (A1 : Option Addr) (c1 : Nat) (l1 : List Int) (r : Bool) (w : World) (hr0 : Kd.C (Kd.int .u32) w A0 l0.length l0) (hc0 : l0.length ≤ c0) (hr1 : Kd.C (Kd.int .u32) w A1 l1.length l1) (hc1 : l1.length ≤ c1) (h : vendmeterlaw_sameWords.f k l0 l1 = some r) :
    Calls Try.prog 46 #[.slice A0 l0.length c0, .slice A1 l1.length c1] w fun e w' => e = .returned (.bool r) ∧ Drawn0 w w' := by
  have HR0 := Aside0.mk hr0
  have HC0 := Aside0.mk hc0
  clear hr0 hc0
  have HR1 := Aside0.mk hr1
  have HC1 := Aside0.mk hc1
  clear hr1 hc1
  have H : (if (l0.length : Int) = (l1.length : Int) then (vendmeterlaw_sameWords.l0 k l0 l1 0) else (some false)) = some r := h
  clear h
  by_cases c3 : (l0.length : Int) = (l1.length : Int)
  · rw [if_pos c3] at H
    have c3b0 : ((l0.length : Int) == (l1.length : Int)) = true := beq_iff_eq.mpr c3
    have c3b1 : ((l0.length : Int) != (l1.length : Int)) = false := bne_eq_false_iff_eq.mpr c3
    have c3b2 : (l0.length == l1.length) = true := by first | simpa using c3 | (simp at c3 ⊢; omega)
    clear c3
    have H' := Aside0.mk H
    clear H
    go_enter Try.func46, Try.ntmps46
    go_wp2
    repeat (go_quiet (fail); try go_wp2)
    go_loopg [5] k (fun kq v5 w' => ∃ (x5_1 : Int), v5 = .int .i64 x5_1 ∧ Aside0 (vendmeterlaw_sameWords.l0 kq l0 l1 x5_1 = some r) ∧ Aside0 (kq ≤ k) ∧ Drawn0 w w')
    case atStart => exact ⟨(0), (by first | rfl | (simp; done) | (simp [*]; done)), H', ⟨Nat.le_refl _⟩, by repeat (first | exact Drawn0.refl _ | apply Drawn0.step)⟩
    case round =>
      clear H'
      try clear c1
      try clear p2
      try clear c3
      try clear c3b0
      try clear c3b1
      try clear c3b2
      obtain ⟨x5_1, rfl, HA, HK1, ⟨m1, rfl⟩⟩ := hrel
      cases gk with
      | zero => exact absurd HA.out (by simp [vendmeterlaw_sameWords.l0])
      | succ k1 =>
        have H := HA.out
        clear HA
        simp only [vendmeterlaw_sameWords.l0] at H
        by_cases c4 : x5_1 < (l0.length : Int)
        · rw [if_pos c4] at H
          have c4b0 : decide (x5_1 < (l0.length : Int)) = true := decide_eq_true c4
          clear c4
          by_cases c5 : 0 ≤ x5_1
          · rw [if_pos c5] at H
            have c5b0 : decide (0 ≤ x5_1) = true := decide_eq_true c5
            clear c5
            by_cases c6 : x5_1 < (l1.length : Int)
            · rw [if_pos c6] at H
              have c6b0 : decide (x5_1 < (l1.length : Int)) = true := decide_eq_true c6
              clear c6
              by_cases c7 : (rd l0 x5_1) = (rd l1 x5_1)
              · rw [if_pos c7] at H
                have c7b0 : ((rd l0 x5_1) == (rd l1 x5_1)) = true := beq_iff_eq.mpr c7
                have c7b1 : ((rd l0 x5_1) != (rd l1 x5_1)) = false := bne_eq_false_iff_eq.mpr c7
                clear c7
                have H' := Aside0.mk H
                clear H
                have p283 : 0 ≤ (x5_1 : Int) := of_decide_eq_true (by first | (with_reducible assumption) | assumption)
                have q283 : x5_1 < (l0.length : Int) := of_decide_eq_true (by first | (with_reducible assumption) | assumption)
                obtain ⟨ad283, e283, hx283_0⟩ := Kd.at_int HR0.out x5_1 p283 q283
                cases e283
                replace p283 := eq_true p283
                replace q283 := eq_true q283
                have p284 : 0 ≤ (x5_1 : Int) := of_decide_eq_true (by first | (with_reducible assumption) | assumption)
                have q284 : x5_1 < (l1.length : Int) := of_decide_eq_true (by first | (with_reducible assumption) | assumption)
                obtain ⟨ad284, e284, hx284_0⟩ := Kd.at_int HR1.out x5_1 p284 q284
                cases e284
                replace p284 := eq_true p284
                replace q284 := eq_true q284
                go_wp2
                repeat (go_quiet (fail); try go_wp2)
                go_roundg k1
                case measure => have := HK1.out; omega
                case rel => exact ⟨(wrap64 (x5_1 + 1)), (by first | rfl | (simp; done) | (simp [*]; done)), H', ⟨by have := HK1.out; omega⟩, by repeat (first | exact Drawn0.refl _ | apply Drawn0.step)⟩
              · rw [if_neg c7] at H
                have c7b0 : ((rd l0 x5_1) == (rd l1 x5_1)) = false := beq_eq_false_iff_ne.mpr c7
                have c7b1 : ((rd l0 x5_1) != (rd l1 x5_1)) = true := bne_iff_ne.mpr c7
                obtain rfl := Option.some.inj H
                have p283 : 0 ≤ (x5_1 : Int) := of_decide_eq_true (by first | (with_reducible assumption) | assumption)
                have q283 : x5_1 < (l0.length : Int) := of_decide_eq_true (by first | (with_reducible assumption) | assumption)
                obtain ⟨ad283, e283, hx283_0⟩ := Kd.at_int HR0.out x5_1 p283 q283
                cases e283
                replace p283 := eq_true p283
                replace q283 := eq_true q283
                have p284 : 0 ≤ (x5_1 : Int) := of_decide_eq_true (by first | (with_reducible assumption) | assumption)
                have q284 : x5_1 < (l1.length : Int) := of_decide_eq_true (by first | (with_reducible assumption) | assumption)
                obtain ⟨ad284, e284, hx284_0⟩ := Kd.at_int HR1.out x5_1 p284 q284
                cases e284
                replace p284 := eq_true p284
                replace q284 := eq_true q284
                go_wp2
                repeat (go_quiet (fail); try go_wp2)
                go_ret
                exact ⟨by first | rfl | (simp; done) | (simp [*]; done), by repeat (first | exact Drawn0.refl _ | apply Drawn0.step)⟩
            · rw [if_neg c6] at H
              exact absurd H (by simp)
          · rw [if_neg c5] at H
            exact absurd H (by simp)
        · rw [if_neg c4] at H
          have c4b0 : decide (x5_1 < (l0.length : Int)) = false := decide_eq_false c4
          clear c4
          obtain rfl := Option.some.inj H
          go_wp2
          repeat (go_quiet (fail); try go_wp2)
          go_ret
          exact ⟨by first | rfl | (simp; done) | (simp [*]; done), by repeat (first | exact Drawn0.refl _ | apply Drawn0.step)⟩
  · rw [if_neg c3] at H
    have c3b0 : ((l0.length : Int) == (l1.length : Int)) = false := beq_eq_false_iff_ne.mpr c3
    have c3b1 : ((l0.length : Int) != (l1.length : Int)) = true := bne_iff_ne.mpr c3
    have c3b2 : (l0.length == l1.length) = false := by first | simpa using c3 | (simp at c3 ⊢; omega)
    obtain rfl := Option.some.inj H
    go_enter Try.func46, Try.ntmps46
    go_wp2
    repeat (go_quiet (fail); try go_wp2)
    go_ret
    exact ⟨by first | rfl | (simp; done) | (simp [*]; done), by repeat (first | exact Drawn0.refl _ | apply Drawn0.step)⟩

/-! ### vendmeterlaw_sameOracle: function 47 -/
theorem xa47 {w : World} {g : Nat} {o : Obj} (h : w.heap[g]? = some o) (o' : Obj) : (w.alloc o').heap[g]? = some o := blk_alloc h o'
theorem xd47 {w : World} {g : Nat} {o : Obj} (h : w.heap[g]? = some o) : w.drew.heap[g]? = some o := blk_drew h
theorem xn47 {w : World} {g : Nat} {o : Obj} (h : w.heap[g]? = some o) (n : Nat) : (w.drewN n).heap[g]? = some o := blk_drewN h n
theorem ya47 {w W : World} (h : Below w.heap.size w W) (o : Obj) : Below w.heap.size w (W.alloc o) := below_alloc h o
theorem yn47 {B : Nat} {w W : World} (h : Below B w W) (n : Nat) : Below B w (W.drewN n) := pw_below_drewN h n
theorem yd47 {B : Nat} {w W : World} (h : Below B w W) : Below B w W.drew := below_drew1 h
def vendmeterlaw_sameOracle.l0 : Nat → Int → List (S129) → List (S129) → Option (Bool)
  | 0, _, _, _ => none
  | k + 1, x5, x286000, x287000 => if x5 < (x286000.length : Int) then (if 0 ≤ x5 then (if x5 < (x287000.length : Int) then (if (!(((rd_T129 x286000 x5).f0) == ((rd_T129 x287000 x5).f0)) || (!(((rd_T129 x286000 x5).f1) == ((rd_T129 x287000 x5).f1)) || (!(((rd_T129 x286000 x5).f2) == ((rd_T129 x287000 x5).f2)) || (!(((rd_T129 x286000 x5).f3) == ((rd_T129 x287000 x5).f3)))))) = true then (some false) else (vendmeterlaw_sameOracle.l0 k (wrap64 (x5 + 1)) x286000 x287000)) else (none)) else (none)) else (some true)
def vendmeterlaw_sameOracle.f (k : Nat) (l0_0 : List (S129)) (l1_0 : List (S129)) : Option (Bool) := if (l0_0.length : Int) = (l1_0.length : Int) then (vendmeterlaw_sameOracle.l0 k 0 l0_0 l1_0) else (some false)
theorem vendmeterlaw_sameOracle.mono_l : ∀ k, (∀ y0 y1 y2, LeO (vendmeterlaw_sameOracle.l0 k y0 y1 y2) (vendmeterlaw_sameOracle.l0 (k + 1) y0 y1 y2))
  | 0 => fun _ _ _ r h => by simp [vendmeterlaw_sameOracle.l0] at h
  | k + 1 => by
    have ih0 := vendmeterlaw_sameOracle.mono_l k
    · intro y0 y1 y2
      unfold vendmeterlaw_sameOracle.l0
      repeat' first
      | (with_reducible exact ih0 _ _ _)
      | (with_reducible exact LeO.refl _)
      | (with_reducible exact LeO.none _)
      | (with_reducible refine LeO.ite ?_ ?_)
      | (with_reducible refine LeO.bind ?_ (fun _ => ?_))
      | exact ih0 _ _ _
      | exact LeO.none _
      | refine LeO.ite ?_ ?_
      | refine LeO.bind ?_ (fun _ => ?_)
theorem vendmeterlaw_sameOracle.mono : ∀ a0 a1 k, LeO (vendmeterlaw_sameOracle.f k a0 a1) (vendmeterlaw_sameOracle.f (k + 1) a0 a1) := by
  intro a0 a1 k
  have ih0 := vendmeterlaw_sameOracle.mono_l k
  unfold vendmeterlaw_sameOracle.f
  repeat' first
      | (with_reducible exact ih0 _ _ _)
      | (with_reducible exact LeO.refl _)
      | (with_reducible exact LeO.none _)
      | (with_reducible refine LeO.ite ?_ ?_)
      | (with_reducible refine LeO.bind ?_ (fun _ => ?_))
      | exact ih0 _ _ _
      | exact LeO.none _
      | refine LeO.ite ?_ ?_
      | refine LeO.bind ?_ (fun _ => ?_)
set_option maxHeartbeats 8000000 in
set_option maxRecDepth 100000 in
theorem vendmeterlaw_sameOracle.calls (k : Nat) (A0_0 : Option Addr) (c0_0 : Nat) (l0_0 : List (S129)) (A1_0 : Option Addr) (c1_0 : Nat) (l1_0 : List (S129)) (r : Bool) (w : World) (hr0_0 : Kd.C k129 w A0_0 l0_0.length l0_0) (hc0_0 : l0_0.length ≤ c0_0) (hr1_0 : Kd.C k129 w A1_0 l1_0.length l1_0) (hc1_0 : l1_0.length ≤ c1_0) (h : vendmeterlaw_sameOracle.f k l0_0 l1_0 = some r) :
    Calls Try.prog 47 #[.agg #[.slice A0_0 l0_0.length c0_0], .agg #[.slice A1_0 l1_0.length c1_0]] w fun e w' => e = .returned (.bool r) ∧ Below w.heap.size w w' := by
  have hu45 := Try.underlying45
  have hu129 := Try.underlying129
  have HR0_0 := Aside0.mk hr0_0
  have HC0_0 := Aside0.mk hc0_0
  clear hr0_0 hc0_0
  have HR1_0 := Aside0.mk hr1_0
  have HC1_0 := Aside0.mk hc1_0
  clear hr1_0 hc1_0
  have HB := Aside0.mk (Below.refl w.heap.size w)
  have H : (if (l0_0.length : Int) = (l1_0.length : Int) then (vendmeterlaw_sameOracle.l0 k 0 l0_0 l1_0) else (some false)) = some r := h
  clear h
  by_cases c3 : (l0_0.length : Int) = (l1_0.length : Int)
  · rw [if_pos c3] at H
    have c3b0 : ((l0_0.length : Int) == (l1_0.length : Int)) = true := beq_iff_eq.mpr c3
    have c3b1 : ((l0_0.length : Int) != (l1_0.length : Int)) = false := bne_eq_false_iff_eq.mpr c3
    have c3b2 : (l0_0.length == l1_0.length) = true := by first | simpa using c3 | (simp at c3 ⊢; omega)
    clear c3
    have H' := Aside0.mk H
    clear H
    go_enter Try.func47, Try.ntmps47
    go_wp2_with (first | ((with_reducible refine gate_dst (N := 2) rfl ?_); refine box_event ?hg (N := 2) ?hd (cs := #[.slice A0_0 l0_0.length c0_0]) (t := 45) ?hr ?_; (case hd => rfl); (case hg => rfl); (case hr => first | (go_simp; done) | (go_simp; rfl)); intro gb285 hg w4 hbox hb; have n0_ := Aside0.mk (below_step (by with_reducible repeat (first | exact HB.1 | apply ya47 | apply yn47 | apply yd47)) hb); have n1_ := Aside0.mk (hbox); have n2_ := Aside0.mk ((by rw [hg]; exact (below_size (by with_reducible repeat (first | exact HB.1 | apply ya47 | apply yn47 | apply yd47))) : w.heap.size ≤ gb285)); have n3_ := n2_; clear HB; have HB := n0_; have BK285 := n1_; have GW285 := n2_; have GE285 := n3_; clear n0_ n1_ n2_ n3_; clear hb hbox hg) | ((with_reducible refine gate_dst (N := 3) rfl ?_); refine box_event ?hg (N := 3) ?hd (cs := #[.slice A1_0 l1_0.length c1_0]) (t := 45) ?hr ?_; (case hd => rfl); (case hg => rfl); (case hr => first | (go_simp; done) | (go_simp; rfl)); intro gb286 hg w5 hbox hb; have n0_ := Aside0.mk (blk_below (g := gb285) (o := .cells #[.slice A0_0 l0_0.length c0_0] 45 (0, 0)) (by (with_reducible repeat (first | apply xn47 | apply xd47 | apply xa47)); exact BK285.1) hb); have n1_ := Aside0.mk (below_step (by with_reducible repeat (first | exact HB.1 | apply ya47 | apply yn47 | apply yd47 | refine below_set ?_ GE285.1)) hb); have n2_ := Aside0.mk (hbox); have n3_ := Aside0.mk ((by rw [hg]; exact (below_size (by with_reducible repeat (first | exact HB.1 | apply ya47 | apply yn47 | apply yd47 | refine below_set ?_ GE285.1))) : w.heap.size ≤ gb286)); have n4_ := n3_; have n5_ := Aside0.mk ((by rw [hg]; exact Nat.ne_of_lt (blk_lt (g := gb285) (o := .cells #[.slice A0_0 l0_0.length c0_0] 45 (0, 0)) (by (with_reducible repeat (first | apply xn47 | apply xd47 | apply xa47)); exact BK285.1)) : gb285 ≠ gb286)); have n6_ := Aside0.mk ((by rw [hg]; exact Nat.ne_of_gt (blk_lt (g := gb285) (o := .cells #[.slice A0_0 l0_0.length c0_0] 45 (0, 0)) (by (with_reducible repeat (first | apply xn47 | apply xd47 | apply xa47)); exact BK285.1)) : gb286 ≠ gb285)); clear BK285; clear HB; have BK285 := n0_; have HB := n1_; have BK286 := n2_; have GW286 := n3_; have GE286 := n4_; have NB285_286 := n5_; have NB286_285 := n6_; clear n0_ n1_ n2_ n3_ n4_ n5_ n6_; clear hb hbox hg; have hnb6 := NB285_286.1; have hnc6 := NB286_285.1; have hcz7_0 : w5.cell? ⟨gb285, 0, none⟩ = some (.slice A0_0 l0_0.length c0_0) := (blk_cell BK285.1 0).trans rfl; have hfz7_0 := blk_frozen BK285.1 0; have hcz8_0 : w5.cell? ⟨gb286, 0, none⟩ = some (.slice A1_0 l1_0.length c1_0) := (blk_cell BK286.1 0).trans rfl; have hfz8_0 := blk_frozen BK286.1 0))
    repeat (go_quiet (first | ((with_reducible refine gate_dst (N := 2) rfl ?_); refine box_event ?hg (N := 2) ?hd (cs := #[.slice A0_0 l0_0.length c0_0]) (t := 45) ?hr ?_; (case hd => rfl); (case hg => rfl); (case hr => first | (go_simp; done) | (go_simp; rfl)); intro gb285 hg w4 hbox hb; have n0_ := Aside0.mk (below_step (by with_reducible repeat (first | exact HB.1 | apply ya47 | apply yn47 | apply yd47)) hb); have n1_ := Aside0.mk (hbox); have n2_ := Aside0.mk ((by rw [hg]; exact (below_size (by with_reducible repeat (first | exact HB.1 | apply ya47 | apply yn47 | apply yd47))) : w.heap.size ≤ gb285)); have n3_ := n2_; clear HB; have HB := n0_; have BK285 := n1_; have GW285 := n2_; have GE285 := n3_; clear n0_ n1_ n2_ n3_; clear hb hbox hg) | ((with_reducible refine gate_dst (N := 3) rfl ?_); refine box_event ?hg (N := 3) ?hd (cs := #[.slice A1_0 l1_0.length c1_0]) (t := 45) ?hr ?_; (case hd => rfl); (case hg => rfl); (case hr => first | (go_simp; done) | (go_simp; rfl)); intro gb286 hg w5 hbox hb; have n0_ := Aside0.mk (blk_below (g := gb285) (o := .cells #[.slice A0_0 l0_0.length c0_0] 45 (0, 0)) (by (with_reducible repeat (first | apply xn47 | apply xd47 | apply xa47)); exact BK285.1) hb); have n1_ := Aside0.mk (below_step (by with_reducible repeat (first | exact HB.1 | apply ya47 | apply yn47 | apply yd47 | refine below_set ?_ GE285.1)) hb); have n2_ := Aside0.mk (hbox); have n3_ := Aside0.mk ((by rw [hg]; exact (below_size (by with_reducible repeat (first | exact HB.1 | apply ya47 | apply yn47 | apply yd47 | refine below_set ?_ GE285.1))) : w.heap.size ≤ gb286)); have n4_ := n3_; have n5_ := Aside0.mk ((by rw [hg]; exact Nat.ne_of_lt (blk_lt (g := gb285) (o := .cells #[.slice A0_0 l0_0.length c0_0] 45 (0, 0)) (by (with_reducible repeat (first | apply xn47 | apply xd47 | apply xa47)); exact BK285.1)) : gb285 ≠ gb286)); have n6_ := Aside0.mk ((by rw [hg]; exact Nat.ne_of_gt (blk_lt (g := gb285) (o := .cells #[.slice A0_0 l0_0.length c0_0] 45 (0, 0)) (by (with_reducible repeat (first | apply xn47 | apply xd47 | apply xa47)); exact BK285.1)) : gb286 ≠ gb285)); clear BK285; clear HB; have BK285 := n0_; have HB := n1_; have BK286 := n2_; have GW286 := n3_; have GE286 := n4_; have NB285_286 := n5_; have NB286_285 := n6_; clear n0_ n1_ n2_ n3_ n4_ n5_ n6_; clear hb hbox hg; have hnb6 := NB285_286.1; have hnc6 := NB286_285.1; have hcz7_0 : w5.cell? ⟨gb285, 0, none⟩ = some (.slice A0_0 l0_0.length c0_0) := (blk_cell BK285.1 0).trans rfl; have hfz7_0 := blk_frozen BK285.1 0; have hcz8_0 : w5.cell? ⟨gb286, 0, none⟩ = some (.slice A1_0 l1_0.length c1_0) := (blk_cell BK286.1 0).trans rfl; have hfz8_0 := blk_frozen BK286.1 0)); try go_wp2_with (first | ((with_reducible refine gate_dst (N := 2) rfl ?_); refine box_event ?hg (N := 2) ?hd (cs := #[.slice A0_0 l0_0.length c0_0]) (t := 45) ?hr ?_; (case hd => rfl); (case hg => rfl); (case hr => first | (go_simp; done) | (go_simp; rfl)); intro gb285 hg w4 hbox hb; have n0_ := Aside0.mk (below_step (by with_reducible repeat (first | exact HB.1 | apply ya47 | apply yn47 | apply yd47)) hb); have n1_ := Aside0.mk (hbox); have n2_ := Aside0.mk ((by rw [hg]; exact (below_size (by with_reducible repeat (first | exact HB.1 | apply ya47 | apply yn47 | apply yd47))) : w.heap.size ≤ gb285)); have n3_ := n2_; clear HB; have HB := n0_; have BK285 := n1_; have GW285 := n2_; have GE285 := n3_; clear n0_ n1_ n2_ n3_; clear hb hbox hg) | ((with_reducible refine gate_dst (N := 3) rfl ?_); refine box_event ?hg (N := 3) ?hd (cs := #[.slice A1_0 l1_0.length c1_0]) (t := 45) ?hr ?_; (case hd => rfl); (case hg => rfl); (case hr => first | (go_simp; done) | (go_simp; rfl)); intro gb286 hg w5 hbox hb; have n0_ := Aside0.mk (blk_below (g := gb285) (o := .cells #[.slice A0_0 l0_0.length c0_0] 45 (0, 0)) (by (with_reducible repeat (first | apply xn47 | apply xd47 | apply xa47)); exact BK285.1) hb); have n1_ := Aside0.mk (below_step (by with_reducible repeat (first | exact HB.1 | apply ya47 | apply yn47 | apply yd47 | refine below_set ?_ GE285.1)) hb); have n2_ := Aside0.mk (hbox); have n3_ := Aside0.mk ((by rw [hg]; exact (below_size (by with_reducible repeat (first | exact HB.1 | apply ya47 | apply yn47 | apply yd47 | refine below_set ?_ GE285.1))) : w.heap.size ≤ gb286)); have n4_ := n3_; have n5_ := Aside0.mk ((by rw [hg]; exact Nat.ne_of_lt (blk_lt (g := gb285) (o := .cells #[.slice A0_0 l0_0.length c0_0] 45 (0, 0)) (by (with_reducible repeat (first | apply xn47 | apply xd47 | apply xa47)); exact BK285.1)) : gb285 ≠ gb286)); have n6_ := Aside0.mk ((by rw [hg]; exact Nat.ne_of_gt (blk_lt (g := gb285) (o := .cells #[.slice A0_0 l0_0.length c0_0] 45 (0, 0)) (by (with_reducible repeat (first | apply xn47 | apply xd47 | apply xa47)); exact BK285.1)) : gb286 ≠ gb285)); clear BK285; clear HB; have BK285 := n0_; have HB := n1_; have BK286 := n2_; have GW286 := n3_; have GE286 := n4_; have NB285_286 := n5_; have NB286_285 := n6_; clear n0_ n1_ n2_ n3_ n4_ n5_ n6_; clear hb hbox hg; have hnb6 := NB285_286.1; have hnc6 := NB286_285.1; have hcz7_0 : w5.cell? ⟨gb285, 0, none⟩ = some (.slice A0_0 l0_0.length c0_0) := (blk_cell BK285.1 0).trans rfl; have hfz7_0 := blk_frozen BK285.1 0; have hcz8_0 : w5.cell? ⟨gb286, 0, none⟩ = some (.slice A1_0 l1_0.length c1_0) := (blk_cell BK286.1 0).trans rfl; have hfz8_0 := blk_frozen BK286.1 0)))
    go_loopg [5] k (fun kq v5 w' => ∃ (x5_1 : Int), v5 = .int .i64 x5_1 ∧ Aside0 (vendmeterlaw_sameOracle.l0 kq x5_1 l0_0 l1_0 = some r) ∧ Aside0 (kq ≤ k) ∧ Aside0 (w'.heap[gb285]? = some (.cells #[(.slice A0_0 l0_0.length c0_0)] 45 (0, 0))) ∧ Aside0 (w'.heap[gb286]? = some (.cells #[(.slice A1_0 l1_0.length c1_0)] 45 (0, 0))) ∧ Aside0 (Below w.heap.size w w'))
    case atStart => exact ⟨(0), (by first | rfl | (simp; done) | (simp [*]; done)), H', ⟨Nat.le_refl _⟩, ⟨by (with_reducible repeat (first | apply xn47 | apply xd47 | apply xa47)); exact BK285.1⟩, ⟨by (with_reducible repeat (first | apply xn47 | apply xd47 | apply xa47)); exact BK286.1⟩, ⟨by repeat (first | (with_reducible first | exact HB.1 | apply below_alloc | apply pw_below_drewN | apply below_drew1 | refine below_set ?_ GE285.1 | refine below_set ?_ GE286.1) | exact HB.1)⟩⟩
    case round =>
      clear H'
      try clear c1
      try clear p2
      try clear c3
      try clear c3b0
      try clear c3b1
      try clear c3b2
      try clear c4
      try clear c6
      try clear hcz7_0
      try clear hcz8_0
      try clear hfz7_0
      try clear hfz8_0
      obtain ⟨x5_1, rfl, HA, HK1, BK285, BK286, HB⟩ := hrel
      cases gk with
      | zero => exact absurd HA.out (by simp [vendmeterlaw_sameOracle.l0])
      | succ k1 =>
        have H := HA.out
        clear HA
        simp only [vendmeterlaw_sameOracle.l0] at H
        by_cases c9 : x5_1 < (l0_0.length : Int)
        · rw [if_pos c9] at H
          have c9b0 : decide (x5_1 < (l0_0.length : Int)) = true := decide_eq_true c9
          clear c9
          by_cases c10 : 0 ≤ x5_1
          · rw [if_pos c10] at H
            have c10b0 : decide (0 ≤ x5_1) = true := decide_eq_true c10
            clear c10
            by_cases c11 : x5_1 < (l1_0.length : Int)
            · rw [if_pos c11] at H
              have c11b0 : decide (x5_1 < (l1_0.length : Int)) = true := decide_eq_true c11
              clear c11
              by_cases c12 : (!(((rd_T129 l0_0 x5_1).f0) == ((rd_T129 l1_0 x5_1).f0)) || (!(((rd_T129 l0_0 x5_1).f1) == ((rd_T129 l1_0 x5_1).f1)) || (!(((rd_T129 l0_0 x5_1).f2) == ((rd_T129 l1_0 x5_1).f2)) || (!(((rd_T129 l0_0 x5_1).f3) == ((rd_T129 l1_0 x5_1).f3)))))) = true
              · rw [if_pos c12] at H
                have c12b0 : (!(((rd_T129 l0_0 x5_1).f0) == ((rd_T129 l1_0 x5_1).f0)) || (!(((rd_T129 l0_0 x5_1).f1) == ((rd_T129 l1_0 x5_1).f1)) || (!(((rd_T129 l0_0 x5_1).f2) == ((rd_T129 l1_0 x5_1).f2)) || (!(((rd_T129 l0_0 x5_1).f3) == ((rd_T129 l1_0 x5_1).f3)))))) = true := c12
                clear c12
                obtain rfl := Option.some.inj H
                have hnb13 := NB285_286.1
                have hnc13 := NB286_285.1
                have hcz14_0 : wr.cell? ⟨gb285, 0, none⟩ = some (.slice A0_0 l0_0.length c0_0) := (blk_cell BK285.1 0).trans rfl
                have hfz14_0 := blk_frozen BK285.1 0
                have p287 : 0 ≤ (x5_1 : Int) := of_decide_eq_true (by first | (with_reducible assumption) | assumption)
                have q287 : x5_1 < (l0_0.length : Int) := of_decide_eq_true (by first | (with_reducible assumption) | assumption)
                obtain ⟨ad287, e287, hx287_0, hx287_1, hx287_2, hx287_3⟩ := at_T129 HR0_0.out x5_1 p287 q287
                cases e287
                replace hx287_0 := (HB.1.cell (World.block_lt_of_cell? w _ hx287_0)).trans hx287_0
                replace hx287_1 := (HB.1.cell (World.block_lt_of_cell? w _ hx287_1)).trans hx287_1
                replace hx287_2 := (HB.1.cell (World.block_lt_of_cell? w _ hx287_2)).trans hx287_2
                replace hx287_3 := (HB.1.cell (World.block_lt_of_cell? w _ hx287_3)).trans hx287_3
                replace p287 := eq_true p287
                replace q287 := eq_true q287
                have hcz15_0 : wr.cell? ⟨gb286, 0, none⟩ = some (.slice A1_0 l1_0.length c1_0) := (blk_cell BK286.1 0).trans rfl
                have hfz15_0 := blk_frozen BK286.1 0
                have p288 : 0 ≤ (x5_1 : Int) := of_decide_eq_true (by first | (with_reducible assumption) | assumption)
                have q288 : x5_1 < (l1_0.length : Int) := of_decide_eq_true (by first | (with_reducible assumption) | assumption)
                obtain ⟨ad288, e288, hx288_0, hx288_1, hx288_2, hx288_3⟩ := at_T129 HR1_0.out x5_1 p288 q288
                cases e288
                replace hx288_0 := (HB.1.cell (World.block_lt_of_cell? w _ hx288_0)).trans hx288_0
                replace hx288_1 := (HB.1.cell (World.block_lt_of_cell? w _ hx288_1)).trans hx288_1
                replace hx288_2 := (HB.1.cell (World.block_lt_of_cell? w _ hx288_2)).trans hx288_2
                replace hx288_3 := (HB.1.cell (World.block_lt_of_cell? w _ hx288_3)).trans hx288_3
                replace p288 := eq_true p288
                replace q288 := eq_true q288
                go_wp2
                repeat (go_quiet (fail); try go_wp2)
                go_ret
                exact ⟨by first | rfl | (simp [errW_none, errW_some] <;> rfl) | (simp [*, errW_none, errW_some] <;> rfl), by repeat (first | (with_reducible first | exact HB.1 | apply below_alloc | apply pw_below_drewN | apply below_drew1 | refine below_set ?_ GE285.1 | refine below_set ?_ GE286.1) | exact HB.1)⟩
              · rw [if_neg c12] at H
                have c12b0 : (!(((rd_T129 l0_0 x5_1).f0) == ((rd_T129 l1_0 x5_1).f0)) || (!(((rd_T129 l0_0 x5_1).f1) == ((rd_T129 l1_0 x5_1).f1)) || (!(((rd_T129 l0_0 x5_1).f2) == ((rd_T129 l1_0 x5_1).f2)) || (!(((rd_T129 l0_0 x5_1).f3) == ((rd_T129 l1_0 x5_1).f3)))))) = false := by simpa using c12
                clear c12
                have H' := Aside0.mk H
                clear H
                have hnb16 := NB285_286.1
                have hnc16 := NB286_285.1
                have hcz17_0 : wr.cell? ⟨gb285, 0, none⟩ = some (.slice A0_0 l0_0.length c0_0) := (blk_cell BK285.1 0).trans rfl
                have hfz17_0 := blk_frozen BK285.1 0
                have p287 : 0 ≤ (x5_1 : Int) := of_decide_eq_true (by first | (with_reducible assumption) | assumption)
                have q287 : x5_1 < (l0_0.length : Int) := of_decide_eq_true (by first | (with_reducible assumption) | assumption)
                obtain ⟨ad287, e287, hx287_0, hx287_1, hx287_2, hx287_3⟩ := at_T129 HR0_0.out x5_1 p287 q287
                cases e287
                replace hx287_0 := (HB.1.cell (World.block_lt_of_cell? w _ hx287_0)).trans hx287_0
                replace hx287_1 := (HB.1.cell (World.block_lt_of_cell? w _ hx287_1)).trans hx287_1
                replace hx287_2 := (HB.1.cell (World.block_lt_of_cell? w _ hx287_2)).trans hx287_2
                replace hx287_3 := (HB.1.cell (World.block_lt_of_cell? w _ hx287_3)).trans hx287_3
                replace p287 := eq_true p287
                replace q287 := eq_true q287
                have hcz18_0 : wr.cell? ⟨gb286, 0, none⟩ = some (.slice A1_0 l1_0.length c1_0) := (blk_cell BK286.1 0).trans rfl
                have hfz18_0 := blk_frozen BK286.1 0
                have p288 : 0 ≤ (x5_1 : Int) := of_decide_eq_true (by first | (with_reducible assumption) | assumption)
                have q288 : x5_1 < (l1_0.length : Int) := of_decide_eq_true (by first | (with_reducible assumption) | assumption)
                obtain ⟨ad288, e288, hx288_0, hx288_1, hx288_2, hx288_3⟩ := at_T129 HR1_0.out x5_1 p288 q288
                cases e288
                replace hx288_0 := (HB.1.cell (World.block_lt_of_cell? w _ hx288_0)).trans hx288_0
                replace hx288_1 := (HB.1.cell (World.block_lt_of_cell? w _ hx288_1)).trans hx288_1
                replace hx288_2 := (HB.1.cell (World.block_lt_of_cell? w _ hx288_2)).trans hx288_2
                replace hx288_3 := (HB.1.cell (World.block_lt_of_cell? w _ hx288_3)).trans hx288_3
                replace p288 := eq_true p288
                replace q288 := eq_true q288
                go_wp2
                repeat (go_quiet (fail); try go_wp2)
                go_roundg k1
                case measure => have := HK1.out; omega
                case rel => exact ⟨(wrap64 (x5_1 + 1)), (by first | rfl | (simp; done) | (simp [*]; done)), H', ⟨by have := HK1.out; omega⟩, ⟨by (with_reducible repeat (first | apply xn47 | apply xd47 | apply xa47)); exact BK285.1⟩, ⟨by (with_reducible repeat (first | apply xn47 | apply xd47 | apply xa47)); exact BK286.1⟩, ⟨by repeat (first | (with_reducible first | exact HB.1 | apply below_alloc | apply pw_below_drewN | apply below_drew1 | refine below_set ?_ GE285.1 | refine below_set ?_ GE286.1) | exact HB.1)⟩⟩
            · rw [if_neg c11] at H
              exact absurd H (by simp)
          · rw [if_neg c10] at H
            exact absurd H (by simp)
        · rw [if_neg c9] at H
          have c9b0 : decide (x5_1 < (l0_0.length : Int)) = false := decide_eq_false c9
          clear c9
          obtain rfl := Option.some.inj H
          have hnb19 := NB285_286.1
          have hnc19 := NB286_285.1
          have hcz20_0 : wr.cell? ⟨gb285, 0, none⟩ = some (.slice A0_0 l0_0.length c0_0) := (blk_cell BK285.1 0).trans rfl
          have hfz20_0 := blk_frozen BK285.1 0
          go_wp2
          repeat (go_quiet (fail); try go_wp2)
          go_ret
          exact ⟨by first | rfl | (simp [errW_none, errW_some] <;> rfl) | (simp [*, errW_none, errW_some] <;> rfl), by repeat (first | (with_reducible first | exact HB.1 | apply below_alloc | apply pw_below_drewN | apply below_drew1 | refine below_set ?_ GE285.1 | refine below_set ?_ GE286.1) | exact HB.1)⟩
  · rw [if_neg c3] at H
    have c3b0 : ((l0_0.length : Int) == (l1_0.length : Int)) = false := beq_eq_false_iff_ne.mpr c3
    have c3b1 : ((l0_0.length : Int) != (l1_0.length : Int)) = true := bne_iff_ne.mpr c3
    have c3b2 : (l0_0.length == l1_0.length) = false := by first | simpa using c3 | (simp at c3 ⊢; omega)
    obtain rfl := Option.some.inj H
    go_enter Try.func47, Try.ntmps47
    go_wp2_with (first | ((with_reducible refine gate_dst (N := 2) rfl ?_); refine box_event ?hg (N := 2) ?hd (cs := #[.slice A0_0 l0_0.length c0_0]) (t := 45) ?hr ?_; (case hd => rfl); (case hg => rfl); (case hr => first | (go_simp; done) | (go_simp; rfl)); intro gb285 hg w21 hbox hb; have n0_ := Aside0.mk (below_step (by with_reducible repeat (first | exact HB.1 | apply ya47 | apply yn47 | apply yd47)) hb); have n1_ := Aside0.mk (hbox); have n2_ := Aside0.mk ((by rw [hg]; exact (below_size (by with_reducible repeat (first | exact HB.1 | apply ya47 | apply yn47 | apply yd47))) : w.heap.size ≤ gb285)); have n3_ := n2_; clear HB; have HB := n0_; have BK285 := n1_; have GW285 := n2_; have GE285 := n3_; clear n0_ n1_ n2_ n3_; clear hb hbox hg) | ((with_reducible refine gate_dst (N := 3) rfl ?_); refine box_event ?hg (N := 3) ?hd (cs := #[.slice A1_0 l1_0.length c1_0]) (t := 45) ?hr ?_; (case hd => rfl); (case hg => rfl); (case hr => first | (go_simp; done) | (go_simp; rfl)); intro gb286 hg w22 hbox hb; have n0_ := Aside0.mk (blk_below (g := gb285) (o := .cells #[.slice A0_0 l0_0.length c0_0] 45 (0, 0)) (by (with_reducible repeat (first | apply xn47 | apply xd47 | apply xa47)); exact BK285.1) hb); have n1_ := Aside0.mk (below_step (by with_reducible repeat (first | exact HB.1 | apply ya47 | apply yn47 | apply yd47 | refine below_set ?_ GE285.1)) hb); have n2_ := Aside0.mk (hbox); have n3_ := Aside0.mk ((by rw [hg]; exact (below_size (by with_reducible repeat (first | exact HB.1 | apply ya47 | apply yn47 | apply yd47 | refine below_set ?_ GE285.1))) : w.heap.size ≤ gb286)); have n4_ := n3_; have n5_ := Aside0.mk ((by rw [hg]; exact Nat.ne_of_lt (blk_lt (g := gb285) (o := .cells #[.slice A0_0 l0_0.length c0_0] 45 (0, 0)) (by (with_reducible repeat (first | apply xn47 | apply xd47 | apply xa47)); exact BK285.1)) : gb285 ≠ gb286)); have n6_ := Aside0.mk ((by rw [hg]; exact Nat.ne_of_gt (blk_lt (g := gb285) (o := .cells #[.slice A0_0 l0_0.length c0_0] 45 (0, 0)) (by (with_reducible repeat (first | apply xn47 | apply xd47 | apply xa47)); exact BK285.1)) : gb286 ≠ gb285)); clear BK285; clear HB; have BK285 := n0_; have HB := n1_; have BK286 := n2_; have GW286 := n3_; have GE286 := n4_; have NB285_286 := n5_; have NB286_285 := n6_; clear n0_ n1_ n2_ n3_ n4_ n5_ n6_; clear hb hbox hg; have hnb23 := NB285_286.1; have hnc23 := NB286_285.1; have hcz24_0 : w22.cell? ⟨gb285, 0, none⟩ = some (.slice A0_0 l0_0.length c0_0) := (blk_cell BK285.1 0).trans rfl; have hfz24_0 := blk_frozen BK285.1 0; have hcz25_0 : w22.cell? ⟨gb286, 0, none⟩ = some (.slice A1_0 l1_0.length c1_0) := (blk_cell BK286.1 0).trans rfl; have hfz25_0 := blk_frozen BK286.1 0))
    repeat (go_quiet (first | ((with_reducible refine gate_dst (N := 2) rfl ?_); refine box_event ?hg (N := 2) ?hd (cs := #[.slice A0_0 l0_0.length c0_0]) (t := 45) ?hr ?_; (case hd => rfl); (case hg => rfl); (case hr => first | (go_simp; done) | (go_simp; rfl)); intro gb285 hg w21 hbox hb; have n0_ := Aside0.mk (below_step (by with_reducible repeat (first | exact HB.1 | apply ya47 | apply yn47 | apply yd47)) hb); have n1_ := Aside0.mk (hbox); have n2_ := Aside0.mk ((by rw [hg]; exact (below_size (by with_reducible repeat (first | exact HB.1 | apply ya47 | apply yn47 | apply yd47))) : w.heap.size ≤ gb285)); have n3_ := n2_; clear HB; have HB := n0_; have BK285 := n1_; have GW285 := n2_; have GE285 := n3_; clear n0_ n1_ n2_ n3_; clear hb hbox hg) | ((with_reducible refine gate_dst (N := 3) rfl ?_); refine box_event ?hg (N := 3) ?hd (cs := #[.slice A1_0 l1_0.length c1_0]) (t := 45) ?hr ?_; (case hd => rfl); (case hg => rfl); (case hr => first | (go_simp; done) | (go_simp; rfl)); intro gb286 hg w22 hbox hb; have n0_ := Aside0.mk (blk_below (g := gb285) (o := .cells #[.slice A0_0 l0_0.length c0_0] 45 (0, 0)) (by (with_reducible repeat (first | apply xn47 | apply xd47 | apply xa47)); exact BK285.1) hb); have n1_ := Aside0.mk (below_step (by with_reducible repeat (first | exact HB.1 | apply ya47 | apply yn47 | apply yd47 | refine below_set ?_ GE285.1)) hb); have n2_ := Aside0.mk (hbox); have n3_ := Aside0.mk ((by rw [hg]; exact (below_size (by with_reducible repeat (first | exact HB.1 | apply ya47 | apply yn47 | apply yd47 | refine below_set ?_ GE285.1))) : w.heap.size ≤ gb286)); have n4_ := n3_; have n5_ := Aside0.mk ((by rw [hg]; exact Nat.ne_of_lt (blk_lt (g := gb285) (o := .cells #[.slice A0_0 l0_0.length c0_0] 45 (0, 0)) (by (with_reducible repeat (first | apply xn47 | apply xd47 | apply xa47)); exact BK285.1)) : gb285 ≠ gb286)); have n6_ := Aside0.mk ((by rw [hg]; exact Nat.ne_of_gt (blk_lt (g := gb285) (o := .cells #[.slice A0_0 l0_0.length c0_0] 45 (0, 0)) (by (with_reducible repeat (first | apply xn47 | apply xd47 | apply xa47)); exact BK285.1)) : gb286 ≠ gb285)); clear BK285; clear HB; have BK285 := n0_; have HB := n1_; have BK286 := n2_; have GW286 := n3_; have GE286 := n4_; have NB285_286 := n5_; have NB286_285 := n6_; clear n0_ n1_ n2_ n3_ n4_ n5_ n6_; clear hb hbox hg; have hnb23 := NB285_286.1; have hnc23 := NB286_285.1; have hcz24_0 : w22.cell? ⟨gb285, 0, none⟩ = some (.slice A0_0 l0_0.length c0_0) := (blk_cell BK285.1 0).trans rfl; have hfz24_0 := blk_frozen BK285.1 0; have hcz25_0 : w22.cell? ⟨gb286, 0, none⟩ = some (.slice A1_0 l1_0.length c1_0) := (blk_cell BK286.1 0).trans rfl; have hfz25_0 := blk_frozen BK286.1 0)); try go_wp2_with (first | ((with_reducible refine gate_dst (N := 2) rfl ?_); refine box_event ?hg (N := 2) ?hd (cs := #[.slice A0_0 l0_0.length c0_0]) (t := 45) ?hr ?_; (case hd => rfl); (case hg => rfl); (case hr => first | (go_simp; done) | (go_simp; rfl)); intro gb285 hg w21 hbox hb; have n0_ := Aside0.mk (below_step (by with_reducible repeat (first | exact HB.1 | apply ya47 | apply yn47 | apply yd47)) hb); have n1_ := Aside0.mk (hbox); have n2_ := Aside0.mk ((by rw [hg]; exact (below_size (by with_reducible repeat (first | exact HB.1 | apply ya47 | apply yn47 | apply yd47))) : w.heap.size ≤ gb285)); have n3_ := n2_; clear HB; have HB := n0_; have BK285 := n1_; have GW285 := n2_; have GE285 := n3_; clear n0_ n1_ n2_ n3_; clear hb hbox hg) | ((with_reducible refine gate_dst (N := 3) rfl ?_); refine box_event ?hg (N := 3) ?hd (cs := #[.slice A1_0 l1_0.length c1_0]) (t := 45) ?hr ?_; (case hd => rfl); (case hg => rfl); (case hr => first | (go_simp; done) | (go_simp; rfl)); intro gb286 hg w22 hbox hb; have n0_ := Aside0.mk (blk_below (g := gb285) (o := .cells #[.slice A0_0 l0_0.length c0_0] 45 (0, 0)) (by (with_reducible repeat (first | apply xn47 | apply xd47 | apply xa47)); exact BK285.1) hb); have n1_ := Aside0.mk (below_step (by with_reducible repeat (first | exact HB.1 | apply ya47 | apply yn47 | apply yd47 | refine below_set ?_ GE285.1)) hb); have n2_ := Aside0.mk (hbox); have n3_ := Aside0.mk ((by rw [hg]; exact (below_size (by with_reducible repeat (first | exact HB.1 | apply ya47 | apply yn47 | apply yd47 | refine below_set ?_ GE285.1))) : w.heap.size ≤ gb286)); have n4_ := n3_; have n5_ := Aside0.mk ((by rw [hg]; exact Nat.ne_of_lt (blk_lt (g := gb285) (o := .cells #[.slice A0_0 l0_0.length c0_0] 45 (0, 0)) (by (with_reducible repeat (first | apply xn47 | apply xd47 | apply xa47)); exact BK285.1)) : gb285 ≠ gb286)); have n6_ := Aside0.mk ((by rw [hg]; exact Nat.ne_of_gt (blk_lt (g := gb285) (o := .cells #[.slice A0_0 l0_0.length c0_0] 45 (0, 0)) (by (with_reducible repeat (first | apply xn47 | apply xd47 | apply xa47)); exact BK285.1)) : gb286 ≠ gb285)); clear BK285; clear HB; have BK285 := n0_; have HB := n1_; have BK286 := n2_; have GW286 := n3_; have GE286 := n4_; have NB285_286 := n5_; have NB286_285 := n6_; clear n0_ n1_ n2_ n3_ n4_ n5_ n6_; clear hb hbox hg; have hnb23 := NB285_286.1; have hnc23 := NB286_285.1; have hcz24_0 : w22.cell? ⟨gb285, 0, none⟩ = some (.slice A0_0 l0_0.length c0_0) := (blk_cell BK285.1 0).trans rfl; have hfz24_0 := blk_frozen BK285.1 0; have hcz25_0 : w22.cell? ⟨gb286, 0, none⟩ = some (.slice A1_0 l1_0.length c1_0) := (blk_cell BK286.1 0).trans rfl; have hfz25_0 := blk_frozen BK286.1 0)))
    go_ret
    exact ⟨by first | rfl | (simp [errW_none, errW_some] <;> rfl) | (simp [*, errW_none, errW_some] <;> rfl), by repeat (first | (with_reducible first | exact HB.1 | apply below_alloc | apply pw_below_drewN | apply below_drew1 | refine below_set ?_ GE285.1 | refine below_set ?_ GE286.1) | exact HB.1)⟩

end Go.Proofs.Ytoookcmablnjfaa.PWorldBegins
