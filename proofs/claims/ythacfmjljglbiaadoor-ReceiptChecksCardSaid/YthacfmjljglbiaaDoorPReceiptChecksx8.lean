-- written by this session's program wip/xp/xprint.py (it drives the kit's print and adds to it)
import Derived.Test.YthacfmjljglbiaaDoorPReceiptChecksx0
import Derived.Test.YthacfmjljglbiaaDoorPReceiptChecksx4
import Derived.Test.YthacfmjljglbiaaDoorPReceiptChecksx7
namespace Go.Proofs.YthacfmjljglbiaaDoor.PReceiptChecks
open Go.RowKit Go.Proofs.YthacfmjljglbiaaDoorW.PrintWords Go.Proofs.YthacfmjljglbiaaDoorW.PrintLast Go.Proofs.YthacfmjljglbiaaDoorW.PrintMore
attribute [local go_sem] max2_int min2_int max_two min_two max_three min_three max_four min_four   -- for this text's walks alone
set_option linter.unusedVariables false
set_option linter.unusedSimpArgs false

/-! ### vendmeterref_ReceiptFault: function 10 -/
theorem xa10 {w : World} {g : Nat} {o : Obj} (h : w.heap[g]? = some o) (o' : Obj) : (w.alloc o').heap[g]? = some o := blk_alloc h o'
theorem xd10 {w : World} {g : Nat} {o : Obj} (h : w.heap[g]? = some o) : w.drew.heap[g]? = some o := blk_drew h
theorem xn10 {w : World} {g : Nat} {o : Obj} (h : w.heap[g]? = some o) (n : Nat) : (w.drewN n).heap[g]? = some o := blk_drewN h n
theorem ya10 {w W : World} (h : Below w.heap.size w W) (o : Obj) : Below w.heap.size w (W.alloc o) := below_alloc h o
theorem yn10 {B : Nat} {w W : World} (h : Below B w W) (n : Nat) : Below B w (W.drewN n) := pw_below_drewN h n
theorem yd10 {B : Nat} {w W : World} (h : Below B w W) : Below B w W.drew := below_drew1 h
theorem c4_10 {w : World} {g : Nat} {t : TypeId} {x0 x1 x2 x3 : Value} {r : List Value} (h : w.heap[g]? = some (.cells (List.toArray (x0 :: x1 :: x2 :: x3 :: r)) t (0, 0))) : w.cell? ⟨g, 0, none⟩ = some x0 ∧ w.cell? ⟨g, 1, none⟩ = some x1 ∧ w.cell? ⟨g, 2, none⟩ = some x2 ∧ w.cell? ⟨g, 3, none⟩ = some x3 := ⟨(blk_cell h 0).trans rfl, (blk_cell h 1).trans rfl, (blk_cell h 2).trans rfl, (blk_cell h 3).trans rfl⟩
theorem c7_10 {w : World} {g : Nat} {t : TypeId} {x0 x1 x2 x3 x4 x5 x6 : Value} {r : List Value} (h : w.heap[g]? = some (.cells (List.toArray (x0 :: x1 :: x2 :: x3 :: x4 :: x5 :: x6 :: r)) t (0, 0))) : w.cell? ⟨g, 0, none⟩ = some x0 ∧ w.cell? ⟨g, 1, none⟩ = some x1 ∧ w.cell? ⟨g, 2, none⟩ = some x2 ∧ w.cell? ⟨g, 3, none⟩ = some x3 ∧ w.cell? ⟨g, 4, none⟩ = some x4 ∧ w.cell? ⟨g, 5, none⟩ = some x5 ∧ w.cell? ⟨g, 6, none⟩ = some x6 := ⟨(blk_cell h 0).trans rfl, (blk_cell h 1).trans rfl, (blk_cell h 2).trans rfl, (blk_cell h 3).trans rfl, (blk_cell h 4).trans rfl, (blk_cell h 5).trans rfl, (blk_cell h 6).trans rfl⟩
theorem c9_10 {w : World} {g : Nat} {t : TypeId} {x0 x1 x2 x3 x4 x5 x6 x7 x8 : Value} {r : List Value} (h : w.heap[g]? = some (.cells (List.toArray (x0 :: x1 :: x2 :: x3 :: x4 :: x5 :: x6 :: x7 :: x8 :: r)) t (0, 0))) : w.cell? ⟨g, 0, none⟩ = some x0 ∧ w.cell? ⟨g, 1, none⟩ = some x1 ∧ w.cell? ⟨g, 2, none⟩ = some x2 ∧ w.cell? ⟨g, 3, none⟩ = some x3 ∧ w.cell? ⟨g, 4, none⟩ = some x4 ∧ w.cell? ⟨g, 5, none⟩ = some x5 ∧ w.cell? ⟨g, 6, none⟩ = some x6 ∧ w.cell? ⟨g, 7, none⟩ = some x7 ∧ w.cell? ⟨g, 8, none⟩ = some x8 := ⟨(blk_cell h 0).trans rfl, (blk_cell h 1).trans rfl, (blk_cell h 2).trans rfl, (blk_cell h 3).trans rfl, (blk_cell h 4).trans rfl, (blk_cell h 5).trans rfl, (blk_cell h 6).trans rfl, (blk_cell h 7).trans rfl, (blk_cell h 8).trans rfl⟩
theorem f4_10 {w : World} {g : Nat} {t : TypeId} {cs : Array Value} (h : w.heap[g]? = some (.cells cs t (0, 0))) : w.frozen? ⟨g, 0, none⟩ = false ∧ w.frozen? ⟨g, 1, none⟩ = false ∧ w.frozen? ⟨g, 2, none⟩ = false ∧ w.frozen? ⟨g, 3, none⟩ = false := ⟨blk_frozen h 0, blk_frozen h 1, blk_frozen h 2, blk_frozen h 3⟩
theorem f7_10 {w : World} {g : Nat} {t : TypeId} {cs : Array Value} (h : w.heap[g]? = some (.cells cs t (0, 0))) : w.frozen? ⟨g, 0, none⟩ = false ∧ w.frozen? ⟨g, 1, none⟩ = false ∧ w.frozen? ⟨g, 2, none⟩ = false ∧ w.frozen? ⟨g, 3, none⟩ = false ∧ w.frozen? ⟨g, 4, none⟩ = false ∧ w.frozen? ⟨g, 5, none⟩ = false ∧ w.frozen? ⟨g, 6, none⟩ = false := ⟨blk_frozen h 0, blk_frozen h 1, blk_frozen h 2, blk_frozen h 3, blk_frozen h 4, blk_frozen h 5, blk_frozen h 6⟩
theorem f9_10 {w : World} {g : Nat} {t : TypeId} {cs : Array Value} (h : w.heap[g]? = some (.cells cs t (0, 0))) : w.frozen? ⟨g, 0, none⟩ = false ∧ w.frozen? ⟨g, 1, none⟩ = false ∧ w.frozen? ⟨g, 2, none⟩ = false ∧ w.frozen? ⟨g, 3, none⟩ = false ∧ w.frozen? ⟨g, 4, none⟩ = false ∧ w.frozen? ⟨g, 5, none⟩ = false ∧ w.frozen? ⟨g, 6, none⟩ = false ∧ w.frozen? ⟨g, 7, none⟩ = false ∧ w.frozen? ⟨g, 8, none⟩ = false := ⟨blk_frozen h 0, blk_frozen h 1, blk_frozen h 2, blk_frozen h 3, blk_frozen h 4, blk_frozen h 5, blk_frozen h 6, blk_frozen h 7, blk_frozen h 8⟩
mutual
def vendmeterref_ReceiptFault.j0 : Nat → Bool → Int → Int → Int → Int → Int → Int → Int → Int → ByteArray → Int → Int → Int → Int → Int → Int → Int → Option (Int)
  | 0, _, _, _, _, _, _, _, _, _, _, _, _, _, _, _, _, _ => none
  | k + 1, x33, x192000, x192001, x192002, x192003, x192004, x192005, x192006, x192007, x192008, x194000, x194001, x194002, x194003, x194004, x194005, x194006 => if x33 = true then (some 2) else ((vendmeterref_In.f x194005 0 100000000).bind fun t198 => (if t198 = true then ((vendmeterref_In.f x194000 1 1048575).bind fun t199 => (if t199 = true then ((vendmeterref_In.f x194006 0 2097151).bind fun t200 => (vendmeterref_ReceiptFault.j1 k (!t200) x192000 x192001 x192002 x192003 x192004 x192005 x192006 x192007 x192008 x194000 x194001 x194002 x194003 x194004 x194005 x194006)) else (vendmeterref_ReceiptFault.j1 k true x192000 x192001 x192002 x192003 x192004 x192005 x192006 x192007 x192008 x194000 x194001 x194002 x194003 x194004 x194005 x194006))) else (vendmeterref_ReceiptFault.j1 k true x192000 x192001 x192002 x192003 x192004 x192005 x192006 x192007 x192008 x194000 x194001 x194002 x194003 x194004 x194005 x194006)))
def vendmeterref_ReceiptFault.j1 : Nat → Bool → Int → Int → Int → Int → Int → Int → Int → Int → ByteArray → Int → Int → Int → Int → Int → Int → Int → Option (Int)
  | 0, _, _, _, _, _, _, _, _, _, _, _, _, _, _, _, _, _ => none
  | k + 1, x49, x192000, x192001, x192002, x192003, x192004, x192005, x192006, x192007, x192008, x194000, x194001, x194002, x194003, x194004, x194005, x194006 => if x49 = true then (some 2) else (if (wrap64 ((wrap64 ((wrap64 ((wrap64 (x194001 - x194002)) - x194003)) - x194004)) - x194005)) = 0 then ((vendmeterref_Parsed.f k x192008).bind fun bt201 => (if bt201.2.2.2.2 = 0 then (if bt201.2.1 = x194000 then (if bt201.1 = 0 then (if bt201.2.2.1 = x194006 then (some 0) else (some 8)) else (if x194006 = 0 then (some 0) else (some 8))) else (some 8)) else (some bt201.2.2.2.2))) else (some 19))
end
def vendmeterref_ReceiptFault.f (k : Nat) (a0_0 : Int) (a0_1 : Int) (a0_2 : Int) (a0_3 : Int) (a0_4 : Int) (a0_5 : Int) (a0_6 : Int) (a0_7 : Int) (a0_8 : ByteArray) : Option (Int) := (vendmeterref_In.f a0_0 0 49).bind fun t192 => (if t192 = true then ((vendmeterref_In.f a0_2 0 100000000).bind fun t194 => (if t194 = true then ((vendmeterref_In.f a0_3 0 100000000).bind fun t195 => (if t195 = true then ((vendmeterref_In.f a0_4 0 100000000).bind fun t196 => (if t196 = true then ((vendmeterref_In.f a0_5 0 100000000).bind fun t197 => (vendmeterref_ReceiptFault.j0 k (!t197) a0_0 a0_1 a0_2 a0_3 a0_4 a0_5 a0_6 a0_7 a0_8 a0_1 a0_2 a0_3 a0_4 a0_5 a0_6 a0_7)) else (vendmeterref_ReceiptFault.j0 k true a0_0 a0_1 a0_2 a0_3 a0_4 a0_5 a0_6 a0_7 a0_8 a0_1 a0_2 a0_3 a0_4 a0_5 a0_6 a0_7))) else (vendmeterref_ReceiptFault.j0 k true a0_0 a0_1 a0_2 a0_3 a0_4 a0_5 a0_6 a0_7 a0_8 a0_1 a0_2 a0_3 a0_4 a0_5 a0_6 a0_7))) else (vendmeterref_ReceiptFault.j0 k true a0_0 a0_1 a0_2 a0_3 a0_4 a0_5 a0_6 a0_7 a0_8 a0_1 a0_2 a0_3 a0_4 a0_5 a0_6 a0_7))) else (some 18))
theorem vendmeterref_ReceiptFault.mono_l : ∀ k, (∀ y0 y1 y2 y3 y4 y5 y6 y7 y8 y9 y10 y11 y12 y13 y14 y15 y16, LeO (vendmeterref_ReceiptFault.j0 k y0 y1 y2 y3 y4 y5 y6 y7 y8 y9 y10 y11 y12 y13 y14 y15 y16) (vendmeterref_ReceiptFault.j0 (k + 1) y0 y1 y2 y3 y4 y5 y6 y7 y8 y9 y10 y11 y12 y13 y14 y15 y16)) ∧ (∀ y0 y1 y2 y3 y4 y5 y6 y7 y8 y9 y10 y11 y12 y13 y14 y15 y16, LeO (vendmeterref_ReceiptFault.j1 k y0 y1 y2 y3 y4 y5 y6 y7 y8 y9 y10 y11 y12 y13 y14 y15 y16) (vendmeterref_ReceiptFault.j1 (k + 1) y0 y1 y2 y3 y4 y5 y6 y7 y8 y9 y10 y11 y12 y13 y14 y15 y16))
  | 0 => ⟨fun _ _ _ _ _ _ _ _ _ _ _ _ _ _ _ _ _ r h => by simp [vendmeterref_ReceiptFault.j0] at h, fun _ _ _ _ _ _ _ _ _ _ _ _ _ _ _ _ _ r h => by simp [vendmeterref_ReceiptFault.j1] at h⟩
  | k + 1 => by
    obtain ⟨ih0, ih1⟩ := vendmeterref_ReceiptFault.mono_l k
    refine ⟨?_, ?_⟩
    · intro y0 y1 y2 y3 y4 y5 y6 y7 y8 y9 y10 y11 y12 y13 y14 y15 y16
      unfold vendmeterref_ReceiptFault.j0
      repeat' first
      | (with_reducible exact ih0 _ _ _ _ _ _ _ _ _ _ _ _ _ _ _ _ _)
      | (with_reducible exact ih1 _ _ _ _ _ _ _ _ _ _ _ _ _ _ _ _ _)
      | (with_reducible exact vendmeterref_Parsed.mono _ _)
      | (with_reducible exact LeO.refl _)
      | (with_reducible exact LeO.none _)
      | (with_reducible refine LeO.ite ?_ ?_)
      | (with_reducible refine LeO.bind ?_ (fun _ => ?_))
      | exact ih0 _ _ _ _ _ _ _ _ _ _ _ _ _ _ _ _ _
      | exact ih1 _ _ _ _ _ _ _ _ _ _ _ _ _ _ _ _ _
      | exact vendmeterref_Parsed.mono _ _
      | exact LeO.none _
      | refine LeO.ite ?_ ?_
      | refine LeO.bind ?_ (fun _ => ?_)
    · intro y0 y1 y2 y3 y4 y5 y6 y7 y8 y9 y10 y11 y12 y13 y14 y15 y16
      unfold vendmeterref_ReceiptFault.j1
      repeat' first
      | (with_reducible exact ih0 _ _ _ _ _ _ _ _ _ _ _ _ _ _ _ _ _)
      | (with_reducible exact ih1 _ _ _ _ _ _ _ _ _ _ _ _ _ _ _ _ _)
      | (with_reducible exact vendmeterref_Parsed.mono _ _)
      | (with_reducible exact LeO.refl _)
      | (with_reducible exact LeO.none _)
      | (with_reducible refine LeO.ite ?_ ?_)
      | (with_reducible refine LeO.bind ?_ (fun _ => ?_))
      | exact ih0 _ _ _ _ _ _ _ _ _ _ _ _ _ _ _ _ _
      | exact ih1 _ _ _ _ _ _ _ _ _ _ _ _ _ _ _ _ _
      | exact vendmeterref_Parsed.mono _ _
      | exact LeO.none _
      | refine LeO.ite ?_ ?_
      | refine LeO.bind ?_ (fun _ => ?_)
theorem vendmeterref_ReceiptFault.mono : ∀ a0 a1 a2 a3 a4 a5 a6 a7 a8 k, LeO (vendmeterref_ReceiptFault.f k a0 a1 a2 a3 a4 a5 a6 a7 a8) (vendmeterref_ReceiptFault.f (k + 1) a0 a1 a2 a3 a4 a5 a6 a7 a8) := by
  intro a0 a1 a2 a3 a4 a5 a6 a7 a8 k
  obtain ⟨ih0, ih1⟩ := vendmeterref_ReceiptFault.mono_l k
  unfold vendmeterref_ReceiptFault.f
  repeat' first
      | (with_reducible exact ih0 _ _ _ _ _ _ _ _ _ _ _ _ _ _ _ _ _)
      | (with_reducible exact ih1 _ _ _ _ _ _ _ _ _ _ _ _ _ _ _ _ _)
      | (with_reducible exact vendmeterref_Parsed.mono _ _)
      | (with_reducible exact LeO.refl _)
      | (with_reducible exact LeO.none _)
      | (with_reducible refine LeO.ite ?_ ?_)
      | (with_reducible refine LeO.bind ?_ (fun _ => ?_))
      | exact ih0 _ _ _ _ _ _ _ _ _ _ _ _ _ _ _ _ _
      | exact ih1 _ _ _ _ _ _ _ _ _ _ _ _ _ _ _ _ _
      | exact vendmeterref_Parsed.mono _ _
      | exact LeO.none _
      | refine LeO.ite ?_ ?_
      | refine LeO.bind ?_ (fun _ => ?_)
set_option maxHeartbeats 8000000 in
set_option maxRecDepth 100000 in
theorem vendmeterref_ReceiptFault.calls (k : Nat) (a0_0 : Int) (a0_1 : Int) (a0_2 : Int) (a0_3 : Int) (a0_4 : Int) (a0_5 : Int) (a0_6 : Int) (a0_7 : Int) (a0_8 : ByteArray) (r : Int) (w : World) (h : vendmeterref_ReceiptFault.f k a0_0 a0_1 a0_2 a0_3 a0_4 a0_5 a0_6 a0_7 a0_8 = some r) :
    Calls Tryd.prog 10 #[.agg #[.int .i64 a0_0, .int .i64 a0_1, .int .i64 a0_2, .int .i64 a0_3, .int .i64 a0_4, .int .i64 a0_5, .int .i64 a0_6, .int .i64 a0_7, .string a0_8]] w fun e w' => e = .returned (.int .i64 r) ∧ Below w.heap.size w w' := by
  have hu29 := Tryd.underlying29
  have hu27 := Tryd.underlying27
  have hu47 := Tryd.underlying47
  have HB := Aside0.mk (Below.refl w.heap.size w)
  have H : ((vendmeterref_In.f a0_0 0 49).bind fun t192 => (if t192 = true then ((vendmeterref_In.f a0_2 0 100000000).bind fun t194 => (if t194 = true then ((vendmeterref_In.f a0_3 0 100000000).bind fun t195 => (if t195 = true then ((vendmeterref_In.f a0_4 0 100000000).bind fun t196 => (if t196 = true then ((vendmeterref_In.f a0_5 0 100000000).bind fun t197 => (vendmeterref_ReceiptFault.j0 k (!t197) a0_0 a0_1 a0_2 a0_3 a0_4 a0_5 a0_6 a0_7 a0_8 a0_1 a0_2 a0_3 a0_4 a0_5 a0_6 a0_7)) else (vendmeterref_ReceiptFault.j0 k true a0_0 a0_1 a0_2 a0_3 a0_4 a0_5 a0_6 a0_7 a0_8 a0_1 a0_2 a0_3 a0_4 a0_5 a0_6 a0_7))) else (vendmeterref_ReceiptFault.j0 k true a0_0 a0_1 a0_2 a0_3 a0_4 a0_5 a0_6 a0_7 a0_8 a0_1 a0_2 a0_3 a0_4 a0_5 a0_6 a0_7))) else (vendmeterref_ReceiptFault.j0 k true a0_0 a0_1 a0_2 a0_3 a0_4 a0_5 a0_6 a0_7 a0_8 a0_1 a0_2 a0_3 a0_4 a0_5 a0_6 a0_7))) else (some 18))) = some r := h
  clear h
  replace H := Option.bind_eq_some_iff.mp H
  obtain ⟨t192, A20, H⟩ := H
  replace H : (if t192 = true then ((vendmeterref_In.f a0_2 0 100000000).bind fun t194 => (if t194 = true then ((vendmeterref_In.f a0_3 0 100000000).bind fun t195 => (if t195 = true then ((vendmeterref_In.f a0_4 0 100000000).bind fun t196 => (if t196 = true then ((vendmeterref_In.f a0_5 0 100000000).bind fun t197 => (vendmeterref_ReceiptFault.j0 k (!t197) a0_0 a0_1 a0_2 a0_3 a0_4 a0_5 a0_6 a0_7 a0_8 a0_1 a0_2 a0_3 a0_4 a0_5 a0_6 a0_7)) else (vendmeterref_ReceiptFault.j0 k true a0_0 a0_1 a0_2 a0_3 a0_4 a0_5 a0_6 a0_7 a0_8 a0_1 a0_2 a0_3 a0_4 a0_5 a0_6 a0_7))) else (vendmeterref_ReceiptFault.j0 k true a0_0 a0_1 a0_2 a0_3 a0_4 a0_5 a0_6 a0_7 a0_8 a0_1 a0_2 a0_3 a0_4 a0_5 a0_6 a0_7))) else (vendmeterref_ReceiptFault.j0 k true a0_0 a0_1 a0_2 a0_3 a0_4 a0_5 a0_6 a0_7 a0_8 a0_1 a0_2 a0_3 a0_4 a0_5 a0_6 a0_7))) else (some 18)) = some r := H
  have A2 := Aside0.mk A20
  clear A20
  by_cases c3 : t192 = true
  · subst c3
    have H1 : ((vendmeterref_In.f a0_2 0 100000000).bind fun t194 => (if t194 = true then ((vendmeterref_In.f a0_3 0 100000000).bind fun t195 => (if t195 = true then ((vendmeterref_In.f a0_4 0 100000000).bind fun t196 => (if t196 = true then ((vendmeterref_In.f a0_5 0 100000000).bind fun t197 => (vendmeterref_ReceiptFault.j0 k (!t197) a0_0 a0_1 a0_2 a0_3 a0_4 a0_5 a0_6 a0_7 a0_8 a0_1 a0_2 a0_3 a0_4 a0_5 a0_6 a0_7)) else (vendmeterref_ReceiptFault.j0 k true a0_0 a0_1 a0_2 a0_3 a0_4 a0_5 a0_6 a0_7 a0_8 a0_1 a0_2 a0_3 a0_4 a0_5 a0_6 a0_7))) else (vendmeterref_ReceiptFault.j0 k true a0_0 a0_1 a0_2 a0_3 a0_4 a0_5 a0_6 a0_7 a0_8 a0_1 a0_2 a0_3 a0_4 a0_5 a0_6 a0_7))) else (vendmeterref_ReceiptFault.j0 k true a0_0 a0_1 a0_2 a0_3 a0_4 a0_5 a0_6 a0_7 a0_8 a0_1 a0_2 a0_3 a0_4 a0_5 a0_6 a0_7))) = some r := by rw [if_pos rfl] at H; exact H
    clear H
    have H := H1
    clear H1
    have HC4 := Aside0.mk H
    clear H
    go_enter Tryd.func10, Tryd.ntmps10
    go_upto_region 4 with (first | ((with_reducible refine gate_dst (N := 1) rfl ?_); refine box_event ?hg (N := 1) ?hd (cs := #[.int .i64 a0_0, .int .i64 a0_1, .int .i64 a0_2, .int .i64 a0_3, .int .i64 a0_4, .int .i64 a0_5, .int .i64 a0_6, .int .i64 a0_7, .string a0_8]) (t := 29) ?hr ?_; (case hd => rfl); (case hg => rfl); (case hr => first | (go_simp; done) | (go_simp; rfl)); intro gb191 hg w5 hbox hb; have n0_ := Aside0.mk (below_step (by with_reducible repeat (first | exact HB.1 | apply ya10 | apply yn10 | apply yd10)) hb); have n1_ := Aside0.mk (hbox); have n2_ := Aside0.mk ((by rw [hg]; exact (below_size (by with_reducible repeat (first | exact HB.1 | apply ya10 | apply yn10 | apply yd10))) : w.heap.size ≤ gb191)); have n3_ := n2_; clear HB; have HB := n0_; have BK191 := n1_; have GW191 := n2_; have GE191 := n3_; clear n0_ n1_ n2_ n3_; clear hb hbox hg; obtain ⟨hcz6_0, hcz6_1, hcz6_2, hcz6_3, hcz6_4, hcz6_5, hcz6_6, hcz6_7, hcz6_8⟩ := c9_10 BK191.1; obtain ⟨hfz6_0, hfz6_1, hfz6_2, hfz6_3, hfz6_4, hfz6_5, hfz6_6, hfz6_7, hfz6_8⟩ := f9_10 BK191.1) | ((with_reducible refine gate_callee (f := 22) rfl ?_); refine goesL_ (some 8) rfl rfl Tryd.func22 (by kernel_rfl) rfl #[.int .i64 a0_0, .int .i64 0, .int .i64 49] rfl (by (try simp only [List.map_toArray, List.map_cons, List.map_nil]); first | done | rfl | (simp only [List.length_drop, List.length_take]; rfl)) ?_; (with_reducible refine (vendmeterref_In.calls a0_0 0 49 true _ A2.out).mono ?_); rintro e w' ⟨rfl, ⟨nd, rfl⟩⟩; refine ⟨_, rfl, ?_⟩; (try (rw [drewN_self w5]; generalize hq_ : World.drewN w5 _ = w5; have n0_ : Aside0 (w5.heap[gb191]? = some (.cells #[.int .i64 a0_0, .int .i64 a0_1, .int .i64 a0_2, .int .i64 a0_3, .int .i64 a0_4, .int .i64 a0_5, .int .i64 a0_6, .int .i64 a0_7, .string a0_8] 29 (0, 0))) := ⟨by rw [← hq_]; exact (by (with_reducible repeat (first | apply xn10 | apply xd10 | apply xa10)); exact BK191.1)⟩; have n1_ : Aside0 (Below w.heap.size w w5) := ⟨by rw [← hq_]; exact (by with_reducible repeat (first | exact HB.1 | apply ya10 | apply yn10 | apply yd10 | refine below_set ?_ GE191.1))⟩; clear BK191 HB hq_; have BK191 := n0_; have HB := n1_; clear n0_ n1_; (try (have hcu191_0 : w5.cell? ⟨gb191, 0, none⟩ = some (.int .i64 a0_0) := (blk_cell BK191.1 0).trans rfl)); (try (have hfu191_0 := blk_frozen BK191.1 0)); (try (have hcu191_1 : w5.cell? ⟨gb191, 1, none⟩ = some (.int .i64 a0_1) := (blk_cell BK191.1 1).trans rfl)); (try (have hfu191_1 := blk_frozen BK191.1 1)); (try (have hcu191_2 : w5.cell? ⟨gb191, 2, none⟩ = some (.int .i64 a0_2) := (blk_cell BK191.1 2).trans rfl)); (try (have hfu191_2 := blk_frozen BK191.1 2)); (try (have hcu191_3 : w5.cell? ⟨gb191, 3, none⟩ = some (.int .i64 a0_3) := (blk_cell BK191.1 3).trans rfl)); (try (have hfu191_3 := blk_frozen BK191.1 3)); (try (have hcu191_4 : w5.cell? ⟨gb191, 4, none⟩ = some (.int .i64 a0_4) := (blk_cell BK191.1 4).trans rfl)); (try (have hfu191_4 := blk_frozen BK191.1 4)); (try (have hcu191_5 : w5.cell? ⟨gb191, 5, none⟩ = some (.int .i64 a0_5) := (blk_cell BK191.1 5).trans rfl)); (try (have hfu191_5 := blk_frozen BK191.1 5)); (try (have hcu191_6 : w5.cell? ⟨gb191, 6, none⟩ = some (.int .i64 a0_6) := (blk_cell BK191.1 6).trans rfl)); (try (have hfu191_6 := blk_frozen BK191.1 6)); (try (have hcu191_7 : w5.cell? ⟨gb191, 7, none⟩ = some (.int .i64 a0_7) := (blk_cell BK191.1 7).trans rfl)); (try (have hfu191_7 := blk_frozen BK191.1 7)); (try (have hcu191_8 : w5.cell? ⟨gb191, 8, none⟩ = some (.string a0_8) := (blk_cell BK191.1 8).trans rfl)); (try (have hfu191_8 := blk_frozen BK191.1 8))))) | ((with_reducible refine gate_dst (N := 3) rfl ?_); refine box_event ?hg (N := 3) ?hd (cs := #[.int .i64 0, .int .i64 0, .int .i64 0, .int .i64 0, .int .i64 0, .int .i64 0, .int .i64 0]) (t := 27) ?hr ?_; (case hd => rfl); (case hg => rfl); (case hr => first | (go_simp; done) | (go_simp; rfl)); intro gb193 hg w7 hbox hb; have n0_ := Aside0.mk (blk_below (g := gb191) (o := .cells #[.int .i64 a0_0, .int .i64 a0_1, .int .i64 a0_2, .int .i64 a0_3, .int .i64 a0_4, .int .i64 a0_5, .int .i64 a0_6, .int .i64 a0_7, .string a0_8] 29 (0, 0)) (by (with_reducible repeat (first | apply xn10 | apply xd10 | apply xa10)); exact BK191.1) hb); have n1_ := Aside0.mk (below_step (by with_reducible repeat (first | exact HB.1 | apply ya10 | apply yn10 | apply yd10 | refine below_set ?_ GE191.1)) hb); have n2_ := Aside0.mk (hbox); have n3_ := Aside0.mk ((by rw [hg]; exact (below_size (by with_reducible repeat (first | exact HB.1 | apply ya10 | apply yn10 | apply yd10 | refine below_set ?_ GE191.1))) : w.heap.size ≤ gb193)); have n4_ := n3_; have n5_ := Aside0.mk ((by rw [hg]; exact Nat.ne_of_lt (blk_lt (g := gb191) (o := .cells #[.int .i64 a0_0, .int .i64 a0_1, .int .i64 a0_2, .int .i64 a0_3, .int .i64 a0_4, .int .i64 a0_5, .int .i64 a0_6, .int .i64 a0_7, .string a0_8] 29 (0, 0)) (by (with_reducible repeat (first | apply xn10 | apply xd10 | apply xa10)); exact BK191.1)) : gb191 ≠ gb193)); have n6_ := Aside0.mk ((by rw [hg]; exact Nat.ne_of_gt (blk_lt (g := gb191) (o := .cells #[.int .i64 a0_0, .int .i64 a0_1, .int .i64 a0_2, .int .i64 a0_3, .int .i64 a0_4, .int .i64 a0_5, .int .i64 a0_6, .int .i64 a0_7, .string a0_8] 29 (0, 0)) (by (with_reducible repeat (first | apply xn10 | apply xd10 | apply xa10)); exact BK191.1)) : gb193 ≠ gb191)); clear BK191; clear HB; have BK191 := n0_; have HB := n1_; have BK193 := n2_; have GW193 := n3_; have GE193 := n4_; have NB191_193 := n5_; have NB193_191 := n6_; clear n0_ n1_ n2_ n3_ n4_ n5_ n6_; clear hb hbox hg; have hnb8 := NB193_191.1; have hnc8 := NB191_193.1; obtain ⟨hcz9_0, hcz9_1, hcz9_2, hcz9_3, hcz9_4, hcz9_5, hcz9_6⟩ := c7_10 BK193.1; obtain ⟨hfz9_0, hfz9_1, hfz9_2, hfz9_3, hfz9_4, hfz9_5, hfz9_6⟩ := f7_10 BK193.1))
    (try simp only [Act.put, List.setIfInBounds_toArray, List.set_cons_zero, List.set_cons_succ])
    go_cut [33] (fun v33 wc => ∃ (kq : Nat) (x33_3 : Bool), v33 = .bool x33_3 ∧ Aside0 (vendmeterref_ReceiptFault.j0 kq x33_3 a0_0 a0_1 a0_2 a0_3 a0_4 a0_5 a0_6 a0_7 a0_8 a0_1 a0_2 a0_3 a0_4 a0_5 a0_6 a0_7 = some r) ∧ Aside0 (kq ≤ k) ∧ Aside0 (wc.heap[gb191]? = some (.cells #[.int .i64 a0_0, .int .i64 a0_1, .int .i64 a0_2, .int .i64 a0_3, .int .i64 a0_4, .int .i64 a0_5, .int .i64 a0_6, .int .i64 a0_7, .string a0_8] 29 (0, 0))) ∧ Aside0 (wc.heap[gb193]? = some (.cells #[.int .i64 a0_1, .int .i64 a0_2, .int .i64 a0_3, .int .i64 a0_4, .int .i64 a0_5, .int .i64 a0_6, .int .i64 a0_7] 27 (0, 0))) ∧ Aside0 (Below w.heap.size w wc))
    case first =>
      have H := HC4.out
      clear HC4
      replace H := Option.bind_eq_some_iff.mp H
      obtain ⟨t194, A100, H⟩ := H
      replace H : (if t194 = true then ((vendmeterref_In.f a0_3 0 100000000).bind fun t195 => (if t195 = true then ((vendmeterref_In.f a0_4 0 100000000).bind fun t196 => (if t196 = true then ((vendmeterref_In.f a0_5 0 100000000).bind fun t197 => (vendmeterref_ReceiptFault.j0 k (!t197) a0_0 a0_1 a0_2 a0_3 a0_4 a0_5 a0_6 a0_7 a0_8 a0_1 a0_2 a0_3 a0_4 a0_5 a0_6 a0_7)) else (vendmeterref_ReceiptFault.j0 k true a0_0 a0_1 a0_2 a0_3 a0_4 a0_5 a0_6 a0_7 a0_8 a0_1 a0_2 a0_3 a0_4 a0_5 a0_6 a0_7))) else (vendmeterref_ReceiptFault.j0 k true a0_0 a0_1 a0_2 a0_3 a0_4 a0_5 a0_6 a0_7 a0_8 a0_1 a0_2 a0_3 a0_4 a0_5 a0_6 a0_7))) else (vendmeterref_ReceiptFault.j0 k true a0_0 a0_1 a0_2 a0_3 a0_4 a0_5 a0_6 a0_7 a0_8 a0_1 a0_2 a0_3 a0_4 a0_5 a0_6 a0_7)) = some r := H
      have A10 := Aside0.mk A100
      clear A100
      by_cases c11 : t194 = true
      · subst c11
        have H1 : ((vendmeterref_In.f a0_3 0 100000000).bind fun t195 => (if t195 = true then ((vendmeterref_In.f a0_4 0 100000000).bind fun t196 => (if t196 = true then ((vendmeterref_In.f a0_5 0 100000000).bind fun t197 => (vendmeterref_ReceiptFault.j0 k (!t197) a0_0 a0_1 a0_2 a0_3 a0_4 a0_5 a0_6 a0_7 a0_8 a0_1 a0_2 a0_3 a0_4 a0_5 a0_6 a0_7)) else (vendmeterref_ReceiptFault.j0 k true a0_0 a0_1 a0_2 a0_3 a0_4 a0_5 a0_6 a0_7 a0_8 a0_1 a0_2 a0_3 a0_4 a0_5 a0_6 a0_7))) else (vendmeterref_ReceiptFault.j0 k true a0_0 a0_1 a0_2 a0_3 a0_4 a0_5 a0_6 a0_7 a0_8 a0_1 a0_2 a0_3 a0_4 a0_5 a0_6 a0_7))) = some r := by rw [if_pos rfl] at H; exact H
        clear H
        have H := H1
        clear H1
        replace H := Option.bind_eq_some_iff.mp H
        obtain ⟨t195, A120, H⟩ := H
        replace H : (if t195 = true then ((vendmeterref_In.f a0_4 0 100000000).bind fun t196 => (if t196 = true then ((vendmeterref_In.f a0_5 0 100000000).bind fun t197 => (vendmeterref_ReceiptFault.j0 k (!t197) a0_0 a0_1 a0_2 a0_3 a0_4 a0_5 a0_6 a0_7 a0_8 a0_1 a0_2 a0_3 a0_4 a0_5 a0_6 a0_7)) else (vendmeterref_ReceiptFault.j0 k true a0_0 a0_1 a0_2 a0_3 a0_4 a0_5 a0_6 a0_7 a0_8 a0_1 a0_2 a0_3 a0_4 a0_5 a0_6 a0_7))) else (vendmeterref_ReceiptFault.j0 k true a0_0 a0_1 a0_2 a0_3 a0_4 a0_5 a0_6 a0_7 a0_8 a0_1 a0_2 a0_3 a0_4 a0_5 a0_6 a0_7)) = some r := H
        have A12 := Aside0.mk A120
        clear A120
        by_cases c13 : t195 = true
        · subst c13
          have H1 : ((vendmeterref_In.f a0_4 0 100000000).bind fun t196 => (if t196 = true then ((vendmeterref_In.f a0_5 0 100000000).bind fun t197 => (vendmeterref_ReceiptFault.j0 k (!t197) a0_0 a0_1 a0_2 a0_3 a0_4 a0_5 a0_6 a0_7 a0_8 a0_1 a0_2 a0_3 a0_4 a0_5 a0_6 a0_7)) else (vendmeterref_ReceiptFault.j0 k true a0_0 a0_1 a0_2 a0_3 a0_4 a0_5 a0_6 a0_7 a0_8 a0_1 a0_2 a0_3 a0_4 a0_5 a0_6 a0_7))) = some r := by rw [if_pos rfl] at H; exact H
          clear H
          have H := H1
          clear H1
          replace H := Option.bind_eq_some_iff.mp H
          obtain ⟨t196, A140, H⟩ := H
          replace H : (if t196 = true then ((vendmeterref_In.f a0_5 0 100000000).bind fun t197 => (vendmeterref_ReceiptFault.j0 k (!t197) a0_0 a0_1 a0_2 a0_3 a0_4 a0_5 a0_6 a0_7 a0_8 a0_1 a0_2 a0_3 a0_4 a0_5 a0_6 a0_7)) else (vendmeterref_ReceiptFault.j0 k true a0_0 a0_1 a0_2 a0_3 a0_4 a0_5 a0_6 a0_7 a0_8 a0_1 a0_2 a0_3 a0_4 a0_5 a0_6 a0_7)) = some r := H
          have A14 := Aside0.mk A140
          clear A140
          by_cases c15 : t196 = true
          · subst c15
            have H1 : ((vendmeterref_In.f a0_5 0 100000000).bind fun t197 => (vendmeterref_ReceiptFault.j0 k (!t197) a0_0 a0_1 a0_2 a0_3 a0_4 a0_5 a0_6 a0_7 a0_8 a0_1 a0_2 a0_3 a0_4 a0_5 a0_6 a0_7)) = some r := by rw [if_pos rfl] at H; exact H
            clear H
            have H := H1
            clear H1
            replace H := Option.bind_eq_some_iff.mp H
            obtain ⟨t197, A160, H⟩ := H
            replace H : (vendmeterref_ReceiptFault.j0 k (!t197) a0_0 a0_1 a0_2 a0_3 a0_4 a0_5 a0_6 a0_7 a0_8 a0_1 a0_2 a0_3 a0_4 a0_5 a0_6 a0_7) = some r := H
            have A16 := Aside0.mk A160
            clear A160
            have H' := Aside0.mk H
            clear H
            have hnb17 := NB193_191.1
            have hnc17 := NB191_193.1
            obtain ⟨hcz18_0, hcz18_1, hcz18_2, hcz18_3, hcz18_4, hcz18_5, hcz18_6⟩ := c7_10 BK193.1
            obtain ⟨hfz18_0, hfz18_1, hfz18_2, hfz18_3, hfz18_4, hfz18_5, hfz18_6⟩ := f7_10 BK193.1
            go_wp2_with (first | ((with_reducible refine gate_callee (f := 22) rfl ?_); refine goesL_ (some 14) rfl rfl Tryd.func22 (by kernel_rfl) rfl #[.int .i64 a0_2, .int .i64 0, .int .i64 100000000] rfl (by (try simp only [List.map_toArray, List.map_cons, List.map_nil]); first | done | rfl | (simp only [List.length_drop, List.length_take]; rfl)) ?_; (with_reducible refine (vendmeterref_In.calls a0_2 0 100000000 true _ A10.out).mono ?_); rintro e w' ⟨rfl, ⟨nd, rfl⟩⟩; refine ⟨_, rfl, ?_⟩) | (go_at_call 22; (with_reducible refine (vendmeterref_In.calls a0_3 0 100000000 true _ A12.out).mono ?_); rintro e w' ⟨rfl, ⟨nd, rfl⟩⟩) | (go_at_call 22; (with_reducible refine (vendmeterref_In.calls a0_4 0 100000000 true _ A14.out).mono ?_); rintro e w' ⟨rfl, ⟨nd, rfl⟩⟩) | (go_at_call 22; (with_reducible refine (vendmeterref_In.calls a0_5 0 100000000 t197 _ A16.out).mono ?_); rintro e w' ⟨rfl, ⟨nd, rfl⟩⟩))
            go_meet
            case rel => exact ⟨_, (!t197), (by first | rfl | (simp; done) | (simp [*]; done)), H', ⟨by first | omega | exact Nat.le_refl _⟩, ⟨by (with_reducible repeat (first | apply xn10 | apply xd10 | apply xa10)); refine blk_far ?_ NB191_193.1 _; (with_reducible repeat (first | apply xn10 | apply xd10 | apply xa10)); refine blk_far ?_ NB191_193.1 _; (with_reducible repeat (first | apply xn10 | apply xd10 | apply xa10)); refine blk_far ?_ NB191_193.1 _; (with_reducible repeat (first | apply xn10 | apply xd10 | apply xa10)); refine blk_far ?_ NB191_193.1 _; (with_reducible repeat (first | apply xn10 | apply xd10 | apply xa10)); refine blk_far ?_ NB191_193.1 _; (with_reducible repeat (first | apply xn10 | apply xd10 | apply xa10)); refine blk_far ?_ NB191_193.1 _; (with_reducible repeat (first | apply xn10 | apply xd10 | apply xa10)); refine blk_far ?_ NB191_193.1 _; (with_reducible repeat (first | apply xn10 | apply xd10 | apply xa10)); exact BK191.1⟩, ⟨by (with_reducible repeat (first | apply xn10 | apply xd10 | apply xa10)); refine blk_put (cs := #[.int .i64 a0_1, .int .i64 a0_2, .int .i64 a0_3, .int .i64 a0_4, .int .i64 a0_5, .int .i64 a0_6, .int .i64 0]) ?_ 6 _ rfl; (with_reducible repeat (first | apply xn10 | apply xd10 | apply xa10)); refine blk_put (cs := #[.int .i64 a0_1, .int .i64 a0_2, .int .i64 a0_3, .int .i64 a0_4, .int .i64 a0_5, .int .i64 0, .int .i64 0]) ?_ 5 _ rfl; (with_reducible repeat (first | apply xn10 | apply xd10 | apply xa10)); refine blk_put (cs := #[.int .i64 a0_1, .int .i64 a0_2, .int .i64 a0_3, .int .i64 a0_4, .int .i64 0, .int .i64 0, .int .i64 0]) ?_ 4 _ rfl; (with_reducible repeat (first | apply xn10 | apply xd10 | apply xa10)); refine blk_put (cs := #[.int .i64 a0_1, .int .i64 a0_2, .int .i64 a0_3, .int .i64 0, .int .i64 0, .int .i64 0, .int .i64 0]) ?_ 3 _ rfl; (with_reducible repeat (first | apply xn10 | apply xd10 | apply xa10)); refine blk_put (cs := #[.int .i64 a0_1, .int .i64 a0_2, .int .i64 0, .int .i64 0, .int .i64 0, .int .i64 0, .int .i64 0]) ?_ 2 _ rfl; (with_reducible repeat (first | apply xn10 | apply xd10 | apply xa10)); refine blk_put (cs := #[.int .i64 a0_1, .int .i64 0, .int .i64 0, .int .i64 0, .int .i64 0, .int .i64 0, .int .i64 0]) ?_ 1 _ rfl; (with_reducible repeat (first | apply xn10 | apply xd10 | apply xa10)); refine blk_put (cs := #[.int .i64 0, .int .i64 0, .int .i64 0, .int .i64 0, .int .i64 0, .int .i64 0, .int .i64 0]) ?_ 0 _ rfl; (with_reducible repeat (first | apply xn10 | apply xd10 | apply xa10)); exact BK193.1⟩, ⟨by repeat (first | (with_reducible first | exact HB.1 | apply below_alloc | apply pw_below_drewN | apply below_drew1 | refine below_set ?_ GE191.1 | refine below_set ?_ GE193.1) | exact HB.1)⟩⟩
          · replace c15 := Bool.eq_false_iff.mpr c15
            subst c15
            have H1 : (vendmeterref_ReceiptFault.j0 k true a0_0 a0_1 a0_2 a0_3 a0_4 a0_5 a0_6 a0_7 a0_8 a0_1 a0_2 a0_3 a0_4 a0_5 a0_6 a0_7) = some r := by rw [if_neg (show ¬ (false = true) by decide)] at H; exact H
            clear H
            have H := H1
            clear H1
            have H' := Aside0.mk H
            clear H
            have hnb19 := NB193_191.1
            have hnc19 := NB191_193.1
            obtain ⟨hcz20_0, hcz20_1, hcz20_2, hcz20_3, hcz20_4, hcz20_5, hcz20_6⟩ := c7_10 BK193.1
            obtain ⟨hfz20_0, hfz20_1, hfz20_2, hfz20_3, hfz20_4, hfz20_5, hfz20_6⟩ := f7_10 BK193.1
            go_wp2_with (first | ((with_reducible refine gate_callee (f := 22) rfl ?_); refine goesL_ (some 14) rfl rfl Tryd.func22 (by kernel_rfl) rfl #[.int .i64 a0_2, .int .i64 0, .int .i64 100000000] rfl (by (try simp only [List.map_toArray, List.map_cons, List.map_nil]); first | done | rfl | (simp only [List.length_drop, List.length_take]; rfl)) ?_; (with_reducible refine (vendmeterref_In.calls a0_2 0 100000000 true _ A10.out).mono ?_); rintro e w' ⟨rfl, ⟨nd, rfl⟩⟩; refine ⟨_, rfl, ?_⟩) | (go_at_call 22; (with_reducible refine (vendmeterref_In.calls a0_3 0 100000000 true _ A12.out).mono ?_); rintro e w' ⟨rfl, ⟨nd, rfl⟩⟩) | (go_at_call 22; (with_reducible refine (vendmeterref_In.calls a0_4 0 100000000 false _ A14.out).mono ?_); rintro e w' ⟨rfl, ⟨nd, rfl⟩⟩))
            go_meet
            case rel => exact ⟨_, (true), (by first | rfl | (simp; done) | (simp [*]; done)), H', ⟨by first | omega | exact Nat.le_refl _⟩, ⟨by (with_reducible repeat (first | apply xn10 | apply xd10 | apply xa10)); refine blk_far ?_ NB191_193.1 _; (with_reducible repeat (first | apply xn10 | apply xd10 | apply xa10)); refine blk_far ?_ NB191_193.1 _; (with_reducible repeat (first | apply xn10 | apply xd10 | apply xa10)); refine blk_far ?_ NB191_193.1 _; (with_reducible repeat (first | apply xn10 | apply xd10 | apply xa10)); refine blk_far ?_ NB191_193.1 _; (with_reducible repeat (first | apply xn10 | apply xd10 | apply xa10)); refine blk_far ?_ NB191_193.1 _; (with_reducible repeat (first | apply xn10 | apply xd10 | apply xa10)); refine blk_far ?_ NB191_193.1 _; (with_reducible repeat (first | apply xn10 | apply xd10 | apply xa10)); refine blk_far ?_ NB191_193.1 _; (with_reducible repeat (first | apply xn10 | apply xd10 | apply xa10)); exact BK191.1⟩, ⟨by (with_reducible repeat (first | apply xn10 | apply xd10 | apply xa10)); refine blk_put (cs := #[.int .i64 a0_1, .int .i64 a0_2, .int .i64 a0_3, .int .i64 a0_4, .int .i64 a0_5, .int .i64 a0_6, .int .i64 0]) ?_ 6 _ rfl; (with_reducible repeat (first | apply xn10 | apply xd10 | apply xa10)); refine blk_put (cs := #[.int .i64 a0_1, .int .i64 a0_2, .int .i64 a0_3, .int .i64 a0_4, .int .i64 a0_5, .int .i64 0, .int .i64 0]) ?_ 5 _ rfl; (with_reducible repeat (first | apply xn10 | apply xd10 | apply xa10)); refine blk_put (cs := #[.int .i64 a0_1, .int .i64 a0_2, .int .i64 a0_3, .int .i64 a0_4, .int .i64 0, .int .i64 0, .int .i64 0]) ?_ 4 _ rfl; (with_reducible repeat (first | apply xn10 | apply xd10 | apply xa10)); refine blk_put (cs := #[.int .i64 a0_1, .int .i64 a0_2, .int .i64 a0_3, .int .i64 0, .int .i64 0, .int .i64 0, .int .i64 0]) ?_ 3 _ rfl; (with_reducible repeat (first | apply xn10 | apply xd10 | apply xa10)); refine blk_put (cs := #[.int .i64 a0_1, .int .i64 a0_2, .int .i64 0, .int .i64 0, .int .i64 0, .int .i64 0, .int .i64 0]) ?_ 2 _ rfl; (with_reducible repeat (first | apply xn10 | apply xd10 | apply xa10)); refine blk_put (cs := #[.int .i64 a0_1, .int .i64 0, .int .i64 0, .int .i64 0, .int .i64 0, .int .i64 0, .int .i64 0]) ?_ 1 _ rfl; (with_reducible repeat (first | apply xn10 | apply xd10 | apply xa10)); refine blk_put (cs := #[.int .i64 0, .int .i64 0, .int .i64 0, .int .i64 0, .int .i64 0, .int .i64 0, .int .i64 0]) ?_ 0 _ rfl; (with_reducible repeat (first | apply xn10 | apply xd10 | apply xa10)); exact BK193.1⟩, ⟨by repeat (first | (with_reducible first | exact HB.1 | apply below_alloc | apply pw_below_drewN | apply below_drew1 | refine below_set ?_ GE191.1 | refine below_set ?_ GE193.1) | exact HB.1)⟩⟩
        · replace c13 := Bool.eq_false_iff.mpr c13
          subst c13
          have H1 : (vendmeterref_ReceiptFault.j0 k true a0_0 a0_1 a0_2 a0_3 a0_4 a0_5 a0_6 a0_7 a0_8 a0_1 a0_2 a0_3 a0_4 a0_5 a0_6 a0_7) = some r := by rw [if_neg (show ¬ (false = true) by decide)] at H; exact H
          clear H
          have H := H1
          clear H1
          have H' := Aside0.mk H
          clear H
          have hnb21 := NB193_191.1
          have hnc21 := NB191_193.1
          obtain ⟨hcz22_0, hcz22_1, hcz22_2, hcz22_3, hcz22_4, hcz22_5, hcz22_6⟩ := c7_10 BK193.1
          obtain ⟨hfz22_0, hfz22_1, hfz22_2, hfz22_3, hfz22_4, hfz22_5, hfz22_6⟩ := f7_10 BK193.1
          go_wp2_with (first | ((with_reducible refine gate_callee (f := 22) rfl ?_); refine goesL_ (some 14) rfl rfl Tryd.func22 (by kernel_rfl) rfl #[.int .i64 a0_2, .int .i64 0, .int .i64 100000000] rfl (by (try simp only [List.map_toArray, List.map_cons, List.map_nil]); first | done | rfl | (simp only [List.length_drop, List.length_take]; rfl)) ?_; (with_reducible refine (vendmeterref_In.calls a0_2 0 100000000 true _ A10.out).mono ?_); rintro e w' ⟨rfl, ⟨nd, rfl⟩⟩; refine ⟨_, rfl, ?_⟩) | (go_at_call 22; (with_reducible refine (vendmeterref_In.calls a0_3 0 100000000 false _ A12.out).mono ?_); rintro e w' ⟨rfl, ⟨nd, rfl⟩⟩))
          go_meet
          case rel => exact ⟨_, (true), (by first | rfl | (simp; done) | (simp [*]; done)), H', ⟨by first | omega | exact Nat.le_refl _⟩, ⟨by (with_reducible repeat (first | apply xn10 | apply xd10 | apply xa10)); refine blk_far ?_ NB191_193.1 _; (with_reducible repeat (first | apply xn10 | apply xd10 | apply xa10)); refine blk_far ?_ NB191_193.1 _; (with_reducible repeat (first | apply xn10 | apply xd10 | apply xa10)); refine blk_far ?_ NB191_193.1 _; (with_reducible repeat (first | apply xn10 | apply xd10 | apply xa10)); refine blk_far ?_ NB191_193.1 _; (with_reducible repeat (first | apply xn10 | apply xd10 | apply xa10)); refine blk_far ?_ NB191_193.1 _; (with_reducible repeat (first | apply xn10 | apply xd10 | apply xa10)); refine blk_far ?_ NB191_193.1 _; (with_reducible repeat (first | apply xn10 | apply xd10 | apply xa10)); refine blk_far ?_ NB191_193.1 _; (with_reducible repeat (first | apply xn10 | apply xd10 | apply xa10)); exact BK191.1⟩, ⟨by (with_reducible repeat (first | apply xn10 | apply xd10 | apply xa10)); refine blk_put (cs := #[.int .i64 a0_1, .int .i64 a0_2, .int .i64 a0_3, .int .i64 a0_4, .int .i64 a0_5, .int .i64 a0_6, .int .i64 0]) ?_ 6 _ rfl; (with_reducible repeat (first | apply xn10 | apply xd10 | apply xa10)); refine blk_put (cs := #[.int .i64 a0_1, .int .i64 a0_2, .int .i64 a0_3, .int .i64 a0_4, .int .i64 a0_5, .int .i64 0, .int .i64 0]) ?_ 5 _ rfl; (with_reducible repeat (first | apply xn10 | apply xd10 | apply xa10)); refine blk_put (cs := #[.int .i64 a0_1, .int .i64 a0_2, .int .i64 a0_3, .int .i64 a0_4, .int .i64 0, .int .i64 0, .int .i64 0]) ?_ 4 _ rfl; (with_reducible repeat (first | apply xn10 | apply xd10 | apply xa10)); refine blk_put (cs := #[.int .i64 a0_1, .int .i64 a0_2, .int .i64 a0_3, .int .i64 0, .int .i64 0, .int .i64 0, .int .i64 0]) ?_ 3 _ rfl; (with_reducible repeat (first | apply xn10 | apply xd10 | apply xa10)); refine blk_put (cs := #[.int .i64 a0_1, .int .i64 a0_2, .int .i64 0, .int .i64 0, .int .i64 0, .int .i64 0, .int .i64 0]) ?_ 2 _ rfl; (with_reducible repeat (first | apply xn10 | apply xd10 | apply xa10)); refine blk_put (cs := #[.int .i64 a0_1, .int .i64 0, .int .i64 0, .int .i64 0, .int .i64 0, .int .i64 0, .int .i64 0]) ?_ 1 _ rfl; (with_reducible repeat (first | apply xn10 | apply xd10 | apply xa10)); refine blk_put (cs := #[.int .i64 0, .int .i64 0, .int .i64 0, .int .i64 0, .int .i64 0, .int .i64 0, .int .i64 0]) ?_ 0 _ rfl; (with_reducible repeat (first | apply xn10 | apply xd10 | apply xa10)); exact BK193.1⟩, ⟨by repeat (first | (with_reducible first | exact HB.1 | apply below_alloc | apply pw_below_drewN | apply below_drew1 | refine below_set ?_ GE191.1 | refine below_set ?_ GE193.1) | exact HB.1)⟩⟩
      · replace c11 := Bool.eq_false_iff.mpr c11
        subst c11
        have H1 : (vendmeterref_ReceiptFault.j0 k true a0_0 a0_1 a0_2 a0_3 a0_4 a0_5 a0_6 a0_7 a0_8 a0_1 a0_2 a0_3 a0_4 a0_5 a0_6 a0_7) = some r := by rw [if_neg (show ¬ (false = true) by decide)] at H; exact H
        clear H
        have H := H1
        clear H1
        have H' := Aside0.mk H
        clear H
        have hnb23 := NB193_191.1
        have hnc23 := NB191_193.1
        obtain ⟨hcz24_0, hcz24_1, hcz24_2, hcz24_3, hcz24_4, hcz24_5, hcz24_6⟩ := c7_10 BK193.1
        obtain ⟨hfz24_0, hfz24_1, hfz24_2, hfz24_3, hfz24_4, hfz24_5, hfz24_6⟩ := f7_10 BK193.1
        go_wp2_with (first | ((with_reducible refine gate_callee (f := 22) rfl ?_); refine goesL_ (some 14) rfl rfl Tryd.func22 (by kernel_rfl) rfl #[.int .i64 a0_2, .int .i64 0, .int .i64 100000000] rfl (by (try simp only [List.map_toArray, List.map_cons, List.map_nil]); first | done | rfl | (simp only [List.length_drop, List.length_take]; rfl)) ?_; (with_reducible refine (vendmeterref_In.calls a0_2 0 100000000 false _ A10.out).mono ?_); rintro e w' ⟨rfl, ⟨nd, rfl⟩⟩; refine ⟨_, rfl, ?_⟩))
        go_meet
        case rel => exact ⟨_, (true), (by first | rfl | (simp; done) | (simp [*]; done)), H', ⟨by first | omega | exact Nat.le_refl _⟩, ⟨by (with_reducible repeat (first | apply xn10 | apply xd10 | apply xa10)); refine blk_far ?_ NB191_193.1 _; (with_reducible repeat (first | apply xn10 | apply xd10 | apply xa10)); refine blk_far ?_ NB191_193.1 _; (with_reducible repeat (first | apply xn10 | apply xd10 | apply xa10)); refine blk_far ?_ NB191_193.1 _; (with_reducible repeat (first | apply xn10 | apply xd10 | apply xa10)); refine blk_far ?_ NB191_193.1 _; (with_reducible repeat (first | apply xn10 | apply xd10 | apply xa10)); refine blk_far ?_ NB191_193.1 _; (with_reducible repeat (first | apply xn10 | apply xd10 | apply xa10)); refine blk_far ?_ NB191_193.1 _; (with_reducible repeat (first | apply xn10 | apply xd10 | apply xa10)); refine blk_far ?_ NB191_193.1 _; (with_reducible repeat (first | apply xn10 | apply xd10 | apply xa10)); exact BK191.1⟩, ⟨by (with_reducible repeat (first | apply xn10 | apply xd10 | apply xa10)); refine blk_put (cs := #[.int .i64 a0_1, .int .i64 a0_2, .int .i64 a0_3, .int .i64 a0_4, .int .i64 a0_5, .int .i64 a0_6, .int .i64 0]) ?_ 6 _ rfl; (with_reducible repeat (first | apply xn10 | apply xd10 | apply xa10)); refine blk_put (cs := #[.int .i64 a0_1, .int .i64 a0_2, .int .i64 a0_3, .int .i64 a0_4, .int .i64 a0_5, .int .i64 0, .int .i64 0]) ?_ 5 _ rfl; (with_reducible repeat (first | apply xn10 | apply xd10 | apply xa10)); refine blk_put (cs := #[.int .i64 a0_1, .int .i64 a0_2, .int .i64 a0_3, .int .i64 a0_4, .int .i64 0, .int .i64 0, .int .i64 0]) ?_ 4 _ rfl; (with_reducible repeat (first | apply xn10 | apply xd10 | apply xa10)); refine blk_put (cs := #[.int .i64 a0_1, .int .i64 a0_2, .int .i64 a0_3, .int .i64 0, .int .i64 0, .int .i64 0, .int .i64 0]) ?_ 3 _ rfl; (with_reducible repeat (first | apply xn10 | apply xd10 | apply xa10)); refine blk_put (cs := #[.int .i64 a0_1, .int .i64 a0_2, .int .i64 0, .int .i64 0, .int .i64 0, .int .i64 0, .int .i64 0]) ?_ 2 _ rfl; (with_reducible repeat (first | apply xn10 | apply xd10 | apply xa10)); refine blk_put (cs := #[.int .i64 a0_1, .int .i64 0, .int .i64 0, .int .i64 0, .int .i64 0, .int .i64 0, .int .i64 0]) ?_ 1 _ rfl; (with_reducible repeat (first | apply xn10 | apply xd10 | apply xa10)); refine blk_put (cs := #[.int .i64 0, .int .i64 0, .int .i64 0, .int .i64 0, .int .i64 0, .int .i64 0, .int .i64 0]) ?_ 0 _ rfl; (with_reducible repeat (first | apply xn10 | apply xd10 | apply xa10)); exact BK193.1⟩, ⟨by repeat (first | (with_reducible first | exact HB.1 | apply below_alloc | apply pw_below_drewN | apply below_drew1 | refine below_set ?_ GE191.1 | refine below_set ?_ GE193.1) | exact HB.1)⟩⟩
    case rest =>
      clear HC4
      try clear c1
      try clear c2
      try clear p2
      try clear c3
      try clear c8
      try clear c10
      try clear c11
      try clear c13
      try clear c15
      try clear c17
      try clear c19
      try clear c21
      try clear c22
      try clear c23
      try clear hcz18_0
      try clear hcz18_1
      try clear hcz18_2
      try clear hcz18_3
      try clear hcz18_4
      try clear hcz18_5
      try clear hcz18_6
      try clear hcz20_0
      try clear hcz20_1
      try clear hcz20_2
      try clear hcz20_3
      try clear hcz20_4
      try clear hcz20_5
      try clear hcz20_6
      try clear hcz22_0
      try clear hcz22_1
      try clear hcz22_2
      try clear hcz22_3
      try clear hcz22_4
      try clear hcz22_5
      try clear hcz22_6
      try clear hcz24_0
      try clear hcz24_1
      try clear hcz24_2
      try clear hcz24_3
      try clear hcz24_4
      try clear hcz24_5
      try clear hcz24_6
      try clear hcz6_0
      try clear hcz6_1
      try clear hcz6_2
      try clear hcz6_3
      try clear hcz6_4
      try clear hcz6_5
      try clear hcz6_6
      try clear hcz6_7
      try clear hcz6_8
      try clear hcz9_0
      try clear hcz9_1
      try clear hcz9_2
      try clear hcz9_3
      try clear hcz9_4
      try clear hcz9_5
      try clear hcz9_6
      try clear hfz18_0
      try clear hfz18_1
      try clear hfz18_2
      try clear hfz18_3
      try clear hfz18_4
      try clear hfz18_5
      try clear hfz18_6
      try clear hfz20_0
      try clear hfz20_1
      try clear hfz20_2
      try clear hfz20_3
      try clear hfz20_4
      try clear hfz20_5
      try clear hfz20_6
      try clear hfz22_0
      try clear hfz22_1
      try clear hfz22_2
      try clear hfz22_3
      try clear hfz22_4
      try clear hfz22_5
      try clear hfz22_6
      try clear hfz24_0
      try clear hfz24_1
      try clear hfz24_2
      try clear hfz24_3
      try clear hfz24_4
      try clear hfz24_5
      try clear hfz24_6
      try clear hfz6_0
      try clear hfz6_1
      try clear hfz6_2
      try clear hfz6_3
      try clear hfz6_4
      try clear hfz6_5
      try clear hfz6_6
      try clear hfz6_7
      try clear hfz6_8
      try clear hfz9_0
      try clear hfz9_1
      try clear hfz9_2
      try clear hfz9_3
      try clear hfz9_4
      try clear hfz9_5
      try clear hfz9_6
      obtain ⟨kq, x33_3, rfl, HA, HJ3, BK191, BK193, HB⟩ := hcut
      cases kq with
      | zero => exact absurd HA.out (by simp [vendmeterref_ReceiptFault.j0])
      | succ kj3 =>
        have H := HA.out
        clear HA
        simp only [vendmeterref_ReceiptFault.j0] at H
        by_cases c25 : x33_3 = true
        · subst c25
          have H1 : (some 2) = some r := by rw [if_pos rfl] at H; exact H
          clear H
          have H := H1
          clear H1
          obtain rfl := Option.some.inj H
          go_wp2
          go_ret
          exact ⟨by first | rfl | (simp [errW_none, errW_some] <;> rfl) | (simp [*, errW_none, errW_some] <;> rfl), by repeat (first | (with_reducible first | exact HB.1 | apply below_alloc | apply pw_below_drewN | apply below_drew1 | refine below_set ?_ GE191.1 | refine below_set ?_ GE193.1) | exact HB.1)⟩
        · replace c25 := Bool.eq_false_iff.mpr c25
          subst c25
          have H1 : ((vendmeterref_In.f a0_6 0 100000000).bind fun t198 => (if t198 = true then ((vendmeterref_In.f a0_1 1 1048575).bind fun t199 => (if t199 = true then ((vendmeterref_In.f a0_7 0 2097151).bind fun t200 => (vendmeterref_ReceiptFault.j1 kj3 (!t200) a0_0 a0_1 a0_2 a0_3 a0_4 a0_5 a0_6 a0_7 a0_8 a0_1 a0_2 a0_3 a0_4 a0_5 a0_6 a0_7)) else (vendmeterref_ReceiptFault.j1 kj3 true a0_0 a0_1 a0_2 a0_3 a0_4 a0_5 a0_6 a0_7 a0_8 a0_1 a0_2 a0_3 a0_4 a0_5 a0_6 a0_7))) else (vendmeterref_ReceiptFault.j1 kj3 true a0_0 a0_1 a0_2 a0_3 a0_4 a0_5 a0_6 a0_7 a0_8 a0_1 a0_2 a0_3 a0_4 a0_5 a0_6 a0_7))) = some r := by rw [if_neg (show ¬ (false = true) by decide)] at H; exact H
          clear H
          have H := H1
          clear H1
          have HC26 := Aside0.mk H
          clear H
          go_upto_region 6 with (fail)
          go_cut [49] (fun v49 wc => ∃ (kq : Nat) (x49_25 : Bool), v49 = .bool x49_25 ∧ Aside0 (vendmeterref_ReceiptFault.j1 kq x49_25 a0_0 a0_1 a0_2 a0_3 a0_4 a0_5 a0_6 a0_7 a0_8 a0_1 a0_2 a0_3 a0_4 a0_5 a0_6 a0_7 = some r) ∧ Aside0 (kq ≤ kj3) ∧ Aside0 (wc.heap[gb191]? = some (.cells #[.int .i64 a0_0, .int .i64 a0_1, .int .i64 a0_2, .int .i64 a0_3, .int .i64 a0_4, .int .i64 a0_5, .int .i64 a0_6, .int .i64 a0_7, .string a0_8] 29 (0, 0))) ∧ Aside0 (wc.heap[gb193]? = some (.cells #[.int .i64 a0_1, .int .i64 a0_2, .int .i64 a0_3, .int .i64 a0_4, .int .i64 a0_5, .int .i64 a0_6, .int .i64 a0_7] 27 (0, 0))) ∧ Aside0 (Below w.heap.size w wc))
          case first =>
            have H := HC26.out
            clear HC26
            replace H := Option.bind_eq_some_iff.mp H
            obtain ⟨t198, A270, H⟩ := H
            replace H : (if t198 = true then ((vendmeterref_In.f a0_1 1 1048575).bind fun t199 => (if t199 = true then ((vendmeterref_In.f a0_7 0 2097151).bind fun t200 => (vendmeterref_ReceiptFault.j1 kj3 (!t200) a0_0 a0_1 a0_2 a0_3 a0_4 a0_5 a0_6 a0_7 a0_8 a0_1 a0_2 a0_3 a0_4 a0_5 a0_6 a0_7)) else (vendmeterref_ReceiptFault.j1 kj3 true a0_0 a0_1 a0_2 a0_3 a0_4 a0_5 a0_6 a0_7 a0_8 a0_1 a0_2 a0_3 a0_4 a0_5 a0_6 a0_7))) else (vendmeterref_ReceiptFault.j1 kj3 true a0_0 a0_1 a0_2 a0_3 a0_4 a0_5 a0_6 a0_7 a0_8 a0_1 a0_2 a0_3 a0_4 a0_5 a0_6 a0_7)) = some r := H
            have A27 := Aside0.mk A270
            clear A270
            by_cases c28 : t198 = true
            · subst c28
              have H1 : ((vendmeterref_In.f a0_1 1 1048575).bind fun t199 => (if t199 = true then ((vendmeterref_In.f a0_7 0 2097151).bind fun t200 => (vendmeterref_ReceiptFault.j1 kj3 (!t200) a0_0 a0_1 a0_2 a0_3 a0_4 a0_5 a0_6 a0_7 a0_8 a0_1 a0_2 a0_3 a0_4 a0_5 a0_6 a0_7)) else (vendmeterref_ReceiptFault.j1 kj3 true a0_0 a0_1 a0_2 a0_3 a0_4 a0_5 a0_6 a0_7 a0_8 a0_1 a0_2 a0_3 a0_4 a0_5 a0_6 a0_7))) = some r := by rw [if_pos rfl] at H; exact H
              clear H
              have H := H1
              clear H1
              replace H := Option.bind_eq_some_iff.mp H
              obtain ⟨t199, A290, H⟩ := H
              replace H : (if t199 = true then ((vendmeterref_In.f a0_7 0 2097151).bind fun t200 => (vendmeterref_ReceiptFault.j1 kj3 (!t200) a0_0 a0_1 a0_2 a0_3 a0_4 a0_5 a0_6 a0_7 a0_8 a0_1 a0_2 a0_3 a0_4 a0_5 a0_6 a0_7)) else (vendmeterref_ReceiptFault.j1 kj3 true a0_0 a0_1 a0_2 a0_3 a0_4 a0_5 a0_6 a0_7 a0_8 a0_1 a0_2 a0_3 a0_4 a0_5 a0_6 a0_7)) = some r := H
              have A29 := Aside0.mk A290
              clear A290
              by_cases c30 : t199 = true
              · subst c30
                have H1 : ((vendmeterref_In.f a0_7 0 2097151).bind fun t200 => (vendmeterref_ReceiptFault.j1 kj3 (!t200) a0_0 a0_1 a0_2 a0_3 a0_4 a0_5 a0_6 a0_7 a0_8 a0_1 a0_2 a0_3 a0_4 a0_5 a0_6 a0_7)) = some r := by rw [if_pos rfl] at H; exact H
                clear H
                have H := H1
                clear H1
                replace H := Option.bind_eq_some_iff.mp H
                obtain ⟨t200, A310, H⟩ := H
                replace H : (vendmeterref_ReceiptFault.j1 kj3 (!t200) a0_0 a0_1 a0_2 a0_3 a0_4 a0_5 a0_6 a0_7 a0_8 a0_1 a0_2 a0_3 a0_4 a0_5 a0_6 a0_7) = some r := H
                have A31 := Aside0.mk A310
                clear A310
                have H' := Aside0.mk H
                clear H
                have hnb32 := NB193_191.1
                have hnc32 := NB191_193.1
                obtain ⟨hcz33_0, hcz33_1, hcz33_2, hcz33_3, hcz33_4, hcz33_5, hcz33_6⟩ := c7_10 BK193.1
                obtain ⟨hfz33_0, hfz33_1, hfz33_2, hfz33_3, hfz33_4, hfz33_5, hfz33_6⟩ := f7_10 BK193.1
                go_wp2_with (first | ((with_reducible refine gate_callee (f := 22) rfl ?_); refine goesL_ (some 36) rfl rfl Tryd.func22 (by kernel_rfl) rfl #[.int .i64 a0_6, .int .i64 0, .int .i64 100000000] rfl (by (try simp only [List.map_toArray, List.map_cons, List.map_nil]); first | done | rfl | (simp only [List.length_drop, List.length_take]; rfl)) ?_; (with_reducible refine (vendmeterref_In.calls a0_6 0 100000000 true _ A27.out).mono ?_); rintro e w' ⟨rfl, ⟨nd, rfl⟩⟩; refine ⟨_, rfl, ?_⟩) | (go_at_call 22; (with_reducible refine (vendmeterref_In.calls a0_1 1 1048575 true _ A29.out).mono ?_); rintro e w' ⟨rfl, ⟨nd, rfl⟩⟩) | (go_at_call 22; (with_reducible refine (vendmeterref_In.calls a0_7 0 2097151 t200 _ A31.out).mono ?_); rintro e w' ⟨rfl, ⟨nd, rfl⟩⟩))
                go_meet
                case rel => exact ⟨_, (!t200), (by first | rfl | (simp; done) | (simp [*]; done)), H', ⟨by have := HJ3.out; first | omega | exact Nat.le_refl _⟩, ⟨by (with_reducible repeat (first | apply xn10 | apply xd10 | apply xa10)); exact BK191.1⟩, ⟨by (with_reducible repeat (first | apply xn10 | apply xd10 | apply xa10)); exact BK193.1⟩, ⟨by repeat (first | (with_reducible first | exact HB.1 | apply below_alloc | apply pw_below_drewN | apply below_drew1 | refine below_set ?_ GE191.1 | refine below_set ?_ GE193.1) | exact HB.1)⟩⟩
              · replace c30 := Bool.eq_false_iff.mpr c30
                subst c30
                have H1 : (vendmeterref_ReceiptFault.j1 kj3 true a0_0 a0_1 a0_2 a0_3 a0_4 a0_5 a0_6 a0_7 a0_8 a0_1 a0_2 a0_3 a0_4 a0_5 a0_6 a0_7) = some r := by rw [if_neg (show ¬ (false = true) by decide)] at H; exact H
                clear H
                have H := H1
                clear H1
                have H' := Aside0.mk H
                clear H
                have hnb34 := NB193_191.1
                have hnc34 := NB191_193.1
                obtain ⟨hcz35_0, hcz35_1, hcz35_2, hcz35_3, hcz35_4, hcz35_5, hcz35_6⟩ := c7_10 BK193.1
                obtain ⟨hfz35_0, hfz35_1, hfz35_2, hfz35_3, hfz35_4, hfz35_5, hfz35_6⟩ := f7_10 BK193.1
                go_wp2_with (first | ((with_reducible refine gate_callee (f := 22) rfl ?_); refine goesL_ (some 36) rfl rfl Tryd.func22 (by kernel_rfl) rfl #[.int .i64 a0_6, .int .i64 0, .int .i64 100000000] rfl (by (try simp only [List.map_toArray, List.map_cons, List.map_nil]); first | done | rfl | (simp only [List.length_drop, List.length_take]; rfl)) ?_; (with_reducible refine (vendmeterref_In.calls a0_6 0 100000000 true _ A27.out).mono ?_); rintro e w' ⟨rfl, ⟨nd, rfl⟩⟩; refine ⟨_, rfl, ?_⟩) | (go_at_call 22; (with_reducible refine (vendmeterref_In.calls a0_1 1 1048575 false _ A29.out).mono ?_); rintro e w' ⟨rfl, ⟨nd, rfl⟩⟩))
                go_meet
                case rel => exact ⟨_, (true), (by first | rfl | (simp; done) | (simp [*]; done)), H', ⟨by have := HJ3.out; first | omega | exact Nat.le_refl _⟩, ⟨by (with_reducible repeat (first | apply xn10 | apply xd10 | apply xa10)); exact BK191.1⟩, ⟨by (with_reducible repeat (first | apply xn10 | apply xd10 | apply xa10)); exact BK193.1⟩, ⟨by repeat (first | (with_reducible first | exact HB.1 | apply below_alloc | apply pw_below_drewN | apply below_drew1 | refine below_set ?_ GE191.1 | refine below_set ?_ GE193.1) | exact HB.1)⟩⟩
            · replace c28 := Bool.eq_false_iff.mpr c28
              subst c28
              have H1 : (vendmeterref_ReceiptFault.j1 kj3 true a0_0 a0_1 a0_2 a0_3 a0_4 a0_5 a0_6 a0_7 a0_8 a0_1 a0_2 a0_3 a0_4 a0_5 a0_6 a0_7) = some r := by rw [if_neg (show ¬ (false = true) by decide)] at H; exact H
              clear H
              have H := H1
              clear H1
              have H' := Aside0.mk H
              clear H
              have hnb36 := NB193_191.1
              have hnc36 := NB191_193.1
              obtain ⟨hcz37_0, hcz37_1, hcz37_2, hcz37_3, hcz37_4, hcz37_5, hcz37_6⟩ := c7_10 BK193.1
              obtain ⟨hfz37_0, hfz37_1, hfz37_2, hfz37_3, hfz37_4, hfz37_5, hfz37_6⟩ := f7_10 BK193.1
              go_wp2_with (first | ((with_reducible refine gate_callee (f := 22) rfl ?_); refine goesL_ (some 36) rfl rfl Tryd.func22 (by kernel_rfl) rfl #[.int .i64 a0_6, .int .i64 0, .int .i64 100000000] rfl (by (try simp only [List.map_toArray, List.map_cons, List.map_nil]); first | done | rfl | (simp only [List.length_drop, List.length_take]; rfl)) ?_; (with_reducible refine (vendmeterref_In.calls a0_6 0 100000000 false _ A27.out).mono ?_); rintro e w' ⟨rfl, ⟨nd, rfl⟩⟩; refine ⟨_, rfl, ?_⟩))
              go_meet
              case rel => exact ⟨_, (true), (by first | rfl | (simp; done) | (simp [*]; done)), H', ⟨by have := HJ3.out; first | omega | exact Nat.le_refl _⟩, ⟨by (with_reducible repeat (first | apply xn10 | apply xd10 | apply xa10)); exact BK191.1⟩, ⟨by (with_reducible repeat (first | apply xn10 | apply xd10 | apply xa10)); exact BK193.1⟩, ⟨by repeat (first | (with_reducible first | exact HB.1 | apply below_alloc | apply pw_below_drewN | apply below_drew1 | refine below_set ?_ GE191.1 | refine below_set ?_ GE193.1) | exact HB.1)⟩⟩
          case rest =>
            clear HC26
            try clear c1
            try clear c2
            try clear p2
            try clear c3
            try clear c8
            try clear c10
            try clear c11
            try clear c13
            try clear c15
            try clear c17
            try clear c19
            try clear c21
            try clear c22
            try clear c23
            try clear c25
            try clear c28
            try clear c30
            try clear c32
            try clear c34
            try clear c36
            try clear hcz18_0
            try clear hcz18_1
            try clear hcz18_2
            try clear hcz18_3
            try clear hcz18_4
            try clear hcz18_5
            try clear hcz18_6
            try clear hcz20_0
            try clear hcz20_1
            try clear hcz20_2
            try clear hcz20_3
            try clear hcz20_4
            try clear hcz20_5
            try clear hcz20_6
            try clear hcz22_0
            try clear hcz22_1
            try clear hcz22_2
            try clear hcz22_3
            try clear hcz22_4
            try clear hcz22_5
            try clear hcz22_6
            try clear hcz24_0
            try clear hcz24_1
            try clear hcz24_2
            try clear hcz24_3
            try clear hcz24_4
            try clear hcz24_5
            try clear hcz24_6
            try clear hcz33_0
            try clear hcz33_1
            try clear hcz33_2
            try clear hcz33_3
            try clear hcz33_4
            try clear hcz33_5
            try clear hcz33_6
            try clear hcz35_0
            try clear hcz35_1
            try clear hcz35_2
            try clear hcz35_3
            try clear hcz35_4
            try clear hcz35_5
            try clear hcz35_6
            try clear hcz37_0
            try clear hcz37_1
            try clear hcz37_2
            try clear hcz37_3
            try clear hcz37_4
            try clear hcz37_5
            try clear hcz37_6
            try clear hcz6_0
            try clear hcz6_1
            try clear hcz6_2
            try clear hcz6_3
            try clear hcz6_4
            try clear hcz6_5
            try clear hcz6_6
            try clear hcz6_7
            try clear hcz6_8
            try clear hcz9_0
            try clear hcz9_1
            try clear hcz9_2
            try clear hcz9_3
            try clear hcz9_4
            try clear hcz9_5
            try clear hcz9_6
            try clear hfz18_0
            try clear hfz18_1
            try clear hfz18_2
            try clear hfz18_3
            try clear hfz18_4
            try clear hfz18_5
            try clear hfz18_6
            try clear hfz20_0
            try clear hfz20_1
            try clear hfz20_2
            try clear hfz20_3
            try clear hfz20_4
            try clear hfz20_5
            try clear hfz20_6
            try clear hfz22_0
            try clear hfz22_1
            try clear hfz22_2
            try clear hfz22_3
            try clear hfz22_4
            try clear hfz22_5
            try clear hfz22_6
            try clear hfz24_0
            try clear hfz24_1
            try clear hfz24_2
            try clear hfz24_3
            try clear hfz24_4
            try clear hfz24_5
            try clear hfz24_6
            try clear hfz33_0
            try clear hfz33_1
            try clear hfz33_2
            try clear hfz33_3
            try clear hfz33_4
            try clear hfz33_5
            try clear hfz33_6
            try clear hfz35_0
            try clear hfz35_1
            try clear hfz35_2
            try clear hfz35_3
            try clear hfz35_4
            try clear hfz35_5
            try clear hfz35_6
            try clear hfz37_0
            try clear hfz37_1
            try clear hfz37_2
            try clear hfz37_3
            try clear hfz37_4
            try clear hfz37_5
            try clear hfz37_6
            try clear hfz6_0
            try clear hfz6_1
            try clear hfz6_2
            try clear hfz6_3
            try clear hfz6_4
            try clear hfz6_5
            try clear hfz6_6
            try clear hfz6_7
            try clear hfz6_8
            try clear hfz9_0
            try clear hfz9_1
            try clear hfz9_2
            try clear hfz9_3
            try clear hfz9_4
            try clear hfz9_5
            try clear hfz9_6
            try clear p2
            obtain ⟨kq, x49_25, rfl, HA, HJ25, BK191, BK193, HB⟩ := hcut
            cases kq with
            | zero => exact absurd HA.out (by simp [vendmeterref_ReceiptFault.j1])
            | succ kj25 =>
              have H := HA.out
              clear HA
              simp only [vendmeterref_ReceiptFault.j1] at H
              by_cases c38 : x49_25 = true
              · subst c38
                have H1 : (some 2) = some r := by rw [if_pos rfl] at H; exact H
                clear H
                have H := H1
                clear H1
                obtain rfl := Option.some.inj H
                go_wp2
                go_ret
                exact ⟨by first | rfl | (simp [errW_none, errW_some] <;> rfl) | (simp [*, errW_none, errW_some] <;> rfl), by repeat (first | (with_reducible first | exact HB.1 | apply below_alloc | apply pw_below_drewN | apply below_drew1 | refine below_set ?_ GE191.1 | refine below_set ?_ GE193.1) | exact HB.1)⟩
              · replace c38 := Bool.eq_false_iff.mpr c38
                subst c38
                have H1 : (if (wrap64 ((wrap64 ((wrap64 ((wrap64 (a0_2 - a0_3)) - a0_4)) - a0_5)) - a0_6)) = 0 then ((vendmeterref_Parsed.f kj25 a0_8).bind fun bt201 => (if bt201.2.2.2.2 = 0 then (if bt201.2.1 = a0_1 then (if bt201.1 = 0 then (if bt201.2.2.1 = a0_7 then (some 0) else (some 8)) else (if a0_7 = 0 then (some 0) else (some 8))) else (some 8)) else (some bt201.2.2.2.2))) else (some 19)) = some r := by rw [if_neg (show ¬ (false = true) by decide)] at H; exact H
                clear H
                have H := H1
                clear H1
                by_cases c39 : (wrap64 ((wrap64 ((wrap64 ((wrap64 (a0_2 - a0_3)) - a0_4)) - a0_5)) - a0_6)) = 0
                · rw [if_pos c39] at H
                  have c39b0 : ((wrap64 ((wrap64 ((wrap64 ((wrap64 (a0_2 - a0_3)) - a0_4)) - a0_5)) - a0_6)) == 0) = true := beq_iff_eq.mpr c39
                  have c39b1 : ((wrap64 ((wrap64 ((wrap64 ((wrap64 (a0_2 - a0_3)) - a0_4)) - a0_5)) - a0_6)) != 0) = false := bne_eq_false_iff_eq.mpr c39
                  clear c39
                  replace H := Option.bind_eq_some_iff.mp H
                  obtain ⟨⟨t201, t202, t203, t204, t205⟩, A400, H⟩ := H
                  replace H : (if t205 = 0 then (if t202 = a0_1 then (if t201 = 0 then (if t203 = a0_7 then (some 0) else (some 8)) else (if a0_7 = 0 then (some 0) else (some 8))) else (some 8)) else (some t205)) = some r := H
                  have A40 := Aside0.mk A400
                  clear A400
                  by_cases c41 : t205 = 0
                  · rw [if_pos c41] at H
                    have c41b0 : (t205 == 0) = true := beq_iff_eq.mpr c41
                    have c41b1 : (t205 != 0) = false := bne_eq_false_iff_eq.mpr c41
                    clear c41
                    by_cases c42 : t202 = a0_1
                    · rw [if_pos c42] at H
                      have c42b0 : (t202 == a0_1) = true := beq_iff_eq.mpr c42
                      have c42b1 : (t202 != a0_1) = false := bne_eq_false_iff_eq.mpr c42
                      clear c42
                      by_cases c43 : t201 = 0
                      · rw [if_pos c43] at H
                        have c43b0 : (t201 == 0) = true := beq_iff_eq.mpr c43
                        have c43b1 : (t201 != 0) = false := bne_eq_false_iff_eq.mpr c43
                        clear c43
                        by_cases c44 : t203 = a0_7
                        · rw [if_pos c44] at H
                          have c44b0 : (t203 == a0_7) = true := beq_iff_eq.mpr c44
                          have c44b1 : (t203 != a0_7) = false := bne_eq_false_iff_eq.mpr c44
                          clear c44
                          obtain rfl := Option.some.inj H
                          have hnb45 := NB193_191.1
                          have hnc45 := NB191_193.1
                          obtain ⟨hcz46_0, hcz46_1, hcz46_2, hcz46_3, hcz46_4, hcz46_5, hcz46_6⟩ := c7_10 BK193.1
                          obtain ⟨hfz46_0, hfz46_1, hfz46_2, hfz46_3, hfz46_4, hfz46_5, hfz46_6⟩ := f7_10 BK193.1
                          obtain ⟨hcz47_0, hcz47_1, hcz47_2, hcz47_3, hcz47_4, hcz47_5, hcz47_6, hcz47_7, hcz47_8⟩ := c9_10 BK191.1
                          obtain ⟨hfz47_0, hfz47_1, hfz47_2, hfz47_3, hfz47_4, hfz47_5, hfz47_6, hfz47_7, hfz47_8⟩ := f9_10 BK191.1
                          go_wp2_with (first | ((with_reducible refine gate_callee (f := 23) rfl ?_); refine goesL_ (some 68) rfl rfl Tryd.func23 (by kernel_rfl) rfl #[.string a0_8] rfl (by (try simp only [List.map_toArray, List.map_cons, List.map_nil]); first | done | rfl | (simp only [List.length_drop, List.length_take]; rfl)) ?_; (with_reducible refine (vendmeterref_Parsed.calls kj25 a0_8 t201 t202 t203 t204 t205 _ A40.out).mono ?_); rintro e w48 ⟨rfl, hb⟩; refine ⟨_, rfl, ?_⟩; have n0_ := Aside0.mk (blk_below (g := gb191) (o := .cells #[.int .i64 a0_0, .int .i64 a0_1, .int .i64 a0_2, .int .i64 a0_3, .int .i64 a0_4, .int .i64 a0_5, .int .i64 a0_6, .int .i64 a0_7, .string a0_8] 29 (0, 0)) (by (with_reducible repeat (first | apply xn10 | apply xd10 | apply xa10)); exact BK191.1) hb); have n1_ := Aside0.mk (blk_below (g := gb193) (o := .cells #[.int .i64 a0_1, .int .i64 a0_2, .int .i64 a0_3, .int .i64 a0_4, .int .i64 a0_5, .int .i64 a0_6, .int .i64 a0_7] 27 (0, 0)) (by (with_reducible repeat (first | apply xn10 | apply xd10 | apply xa10)); exact BK193.1) hb); have n2_ := Aside0.mk (below_step (by with_reducible repeat (first | exact HB.1 | apply ya10 | apply yn10 | apply yd10 | refine below_set ?_ GE191.1 | refine below_set ?_ GE193.1)) hb); clear BK191; clear BK193; clear HB; have BK191 := n0_; have BK193 := n1_; have HB := n2_; clear n0_ n1_ n2_; (try clear hb); (try clear hb2); (try clear hk); (try clear hi)) | ((with_reducible refine gate_dst (N := 4) rfl ?_); refine box_event ?hg (N := 4) ?hd (cs := #[.int .i64 0, .int .i64 0, .int .i64 0, .int .i64 0]) (t := 47) ?hr ?_; (case hd => rfl); (case hg => rfl); (case hr => first | (go_simp; done) | (go_simp; rfl)); intro gb206 hg w49 hbox hb; have n0_ := Aside0.mk (blk_below (g := gb191) (o := .cells #[.int .i64 a0_0, .int .i64 a0_1, .int .i64 a0_2, .int .i64 a0_3, .int .i64 a0_4, .int .i64 a0_5, .int .i64 a0_6, .int .i64 a0_7, .string a0_8] 29 (0, 0)) (by (with_reducible repeat (first | apply xn10 | apply xd10 | apply xa10)); exact BK191.1) hb); have n1_ := Aside0.mk (blk_below (g := gb193) (o := .cells #[.int .i64 a0_1, .int .i64 a0_2, .int .i64 a0_3, .int .i64 a0_4, .int .i64 a0_5, .int .i64 a0_6, .int .i64 a0_7] 27 (0, 0)) (by (with_reducible repeat (first | apply xn10 | apply xd10 | apply xa10)); exact BK193.1) hb); have n2_ := Aside0.mk (below_step (by with_reducible repeat (first | exact HB.1 | apply ya10 | apply yn10 | apply yd10 | refine below_set ?_ GE191.1 | refine below_set ?_ GE193.1)) hb); have n3_ := Aside0.mk (hbox); have n4_ := Aside0.mk ((by rw [hg]; exact (below_size (by with_reducible repeat (first | exact HB.1 | apply ya10 | apply yn10 | apply yd10 | refine below_set ?_ GE191.1 | refine below_set ?_ GE193.1))) : w.heap.size ≤ gb206)); have n5_ := n4_; have n6_ := Aside0.mk ((by rw [hg]; exact Nat.ne_of_lt (blk_lt (g := gb191) (o := .cells #[.int .i64 a0_0, .int .i64 a0_1, .int .i64 a0_2, .int .i64 a0_3, .int .i64 a0_4, .int .i64 a0_5, .int .i64 a0_6, .int .i64 a0_7, .string a0_8] 29 (0, 0)) (by (with_reducible repeat (first | apply xn10 | apply xd10 | apply xa10)); exact BK191.1)) : gb191 ≠ gb206)); have n7_ := Aside0.mk ((by rw [hg]; exact Nat.ne_of_gt (blk_lt (g := gb191) (o := .cells #[.int .i64 a0_0, .int .i64 a0_1, .int .i64 a0_2, .int .i64 a0_3, .int .i64 a0_4, .int .i64 a0_5, .int .i64 a0_6, .int .i64 a0_7, .string a0_8] 29 (0, 0)) (by (with_reducible repeat (first | apply xn10 | apply xd10 | apply xa10)); exact BK191.1)) : gb206 ≠ gb191)); have n8_ := Aside0.mk ((by rw [hg]; exact Nat.ne_of_lt (blk_lt (g := gb193) (o := .cells #[.int .i64 a0_1, .int .i64 a0_2, .int .i64 a0_3, .int .i64 a0_4, .int .i64 a0_5, .int .i64 a0_6, .int .i64 a0_7] 27 (0, 0)) (by (with_reducible repeat (first | apply xn10 | apply xd10 | apply xa10)); exact BK193.1)) : gb193 ≠ gb206)); have n9_ := Aside0.mk ((by rw [hg]; exact Nat.ne_of_gt (blk_lt (g := gb193) (o := .cells #[.int .i64 a0_1, .int .i64 a0_2, .int .i64 a0_3, .int .i64 a0_4, .int .i64 a0_5, .int .i64 a0_6, .int .i64 a0_7] 27 (0, 0)) (by (with_reducible repeat (first | apply xn10 | apply xd10 | apply xa10)); exact BK193.1)) : gb206 ≠ gb193)); clear BK191; clear BK193; clear HB; have BK191 := n0_; have BK193 := n1_; have HB := n2_; have BK206 := n3_; have GW206 := n4_; have GE206 := n5_; have NB191_206 := n6_; have NB206_191 := n7_; have NB193_206 := n8_; have NB206_193 := n9_; clear n0_ n1_ n2_ n3_ n4_ n5_ n6_ n7_ n8_ n9_; clear hb hbox hg; have hnb50 := NB206_191.1; have hnc50 := NB191_206.1; have hnb51 := NB206_193.1; have hnc51 := NB193_206.1; obtain ⟨hcz52_0, hcz52_1, hcz52_2, hcz52_3⟩ := c4_10 BK206.1; obtain ⟨hfz52_0, hfz52_1, hfz52_2, hfz52_3⟩ := f4_10 BK206.1; obtain ⟨hcz53_0, hcz53_1, hcz53_2, hcz53_3, hcz53_4, hcz53_5, hcz53_6⟩ := c7_10 BK193.1; obtain ⟨hfz53_0, hfz53_1, hfz53_2, hfz53_3, hfz53_4, hfz53_5, hfz53_6⟩ := f7_10 BK193.1))
                          go_ret
                          exact ⟨by first | rfl | (simp [errW_none, errW_some] <;> rfl) | (simp [*, errW_none, errW_some] <;> rfl), by repeat (first | (with_reducible first | exact HB.1 | apply below_alloc | apply pw_below_drewN | apply below_drew1 | refine below_set ?_ GE191.1 | refine below_set ?_ GE193.1 | refine below_set ?_ GE206.1) | exact HB.1)⟩
                        · rw [if_neg c44] at H
                          have c44b0 : (t203 == a0_7) = false := beq_eq_false_iff_ne.mpr c44
                          have c44b1 : (t203 != a0_7) = true := bne_iff_ne.mpr c44
                          obtain rfl := Option.some.inj H
                          have hnb54 := NB193_191.1
                          have hnc54 := NB191_193.1
                          obtain ⟨hcz55_0, hcz55_1, hcz55_2, hcz55_3, hcz55_4, hcz55_5, hcz55_6⟩ := c7_10 BK193.1
                          obtain ⟨hfz55_0, hfz55_1, hfz55_2, hfz55_3, hfz55_4, hfz55_5, hfz55_6⟩ := f7_10 BK193.1
                          obtain ⟨hcz56_0, hcz56_1, hcz56_2, hcz56_3, hcz56_4, hcz56_5, hcz56_6, hcz56_7, hcz56_8⟩ := c9_10 BK191.1
                          obtain ⟨hfz56_0, hfz56_1, hfz56_2, hfz56_3, hfz56_4, hfz56_5, hfz56_6, hfz56_7, hfz56_8⟩ := f9_10 BK191.1
                          go_wp2_with (first | ((with_reducible refine gate_callee (f := 23) rfl ?_); refine goesL_ (some 68) rfl rfl Tryd.func23 (by kernel_rfl) rfl #[.string a0_8] rfl (by (try simp only [List.map_toArray, List.map_cons, List.map_nil]); first | done | rfl | (simp only [List.length_drop, List.length_take]; rfl)) ?_; (with_reducible refine (vendmeterref_Parsed.calls kj25 a0_8 t201 t202 t203 t204 t205 _ A40.out).mono ?_); rintro e w57 ⟨rfl, hb⟩; refine ⟨_, rfl, ?_⟩; have n0_ := Aside0.mk (blk_below (g := gb191) (o := .cells #[.int .i64 a0_0, .int .i64 a0_1, .int .i64 a0_2, .int .i64 a0_3, .int .i64 a0_4, .int .i64 a0_5, .int .i64 a0_6, .int .i64 a0_7, .string a0_8] 29 (0, 0)) (by (with_reducible repeat (first | apply xn10 | apply xd10 | apply xa10)); exact BK191.1) hb); have n1_ := Aside0.mk (blk_below (g := gb193) (o := .cells #[.int .i64 a0_1, .int .i64 a0_2, .int .i64 a0_3, .int .i64 a0_4, .int .i64 a0_5, .int .i64 a0_6, .int .i64 a0_7] 27 (0, 0)) (by (with_reducible repeat (first | apply xn10 | apply xd10 | apply xa10)); exact BK193.1) hb); have n2_ := Aside0.mk (below_step (by with_reducible repeat (first | exact HB.1 | apply ya10 | apply yn10 | apply yd10 | refine below_set ?_ GE191.1 | refine below_set ?_ GE193.1)) hb); clear BK191; clear BK193; clear HB; have BK191 := n0_; have BK193 := n1_; have HB := n2_; clear n0_ n1_ n2_; (try clear hb); (try clear hb2); (try clear hk); (try clear hi)) | ((with_reducible refine gate_dst (N := 4) rfl ?_); refine box_event ?hg (N := 4) ?hd (cs := #[.int .i64 0, .int .i64 0, .int .i64 0, .int .i64 0]) (t := 47) ?hr ?_; (case hd => rfl); (case hg => rfl); (case hr => first | (go_simp; done) | (go_simp; rfl)); intro gb206 hg w58 hbox hb; have n0_ := Aside0.mk (blk_below (g := gb191) (o := .cells #[.int .i64 a0_0, .int .i64 a0_1, .int .i64 a0_2, .int .i64 a0_3, .int .i64 a0_4, .int .i64 a0_5, .int .i64 a0_6, .int .i64 a0_7, .string a0_8] 29 (0, 0)) (by (with_reducible repeat (first | apply xn10 | apply xd10 | apply xa10)); exact BK191.1) hb); have n1_ := Aside0.mk (blk_below (g := gb193) (o := .cells #[.int .i64 a0_1, .int .i64 a0_2, .int .i64 a0_3, .int .i64 a0_4, .int .i64 a0_5, .int .i64 a0_6, .int .i64 a0_7] 27 (0, 0)) (by (with_reducible repeat (first | apply xn10 | apply xd10 | apply xa10)); exact BK193.1) hb); have n2_ := Aside0.mk (below_step (by with_reducible repeat (first | exact HB.1 | apply ya10 | apply yn10 | apply yd10 | refine below_set ?_ GE191.1 | refine below_set ?_ GE193.1)) hb); have n3_ := Aside0.mk (hbox); have n4_ := Aside0.mk ((by rw [hg]; exact (below_size (by with_reducible repeat (first | exact HB.1 | apply ya10 | apply yn10 | apply yd10 | refine below_set ?_ GE191.1 | refine below_set ?_ GE193.1))) : w.heap.size ≤ gb206)); have n5_ := n4_; have n6_ := Aside0.mk ((by rw [hg]; exact Nat.ne_of_lt (blk_lt (g := gb191) (o := .cells #[.int .i64 a0_0, .int .i64 a0_1, .int .i64 a0_2, .int .i64 a0_3, .int .i64 a0_4, .int .i64 a0_5, .int .i64 a0_6, .int .i64 a0_7, .string a0_8] 29 (0, 0)) (by (with_reducible repeat (first | apply xn10 | apply xd10 | apply xa10)); exact BK191.1)) : gb191 ≠ gb206)); have n7_ := Aside0.mk ((by rw [hg]; exact Nat.ne_of_gt (blk_lt (g := gb191) (o := .cells #[.int .i64 a0_0, .int .i64 a0_1, .int .i64 a0_2, .int .i64 a0_3, .int .i64 a0_4, .int .i64 a0_5, .int .i64 a0_6, .int .i64 a0_7, .string a0_8] 29 (0, 0)) (by (with_reducible repeat (first | apply xn10 | apply xd10 | apply xa10)); exact BK191.1)) : gb206 ≠ gb191)); have n8_ := Aside0.mk ((by rw [hg]; exact Nat.ne_of_lt (blk_lt (g := gb193) (o := .cells #[.int .i64 a0_1, .int .i64 a0_2, .int .i64 a0_3, .int .i64 a0_4, .int .i64 a0_5, .int .i64 a0_6, .int .i64 a0_7] 27 (0, 0)) (by (with_reducible repeat (first | apply xn10 | apply xd10 | apply xa10)); exact BK193.1)) : gb193 ≠ gb206)); have n9_ := Aside0.mk ((by rw [hg]; exact Nat.ne_of_gt (blk_lt (g := gb193) (o := .cells #[.int .i64 a0_1, .int .i64 a0_2, .int .i64 a0_3, .int .i64 a0_4, .int .i64 a0_5, .int .i64 a0_6, .int .i64 a0_7] 27 (0, 0)) (by (with_reducible repeat (first | apply xn10 | apply xd10 | apply xa10)); exact BK193.1)) : gb206 ≠ gb193)); clear BK191; clear BK193; clear HB; have BK191 := n0_; have BK193 := n1_; have HB := n2_; have BK206 := n3_; have GW206 := n4_; have GE206 := n5_; have NB191_206 := n6_; have NB206_191 := n7_; have NB193_206 := n8_; have NB206_193 := n9_; clear n0_ n1_ n2_ n3_ n4_ n5_ n6_ n7_ n8_ n9_; clear hb hbox hg; have hnb59 := NB206_191.1; have hnc59 := NB191_206.1; have hnb60 := NB206_193.1; have hnc60 := NB193_206.1; obtain ⟨hcz61_0, hcz61_1, hcz61_2, hcz61_3⟩ := c4_10 BK206.1; obtain ⟨hfz61_0, hfz61_1, hfz61_2, hfz61_3⟩ := f4_10 BK206.1; obtain ⟨hcz62_0, hcz62_1, hcz62_2, hcz62_3, hcz62_4, hcz62_5, hcz62_6⟩ := c7_10 BK193.1; obtain ⟨hfz62_0, hfz62_1, hfz62_2, hfz62_3, hfz62_4, hfz62_5, hfz62_6⟩ := f7_10 BK193.1))
                          go_ret
                          exact ⟨by first | rfl | (simp [errW_none, errW_some] <;> rfl) | (simp [*, errW_none, errW_some] <;> rfl), by repeat (first | (with_reducible first | exact HB.1 | apply below_alloc | apply pw_below_drewN | apply below_drew1 | refine below_set ?_ GE191.1 | refine below_set ?_ GE193.1 | refine below_set ?_ GE206.1) | exact HB.1)⟩
                      · rw [if_neg c43] at H
                        have c43b0 : (t201 == 0) = false := beq_eq_false_iff_ne.mpr c43
                        have c43b1 : (t201 != 0) = true := bne_iff_ne.mpr c43
                        by_cases c63 : a0_7 = 0
                        · rw [if_pos c63] at H
                          have c63b0 : (a0_7 == 0) = true := beq_iff_eq.mpr c63
                          have c63b1 : (a0_7 != 0) = false := bne_eq_false_iff_eq.mpr c63
                          clear c63
                          obtain rfl := Option.some.inj H
                          have hnb64 := NB193_191.1
                          have hnc64 := NB191_193.1
                          obtain ⟨hcz65_0, hcz65_1, hcz65_2, hcz65_3, hcz65_4, hcz65_5, hcz65_6⟩ := c7_10 BK193.1
                          obtain ⟨hfz65_0, hfz65_1, hfz65_2, hfz65_3, hfz65_4, hfz65_5, hfz65_6⟩ := f7_10 BK193.1
                          obtain ⟨hcz66_0, hcz66_1, hcz66_2, hcz66_3, hcz66_4, hcz66_5, hcz66_6, hcz66_7, hcz66_8⟩ := c9_10 BK191.1
                          obtain ⟨hfz66_0, hfz66_1, hfz66_2, hfz66_3, hfz66_4, hfz66_5, hfz66_6, hfz66_7, hfz66_8⟩ := f9_10 BK191.1
                          go_wp2_with (first | ((with_reducible refine gate_callee (f := 23) rfl ?_); refine goesL_ (some 68) rfl rfl Tryd.func23 (by kernel_rfl) rfl #[.string a0_8] rfl (by (try simp only [List.map_toArray, List.map_cons, List.map_nil]); first | done | rfl | (simp only [List.length_drop, List.length_take]; rfl)) ?_; (with_reducible refine (vendmeterref_Parsed.calls kj25 a0_8 t201 t202 t203 t204 t205 _ A40.out).mono ?_); rintro e w67 ⟨rfl, hb⟩; refine ⟨_, rfl, ?_⟩; have n0_ := Aside0.mk (blk_below (g := gb191) (o := .cells #[.int .i64 a0_0, .int .i64 a0_1, .int .i64 a0_2, .int .i64 a0_3, .int .i64 a0_4, .int .i64 a0_5, .int .i64 a0_6, .int .i64 a0_7, .string a0_8] 29 (0, 0)) (by (with_reducible repeat (first | apply xn10 | apply xd10 | apply xa10)); exact BK191.1) hb); have n1_ := Aside0.mk (blk_below (g := gb193) (o := .cells #[.int .i64 a0_1, .int .i64 a0_2, .int .i64 a0_3, .int .i64 a0_4, .int .i64 a0_5, .int .i64 a0_6, .int .i64 a0_7] 27 (0, 0)) (by (with_reducible repeat (first | apply xn10 | apply xd10 | apply xa10)); exact BK193.1) hb); have n2_ := Aside0.mk (below_step (by with_reducible repeat (first | exact HB.1 | apply ya10 | apply yn10 | apply yd10 | refine below_set ?_ GE191.1 | refine below_set ?_ GE193.1)) hb); clear BK191; clear BK193; clear HB; have BK191 := n0_; have BK193 := n1_; have HB := n2_; clear n0_ n1_ n2_; (try clear hb); (try clear hb2); (try clear hk); (try clear hi)) | ((with_reducible refine gate_dst (N := 4) rfl ?_); refine box_event ?hg (N := 4) ?hd (cs := #[.int .i64 0, .int .i64 0, .int .i64 0, .int .i64 0]) (t := 47) ?hr ?_; (case hd => rfl); (case hg => rfl); (case hr => first | (go_simp; done) | (go_simp; rfl)); intro gb206 hg w68 hbox hb; have n0_ := Aside0.mk (blk_below (g := gb191) (o := .cells #[.int .i64 a0_0, .int .i64 a0_1, .int .i64 a0_2, .int .i64 a0_3, .int .i64 a0_4, .int .i64 a0_5, .int .i64 a0_6, .int .i64 a0_7, .string a0_8] 29 (0, 0)) (by (with_reducible repeat (first | apply xn10 | apply xd10 | apply xa10)); exact BK191.1) hb); have n1_ := Aside0.mk (blk_below (g := gb193) (o := .cells #[.int .i64 a0_1, .int .i64 a0_2, .int .i64 a0_3, .int .i64 a0_4, .int .i64 a0_5, .int .i64 a0_6, .int .i64 a0_7] 27 (0, 0)) (by (with_reducible repeat (first | apply xn10 | apply xd10 | apply xa10)); exact BK193.1) hb); have n2_ := Aside0.mk (below_step (by with_reducible repeat (first | exact HB.1 | apply ya10 | apply yn10 | apply yd10 | refine below_set ?_ GE191.1 | refine below_set ?_ GE193.1)) hb); have n3_ := Aside0.mk (hbox); have n4_ := Aside0.mk ((by rw [hg]; exact (below_size (by with_reducible repeat (first | exact HB.1 | apply ya10 | apply yn10 | apply yd10 | refine below_set ?_ GE191.1 | refine below_set ?_ GE193.1))) : w.heap.size ≤ gb206)); have n5_ := n4_; have n6_ := Aside0.mk ((by rw [hg]; exact Nat.ne_of_lt (blk_lt (g := gb191) (o := .cells #[.int .i64 a0_0, .int .i64 a0_1, .int .i64 a0_2, .int .i64 a0_3, .int .i64 a0_4, .int .i64 a0_5, .int .i64 a0_6, .int .i64 a0_7, .string a0_8] 29 (0, 0)) (by (with_reducible repeat (first | apply xn10 | apply xd10 | apply xa10)); exact BK191.1)) : gb191 ≠ gb206)); have n7_ := Aside0.mk ((by rw [hg]; exact Nat.ne_of_gt (blk_lt (g := gb191) (o := .cells #[.int .i64 a0_0, .int .i64 a0_1, .int .i64 a0_2, .int .i64 a0_3, .int .i64 a0_4, .int .i64 a0_5, .int .i64 a0_6, .int .i64 a0_7, .string a0_8] 29 (0, 0)) (by (with_reducible repeat (first | apply xn10 | apply xd10 | apply xa10)); exact BK191.1)) : gb206 ≠ gb191)); have n8_ := Aside0.mk ((by rw [hg]; exact Nat.ne_of_lt (blk_lt (g := gb193) (o := .cells #[.int .i64 a0_1, .int .i64 a0_2, .int .i64 a0_3, .int .i64 a0_4, .int .i64 a0_5, .int .i64 a0_6, .int .i64 a0_7] 27 (0, 0)) (by (with_reducible repeat (first | apply xn10 | apply xd10 | apply xa10)); exact BK193.1)) : gb193 ≠ gb206)); have n9_ := Aside0.mk ((by rw [hg]; exact Nat.ne_of_gt (blk_lt (g := gb193) (o := .cells #[.int .i64 a0_1, .int .i64 a0_2, .int .i64 a0_3, .int .i64 a0_4, .int .i64 a0_5, .int .i64 a0_6, .int .i64 a0_7] 27 (0, 0)) (by (with_reducible repeat (first | apply xn10 | apply xd10 | apply xa10)); exact BK193.1)) : gb206 ≠ gb193)); clear BK191; clear BK193; clear HB; have BK191 := n0_; have BK193 := n1_; have HB := n2_; have BK206 := n3_; have GW206 := n4_; have GE206 := n5_; have NB191_206 := n6_; have NB206_191 := n7_; have NB193_206 := n8_; have NB206_193 := n9_; clear n0_ n1_ n2_ n3_ n4_ n5_ n6_ n7_ n8_ n9_; clear hb hbox hg; have hnb69 := NB206_191.1; have hnc69 := NB191_206.1; have hnb70 := NB206_193.1; have hnc70 := NB193_206.1; obtain ⟨hcz71_0, hcz71_1, hcz71_2, hcz71_3⟩ := c4_10 BK206.1; obtain ⟨hfz71_0, hfz71_1, hfz71_2, hfz71_3⟩ := f4_10 BK206.1; obtain ⟨hcz72_0, hcz72_1, hcz72_2, hcz72_3, hcz72_4, hcz72_5, hcz72_6⟩ := c7_10 BK193.1; obtain ⟨hfz72_0, hfz72_1, hfz72_2, hfz72_3, hfz72_4, hfz72_5, hfz72_6⟩ := f7_10 BK193.1))
                          go_ret
                          exact ⟨by first | rfl | (simp [errW_none, errW_some] <;> rfl) | (simp [*, errW_none, errW_some] <;> rfl), by repeat (first | (with_reducible first | exact HB.1 | apply below_alloc | apply pw_below_drewN | apply below_drew1 | refine below_set ?_ GE191.1 | refine below_set ?_ GE193.1 | refine below_set ?_ GE206.1) | exact HB.1)⟩
                        · rw [if_neg c63] at H
                          have c63b0 : (a0_7 == 0) = false := beq_eq_false_iff_ne.mpr c63
                          have c63b1 : (a0_7 != 0) = true := bne_iff_ne.mpr c63
                          obtain rfl := Option.some.inj H
                          have hnb73 := NB193_191.1
                          have hnc73 := NB191_193.1
                          obtain ⟨hcz74_0, hcz74_1, hcz74_2, hcz74_3, hcz74_4, hcz74_5, hcz74_6⟩ := c7_10 BK193.1
                          obtain ⟨hfz74_0, hfz74_1, hfz74_2, hfz74_3, hfz74_4, hfz74_5, hfz74_6⟩ := f7_10 BK193.1
                          obtain ⟨hcz75_0, hcz75_1, hcz75_2, hcz75_3, hcz75_4, hcz75_5, hcz75_6, hcz75_7, hcz75_8⟩ := c9_10 BK191.1
                          obtain ⟨hfz75_0, hfz75_1, hfz75_2, hfz75_3, hfz75_4, hfz75_5, hfz75_6, hfz75_7, hfz75_8⟩ := f9_10 BK191.1
                          go_wp2_with (first | ((with_reducible refine gate_callee (f := 23) rfl ?_); refine goesL_ (some 68) rfl rfl Tryd.func23 (by kernel_rfl) rfl #[.string a0_8] rfl (by (try simp only [List.map_toArray, List.map_cons, List.map_nil]); first | done | rfl | (simp only [List.length_drop, List.length_take]; rfl)) ?_; (with_reducible refine (vendmeterref_Parsed.calls kj25 a0_8 t201 t202 t203 t204 t205 _ A40.out).mono ?_); rintro e w76 ⟨rfl, hb⟩; refine ⟨_, rfl, ?_⟩; have n0_ := Aside0.mk (blk_below (g := gb191) (o := .cells #[.int .i64 a0_0, .int .i64 a0_1, .int .i64 a0_2, .int .i64 a0_3, .int .i64 a0_4, .int .i64 a0_5, .int .i64 a0_6, .int .i64 a0_7, .string a0_8] 29 (0, 0)) (by (with_reducible repeat (first | apply xn10 | apply xd10 | apply xa10)); exact BK191.1) hb); have n1_ := Aside0.mk (blk_below (g := gb193) (o := .cells #[.int .i64 a0_1, .int .i64 a0_2, .int .i64 a0_3, .int .i64 a0_4, .int .i64 a0_5, .int .i64 a0_6, .int .i64 a0_7] 27 (0, 0)) (by (with_reducible repeat (first | apply xn10 | apply xd10 | apply xa10)); exact BK193.1) hb); have n2_ := Aside0.mk (below_step (by with_reducible repeat (first | exact HB.1 | apply ya10 | apply yn10 | apply yd10 | refine below_set ?_ GE191.1 | refine below_set ?_ GE193.1)) hb); clear BK191; clear BK193; clear HB; have BK191 := n0_; have BK193 := n1_; have HB := n2_; clear n0_ n1_ n2_; (try clear hb); (try clear hb2); (try clear hk); (try clear hi)) | ((with_reducible refine gate_dst (N := 4) rfl ?_); refine box_event ?hg (N := 4) ?hd (cs := #[.int .i64 0, .int .i64 0, .int .i64 0, .int .i64 0]) (t := 47) ?hr ?_; (case hd => rfl); (case hg => rfl); (case hr => first | (go_simp; done) | (go_simp; rfl)); intro gb206 hg w77 hbox hb; have n0_ := Aside0.mk (blk_below (g := gb191) (o := .cells #[.int .i64 a0_0, .int .i64 a0_1, .int .i64 a0_2, .int .i64 a0_3, .int .i64 a0_4, .int .i64 a0_5, .int .i64 a0_6, .int .i64 a0_7, .string a0_8] 29 (0, 0)) (by (with_reducible repeat (first | apply xn10 | apply xd10 | apply xa10)); exact BK191.1) hb); have n1_ := Aside0.mk (blk_below (g := gb193) (o := .cells #[.int .i64 a0_1, .int .i64 a0_2, .int .i64 a0_3, .int .i64 a0_4, .int .i64 a0_5, .int .i64 a0_6, .int .i64 a0_7] 27 (0, 0)) (by (with_reducible repeat (first | apply xn10 | apply xd10 | apply xa10)); exact BK193.1) hb); have n2_ := Aside0.mk (below_step (by with_reducible repeat (first | exact HB.1 | apply ya10 | apply yn10 | apply yd10 | refine below_set ?_ GE191.1 | refine below_set ?_ GE193.1)) hb); have n3_ := Aside0.mk (hbox); have n4_ := Aside0.mk ((by rw [hg]; exact (below_size (by with_reducible repeat (first | exact HB.1 | apply ya10 | apply yn10 | apply yd10 | refine below_set ?_ GE191.1 | refine below_set ?_ GE193.1))) : w.heap.size ≤ gb206)); have n5_ := n4_; have n6_ := Aside0.mk ((by rw [hg]; exact Nat.ne_of_lt (blk_lt (g := gb191) (o := .cells #[.int .i64 a0_0, .int .i64 a0_1, .int .i64 a0_2, .int .i64 a0_3, .int .i64 a0_4, .int .i64 a0_5, .int .i64 a0_6, .int .i64 a0_7, .string a0_8] 29 (0, 0)) (by (with_reducible repeat (first | apply xn10 | apply xd10 | apply xa10)); exact BK191.1)) : gb191 ≠ gb206)); have n7_ := Aside0.mk ((by rw [hg]; exact Nat.ne_of_gt (blk_lt (g := gb191) (o := .cells #[.int .i64 a0_0, .int .i64 a0_1, .int .i64 a0_2, .int .i64 a0_3, .int .i64 a0_4, .int .i64 a0_5, .int .i64 a0_6, .int .i64 a0_7, .string a0_8] 29 (0, 0)) (by (with_reducible repeat (first | apply xn10 | apply xd10 | apply xa10)); exact BK191.1)) : gb206 ≠ gb191)); have n8_ := Aside0.mk ((by rw [hg]; exact Nat.ne_of_lt (blk_lt (g := gb193) (o := .cells #[.int .i64 a0_1, .int .i64 a0_2, .int .i64 a0_3, .int .i64 a0_4, .int .i64 a0_5, .int .i64 a0_6, .int .i64 a0_7] 27 (0, 0)) (by (with_reducible repeat (first | apply xn10 | apply xd10 | apply xa10)); exact BK193.1)) : gb193 ≠ gb206)); have n9_ := Aside0.mk ((by rw [hg]; exact Nat.ne_of_gt (blk_lt (g := gb193) (o := .cells #[.int .i64 a0_1, .int .i64 a0_2, .int .i64 a0_3, .int .i64 a0_4, .int .i64 a0_5, .int .i64 a0_6, .int .i64 a0_7] 27 (0, 0)) (by (with_reducible repeat (first | apply xn10 | apply xd10 | apply xa10)); exact BK193.1)) : gb206 ≠ gb193)); clear BK191; clear BK193; clear HB; have BK191 := n0_; have BK193 := n1_; have HB := n2_; have BK206 := n3_; have GW206 := n4_; have GE206 := n5_; have NB191_206 := n6_; have NB206_191 := n7_; have NB193_206 := n8_; have NB206_193 := n9_; clear n0_ n1_ n2_ n3_ n4_ n5_ n6_ n7_ n8_ n9_; clear hb hbox hg; have hnb78 := NB206_191.1; have hnc78 := NB191_206.1; have hnb79 := NB206_193.1; have hnc79 := NB193_206.1; obtain ⟨hcz80_0, hcz80_1, hcz80_2, hcz80_3⟩ := c4_10 BK206.1; obtain ⟨hfz80_0, hfz80_1, hfz80_2, hfz80_3⟩ := f4_10 BK206.1; obtain ⟨hcz81_0, hcz81_1, hcz81_2, hcz81_3, hcz81_4, hcz81_5, hcz81_6⟩ := c7_10 BK193.1; obtain ⟨hfz81_0, hfz81_1, hfz81_2, hfz81_3, hfz81_4, hfz81_5, hfz81_6⟩ := f7_10 BK193.1))
                          go_ret
                          exact ⟨by first | rfl | (simp [errW_none, errW_some] <;> rfl) | (simp [*, errW_none, errW_some] <;> rfl), by repeat (first | (with_reducible first | exact HB.1 | apply below_alloc | apply pw_below_drewN | apply below_drew1 | refine below_set ?_ GE191.1 | refine below_set ?_ GE193.1 | refine below_set ?_ GE206.1) | exact HB.1)⟩
                    · rw [if_neg c42] at H
                      have c42b0 : (t202 == a0_1) = false := beq_eq_false_iff_ne.mpr c42
                      have c42b1 : (t202 != a0_1) = true := bne_iff_ne.mpr c42
                      obtain rfl := Option.some.inj H
                      have hnb82 := NB193_191.1
                      have hnc82 := NB191_193.1
                      obtain ⟨hcz83_0, hcz83_1, hcz83_2, hcz83_3, hcz83_4, hcz83_5, hcz83_6⟩ := c7_10 BK193.1
                      obtain ⟨hfz83_0, hfz83_1, hfz83_2, hfz83_3, hfz83_4, hfz83_5, hfz83_6⟩ := f7_10 BK193.1
                      obtain ⟨hcz84_0, hcz84_1, hcz84_2, hcz84_3, hcz84_4, hcz84_5, hcz84_6, hcz84_7, hcz84_8⟩ := c9_10 BK191.1
                      obtain ⟨hfz84_0, hfz84_1, hfz84_2, hfz84_3, hfz84_4, hfz84_5, hfz84_6, hfz84_7, hfz84_8⟩ := f9_10 BK191.1
                      go_wp2_with (first | ((with_reducible refine gate_callee (f := 23) rfl ?_); refine goesL_ (some 68) rfl rfl Tryd.func23 (by kernel_rfl) rfl #[.string a0_8] rfl (by (try simp only [List.map_toArray, List.map_cons, List.map_nil]); first | done | rfl | (simp only [List.length_drop, List.length_take]; rfl)) ?_; (with_reducible refine (vendmeterref_Parsed.calls kj25 a0_8 t201 t202 t203 t204 t205 _ A40.out).mono ?_); rintro e w85 ⟨rfl, hb⟩; refine ⟨_, rfl, ?_⟩; have n0_ := Aside0.mk (blk_below (g := gb191) (o := .cells #[.int .i64 a0_0, .int .i64 a0_1, .int .i64 a0_2, .int .i64 a0_3, .int .i64 a0_4, .int .i64 a0_5, .int .i64 a0_6, .int .i64 a0_7, .string a0_8] 29 (0, 0)) (by (with_reducible repeat (first | apply xn10 | apply xd10 | apply xa10)); exact BK191.1) hb); have n1_ := Aside0.mk (blk_below (g := gb193) (o := .cells #[.int .i64 a0_1, .int .i64 a0_2, .int .i64 a0_3, .int .i64 a0_4, .int .i64 a0_5, .int .i64 a0_6, .int .i64 a0_7] 27 (0, 0)) (by (with_reducible repeat (first | apply xn10 | apply xd10 | apply xa10)); exact BK193.1) hb); have n2_ := Aside0.mk (below_step (by with_reducible repeat (first | exact HB.1 | apply ya10 | apply yn10 | apply yd10 | refine below_set ?_ GE191.1 | refine below_set ?_ GE193.1)) hb); clear BK191; clear BK193; clear HB; have BK191 := n0_; have BK193 := n1_; have HB := n2_; clear n0_ n1_ n2_; (try clear hb); (try clear hb2); (try clear hk); (try clear hi)) | ((with_reducible refine gate_dst (N := 4) rfl ?_); refine box_event ?hg (N := 4) ?hd (cs := #[.int .i64 0, .int .i64 0, .int .i64 0, .int .i64 0]) (t := 47) ?hr ?_; (case hd => rfl); (case hg => rfl); (case hr => first | (go_simp; done) | (go_simp; rfl)); intro gb206 hg w86 hbox hb; have n0_ := Aside0.mk (blk_below (g := gb191) (o := .cells #[.int .i64 a0_0, .int .i64 a0_1, .int .i64 a0_2, .int .i64 a0_3, .int .i64 a0_4, .int .i64 a0_5, .int .i64 a0_6, .int .i64 a0_7, .string a0_8] 29 (0, 0)) (by (with_reducible repeat (first | apply xn10 | apply xd10 | apply xa10)); exact BK191.1) hb); have n1_ := Aside0.mk (blk_below (g := gb193) (o := .cells #[.int .i64 a0_1, .int .i64 a0_2, .int .i64 a0_3, .int .i64 a0_4, .int .i64 a0_5, .int .i64 a0_6, .int .i64 a0_7] 27 (0, 0)) (by (with_reducible repeat (first | apply xn10 | apply xd10 | apply xa10)); exact BK193.1) hb); have n2_ := Aside0.mk (below_step (by with_reducible repeat (first | exact HB.1 | apply ya10 | apply yn10 | apply yd10 | refine below_set ?_ GE191.1 | refine below_set ?_ GE193.1)) hb); have n3_ := Aside0.mk (hbox); have n4_ := Aside0.mk ((by rw [hg]; exact (below_size (by with_reducible repeat (first | exact HB.1 | apply ya10 | apply yn10 | apply yd10 | refine below_set ?_ GE191.1 | refine below_set ?_ GE193.1))) : w.heap.size ≤ gb206)); have n5_ := n4_; have n6_ := Aside0.mk ((by rw [hg]; exact Nat.ne_of_lt (blk_lt (g := gb191) (o := .cells #[.int .i64 a0_0, .int .i64 a0_1, .int .i64 a0_2, .int .i64 a0_3, .int .i64 a0_4, .int .i64 a0_5, .int .i64 a0_6, .int .i64 a0_7, .string a0_8] 29 (0, 0)) (by (with_reducible repeat (first | apply xn10 | apply xd10 | apply xa10)); exact BK191.1)) : gb191 ≠ gb206)); have n7_ := Aside0.mk ((by rw [hg]; exact Nat.ne_of_gt (blk_lt (g := gb191) (o := .cells #[.int .i64 a0_0, .int .i64 a0_1, .int .i64 a0_2, .int .i64 a0_3, .int .i64 a0_4, .int .i64 a0_5, .int .i64 a0_6, .int .i64 a0_7, .string a0_8] 29 (0, 0)) (by (with_reducible repeat (first | apply xn10 | apply xd10 | apply xa10)); exact BK191.1)) : gb206 ≠ gb191)); have n8_ := Aside0.mk ((by rw [hg]; exact Nat.ne_of_lt (blk_lt (g := gb193) (o := .cells #[.int .i64 a0_1, .int .i64 a0_2, .int .i64 a0_3, .int .i64 a0_4, .int .i64 a0_5, .int .i64 a0_6, .int .i64 a0_7] 27 (0, 0)) (by (with_reducible repeat (first | apply xn10 | apply xd10 | apply xa10)); exact BK193.1)) : gb193 ≠ gb206)); have n9_ := Aside0.mk ((by rw [hg]; exact Nat.ne_of_gt (blk_lt (g := gb193) (o := .cells #[.int .i64 a0_1, .int .i64 a0_2, .int .i64 a0_3, .int .i64 a0_4, .int .i64 a0_5, .int .i64 a0_6, .int .i64 a0_7] 27 (0, 0)) (by (with_reducible repeat (first | apply xn10 | apply xd10 | apply xa10)); exact BK193.1)) : gb206 ≠ gb193)); clear BK191; clear BK193; clear HB; have BK191 := n0_; have BK193 := n1_; have HB := n2_; have BK206 := n3_; have GW206 := n4_; have GE206 := n5_; have NB191_206 := n6_; have NB206_191 := n7_; have NB193_206 := n8_; have NB206_193 := n9_; clear n0_ n1_ n2_ n3_ n4_ n5_ n6_ n7_ n8_ n9_; clear hb hbox hg; have hnb87 := NB206_191.1; have hnc87 := NB191_206.1; have hnb88 := NB206_193.1; have hnc88 := NB193_206.1; obtain ⟨hcz89_0, hcz89_1, hcz89_2, hcz89_3⟩ := c4_10 BK206.1; obtain ⟨hfz89_0, hfz89_1, hfz89_2, hfz89_3⟩ := f4_10 BK206.1; obtain ⟨hcz90_0, hcz90_1, hcz90_2, hcz90_3, hcz90_4, hcz90_5, hcz90_6⟩ := c7_10 BK193.1; obtain ⟨hfz90_0, hfz90_1, hfz90_2, hfz90_3, hfz90_4, hfz90_5, hfz90_6⟩ := f7_10 BK193.1))
                      go_ret
                      exact ⟨by first | rfl | (simp [errW_none, errW_some] <;> rfl) | (simp [*, errW_none, errW_some] <;> rfl), by repeat (first | (with_reducible first | exact HB.1 | apply below_alloc | apply pw_below_drewN | apply below_drew1 | refine below_set ?_ GE191.1 | refine below_set ?_ GE193.1 | refine below_set ?_ GE206.1) | exact HB.1)⟩
                  · rw [if_neg c41] at H
                    have c41b0 : (t205 == 0) = false := beq_eq_false_iff_ne.mpr c41
                    have c41b1 : (t205 != 0) = true := bne_iff_ne.mpr c41
                    obtain rfl := Option.some.inj H
                    have hnb91 := NB193_191.1
                    have hnc91 := NB191_193.1
                    obtain ⟨hcz92_0, hcz92_1, hcz92_2, hcz92_3, hcz92_4, hcz92_5, hcz92_6⟩ := c7_10 BK193.1
                    obtain ⟨hfz92_0, hfz92_1, hfz92_2, hfz92_3, hfz92_4, hfz92_5, hfz92_6⟩ := f7_10 BK193.1
                    obtain ⟨hcz93_0, hcz93_1, hcz93_2, hcz93_3, hcz93_4, hcz93_5, hcz93_6, hcz93_7, hcz93_8⟩ := c9_10 BK191.1
                    obtain ⟨hfz93_0, hfz93_1, hfz93_2, hfz93_3, hfz93_4, hfz93_5, hfz93_6, hfz93_7, hfz93_8⟩ := f9_10 BK191.1
                    go_wp2_with (first | ((with_reducible refine gate_callee (f := 23) rfl ?_); refine goesL_ (some 68) rfl rfl Tryd.func23 (by kernel_rfl) rfl #[.string a0_8] rfl (by (try simp only [List.map_toArray, List.map_cons, List.map_nil]); first | done | rfl | (simp only [List.length_drop, List.length_take]; rfl)) ?_; (with_reducible refine (vendmeterref_Parsed.calls kj25 a0_8 t201 t202 t203 t204 t205 _ A40.out).mono ?_); rintro e w94 ⟨rfl, hb⟩; refine ⟨_, rfl, ?_⟩; have n0_ := Aside0.mk (blk_below (g := gb191) (o := .cells #[.int .i64 a0_0, .int .i64 a0_1, .int .i64 a0_2, .int .i64 a0_3, .int .i64 a0_4, .int .i64 a0_5, .int .i64 a0_6, .int .i64 a0_7, .string a0_8] 29 (0, 0)) (by (with_reducible repeat (first | apply xn10 | apply xd10 | apply xa10)); exact BK191.1) hb); have n1_ := Aside0.mk (blk_below (g := gb193) (o := .cells #[.int .i64 a0_1, .int .i64 a0_2, .int .i64 a0_3, .int .i64 a0_4, .int .i64 a0_5, .int .i64 a0_6, .int .i64 a0_7] 27 (0, 0)) (by (with_reducible repeat (first | apply xn10 | apply xd10 | apply xa10)); exact BK193.1) hb); have n2_ := Aside0.mk (below_step (by with_reducible repeat (first | exact HB.1 | apply ya10 | apply yn10 | apply yd10 | refine below_set ?_ GE191.1 | refine below_set ?_ GE193.1)) hb); clear BK191; clear BK193; clear HB; have BK191 := n0_; have BK193 := n1_; have HB := n2_; clear n0_ n1_ n2_; (try clear hb); (try clear hb2); (try clear hk); (try clear hi)) | ((with_reducible refine gate_dst (N := 4) rfl ?_); refine box_event ?hg (N := 4) ?hd (cs := #[.int .i64 0, .int .i64 0, .int .i64 0, .int .i64 0]) (t := 47) ?hr ?_; (case hd => rfl); (case hg => rfl); (case hr => first | (go_simp; done) | (go_simp; rfl)); intro gb206 hg w95 hbox hb; have n0_ := Aside0.mk (blk_below (g := gb191) (o := .cells #[.int .i64 a0_0, .int .i64 a0_1, .int .i64 a0_2, .int .i64 a0_3, .int .i64 a0_4, .int .i64 a0_5, .int .i64 a0_6, .int .i64 a0_7, .string a0_8] 29 (0, 0)) (by (with_reducible repeat (first | apply xn10 | apply xd10 | apply xa10)); exact BK191.1) hb); have n1_ := Aside0.mk (blk_below (g := gb193) (o := .cells #[.int .i64 a0_1, .int .i64 a0_2, .int .i64 a0_3, .int .i64 a0_4, .int .i64 a0_5, .int .i64 a0_6, .int .i64 a0_7] 27 (0, 0)) (by (with_reducible repeat (first | apply xn10 | apply xd10 | apply xa10)); exact BK193.1) hb); have n2_ := Aside0.mk (below_step (by with_reducible repeat (first | exact HB.1 | apply ya10 | apply yn10 | apply yd10 | refine below_set ?_ GE191.1 | refine below_set ?_ GE193.1)) hb); have n3_ := Aside0.mk (hbox); have n4_ := Aside0.mk ((by rw [hg]; exact (below_size (by with_reducible repeat (first | exact HB.1 | apply ya10 | apply yn10 | apply yd10 | refine below_set ?_ GE191.1 | refine below_set ?_ GE193.1))) : w.heap.size ≤ gb206)); have n5_ := n4_; have n6_ := Aside0.mk ((by rw [hg]; exact Nat.ne_of_lt (blk_lt (g := gb191) (o := .cells #[.int .i64 a0_0, .int .i64 a0_1, .int .i64 a0_2, .int .i64 a0_3, .int .i64 a0_4, .int .i64 a0_5, .int .i64 a0_6, .int .i64 a0_7, .string a0_8] 29 (0, 0)) (by (with_reducible repeat (first | apply xn10 | apply xd10 | apply xa10)); exact BK191.1)) : gb191 ≠ gb206)); have n7_ := Aside0.mk ((by rw [hg]; exact Nat.ne_of_gt (blk_lt (g := gb191) (o := .cells #[.int .i64 a0_0, .int .i64 a0_1, .int .i64 a0_2, .int .i64 a0_3, .int .i64 a0_4, .int .i64 a0_5, .int .i64 a0_6, .int .i64 a0_7, .string a0_8] 29 (0, 0)) (by (with_reducible repeat (first | apply xn10 | apply xd10 | apply xa10)); exact BK191.1)) : gb206 ≠ gb191)); have n8_ := Aside0.mk ((by rw [hg]; exact Nat.ne_of_lt (blk_lt (g := gb193) (o := .cells #[.int .i64 a0_1, .int .i64 a0_2, .int .i64 a0_3, .int .i64 a0_4, .int .i64 a0_5, .int .i64 a0_6, .int .i64 a0_7] 27 (0, 0)) (by (with_reducible repeat (first | apply xn10 | apply xd10 | apply xa10)); exact BK193.1)) : gb193 ≠ gb206)); have n9_ := Aside0.mk ((by rw [hg]; exact Nat.ne_of_gt (blk_lt (g := gb193) (o := .cells #[.int .i64 a0_1, .int .i64 a0_2, .int .i64 a0_3, .int .i64 a0_4, .int .i64 a0_5, .int .i64 a0_6, .int .i64 a0_7] 27 (0, 0)) (by (with_reducible repeat (first | apply xn10 | apply xd10 | apply xa10)); exact BK193.1)) : gb206 ≠ gb193)); clear BK191; clear BK193; clear HB; have BK191 := n0_; have BK193 := n1_; have HB := n2_; have BK206 := n3_; have GW206 := n4_; have GE206 := n5_; have NB191_206 := n6_; have NB206_191 := n7_; have NB193_206 := n8_; have NB206_193 := n9_; clear n0_ n1_ n2_ n3_ n4_ n5_ n6_ n7_ n8_ n9_; clear hb hbox hg; have hnb96 := NB206_191.1; have hnc96 := NB191_206.1; have hnb97 := NB206_193.1; have hnc97 := NB193_206.1; obtain ⟨hcz98_0, hcz98_1, hcz98_2, hcz98_3⟩ := c4_10 BK206.1; obtain ⟨hfz98_0, hfz98_1, hfz98_2, hfz98_3⟩ := f4_10 BK206.1))
                    go_ret
                    exact ⟨by first | rfl | (simp [errW_none, errW_some] <;> rfl) | (simp [*, errW_none, errW_some] <;> rfl), by repeat (first | (with_reducible first | exact HB.1 | apply below_alloc | apply pw_below_drewN | apply below_drew1 | refine below_set ?_ GE191.1 | refine below_set ?_ GE193.1 | refine below_set ?_ GE206.1) | exact HB.1)⟩
                · rw [if_neg c39] at H
                  have c39b0 : ((wrap64 ((wrap64 ((wrap64 ((wrap64 (a0_2 - a0_3)) - a0_4)) - a0_5)) - a0_6)) == 0) = false := beq_eq_false_iff_ne.mpr c39
                  have c39b1 : ((wrap64 ((wrap64 ((wrap64 ((wrap64 (a0_2 - a0_3)) - a0_4)) - a0_5)) - a0_6)) != 0) = true := bne_iff_ne.mpr c39
                  obtain rfl := Option.some.inj H
                  have hnb99 := NB193_191.1
                  have hnc99 := NB191_193.1
                  obtain ⟨hcz100_0, hcz100_1, hcz100_2, hcz100_3, hcz100_4, hcz100_5, hcz100_6⟩ := c7_10 BK193.1
                  obtain ⟨hfz100_0, hfz100_1, hfz100_2, hfz100_3, hfz100_4, hfz100_5, hfz100_6⟩ := f7_10 BK193.1
                  go_wp2
                  go_ret
                  exact ⟨by first | rfl | (simp [errW_none, errW_some] <;> rfl) | (simp [*, errW_none, errW_some] <;> rfl), by repeat (first | (with_reducible first | exact HB.1 | apply below_alloc | apply pw_below_drewN | apply below_drew1 | refine below_set ?_ GE191.1 | refine below_set ?_ GE193.1) | exact HB.1)⟩
  · replace c3 := Bool.eq_false_iff.mpr c3
    subst c3
    have H1 : (some 18) = some r := by rw [if_neg (show ¬ (false = true) by decide)] at H; exact H
    clear H
    have H := H1
    clear H1
    obtain rfl := Option.some.inj H
    go_enter Tryd.func10, Tryd.ntmps10
    go_wp2_with (first | ((with_reducible refine gate_dst (N := 1) rfl ?_); refine box_event ?hg (N := 1) ?hd (cs := #[.int .i64 a0_0, .int .i64 a0_1, .int .i64 a0_2, .int .i64 a0_3, .int .i64 a0_4, .int .i64 a0_5, .int .i64 a0_6, .int .i64 a0_7, .string a0_8]) (t := 29) ?hr ?_; (case hd => rfl); (case hg => rfl); (case hr => first | (go_simp; done) | (go_simp; rfl)); intro gb191 hg w101 hbox hb; have n0_ := Aside0.mk (below_step (by with_reducible repeat (first | exact HB.1 | apply ya10 | apply yn10 | apply yd10)) hb); have n1_ := Aside0.mk (hbox); have n2_ := Aside0.mk ((by rw [hg]; exact (below_size (by with_reducible repeat (first | exact HB.1 | apply ya10 | apply yn10 | apply yd10))) : w.heap.size ≤ gb191)); have n3_ := n2_; clear HB; have HB := n0_; have BK191 := n1_; have GW191 := n2_; have GE191 := n3_; clear n0_ n1_ n2_ n3_; clear hb hbox hg; obtain ⟨hcz102_0, hcz102_1, hcz102_2, hcz102_3, hcz102_4, hcz102_5, hcz102_6, hcz102_7, hcz102_8⟩ := c9_10 BK191.1; obtain ⟨hfz102_0, hfz102_1, hfz102_2, hfz102_3, hfz102_4, hfz102_5, hfz102_6, hfz102_7, hfz102_8⟩ := f9_10 BK191.1) | ((with_reducible refine gate_callee (f := 22) rfl ?_); refine goesL_ (some 8) rfl rfl Tryd.func22 (by kernel_rfl) rfl #[.int .i64 a0_0, .int .i64 0, .int .i64 49] rfl (by (try simp only [List.map_toArray, List.map_cons, List.map_nil]); first | done | rfl | (simp only [List.length_drop, List.length_take]; rfl)) ?_; (with_reducible refine (vendmeterref_In.calls a0_0 0 49 false _ A2.out).mono ?_); rintro e w' ⟨rfl, ⟨nd, rfl⟩⟩; refine ⟨_, rfl, ?_⟩))
    go_ret
    exact ⟨by first | rfl | (simp [errW_none, errW_some] <;> rfl) | (simp [*, errW_none, errW_some] <;> rfl), by repeat (first | (with_reducible first | exact HB.1 | apply below_alloc | apply pw_below_drewN | apply below_drew1 | refine below_set ?_ GE191.1) | exact HB.1)⟩

/-! ### vendmeterlaw_ReceiptChecks: function 4 -/
theorem xa4 {w : World} {g : Nat} {o : Obj} (h : w.heap[g]? = some o) (o' : Obj) : (w.alloc o').heap[g]? = some o := blk_alloc h o'
theorem xd4 {w : World} {g : Nat} {o : Obj} (h : w.heap[g]? = some o) : w.drew.heap[g]? = some o := blk_drew h
theorem xn4 {w : World} {g : Nat} {o : Obj} (h : w.heap[g]? = some o) (n : Nat) : (w.drewN n).heap[g]? = some o := blk_drewN h n
theorem ya4 {w W : World} (h : Below w.heap.size w W) (o : Obj) : Below w.heap.size w (W.alloc o) := below_alloc h o
theorem yn4 {B : Nat} {w W : World} (h : Below B w W) (n : Nat) : Below B w (W.drewN n) := pw_below_drewN h n
theorem yd4 {B : Nat} {w W : World} (h : Below B w W) : Below B w W.drew := below_drew1 h
theorem c9_4 {w : World} {g : Nat} {t : TypeId} {x0 x1 x2 x3 x4 x5 x6 x7 x8 : Value} {r : List Value} (h : w.heap[g]? = some (.cells (List.toArray (x0 :: x1 :: x2 :: x3 :: x4 :: x5 :: x6 :: x7 :: x8 :: r)) t (0, 0))) : w.cell? ⟨g, 0, none⟩ = some x0 ∧ w.cell? ⟨g, 1, none⟩ = some x1 ∧ w.cell? ⟨g, 2, none⟩ = some x2 ∧ w.cell? ⟨g, 3, none⟩ = some x3 ∧ w.cell? ⟨g, 4, none⟩ = some x4 ∧ w.cell? ⟨g, 5, none⟩ = some x5 ∧ w.cell? ⟨g, 6, none⟩ = some x6 ∧ w.cell? ⟨g, 7, none⟩ = some x7 ∧ w.cell? ⟨g, 8, none⟩ = some x8 := ⟨(blk_cell h 0).trans rfl, (blk_cell h 1).trans rfl, (blk_cell h 2).trans rfl, (blk_cell h 3).trans rfl, (blk_cell h 4).trans rfl, (blk_cell h 5).trans rfl, (blk_cell h 6).trans rfl, (blk_cell h 7).trans rfl, (blk_cell h 8).trans rfl⟩
theorem f9_4 {w : World} {g : Nat} {t : TypeId} {cs : Array Value} (h : w.heap[g]? = some (.cells cs t (0, 0))) : w.frozen? ⟨g, 0, none⟩ = false ∧ w.frozen? ⟨g, 1, none⟩ = false ∧ w.frozen? ⟨g, 2, none⟩ = false ∧ w.frozen? ⟨g, 3, none⟩ = false ∧ w.frozen? ⟨g, 4, none⟩ = false ∧ w.frozen? ⟨g, 5, none⟩ = false ∧ w.frozen? ⟨g, 6, none⟩ = false ∧ w.frozen? ⟨g, 7, none⟩ = false ∧ w.frozen? ⟨g, 8, none⟩ = false := ⟨blk_frozen h 0, blk_frozen h 1, blk_frozen h 2, blk_frozen h 3, blk_frozen h 4, blk_frozen h 5, blk_frozen h 6, blk_frozen h 7, blk_frozen h 8⟩
def vendmeterlaw_ReceiptChecks.f (k : Nat) (a0_0 : Int) (a0_1 : Int) (a0_2 : Int) (a0_3 : Int) (a0_4 : Int) (a0_5 : Int) (a0_6 : Int) (a0_7 : Int) (a0_8 : ByteArray) : Option (Bool) := (receipt_Check.f a0_0 a0_1 a0_2 a0_3 a0_4 a0_5 a0_6 a0_7 a0_8).bind fun t208 => ((vendmeterref_ReceiptFault.f k a0_0 a0_1 a0_2 a0_3 a0_4 a0_5 a0_6 a0_7 a0_8).bind fun t209 => (some (t208 == t209)))
theorem vendmeterlaw_ReceiptChecks.mono : ∀ a0 a1 a2 a3 a4 a5 a6 a7 a8 k, LeO (vendmeterlaw_ReceiptChecks.f k a0 a1 a2 a3 a4 a5 a6 a7 a8) (vendmeterlaw_ReceiptChecks.f (k + 1) a0 a1 a2 a3 a4 a5 a6 a7 a8) := by
  intro a0 a1 a2 a3 a4 a5 a6 a7 a8 k
  unfold vendmeterlaw_ReceiptChecks.f
  repeat' first
      | (with_reducible exact vendmeterref_ReceiptFault.mono _ _ _ _ _ _ _ _ _ _)
      | (with_reducible exact LeO.refl _)
      | (with_reducible exact LeO.none _)
      | (with_reducible refine LeO.ite ?_ ?_)
      | (with_reducible refine LeO.bind ?_ (fun _ => ?_))
      | exact vendmeterref_ReceiptFault.mono _ _ _ _ _ _ _ _ _ _
      | exact LeO.none _
      | refine LeO.ite ?_ ?_
      | refine LeO.bind ?_ (fun _ => ?_)
set_option maxHeartbeats 8000000 in
set_option maxRecDepth 100000 in
theorem vendmeterlaw_ReceiptChecks.calls (k : Nat) (a0_0 : Int) (a0_1 : Int) (a0_2 : Int) (a0_3 : Int) (a0_4 : Int) (a0_5 : Int) (a0_6 : Int) (a0_7 : Int) (a0_8 : ByteArray) (r : Bool) (w : World) (h : vendmeterlaw_ReceiptChecks.f k a0_0 a0_1 a0_2 a0_3 a0_4 a0_5 a0_6 a0_7 a0_8 = some r) :
    Calls Tryd.prog 4 #[.agg #[.int .i64 a0_0, .int .i64 a0_1, .int .i64 a0_2, .int .i64 a0_3, .int .i64 a0_4, .int .i64 a0_5, .int .i64 a0_6, .int .i64 a0_7, .string a0_8]] w fun e w' => e = .returned (.bool r) ∧ Below w.heap.size w w' := by
  have hu29 := Tryd.underlying29
  have HB := Aside0.mk (Below.refl w.heap.size w)
  have H : ((receipt_Check.f a0_0 a0_1 a0_2 a0_3 a0_4 a0_5 a0_6 a0_7 a0_8).bind fun t208 => ((vendmeterref_ReceiptFault.f k a0_0 a0_1 a0_2 a0_3 a0_4 a0_5 a0_6 a0_7 a0_8).bind fun t209 => (some (t208 == t209)))) = some r := h
  clear h
  replace H := Option.bind_eq_some_iff.mp H
  obtain ⟨t208, A20, H⟩ := H
  replace H : ((vendmeterref_ReceiptFault.f k a0_0 a0_1 a0_2 a0_3 a0_4 a0_5 a0_6 a0_7 a0_8).bind fun t209 => (some (t208 == t209))) = some r := H
  have A2 := Aside0.mk A20
  clear A20
  replace H := Option.bind_eq_some_iff.mp H
  obtain ⟨t209, A30, H⟩ := H
  replace H : (some (t208 == t209)) = some r := H
  have A3 := Aside0.mk A30
  clear A30
  obtain rfl := Option.some.inj H
  go_enter Tryd.func4, Tryd.ntmps4
  go_wp2_with (first | ((with_reducible refine gate_dst (N := 1) rfl ?_); refine box_event ?hg (N := 1) ?hd (cs := #[.int .i64 a0_0, .int .i64 a0_1, .int .i64 a0_2, .int .i64 a0_3, .int .i64 a0_4, .int .i64 a0_5, .int .i64 a0_6, .int .i64 a0_7, .string a0_8]) (t := 29) ?hr ?_; (case hd => rfl); (case hg => rfl); (case hr => first | (go_simp; done) | (go_simp; rfl)); intro gb207 hg w4 hbox hb; have n0_ := Aside0.mk (below_step (by with_reducible repeat (first | exact HB.1 | apply ya4 | apply yn4 | apply yd4)) hb); have n1_ := Aside0.mk (hbox); have n2_ := Aside0.mk ((by rw [hg]; exact (below_size (by with_reducible repeat (first | exact HB.1 | apply ya4 | apply yn4 | apply yd4))) : w.heap.size ≤ gb207)); have n3_ := n2_; clear HB; have HB := n0_; have BK207 := n1_; have GW207 := n2_; have GE207 := n3_; clear n0_ n1_ n2_ n3_; clear hb hbox hg; obtain ⟨hcz5_0, hcz5_1, hcz5_2, hcz5_3, hcz5_4, hcz5_5, hcz5_6, hcz5_7, hcz5_8⟩ := c9_4 BK207.1; obtain ⟨hfz5_0, hfz5_1, hfz5_2, hfz5_3, hfz5_4, hfz5_5, hfz5_6, hfz5_7, hfz5_8⟩ := f9_4 BK207.1) | ((with_reducible refine gate_callee (f := 9) rfl ?_); refine goesL_ (some 6) rfl rfl Tryd.func9 (by kernel_rfl) rfl #[.agg #[.int .i64 a0_0, .int .i64 a0_1, .int .i64 a0_2, .int .i64 a0_3, .int .i64 a0_4, .int .i64 a0_5, .int .i64 a0_6, .int .i64 a0_7, .string a0_8]] rfl (by (try simp only [List.map_toArray, List.map_cons, List.map_nil]); first | done | rfl | (simp only [List.length_drop, List.length_take]; rfl)) ?_; (with_reducible refine (receipt_Check.calls a0_0 a0_1 a0_2 a0_3 a0_4 a0_5 a0_6 a0_7 a0_8 t208 _ A2.out).mono ?_); rintro e w6 ⟨rfl, hb⟩; refine ⟨_, rfl, ?_⟩; have n0_ := Aside0.mk (blk_below (g := gb207) (o := .cells #[.int .i64 a0_0, .int .i64 a0_1, .int .i64 a0_2, .int .i64 a0_3, .int .i64 a0_4, .int .i64 a0_5, .int .i64 a0_6, .int .i64 a0_7, .string a0_8] 29 (0, 0)) (by (with_reducible repeat (first | apply xn4 | apply xd4 | apply xa4)); exact BK207.1) hb); have n1_ := Aside0.mk (below_step (by with_reducible repeat (first | exact HB.1 | apply ya4 | apply yn4 | apply yd4 | refine below_set ?_ GE207.1)) hb); clear BK207; clear HB; have BK207 := n0_; have HB := n1_; clear n0_ n1_; (try clear hb); (try clear hb2); (try clear hk); (try clear hi); obtain ⟨hcz7_0, hcz7_1, hcz7_2, hcz7_3, hcz7_4, hcz7_5, hcz7_6, hcz7_7, hcz7_8⟩ := c9_4 BK207.1; obtain ⟨hfz7_0, hfz7_1, hfz7_2, hfz7_3, hfz7_4, hfz7_5, hfz7_6, hfz7_7, hfz7_8⟩ := f9_4 BK207.1) | ((with_reducible refine gate_callee (f := 10) rfl ?_); refine goesL_ (some 8) rfl rfl Tryd.func10 (by kernel_rfl) rfl #[.agg #[.int .i64 a0_0, .int .i64 a0_1, .int .i64 a0_2, .int .i64 a0_3, .int .i64 a0_4, .int .i64 a0_5, .int .i64 a0_6, .int .i64 a0_7, .string a0_8]] rfl (by (try simp only [List.map_toArray, List.map_cons, List.map_nil]); first | done | rfl | (simp only [List.length_drop, List.length_take]; rfl)) ?_; (with_reducible refine (vendmeterref_ReceiptFault.calls k a0_0 a0_1 a0_2 a0_3 a0_4 a0_5 a0_6 a0_7 a0_8 t209 _ A3.out).mono ?_); rintro e w8 ⟨rfl, hb⟩; refine ⟨_, rfl, ?_⟩; have n0_ := Aside0.mk (blk_below (g := gb207) (o := .cells #[.int .i64 a0_0, .int .i64 a0_1, .int .i64 a0_2, .int .i64 a0_3, .int .i64 a0_4, .int .i64 a0_5, .int .i64 a0_6, .int .i64 a0_7, .string a0_8] 29 (0, 0)) (by (with_reducible repeat (first | apply xn4 | apply xd4 | apply xa4)); exact BK207.1) hb); have n1_ := Aside0.mk (below_step (by with_reducible repeat (first | exact HB.1 | apply ya4 | apply yn4 | apply yd4 | refine below_set ?_ GE207.1)) hb); clear BK207; clear HB; have BK207 := n0_; have HB := n1_; clear n0_ n1_; (try clear hb); (try clear hb2); (try clear hk); (try clear hi)))
  go_ret
  exact ⟨by first | rfl | (simp [errW_none, errW_some] <;> rfl) | (simp [*, errW_none, errW_some] <;> rfl), by repeat (first | (with_reducible first | exact HB.1 | apply below_alloc | apply pw_below_drewN | apply below_drew1 | refine below_set ?_ GE207.1) | exact HB.1)⟩

end Go.Proofs.YthacfmjljglbiaaDoor.PReceiptChecks
