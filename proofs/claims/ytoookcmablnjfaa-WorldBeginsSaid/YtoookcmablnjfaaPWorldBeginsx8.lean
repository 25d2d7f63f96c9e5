-- written by this session's program wip/xp/xprint.py (it drives the kit's print and adds to it)
import Derived.Test.YtoookcmablnjfaaPWorldBeginsx0
import Derived.Test.YtoookcmablnjfaaPWorldBeginsx6
import Derived.Test.YtoookcmablnjfaaPWorldBeginsx7
namespace Go.Proofs.Ytoookcmablnjfaa.PWorldBegins
open Go.RowKit Go.Proofs.YtoookcmablnjfaaW.PrintWords Go.Proofs.YtoookcmablnjfaaW.PrintLast Go.Proofs.YtoookcmablnjfaaW.PrintMore
attribute [local go_sem] max2_int min2_int max_two min_two max_three min_three max_four min_four   -- for this text's walks alone
set_option linter.unusedVariables false
set_option linter.unusedSimpArgs false

/-! ### vendmeterref_WorldCopy: function 44 -/
theorem xa44 {w : World} {g : Nat} {o : Obj} (h : w.heap[g]? = some o) (o' : Obj) : (w.alloc o').heap[g]? = some o := blk_alloc h o'
theorem xd44 {w : World} {g : Nat} {o : Obj} (h : w.heap[g]? = some o) : w.drew.heap[g]? = some o := blk_drew h
theorem xn44 {w : World} {g : Nat} {o : Obj} (h : w.heap[g]? = some o) (n : Nat) : (w.drewN n).heap[g]? = some o := blk_drewN h n
theorem ya44 {w W : World} (h : Below w.heap.size w W) (o : Obj) : Below w.heap.size w (W.alloc o) := below_alloc h o
theorem yn44 {B : Nat} {w W : World} (h : Below B w W) (n : Nat) : Below B w (W.drewN n) := pw_below_drewN h n
theorem yd44 {B : Nat} {w W : World} (h : Below B w W) : Below B w W.drew := below_drew1 h
theorem c8_44 {w : World} {g : Nat} {t : TypeId} {x0 x1 x2 x3 x4 x5 x6 x7 : Value} {r : List Value} (h : w.heap[g]? = some (.cells (List.toArray (x0 :: x1 :: x2 :: x3 :: x4 :: x5 :: x6 :: x7 :: r)) t (0, 0))) : w.cell? ⟨g, 0, none⟩ = some x0 ∧ w.cell? ⟨g, 1, none⟩ = some x1 ∧ w.cell? ⟨g, 2, none⟩ = some x2 ∧ w.cell? ⟨g, 3, none⟩ = some x3 ∧ w.cell? ⟨g, 4, none⟩ = some x4 ∧ w.cell? ⟨g, 5, none⟩ = some x5 ∧ w.cell? ⟨g, 6, none⟩ = some x6 ∧ w.cell? ⟨g, 7, none⟩ = some x7 := ⟨(blk_cell h 0).trans rfl, (blk_cell h 1).trans rfl, (blk_cell h 2).trans rfl, (blk_cell h 3).trans rfl, (blk_cell h 4).trans rfl, (blk_cell h 5).trans rfl, (blk_cell h 6).trans rfl, (blk_cell h 7).trans rfl⟩
theorem f8_44 {w : World} {g : Nat} {t : TypeId} {cs : Array Value} (h : w.heap[g]? = some (.cells cs t (0, 0))) : w.frozen? ⟨g, 0, none⟩ = false ∧ w.frozen? ⟨g, 1, none⟩ = false ∧ w.frozen? ⟨g, 2, none⟩ = false ∧ w.frozen? ⟨g, 3, none⟩ = false ∧ w.frozen? ⟨g, 4, none⟩ = false ∧ w.frozen? ⟨g, 5, none⟩ = false ∧ w.frozen? ⟨g, 6, none⟩ = false ∧ w.frozen? ⟨g, 7, none⟩ = false := ⟨blk_frozen h 0, blk_frozen h 1, blk_frozen h 2, blk_frozen h 3, blk_frozen h 4, blk_frozen h 5, blk_frozen h 6, blk_frozen h 7⟩
mutual
def vendmeterref_WorldCopy.l0 : Nat → List (S126) → Int → List (S126) → Int → Int → Int → Int → List Int → List (S129) → List (List Int) → Option ((List (S126)) × Int × Int × Int × Int × List Int × (List (S129)) × (List (List Int)))
  | 0, _, _, _, _, _, _, _, _, _, _ => none
  | k + 1, x3, x4, x221000, x221001, x221002, x221003, x221004, x221005, x221006, x221007 => if x4 < (x221000.length : Int) then (if 0 ≤ x4 then (if x3.length < 8796093022208 then (vendmeterref_WorldCopy.l0 k (x3 ++ [(⟨(rd_T126 x221000 x4).f0, (rd_T126 x221000 x4).f1⟩ : S126)]) (wrap64 (x4 + 1)) x221000 x221001 x221002 x221003 x221004 x221005 x221006 x221007) else (none)) else (none)) else (vendmeterref_WorldCopy.l1 k ([] : List Int) 0 x3 x221001 x221002 x221003 x221004 x221005 x221006 x221007)
def vendmeterref_WorldCopy.l1 : Nat → List Int → Int → List (S126) → Int → Int → Int → Int → List Int → List (S129) → List (List Int) → Option ((List (S126)) × Int × Int × Int × Int × List Int × (List (S129)) × (List (List Int)))
  | 0, _, _, _, _, _, _, _, _, _, _ => none
  | k + 1, x5, x6, x221000, x221001, x221002, x221003, x221004, x221005, x221006, x221007 => if x6 < (x221005.length : Int) then (if 0 ≤ x6 then (if x5.length < 35184372088832 then (vendmeterref_WorldCopy.l1 k (x5 ++ [rd x221005 x6]) (wrap64 (x6 + 1)) x221000 x221001 x221002 x221003 x221004 x221005 x221006 x221007) else (none)) else (none)) else ((vendmeterref_OracleCopy.f k x221006).bind fun t230 => (vendmeterref_WorldCopy.l2 k ([] : List (List Int)) 0 x221000 x221001 x221002 x221003 x221004 x5 t230 x221007))
def vendmeterref_WorldCopy.l2 : Nat → List (List Int) → Int → List (S126) → Int → Int → Int → Int → List Int → List (S129) → List (List Int) → Option ((List (S126)) × Int × Int × Int × Int × List Int × (List (S129)) × (List (List Int)))
  | 0, _, _, _, _, _, _, _, _, _, _ => none
  | k + 1, x7, x8, x221000, x221001, x221002, x221003, x221004, x221005, x221006, x221007 => if x8 < (x221007.length : Int) then (vendmeterref_WorldCopy.l3 k x7 x8 ([] : List Int) 0 x221000 x221001 x221002 x221003 x221004 x221005 x221006 x221007) else (some (x221000, x221001, x221002, x221003, x221004, x221005, x221006, x7))
def vendmeterref_WorldCopy.l3 : Nat → List (List Int) → Int → List Int → Int → List (S126) → Int → Int → Int → Int → List Int → List (S129) → List (List Int) → Option ((List (S126)) × Int × Int × Int × Int × List Int × (List (S129)) × (List (List Int)))
  | 0, _, _, _, _, _, _, _, _, _, _, _, _ => none
  | k + 1, x7, x8, x9, x10, x221000, x221001, x221002, x221003, x221004, x221005, x221006, x221007 => if 0 ≤ x8 then (if x8 < (x221007.length : Int) then (if x10 < ((rd_L3 x221007 x8).length : Int) then (if 0 ≤ x10 then (if x9.length < 35184372088832 then (vendmeterref_WorldCopy.l3 k x7 x8 (x9 ++ [rd (rd_L3 x221007 x8) x10]) (wrap64 (x10 + 1)) x221000 x221001 x221002 x221003 x221004 x221005 x221006 x221007) else (none)) else (none)) else (if x7.length < 5864062014805 then (vendmeterref_WorldCopy.l2 k (x7 ++ [x9]) (wrap64 (x8 + 1)) x221000 x221001 x221002 x221003 x221004 x221005 x221006 x221007) else (none))) else (none)) else (none)
end
def vendmeterref_WorldCopy.f (k : Nat) (l0_0 : List (S126)) (a0_1 : Int) (a0_2 : Int) (a0_3 : Int) (a0_4 : Int) (l0_5 : List Int) (l0_6 : List (S129)) (l0_7 : List (List Int)) : Option ((List (S126)) × Int × Int × Int × Int × List Int × (List (S129)) × (List (List Int))) := vendmeterref_WorldCopy.l0 k ([] : List (S126)) 0 l0_0 a0_1 a0_2 a0_3 a0_4 l0_5 l0_6 l0_7
theorem vendmeterref_WorldCopy.mono_l : ∀ k, (∀ y0 y1 y2 y3 y4 y5 y6 y7 y8 y9, LeO (vendmeterref_WorldCopy.l0 k y0 y1 y2 y3 y4 y5 y6 y7 y8 y9) (vendmeterref_WorldCopy.l0 (k + 1) y0 y1 y2 y3 y4 y5 y6 y7 y8 y9)) ∧ (∀ y0 y1 y2 y3 y4 y5 y6 y7 y8 y9, LeO (vendmeterref_WorldCopy.l1 k y0 y1 y2 y3 y4 y5 y6 y7 y8 y9) (vendmeterref_WorldCopy.l1 (k + 1) y0 y1 y2 y3 y4 y5 y6 y7 y8 y9)) ∧ (∀ y0 y1 y2 y3 y4 y5 y6 y7 y8 y9, LeO (vendmeterref_WorldCopy.l2 k y0 y1 y2 y3 y4 y5 y6 y7 y8 y9) (vendmeterref_WorldCopy.l2 (k + 1) y0 y1 y2 y3 y4 y5 y6 y7 y8 y9)) ∧ (∀ y0 y1 y2 y3 y4 y5 y6 y7 y8 y9 y10 y11, LeO (vendmeterref_WorldCopy.l3 k y0 y1 y2 y3 y4 y5 y6 y7 y8 y9 y10 y11) (vendmeterref_WorldCopy.l3 (k + 1) y0 y1 y2 y3 y4 y5 y6 y7 y8 y9 y10 y11))
  | 0 => ⟨fun _ _ _ _ _ _ _ _ _ _ r h => by simp [vendmeterref_WorldCopy.l0] at h, fun _ _ _ _ _ _ _ _ _ _ r h => by simp [vendmeterref_WorldCopy.l1] at h, fun _ _ _ _ _ _ _ _ _ _ r h => by simp [vendmeterref_WorldCopy.l2] at h, fun _ _ _ _ _ _ _ _ _ _ _ _ r h => by simp [vendmeterref_WorldCopy.l3] at h⟩
  | k + 1 => by
    obtain ⟨ih0, ih1, ih2, ih3⟩ := vendmeterref_WorldCopy.mono_l k
    refine ⟨?_, ?_, ?_, ?_⟩
    · intro y0 y1 y2 y3 y4 y5 y6 y7 y8 y9
      unfold vendmeterref_WorldCopy.l0
      repeat' first
      | (with_reducible exact ih0 _ _ _ _ _ _ _ _ _ _)
      | (with_reducible exact ih1 _ _ _ _ _ _ _ _ _ _)
      | (with_reducible exact ih2 _ _ _ _ _ _ _ _ _ _)
      | (with_reducible exact ih3 _ _ _ _ _ _ _ _ _ _ _ _)
      | (with_reducible exact vendmeterref_OracleCopy.mono _ _)
      | (with_reducible exact LeO.refl _)
      | (with_reducible exact LeO.none _)
      | (with_reducible refine LeO.ite ?_ ?_)
      | (with_reducible refine LeO.bind ?_ (fun _ => ?_))
      | exact ih0 _ _ _ _ _ _ _ _ _ _
      | exact ih1 _ _ _ _ _ _ _ _ _ _
      | exact ih2 _ _ _ _ _ _ _ _ _ _
      | exact ih3 _ _ _ _ _ _ _ _ _ _ _ _
      | exact vendmeterref_OracleCopy.mono _ _
      | exact LeO.none _
      | refine LeO.ite ?_ ?_
      | refine LeO.bind ?_ (fun _ => ?_)
    · intro y0 y1 y2 y3 y4 y5 y6 y7 y8 y9
      unfold vendmeterref_WorldCopy.l1
      repeat' first
      | (with_reducible exact ih0 _ _ _ _ _ _ _ _ _ _)
      | (with_reducible exact ih1 _ _ _ _ _ _ _ _ _ _)
      | (with_reducible exact ih2 _ _ _ _ _ _ _ _ _ _)
      | (with_reducible exact ih3 _ _ _ _ _ _ _ _ _ _ _ _)
      | (with_reducible exact vendmeterref_OracleCopy.mono _ _)
      | (with_reducible exact LeO.refl _)
      | (with_reducible exact LeO.none _)
      | (with_reducible refine LeO.ite ?_ ?_)
      | (with_reducible refine LeO.bind ?_ (fun _ => ?_))
      | exact ih0 _ _ _ _ _ _ _ _ _ _
      | exact ih1 _ _ _ _ _ _ _ _ _ _
      | exact ih2 _ _ _ _ _ _ _ _ _ _
      | exact ih3 _ _ _ _ _ _ _ _ _ _ _ _
      | exact vendmeterref_OracleCopy.mono _ _
      | exact LeO.none _
      | refine LeO.ite ?_ ?_
      | refine LeO.bind ?_ (fun _ => ?_)
    · intro y0 y1 y2 y3 y4 y5 y6 y7 y8 y9
      unfold vendmeterref_WorldCopy.l2
      repeat' first
      | (with_reducible exact ih0 _ _ _ _ _ _ _ _ _ _)
      | (with_reducible exact ih1 _ _ _ _ _ _ _ _ _ _)
      | (with_reducible exact ih2 _ _ _ _ _ _ _ _ _ _)
      | (with_reducible exact ih3 _ _ _ _ _ _ _ _ _ _ _ _)
      | (with_reducible exact vendmeterref_OracleCopy.mono _ _)
      | (with_reducible exact LeO.refl _)
      | (with_reducible exact LeO.none _)
      | (with_reducible refine LeO.ite ?_ ?_)
      | (with_reducible refine LeO.bind ?_ (fun _ => ?_))
      | exact ih0 _ _ _ _ _ _ _ _ _ _
      | exact ih1 _ _ _ _ _ _ _ _ _ _
      | exact ih2 _ _ _ _ _ _ _ _ _ _
      | exact ih3 _ _ _ _ _ _ _ _ _ _ _ _
      | exact vendmeterref_OracleCopy.mono _ _
      | exact LeO.none _
      | refine LeO.ite ?_ ?_
      | refine LeO.bind ?_ (fun _ => ?_)
    · intro y0 y1 y2 y3 y4 y5 y6 y7 y8 y9 y10 y11
      unfold vendmeterref_WorldCopy.l3
      repeat' first
      | (with_reducible exact ih0 _ _ _ _ _ _ _ _ _ _)
      | (with_reducible exact ih1 _ _ _ _ _ _ _ _ _ _)
      | (with_reducible exact ih2 _ _ _ _ _ _ _ _ _ _)
      | (with_reducible exact ih3 _ _ _ _ _ _ _ _ _ _ _ _)
      | (with_reducible exact vendmeterref_OracleCopy.mono _ _)
      | (with_reducible exact LeO.refl _)
      | (with_reducible exact LeO.none _)
      | (with_reducible refine LeO.ite ?_ ?_)
      | (with_reducible refine LeO.bind ?_ (fun _ => ?_))
      | exact ih0 _ _ _ _ _ _ _ _ _ _
      | exact ih1 _ _ _ _ _ _ _ _ _ _
      | exact ih2 _ _ _ _ _ _ _ _ _ _
      | exact ih3 _ _ _ _ _ _ _ _ _ _ _ _
      | exact vendmeterref_OracleCopy.mono _ _
      | exact LeO.none _
      | refine LeO.ite ?_ ?_
      | refine LeO.bind ?_ (fun _ => ?_)
theorem vendmeterref_WorldCopy.mono : ∀ a0 a1 a2 a3 a4 a5 a6 a7 k, LeO (vendmeterref_WorldCopy.f k a0 a1 a2 a3 a4 a5 a6 a7) (vendmeterref_WorldCopy.f (k + 1) a0 a1 a2 a3 a4 a5 a6 a7) := by
  intro a0 a1 a2 a3 a4 a5 a6 a7 k
  obtain ⟨ih0, ih1, ih2, ih3⟩ := vendmeterref_WorldCopy.mono_l k
  unfold vendmeterref_WorldCopy.f
  repeat' first
      | (with_reducible exact ih0 _ _ _ _ _ _ _ _ _ _)
      | (with_reducible exact ih1 _ _ _ _ _ _ _ _ _ _)
      | (with_reducible exact ih2 _ _ _ _ _ _ _ _ _ _)
      | (with_reducible exact ih3 _ _ _ _ _ _ _ _ _ _ _ _)
      | (with_reducible exact vendmeterref_OracleCopy.mono _ _)
      | (with_reducible exact LeO.refl _)
      | (with_reducible exact LeO.none _)
      | (with_reducible refine LeO.ite ?_ ?_)
      | (with_reducible refine LeO.bind ?_ (fun _ => ?_))
      | exact ih0 _ _ _ _ _ _ _ _ _ _
      | exact ih1 _ _ _ _ _ _ _ _ _ _
      | exact ih2 _ _ _ _ _ _ _ _ _ _
      | exact ih3 _ _ _ _ _ _ _ _ _ _ _ _
      | exact vendmeterref_OracleCopy.mono _ _
      | exact LeO.none _
      | refine LeO.ite ?_ ?_
      | refine LeO.bind ?_ (fun _ => ?_)
set_option maxHeartbeats 8000000 in
set_option maxRecDepth 100000 in
theorem vendmeterref_WorldCopy.calls (k : Nat) (A0_0 : Option Addr) (c0_0 : Nat) (l0_0 : List (S126)) (a0_1 : Int) (a0_2 : Int) (a0_3 : Int) (a0_4 : Int) (A0_5 : Option Addr) (c0_5 : Nat) (l0_5 : List Int) (A0_6 : Option Addr) (c0_6 : Nat) (l0_6 : List (S129)) (A0_7 : Option Addr) (c0_7 : Nat) (l0_7 : List (List Int)) (r1 : List (S126)) (r2 : Int) (r3 : Int) (r4 : Int) (r5 : Int) (r6 : List Int) (r7 : List (S129)) (r8 : List (List Int)) (w : World) (hr0_0 : Kd.C k126 w A0_0 l0_0.length l0_0) (hc0_0 : l0_0.length ≤ c0_0) (hr0_5 : Kd.C (Kd.int .u32) w A0_5 l0_5.length l0_5) (hc0_5 : l0_5.length ≤ c0_5) (hr0_6 : Kd.C k129 w A0_6 l0_6.length l0_6) (hc0_6 : l0_6.length ≤ c0_6) (hr0_7 : Kd.C (Kd.slice 22 (Kd.int .u32)) w A0_7 l0_7.length l0_7) (hc0_7 : l0_7.length ≤ c0_7) (h : vendmeterref_WorldCopy.f k l0_0 a0_1 a0_2 a0_3 a0_4 l0_5 l0_6 l0_7 = some (r1, r2, r3, r4, r5, r6, r7, r8)) :
    Calls Try.prog 44 #[.agg #[.slice A0_0 l0_0.length c0_0, .int .i64 a0_1, .int .i64 a0_2, .int .i64 a0_3, .int .i64 a0_4, .slice A0_5 l0_5.length c0_5, .slice A0_6 l0_6.length c0_6, .slice A0_7 l0_7.length c0_7]] w fun e w' => ∃ v0_ v5_ v6_ v7_ : Value, e = .returned (.agg #[v0_, .int .i64 r2, .int .i64 r3, .int .i64 r4, .int .i64 r5, v5_, v6_, v7_]) ∧ Kd.R k126 126 w' w.heap.size (fun _ => True) v0_ r1 ∧ Kd.R (Kd.int .u32) 22 w' w.heap.size (fun _ => True) v5_ r6 ∧ Kd.R k129 129 w' w.heap.size (fun _ => True) v6_ r7 ∧ Kd.S (Kd.slice 22 (Kd.int .u32)) 42 w' w.heap.size (fun k_ => some k_ ≠ (v5_ : Value).ownBlock) v7_ r8 ∧ Below w.heap.size w w' := by
  have hu48 := Try.underlying48
  have hu126 := Try.underlying126
  have hu45 := Try.underlying45
  have HR0_0 := Aside0.mk hr0_0
  have HC0_0 := Aside0.mk hc0_0
  clear hr0_0 hc0_0
  have HR0_5 := Aside0.mk hr0_5
  have HC0_5 := Aside0.mk hc0_5
  clear hr0_5 hc0_5
  have HR0_6 := Aside0.mk hr0_6
  have HC0_6 := Aside0.mk hc0_6
  clear hr0_6 hc0_6
  have HR0_7 := Aside0.mk hr0_7
  have HC0_7 := Aside0.mk hc0_7
  clear hr0_7 hc0_7
  have HB := Aside0.mk (Below.refl w.heap.size w)
  have H : (vendmeterref_WorldCopy.l0 k ([] : List (S126)) 0 l0_0 a0_1 a0_2 a0_3 a0_4 l0_5 l0_6 l0_7) = some (r1, r2, r3, r4, r5, r6, r7, r8) := h
  clear h
  have H' := Aside0.mk H
  clear H
  go_enter Try.func44, Try.ntmps44
  go_wp2_with (first | ((with_reducible refine gate_dst (N := 1) rfl ?_); refine box_event ?hg (N := 1) ?hd (cs := #[.slice A0_0 l0_0.length c0_0, .int .i64 a0_1, .int .i64 a0_2, .int .i64 a0_3, .int .i64 a0_4, .slice A0_5 l0_5.length c0_5, .slice A0_6 l0_6.length c0_6, .slice A0_7 l0_7.length c0_7]) (t := 48) ?hr ?_; (case hd => rfl); (case hg => rfl); (case hr => first | (go_simp; done) | (go_simp; rfl)); intro gb220 hg w2 hbox hb; have n0_ := Aside0.mk (below_step (by with_reducible repeat (first | exact HB.1 | apply ya44 | apply yn44 | apply yd44)) hb); have n1_ := Aside0.mk (hbox); have n2_ := Aside0.mk ((by rw [hg]; exact (below_size (by with_reducible repeat (first | exact HB.1 | apply ya44 | apply yn44 | apply yd44))) : w.heap.size ≤ gb220)); have n3_ := n2_; clear HB; have HB := n0_; have BK220 := n1_; have GW220 := n2_; have GE220 := n3_; clear n0_ n1_ n2_ n3_; clear hb hbox hg) | ((with_reducible refine gate_dst (N := 2) rfl ?_); refine box_event ?hg (N := 2) ?hd (cs := #[.slice none 0 0, .int .i64 0, .int .i64 0, .int .i64 0, .int .i64 0, .slice none 0 0, .slice none 0 0, .slice none 0 0]) (t := 48) ?hr ?_; (case hd => rfl); (case hg => rfl); (case hr => first | (go_simp; done) | (go_simp; rfl)); intro gb221 hg w3 hbox hb; have n0_ := Aside0.mk (blk_below (g := gb220) (o := .cells #[.slice A0_0 l0_0.length c0_0, .int .i64 a0_1, .int .i64 a0_2, .int .i64 a0_3, .int .i64 a0_4, .slice A0_5 l0_5.length c0_5, .slice A0_6 l0_6.length c0_6, .slice A0_7 l0_7.length c0_7] 48 (0, 0)) (by (with_reducible repeat (first | apply xn44 | apply xd44 | apply xa44)); exact BK220.1) hb); have n1_ := Aside0.mk (below_step (by with_reducible repeat (first | exact HB.1 | apply ya44 | apply yn44 | apply yd44 | refine below_set ?_ GE220.1)) hb); have n2_ := Aside0.mk (hbox); have n3_ := Aside0.mk ((by rw [hg]; exact (below_size (by with_reducible repeat (first | exact HB.1 | apply ya44 | apply yn44 | apply yd44 | refine below_set ?_ GE220.1))) : w.heap.size ≤ gb221)); have n4_ := n3_; have n5_ := Aside0.mk ((by rw [hg]; exact Nat.ne_of_lt (blk_lt (g := gb220) (o := .cells #[.slice A0_0 l0_0.length c0_0, .int .i64 a0_1, .int .i64 a0_2, .int .i64 a0_3, .int .i64 a0_4, .slice A0_5 l0_5.length c0_5, .slice A0_6 l0_6.length c0_6, .slice A0_7 l0_7.length c0_7] 48 (0, 0)) (by (with_reducible repeat (first | apply xn44 | apply xd44 | apply xa44)); exact BK220.1)) : gb220 ≠ gb221)); have n6_ := Aside0.mk ((by rw [hg]; exact Nat.ne_of_gt (blk_lt (g := gb220) (o := .cells #[.slice A0_0 l0_0.length c0_0, .int .i64 a0_1, .int .i64 a0_2, .int .i64 a0_3, .int .i64 a0_4, .slice A0_5 l0_5.length c0_5, .slice A0_6 l0_6.length c0_6, .slice A0_7 l0_7.length c0_7] 48 (0, 0)) (by (with_reducible repeat (first | apply xn44 | apply xd44 | apply xa44)); exact BK220.1)) : gb221 ≠ gb220)); clear BK220; clear HB; have BK220 := n0_; have HB := n1_; have BK221 := n2_; have GW221 := n3_; have GE221 := n4_; have NB220_221 := n5_; have NB221_220 := n6_; clear n0_ n1_ n2_ n3_ n4_ n5_ n6_; clear hb hbox hg))
  go_loopg [3, 4] k (fun kq v3 v4 w' => ∃ (x3_1 : List (S126)) (x4_1 : Int), v4 = .int .i64 x4_1 ∧ Aside0 (vendmeterref_WorldCopy.l0 kq x3_1 x4_1 l0_0 a0_1 a0_2 a0_3 a0_4 l0_5 l0_6 l0_7 = some (r1, r2, r3, r4, r5, r6, r7, r8)) ∧ Aside0 (kq ≤ k) ∧ Aside0 (Kd.R k126 126 w' w.heap.size (fun _ => True) v3 x3_1) ∧ Aside0 (w'.heap[gb220]? = some (.cells #[(.slice A0_0 l0_0.length c0_0), .int .i64 a0_1, .int .i64 a0_2, .int .i64 a0_3, .int .i64 a0_4, (.slice A0_5 l0_5.length c0_5), (.slice A0_6 l0_6.length c0_6), (.slice A0_7 l0_7.length c0_7)] 48 (0, 0))) ∧ Aside0 (w'.heap[gb221]? = some (.cells #[(.slice none 0 0), .int .i64 0, .int .i64 0, .int .i64 0, .int .i64 0, (.slice none 0 0), (.slice none 0 0), (.slice none 0 0)] 48 (0, 0))) ∧ Aside0 (Below w.heap.size w w'))
  case atStart => exact ⟨(([] : List (S126))), (0), (by first | rfl | (simp; done) | (simp [*]; done)), H', ⟨Nat.le_refl _⟩, ⟨by first | exact Kd.R_nil _ _ _ _ _ | exact Kd.N_nil _ _ _ _ _ | exact Kd.V_nil _ _ _ _ _ | exact Kd.Q_nil _ _ _ _ _ | exact Kd.S_nil _ _ _ _ _⟩, ⟨by (with_reducible repeat (first | apply xn44 | apply xd44 | apply xa44)); exact BK220.1⟩, ⟨by (with_reducible repeat (first | apply xn44 | apply xd44 | apply xa44)); exact BK221.1⟩, ⟨by repeat (first | (with_reducible first | exact HB.1 | apply below_alloc | apply pw_below_drewN | apply below_drew1 | refine below_set ?_ GE220.1 | refine below_set ?_ GE221.1) | exact HB.1)⟩⟩
  case round =>
    clear H'
    try clear p2
    obtain ⟨x3_1, x4_1, rfl, HA, HK1, HO_3, BK220, BK221, HB⟩ := hrel
    cases gk with
    | zero => exact absurd HA.out (by simp [vendmeterref_WorldCopy.l0])
    | succ k1 =>
      have H := HA.out
      clear HA
      simp only [vendmeterref_WorldCopy.l0] at H
      by_cases c4 : x4_1 < (l0_0.length : Int)
      · rw [if_pos c4] at H
        have c4b0 : decide (x4_1 < (l0_0.length : Int)) = true := decide_eq_true c4
        clear c4
        by_cases c5 : 0 ≤ x4_1
        · rw [if_pos c5] at H
          have c5b0 : decide (0 ≤ x4_1) = true := decide_eq_true c5
          clear c5
          by_cases c6 : x3_1.length < 8796093022208
          · rw [if_pos c6] at H
            have LMc6 := Aside0.mk c6
            clear c6
            obtain ⟨y223, hy223⟩ : ∃ y_ : List (S126), y_ = (x3_1 ++ [(⟨(rd_T126 l0_0 x4_1).f0, (rd_T126 l0_0 x4_1).f1⟩ : S126)]) := ⟨_, rfl⟩
            replace H : (vendmeterref_WorldCopy.l0 k1 y223 (wrap64 (x4_1 + 1)) l0_0 a0_1 a0_2 a0_3 a0_4 l0_5 l0_6 l0_7) = some (r1, r2, r3, r4, r5, r6, r7, r8) := by first | (rw [hy223]; with_reducible exact H) | (have H2_ := (Option.bind_some _ _).symm.trans H; rw [hy223]; with_reducible exact H2_) | (have H2_ := (Option.bind_some _ _).symm.trans H; with_reducible exact H2_) | with_reducible exact H | (rw [hy223]; exact H) | exact H
            have Ny223 := Aside0.mk hy223
            clear hy223
            have H' := Aside0.mk H
            clear H
            have hnb7 := NB220_221.1
            have hnc7 := NB221_220.1
            obtain ⟨hcz8_0, hcz8_1, hcz8_2, hcz8_3, hcz8_4, hcz8_5, hcz8_6, hcz8_7⟩ := c8_44 BK220.1
            obtain ⟨hfz8_0, hfz8_1, hfz8_2, hfz8_3, hfz8_4, hfz8_5, hfz8_6, hfz8_7⟩ := f8_44 BK220.1
            have p222 : 0 ≤ (x4_1 : Int) := of_decide_eq_true (by first | (with_reducible assumption) | assumption)
            have q222 : x4_1 < (l0_0.length : Int) := of_decide_eq_true (by first | (with_reducible assumption) | assumption)
            obtain ⟨ad222, e222, hx222_0, hx222_1⟩ := at_T126 HR0_0.out x4_1 p222 q222
            cases e222
            replace hx222_0 := (HB.1.cell (World.block_lt_of_cell? w _ hx222_0)).trans hx222_0
            replace hx222_1 := (HB.1.cell (World.block_lt_of_cell? w _ hx222_1)).trans hx222_1
            replace p222 := eq_true p222
            replace q222 := eq_true q222
            go_wp2_with (first | ((with_reducible refine gate_builtin (b := .append) (xs := #[.tmp 19, .tmp 26]) rfl ?_); at_builtin; refine Kd.R_append k126 (w0 := w) w.heap.size rfl (.tmp 19) (.tmp 26) 38 126 (.agg #[(.int .i64 0), (.int .i64 0)]) 16 rfl Try.underlying38 info126 rfl (by decide) (by omega) u3 x3_1 (⟨(rd_T126 l0_0 x4_1).f0, (rd_T126 l0_0 x4_1).f1⟩ : S126) [.int .i64 ((rd_T126 l0_0 x4_1).f0), .int .i64 ((rd_T126 l0_0 x4_1).f1)] (fun _ => True) (fun _ => False) rfl rfl ?aP (fun _ hk => hk.elim) ?aF ?aO ?aB ?aS ?aL ?_; (case aP => exact k126_mkM _ _ _ (⟨(rd_T126 l0_0 x4_1).f0, (rd_T126 l0_0 x4_1).f1⟩ : S126)); (case aB => exact (by with_reducible repeat (first | exact HB.1 | apply ya44 | apply yn44 | apply yd44 | refine below_set ?_ GE220.1 | refine below_set ?_ GE221.1))); (case aF => exact (fun _ _ => trivial)); (case aO => exact (by (with_reducible repeat (first | apply Kd.R_alloc | apply Kd.R_drewN | apply Kd.R_drew)); exact HO_3.out)); (case aS => exact (below_size (by with_reducible repeat (first | exact HB.1 | apply ya44 | apply yn44 | apply yd44 | refine below_set ?_ GE220.1 | refine below_set ?_ GE221.1)))); (case aL => have := LMc6.out; omega); intro v224 w9 ho hb hg hat; rw [← Ny223.out] at ho; have n0_ := Aside0.mk (blk_grown (g := gb220) (o := .cells #[.slice (some ad222) l0_0.length c0_0, .int .i64 a0_1, .int .i64 a0_2, .int .i64 a0_3, .int .i64 a0_4, .slice A0_5 l0_5.length c0_5, .slice A0_6 l0_6.length c0_6, .slice A0_7 l0_7.length c0_7] 48 (0, 0)) (by (with_reducible repeat (first | apply xn44 | apply xd44 | apply xa44)); exact BK220.1) hg (Kd.R_ne HO_3.out BK220.1 (by decide))); have n1_ := Aside0.mk (blk_grown (g := gb221) (o := .cells #[.slice none 0 0, .int .i64 0, .int .i64 0, .int .i64 0, .int .i64 0, .slice none 0 0, .slice none 0 0, .slice none 0 0] 48 (0, 0)) (by (with_reducible repeat (first | apply xn44 | apply xd44 | apply xa44)); exact BK221.1) hg (Kd.R_ne HO_3.out BK221.1 (by decide))); have n2_ := Aside0.mk (hb); have n3_ := Aside0.mk (ho); clear BK220; clear BK221; clear HB; clear HO_3; have BK220 := n0_; have BK221 := n1_; have HB := n2_; have HO225 := n3_; clear n0_ n1_ n2_ n3_; clear ho hb hg hat))
            go_roundg k1
            case measure => have := HK1.out; omega
            case rel => exact ⟨(y223), (wrap64 (x4_1 + 1)), (by first | rfl | (simp; done) | (simp [*]; done)), H', ⟨by have := HK1.out; omega⟩, ⟨by (with_reducible repeat (first | apply Kd.R_alloc | apply Kd.R_drewN | apply Kd.R_drew)); exact HO225.1⟩, ⟨by (with_reducible repeat (first | apply xn44 | apply xd44 | apply xa44)); exact BK220.1⟩, ⟨by (with_reducible repeat (first | apply xn44 | apply xd44 | apply xa44)); exact BK221.1⟩, ⟨by repeat (first | (with_reducible first | exact HB.1 | apply below_alloc | apply pw_below_drewN | apply below_drew1 | refine below_set ?_ GE220.1 | refine below_set ?_ GE221.1) | exact HB.1)⟩⟩
          · rw [if_neg c6] at H
            exact absurd H (by simp)
        · rw [if_neg c5] at H
          exact absurd H (by simp)
      · rw [if_neg c4] at H
        have c4b0 : decide (x4_1 < (l0_0.length : Int)) = false := decide_eq_false c4
        clear c4
        have H' := Aside0.mk H
        clear H
        have hnb10 := NB220_221.1
        have hnc10 := NB221_220.1
        obtain ⟨hcz11_0, hcz11_1, hcz11_2, hcz11_3, hcz11_4, hcz11_5, hcz11_6, hcz11_7⟩ := c8_44 BK220.1
        obtain ⟨hfz11_0, hfz11_1, hfz11_2, hfz11_3, hfz11_4, hfz11_5, hfz11_6, hfz11_7⟩ := f8_44 BK220.1
        obtain ⟨Ao12, co12, eo12⟩ := Kd.R_slice HO_3.out
        subst eo12
        go_wp2
        go_loopg [5, 6] k1 (fun kq v5 v6 w' => ∃ (x5_2 : List Int) (x6_2 : Int), v6 = .int .i64 x6_2 ∧ Aside0 (vendmeterref_WorldCopy.l1 kq x5_2 x6_2 x3_1 a0_1 a0_2 a0_3 a0_4 l0_5 l0_6 l0_7 = some (r1, r2, r3, r4, r5, r6, r7, r8)) ∧ Aside0 (kq ≤ k1) ∧ Aside0 (Kd.R (Kd.int .u32) 22 w' w.heap.size (fun _ => True) v5 x5_2) ∧ Aside0 (Kd.R k126 126 w' w.heap.size (fun _ => True) (.slice Ao12 x3_1.length co12) x3_1) ∧ Aside0 (w'.heap[gb220]? = some (.cells #[(.slice Ao12 x3_1.length co12), .int .i64 a0_1, .int .i64 a0_2, .int .i64 a0_3, .int .i64 a0_4, (.slice A0_5 l0_5.length c0_5), (.slice A0_6 l0_6.length c0_6), (.slice A0_7 l0_7.length c0_7)] 48 (0, 0))) ∧ Aside0 (w'.heap[gb221]? = some (.cells #[(.slice none 0 0), .int .i64 0, .int .i64 0, .int .i64 0, .int .i64 0, (.slice none 0 0), (.slice none 0 0), (.slice none 0 0)] 48 (0, 0))) ∧ Aside0 (Below w.heap.size w w'))
        case atStart => exact ⟨(([] : List Int)), (0), (by first | rfl | (simp; done) | (simp [*]; done)), H', ⟨Nat.le_refl _⟩, ⟨by first | exact Kd.R_nil _ _ _ _ _ | exact Kd.N_nil _ _ _ _ _ | exact Kd.V_nil _ _ _ _ _ | exact Kd.Q_nil _ _ _ _ _ | exact Kd.S_nil _ _ _ _ _⟩, ⟨by (with_reducible repeat (first | apply Kd.R_alloc | apply Kd.R_drewN | apply Kd.R_drew)); exact Kd.R_mono (Kd.R_far (p := ⟨gb220, 0, none⟩) (Kd.R_types HO_3.out BK220.1 (by decide)) (fun _ hk => hk.2) (.slice Ao12 x3_1.length co12)) (fun _ hk => trivial)⟩, ⟨by (with_reducible repeat (first | apply xn44 | apply xd44 | apply xa44)); refine blk_put (cs := #[.slice A0_0 l0_0.length c0_0, .int .i64 a0_1, .int .i64 a0_2, .int .i64 a0_3, .int .i64 a0_4, .slice A0_5 l0_5.length c0_5, .slice A0_6 l0_6.length c0_6, .slice A0_7 l0_7.length c0_7]) ?_ 0 _ rfl; (with_reducible repeat (first | apply xn44 | apply xd44 | apply xa44)); exact BK220.1⟩, ⟨by (with_reducible repeat (first | apply xn44 | apply xd44 | apply xa44)); refine blk_far ?_ NB221_220.1 _; (with_reducible repeat (first | apply xn44 | apply xd44 | apply xa44)); exact BK221.1⟩, ⟨by repeat (first | (with_reducible first | exact HB.1 | apply below_alloc | apply pw_below_drewN | apply below_drew1 | refine below_set ?_ GE220.1 | refine below_set ?_ GE221.1) | exact HB.1)⟩⟩
        case round =>
          clear H'
          try clear c1
          try clear p2
          try clear q2
          try clear hx2
          try clear c4
          try clear c4b0
          try clear c5
          try clear c5b0
          try clear c6
          try clear p6
          try clear c7
          try clear c10
          try clear hcz11_0
          try clear hcz11_1
          try clear hcz11_2
          try clear hcz11_3
          try clear hcz11_4
          try clear hcz11_5
          try clear hcz11_6
          try clear hcz11_7
          try clear hcz8_0
          try clear hcz8_1
          try clear hcz8_2
          try clear hcz8_3
          try clear hcz8_4
          try clear hcz8_5
          try clear hcz8_6
          try clear hcz8_7
          try clear hfz11_0
          try clear hfz11_1
          try clear hfz11_2
          try clear hfz11_3
          try clear hfz11_4
          try clear hfz11_5
          try clear hfz11_6
          try clear hfz11_7
          try clear hfz8_0
          try clear hfz8_1
          try clear hfz8_2
          try clear hfz8_3
          try clear hfz8_4
          try clear hfz8_5
          try clear hfz8_6
          try clear hfz8_7
          try clear hx222_0
          try clear hx222_1
          try clear p2
          try clear p222
          try clear q222
          obtain ⟨x5_2, x6_2, rfl, HA, HK2, HO_5, HO_221000, BK220, BK221, HB⟩ := hrel
          cases gk with
          | zero => exact absurd HA.out (by simp [vendmeterref_WorldCopy.l1])
          | succ k2 =>
            have H := HA.out
            clear HA
            simp only [vendmeterref_WorldCopy.l1] at H
            by_cases c13 : x6_2 < (l0_5.length : Int)
            · rw [if_pos c13] at H
              have c13b0 : decide (x6_2 < (l0_5.length : Int)) = true := decide_eq_true c13
              clear c13
              by_cases c14 : 0 ≤ x6_2
              · rw [if_pos c14] at H
                have c14b0 : decide (0 ≤ x6_2) = true := decide_eq_true c14
                clear c14
                by_cases c15 : x5_2.length < 35184372088832
                · rw [if_pos c15] at H
                  have LMc15 := Aside0.mk c15
                  clear c15
                  obtain ⟨y227, hy227⟩ : ∃ y_ : List Int, y_ = (x5_2 ++ [rd l0_5 x6_2]) := ⟨_, rfl⟩
                  replace H : (vendmeterref_WorldCopy.l1 k2 y227 (wrap64 (x6_2 + 1)) x3_1 a0_1 a0_2 a0_3 a0_4 l0_5 l0_6 l0_7) = some (r1, r2, r3, r4, r5, r6, r7, r8) := by first | (rw [hy227]; with_reducible exact H) | (have H2_ := (Option.bind_some _ _).symm.trans H; rw [hy227]; with_reducible exact H2_) | (have H2_ := (Option.bind_some _ _).symm.trans H; with_reducible exact H2_) | with_reducible exact H | (rw [hy227]; exact H) | exact H
                  have Ny227 := Aside0.mk hy227
                  clear hy227
                  have H' := Aside0.mk H
                  clear H
                  have hnb16 := NB220_221.1
                  have hnc16 := NB221_220.1
                  obtain ⟨hcz17_0, hcz17_1, hcz17_2, hcz17_3, hcz17_4, hcz17_5, hcz17_6, hcz17_7⟩ := c8_44 BK220.1
                  obtain ⟨hfz17_0, hfz17_1, hfz17_2, hfz17_3, hfz17_4, hfz17_5, hfz17_6, hfz17_7⟩ := f8_44 BK220.1
                  have p226 : 0 ≤ (x6_2 : Int) := of_decide_eq_true (by first | (with_reducible assumption) | assumption)
                  have q226 : x6_2 < (l0_5.length : Int) := of_decide_eq_true (by first | (with_reducible assumption) | assumption)
                  obtain ⟨ad226, e226, hx226_0⟩ := Kd.at_int HR0_5.out x6_2 p226 q226
                  cases e226
                  replace hx226_0 := (HB.1.cell (World.block_lt_of_cell? w _ hx226_0)).trans hx226_0
                  replace p226 := eq_true p226
                  replace q226 := eq_true q226
                  go_wp2_with (first | ((with_reducible refine gate_builtin (b := .append) (xs := #[.tmp 38, .tmp 44]) rfl ?_); at_builtin; refine Kd.R_append (Kd.int .u32) (w0 := w) w.heap.size rfl (.tmp 38) (.tmp 44) 42 22 (.int .u32 0) 4 rfl Try.underlying42 info22 rfl (by decide) (by omega) u5 x5_2 (rd l0_5 x6_2) [.int .u32 (rd l0_5 x6_2)] (fun _ => True) (fun _ => False) rfl rfl ?aP (fun _ hk => hk.elim) ?aF ?aO ?aB ?aS ?aL ?_; (case aP => exact rfl); (case aB => exact (by with_reducible repeat (first | exact HB.1 | apply ya44 | apply yn44 | apply yd44 | refine below_set ?_ GE220.1 | refine below_set ?_ GE221.1))); (case aF => exact (fun _ _ => trivial)); (case aO => exact (by (with_reducible repeat (first | apply Kd.R_alloc | apply Kd.R_drewN | apply Kd.R_drew)); exact HO_5.out)); (case aS => exact (below_size (by with_reducible repeat (first | exact HB.1 | apply ya44 | apply yn44 | apply yd44 | refine below_set ?_ GE220.1 | refine below_set ?_ GE221.1)))); (case aL => have := LMc15.out; omega); intro v228 w18 ho hb hg hat; rw [← Ny227.out] at ho; have n0_ := Aside0.mk (Kd.R_over' (by (with_reducible repeat (first | apply Kd.R_alloc | apply Kd.R_drewN | apply Kd.R_drew)); exact HO_221000.out) (Kd.R_typed (by (with_reducible repeat (first | apply Kd.R_alloc | apply Kd.R_drewN | apply Kd.R_drew)); exact HO_5.out)) (by decide) hg); have n1_ := Aside0.mk (blk_grown (g := gb220) (o := .cells #[.slice Ao12 x3_1.length co12, .int .i64 a0_1, .int .i64 a0_2, .int .i64 a0_3, .int .i64 a0_4, .slice (some ad226) l0_5.length c0_5, .slice A0_6 l0_6.length c0_6, .slice A0_7 l0_7.length c0_7] 48 (0, 0)) (by (with_reducible repeat (first | apply xn44 | apply xd44 | apply xa44)); exact BK220.1) hg (Kd.R_ne HO_5.out BK220.1 (by decide))); have n2_ := Aside0.mk (blk_grown (g := gb221) (o := .cells #[.slice none 0 0, .int .i64 0, .int .i64 0, .int .i64 0, .int .i64 0, .slice none 0 0, .slice none 0 0, .slice none 0 0] 48 (0, 0)) (by (with_reducible repeat (first | apply xn44 | apply xd44 | apply xa44)); exact BK221.1) hg (Kd.R_ne HO_5.out BK221.1 (by decide))); have n3_ := Aside0.mk (hb); have n4_ := Aside0.mk (ho); clear HO_221000; clear BK220; clear BK221; clear HB; clear HO_5; have HO_221000 := n0_; have BK220 := n1_; have BK221 := n2_; have HB := n3_; have HO229 := n4_; clear n0_ n1_ n2_ n3_ n4_; clear ho hb hg hat))
                  go_roundg k2
                  case measure => have := HK1.out; have := HK2.out; omega
                  case rel => exact ⟨(y227), (wrap64 (x6_2 + 1)), (by first | rfl | (simp; done) | (simp [*]; done)), H', ⟨by have := HK1.out; have := HK2.out; omega⟩, ⟨by (with_reducible repeat (first | apply Kd.R_alloc | apply Kd.R_drewN | apply Kd.R_drew)); exact HO229.1⟩, ⟨by (with_reducible repeat (first | apply Kd.R_alloc | apply Kd.R_drewN | apply Kd.R_drew)); exact HO_221000.out⟩, ⟨by (with_reducible repeat (first | apply xn44 | apply xd44 | apply xa44)); exact BK220.1⟩, ⟨by (with_reducible repeat (first | apply xn44 | apply xd44 | apply xa44)); exact BK221.1⟩, ⟨by repeat (first | (with_reducible first | exact HB.1 | apply below_alloc | apply pw_below_drewN | apply below_drew1 | refine below_set ?_ GE220.1 | refine below_set ?_ GE221.1) | exact HB.1)⟩⟩
                · rw [if_neg c15] at H
                  exact absurd H (by simp)
              · rw [if_neg c14] at H
                exact absurd H (by simp)
            · rw [if_neg c13] at H
              have c13b0 : decide (x6_2 < (l0_5.length : Int)) = false := decide_eq_false c13
              clear c13
              replace H := Option.bind_eq_some_iff.mp H
              obtain ⟨t230, A190, H⟩ := H
              replace H : (vendmeterref_WorldCopy.l2 k2 ([] : List (List Int)) 0 x3_1 a0_1 a0_2 a0_3 a0_4 x5_2 t230 l0_7) = some (r1, r2, r3, r4, r5, r6, r7, r8) := H
              have A19 := Aside0.mk A190
              clear A190
              have H' := Aside0.mk H
              clear H
              have hnb20 := NB220_221.1
              have hnc20 := NB221_220.1
              obtain ⟨hcz21_0, hcz21_1, hcz21_2, hcz21_3, hcz21_4, hcz21_5, hcz21_6, hcz21_7⟩ := c8_44 BK220.1
              obtain ⟨hfz21_0, hfz21_1, hfz21_2, hfz21_3, hfz21_4, hfz21_5, hfz21_6, hfz21_7⟩ := f8_44 BK220.1
              obtain ⟨Ao22, co22, eo22⟩ := Kd.R_slice HO_5.out
              subst eo22
              go_wp2_with (first | ((with_reducible refine gate_callee (f := 81) rfl ?_); refine goesL_ (some 50) rfl rfl Try.func81 (by kernel_rfl) rfl #[.agg #[.slice A0_6 l0_6.length c0_6]] rfl (by (try simp only [List.map_toArray, List.map_cons, List.map_nil]); first | done | rfl | (simp only [List.length_drop, List.length_take]; rfl)) ?_; (with_reducible refine (vendmeterref_OracleCopy.calls k2 _ _ l0_6 t230 _ ?side1 ?side2 A19.out).mono ?_); (case side1 => exact Kd.C_below HR0_6.out (by with_reducible repeat (first | exact HB.1 | apply ya44 | apply yn44 | apply yd44 | refine below_set ?_ GE220.1 | refine below_set ?_ GE221.1))); (case side2 => exact HC0_6.out); rintro e w23 ⟨v231, rfl, ho0, hb⟩; refine ⟨_, rfl, ?_⟩; have n0_ := Aside0.mk (Kd.R_below (by (with_reducible repeat (first | apply Kd.R_alloc | apply Kd.R_drewN | apply Kd.R_drew)); exact (Kd.R_mono (Kd.R_far (p := ⟨gb220, 5, none⟩) (Kd.R_types HO_5.out BK220.1 (by decide)) (fun _ hk => hk.2) (.slice Ao22 x5_2.length co22)) (fun _ h_ => h_.1))) hb); have n1_ := Aside0.mk (Kd.R_below (by (with_reducible repeat (first | apply Kd.R_alloc | apply Kd.R_drewN | apply Kd.R_drew)); exact (Kd.R_mono (Kd.R_far (p := ⟨gb220, 5, none⟩) (Kd.R_types HO_221000.out BK220.1 (by decide)) (fun _ hk => hk.2) (.slice Ao22 x5_2.length co22)) (fun _ h_ => h_.1))) hb); have n2_ := Aside0.mk (Kd.R_lower ho0 (below_size (by with_reducible repeat (first | exact HB.1 | apply ya44 | apply yn44 | apply yd44 | refine below_set ?_ GE220.1 | refine below_set ?_ GE221.1)))); have n3_ := Aside0.mk (blk_below (g := gb220) (o := .cells #[.slice Ao12 x3_1.length co12, .int .i64 a0_1, .int .i64 a0_2, .int .i64 a0_3, .int .i64 a0_4, .slice Ao22 x5_2.length co22, .slice A0_6 l0_6.length c0_6, .slice A0_7 l0_7.length c0_7] 48 (0, 0)) (by (with_reducible repeat (first | apply xn44 | apply xd44 | apply xa44)); refine blk_put (cs := #[.slice Ao12 x3_1.length co12, .int .i64 a0_1, .int .i64 a0_2, .int .i64 a0_3, .int .i64 a0_4, .slice A0_5 l0_5.length c0_5, .slice A0_6 l0_6.length c0_6, .slice A0_7 l0_7.length c0_7]) ?_ 5 _ rfl; (with_reducible repeat (first | apply xn44 | apply xd44 | apply xa44)); exact BK220.1) hb); have n4_ := Aside0.mk (blk_below (g := gb221) (o := .cells #[.slice none 0 0, .int .i64 0, .int .i64 0, .int .i64 0, .int .i64 0, .slice none 0 0, .slice none 0 0, .slice none 0 0] 48 (0, 0)) (by (with_reducible repeat (first | apply xn44 | apply xd44 | apply xa44)); refine blk_far ?_ NB221_220.1 _; (with_reducible repeat (first | apply xn44 | apply xd44 | apply xa44)); exact BK221.1) hb); have n5_ := Aside0.mk (below_step (by with_reducible repeat (first | exact HB.1 | apply ya44 | apply yn44 | apply yd44 | refine below_set ?_ GE220.1 | refine below_set ?_ GE221.1)) hb); clear HO_5; clear HO_221000; clear BK220; clear BK221; clear HB; have HO_5 := n0_; have HO_221000 := n1_; have HO232 := n2_; have BK220 := n3_; have BK221 := n4_; have HB := n5_; clear n0_ n1_ n2_ n3_ n4_ n5_; (try clear hb); (try clear hb2); (try clear hk); (try clear hi); (try clear ho0); obtain ⟨Ao24, co24, eo24⟩ := Kd.R_slice HO232.1; subst eo24; obtain ⟨hcz25_0, hcz25_1, hcz25_2, hcz25_3, hcz25_4, hcz25_5, hcz25_6, hcz25_7⟩ := c8_44 BK220.1; obtain ⟨hfz25_0, hfz25_1, hfz25_2, hfz25_3, hfz25_4, hfz25_5, hfz25_6, hfz25_7⟩ := f8_44 BK220.1))
              go_loopg [7, 8] k2 (fun kq v7 v8 w' => ∃ (x7_3 : List (List Int)) (x8_3 : Int), v8 = .int .i64 x8_3 ∧ Aside0 (vendmeterref_WorldCopy.l2 kq x7_3 x8_3 x3_1 a0_1 a0_2 a0_3 a0_4 x5_2 t230 l0_7 = some (r1, r2, r3, r4, r5, r6, r7, r8)) ∧ Aside0 (kq ≤ k2) ∧ Aside0 (Kd.S (Kd.slice 22 (Kd.int .u32)) 42 w' w.heap.size (fun k_ => some k_ ≠ ((.slice Ao22 x5_2.length co22) : Value).ownBlock) v7 x7_3) ∧ Aside0 (Kd.R k126 126 w' w.heap.size (fun _ => True) (.slice Ao12 x3_1.length co12) x3_1) ∧ Aside0 (Kd.R (Kd.int .u32) 22 w' w.heap.size (fun _ => True) (.slice Ao22 x5_2.length co22) x5_2) ∧ Aside0 (Kd.R k129 129 w' w.heap.size (fun _ => True) (.slice Ao24 t230.length co24) t230) ∧ Aside0 (w'.heap[gb220]? = some (.cells #[(.slice Ao12 x3_1.length co12), .int .i64 a0_1, .int .i64 a0_2, .int .i64 a0_3, .int .i64 a0_4, (.slice Ao22 x5_2.length co22), (.slice Ao24 t230.length co24), (.slice A0_7 l0_7.length c0_7)] 48 (0, 0))) ∧ Aside0 (w'.heap[gb221]? = some (.cells #[(.slice none 0 0), .int .i64 0, .int .i64 0, .int .i64 0, .int .i64 0, (.slice none 0 0), (.slice none 0 0), (.slice none 0 0)] 48 (0, 0))) ∧ Aside0 (Below w.heap.size w w'))
              case atStart => exact ⟨(([] : List (List Int))), (0), (by first | rfl | (simp; done) | (simp [*]; done)), H', ⟨Nat.le_refl _⟩, ⟨by first | exact Kd.S_nil _ _ _ _ _ | exact Kd.N_nil _ _ _ _ _ | exact Kd.V_nil _ _ _ _ _ | exact Kd.Q_nil _ _ _ _ _ | exact Kd.R_nil _ _ _ _ _⟩, ⟨by (with_reducible repeat (first | apply Kd.R_alloc | apply Kd.R_drewN | apply Kd.R_drew)); exact Kd.R_mono (Kd.R_far (p := ⟨gb220, 6, none⟩) (Kd.R_types HO_221000.out BK220.1 (by decide)) (fun _ hk => hk.2) (.slice Ao24 t230.length co24)) (fun _ hk => trivial)⟩, ⟨by (with_reducible repeat (first | apply Kd.R_alloc | apply Kd.R_drewN | apply Kd.R_drew)); exact Kd.R_mono (Kd.R_far (p := ⟨gb220, 6, none⟩) (Kd.R_types HO_5.out BK220.1 (by decide)) (fun _ hk => hk.2) (.slice Ao24 t230.length co24)) (fun _ hk => trivial)⟩, ⟨by (with_reducible repeat (first | apply Kd.R_alloc | apply Kd.R_drewN | apply Kd.R_drew)); exact Kd.R_mono (Kd.R_far (p := ⟨gb220, 6, none⟩) (Kd.R_types HO232.1 BK220.1 (by decide)) (fun _ hk => hk.2) (.slice Ao24 t230.length co24)) (fun _ hk => trivial)⟩, ⟨by (with_reducible repeat (first | apply xn44 | apply xd44 | apply xa44)); refine blk_put (cs := #[.slice Ao12 x3_1.length co12, .int .i64 a0_1, .int .i64 a0_2, .int .i64 a0_3, .int .i64 a0_4, .slice Ao22 x5_2.length co22, .slice A0_6 l0_6.length c0_6, .slice A0_7 l0_7.length c0_7]) ?_ 6 _ rfl; (with_reducible repeat (first | apply xn44 | apply xd44 | apply xa44)); exact BK220.1⟩, ⟨by (with_reducible repeat (first | apply xn44 | apply xd44 | apply xa44)); refine blk_far ?_ NB221_220.1 _; (with_reducible repeat (first | apply xn44 | apply xd44 | apply xa44)); exact BK221.1⟩, ⟨by repeat (first | (with_reducible first | exact HB.1 | apply below_alloc | apply pw_below_drewN | apply below_drew1 | refine below_set ?_ GE220.1 | refine below_set ?_ GE221.1) | exact HB.1)⟩⟩
              case round =>
                clear H'
                try clear c1
                try clear c2
                try clear p2
                try clear q2
                try clear hx2
                try clear c4
                try clear c4b0
                try clear c5
                try clear c5b0
                try clear c6
                try clear p6
                try clear c7
                try clear c8
                try clear c10
                try clear c13
                try clear c13b0
                try clear c14
                try clear c14b0
                try clear c15
                try clear c16
                try clear c20
                try clear p22
                try clear q22
                try clear hx22
                try clear hcz11_0
                try clear hcz11_1
                try clear hcz11_2
                try clear hcz11_3
                try clear hcz11_4
                try clear hcz11_5
                try clear hcz11_6
                try clear hcz11_7
                try clear hcz17_0
                try clear hcz17_1
                try clear hcz17_2
                try clear hcz17_3
                try clear hcz17_4
                try clear hcz17_5
                try clear hcz17_6
                try clear hcz17_7
                try clear hcz21_0
                try clear hcz21_1
                try clear hcz21_2
                try clear hcz21_3
                try clear hcz21_4
                try clear hcz21_5
                try clear hcz21_6
                try clear hcz21_7
                try clear hcz25_0
                try clear hcz25_1
                try clear hcz25_2
                try clear hcz25_3
                try clear hcz25_4
                try clear hcz25_5
                try clear hcz25_6
                try clear hcz25_7
                try clear hcz8_0
                try clear hcz8_1
                try clear hcz8_2
                try clear hcz8_3
                try clear hcz8_4
                try clear hcz8_5
                try clear hcz8_6
                try clear hcz8_7
                try clear hfz11_0
                try clear hfz11_1
                try clear hfz11_2
                try clear hfz11_3
                try clear hfz11_4
                try clear hfz11_5
                try clear hfz11_6
                try clear hfz11_7
                try clear hfz17_0
                try clear hfz17_1
                try clear hfz17_2
                try clear hfz17_3
                try clear hfz17_4
                try clear hfz17_5
                try clear hfz17_6
                try clear hfz17_7
                try clear hfz21_0
                try clear hfz21_1
                try clear hfz21_2
                try clear hfz21_3
                try clear hfz21_4
                try clear hfz21_5
                try clear hfz21_6
                try clear hfz21_7
                try clear hfz25_0
                try clear hfz25_1
                try clear hfz25_2
                try clear hfz25_3
                try clear hfz25_4
                try clear hfz25_5
                try clear hfz25_6
                try clear hfz25_7
                try clear hfz8_0
                try clear hfz8_1
                try clear hfz8_2
                try clear hfz8_3
                try clear hfz8_4
                try clear hfz8_5
                try clear hfz8_6
                try clear hfz8_7
                try clear hx222_0
                try clear hx222_1
                try clear hx226_0
                try clear p2
                try clear p222
                try clear p226
                try clear p6
                try clear q2
                try clear q222
                try clear q226
                obtain ⟨x7_3, x8_3, rfl, HA, HK3, HO_7, HO_221000, HO_221005, HO_221006, BK220, BK221, HB⟩ := hrel
                cases gk with
                | zero => exact absurd HA.out (by simp [vendmeterref_WorldCopy.l2])
                | succ k3 =>
                  have H := HA.out
                  clear HA
                  simp only [vendmeterref_WorldCopy.l2] at H
                  by_cases c26 : x8_3 < (l0_7.length : Int)
                  · rw [if_pos c26] at H
                    have c26b0 : decide (x8_3 < (l0_7.length : Int)) = true := decide_eq_true c26
                    clear c26
                    have H' := Aside0.mk H
                    clear H
                    have hnb27 := NB220_221.1
                    have hnc27 := NB221_220.1
                    obtain ⟨hcz28_0, hcz28_1, hcz28_2, hcz28_3, hcz28_4, hcz28_5, hcz28_6, hcz28_7⟩ := c8_44 BK220.1
                    obtain ⟨hfz28_0, hfz28_1, hfz28_2, hfz28_3, hfz28_4, hfz28_5, hfz28_6, hfz28_7⟩ := f8_44 BK220.1
                    go_wp2
                    go_loopg [9, 10] k3 (fun kq v9 v10 w' => ∃ (x9_4 : List Int) (x10_4 : Int), v10 = .int .i64 x10_4 ∧ Aside0 (vendmeterref_WorldCopy.l3 kq x7_3 x8_3 x9_4 x10_4 x3_1 a0_1 a0_2 a0_3 a0_4 x5_2 t230 l0_7 = some (r1, r2, r3, r4, r5, r6, r7, r8)) ∧ Aside0 (kq ≤ k3) ∧ Aside0 (Kd.S (Kd.slice 22 (Kd.int .u32)) 42 w' w.heap.size (fun k_ => some k_ ≠ (v9 : Value).ownBlock ∧ some k_ ≠ ((.slice Ao22 x5_2.length co22) : Value).ownBlock) u7 x7_3) ∧ Aside0 (Kd.R (Kd.int .u32) 22 w' w.heap.size (fun k_ => some k_ ≠ ((.slice Ao22 x5_2.length co22) : Value).ownBlock) v9 x9_4) ∧ Aside0 (Kd.R k126 126 w' w.heap.size (fun _ => True) (.slice Ao12 x3_1.length co12) x3_1) ∧ Aside0 (Kd.R (Kd.int .u32) 22 w' w.heap.size (fun k_ => some k_ ≠ (v9 : Value).ownBlock) (.slice Ao22 x5_2.length co22) x5_2) ∧ Aside0 (Kd.R k129 129 w' w.heap.size (fun _ => True) (.slice Ao24 t230.length co24) t230) ∧ Aside0 (w'.heap[gb220]? = some (.cells #[(.slice Ao12 x3_1.length co12), .int .i64 a0_1, .int .i64 a0_2, .int .i64 a0_3, .int .i64 a0_4, (.slice Ao22 x5_2.length co22), (.slice Ao24 t230.length co24), (.slice A0_7 l0_7.length c0_7)] 48 (0, 0))) ∧ Aside0 (w'.heap[gb221]? = some (.cells #[(.slice none 0 0), .int .i64 0, .int .i64 0, .int .i64 0, .int .i64 0, (.slice none 0 0), (.slice none 0 0), (.slice none 0 0)] 48 (0, 0))) ∧ Aside0 (Below w.heap.size w w'))
                    case atStart => exact ⟨(([] : List Int)), (0), (by first | rfl | (simp; done) | (simp [*]; done)), H', ⟨Nat.le_refl _⟩, ⟨by (with_reducible repeat (first | apply Kd.S_alloc | apply Kd.S_drewN | apply Kd.S_drew)); exact Kd.S_mono HO_7.out (fun _ hk => ⟨(by simp [Value.ownBlock]), hk⟩)⟩, ⟨by first | exact Kd.R_nil _ _ _ _ _ | exact Kd.N_nil _ _ _ _ _ | exact Kd.V_nil _ _ _ _ _ | exact Kd.Q_nil _ _ _ _ _ | exact Kd.S_nil _ _ _ _ _⟩, ⟨by (with_reducible repeat (first | apply Kd.R_alloc | apply Kd.R_drewN | apply Kd.R_drew)); exact HO_221000.out⟩, ⟨by (with_reducible repeat (first | apply Kd.R_alloc | apply Kd.R_drewN | apply Kd.R_drew)); exact Kd.R_mono HO_221005.out (fun _ hk => (by simp [Value.ownBlock]))⟩, ⟨by (with_reducible repeat (first | apply Kd.R_alloc | apply Kd.R_drewN | apply Kd.R_drew)); exact HO_221006.out⟩, ⟨by (with_reducible repeat (first | apply xn44 | apply xd44 | apply xa44)); exact BK220.1⟩, ⟨by (with_reducible repeat (first | apply xn44 | apply xd44 | apply xa44)); exact BK221.1⟩, ⟨by repeat (first | (with_reducible first | exact HB.1 | apply below_alloc | apply pw_below_drewN | apply below_drew1 | refine below_set ?_ GE220.1 | refine below_set ?_ GE221.1) | exact HB.1)⟩⟩
                    case round =>
                      clear H'
                      try clear c1
                      try clear c2
                      try clear p2
                      try clear q2
                      try clear hx2
                      try clear c4
                      try clear c4b0
                      try clear c5
                      try clear c5b0
                      try clear c6
                      try clear p6
                      try clear c7
                      try clear c8
                      try clear c10
                      try clear c13
                      try clear c13b0
                      try clear c14
                      try clear c14b0
                      try clear c15
                      try clear c16
                      try clear c20
                      try clear p22
                      try clear q22
                      try clear hx22
                      try clear c26
                      try clear c26b0
                      try clear c27
                      try clear hcz11_0
                      try clear hcz11_1
                      try clear hcz11_2
                      try clear hcz11_3
                      try clear hcz11_4
                      try clear hcz11_5
                      try clear hcz11_6
                      try clear hcz11_7
                      try clear hcz17_0
                      try clear hcz17_1
                      try clear hcz17_2
                      try clear hcz17_3
                      try clear hcz17_4
                      try clear hcz17_5
                      try clear hcz17_6
                      try clear hcz17_7
                      try clear hcz21_0
                      try clear hcz21_1
                      try clear hcz21_2
                      try clear hcz21_3
                      try clear hcz21_4
                      try clear hcz21_5
                      try clear hcz21_6
                      try clear hcz21_7
                      try clear hcz25_0
                      try clear hcz25_1
                      try clear hcz25_2
                      try clear hcz25_3
                      try clear hcz25_4
                      try clear hcz25_5
                      try clear hcz25_6
                      try clear hcz25_7
                      try clear hcz28_0
                      try clear hcz28_1
                      try clear hcz28_2
                      try clear hcz28_3
                      try clear hcz28_4
                      try clear hcz28_5
                      try clear hcz28_6
                      try clear hcz28_7
                      try clear hcz8_0
                      try clear hcz8_1
                      try clear hcz8_2
                      try clear hcz8_3
                      try clear hcz8_4
                      try clear hcz8_5
                      try clear hcz8_6
                      try clear hcz8_7
                      try clear hfz11_0
                      try clear hfz11_1
                      try clear hfz11_2
                      try clear hfz11_3
                      try clear hfz11_4
                      try clear hfz11_5
                      try clear hfz11_6
                      try clear hfz11_7
                      try clear hfz17_0
                      try clear hfz17_1
                      try clear hfz17_2
                      try clear hfz17_3
                      try clear hfz17_4
                      try clear hfz17_5
                      try clear hfz17_6
                      try clear hfz17_7
                      try clear hfz21_0
                      try clear hfz21_1
                      try clear hfz21_2
                      try clear hfz21_3
                      try clear hfz21_4
                      try clear hfz21_5
                      try clear hfz21_6
                      try clear hfz21_7
                      try clear hfz25_0
                      try clear hfz25_1
                      try clear hfz25_2
                      try clear hfz25_3
                      try clear hfz25_4
                      try clear hfz25_5
                      try clear hfz25_6
                      try clear hfz25_7
                      try clear hfz28_0
                      try clear hfz28_1
                      try clear hfz28_2
                      try clear hfz28_3
                      try clear hfz28_4
                      try clear hfz28_5
                      try clear hfz28_6
                      try clear hfz28_7
                      try clear hfz8_0
                      try clear hfz8_1
                      try clear hfz8_2
                      try clear hfz8_3
                      try clear hfz8_4
                      try clear hfz8_5
                      try clear hfz8_6
                      try clear hfz8_7
                      try clear hx222_0
                      try clear hx222_1
                      try clear hx226_0
                      try clear p2
                      try clear p22
                      try clear p222
                      try clear p226
                      try clear p6
                      try clear q2
                      try clear q22
                      try clear q222
                      try clear q226
                      obtain ⟨x9_4, x10_4, rfl, HA, HK4, HO_7, HO_9, HO_221000, HO_221005, HO_221006, BK220, BK221, HB⟩ := hrel
                      cases gk with
                      | zero => exact absurd HA.out (by simp [vendmeterref_WorldCopy.l3])
                      | succ k4 =>
                        have H := HA.out
                        clear HA
                        simp only [vendmeterref_WorldCopy.l3] at H
                        by_cases c29 : 0 ≤ x8_3
                        · rw [if_pos c29] at H
                          have c29b0 : decide (0 ≤ x8_3) = true := decide_eq_true c29
                          clear c29
                          by_cases c30 : x8_3 < (l0_7.length : Int)
                          · rw [if_pos c30] at H
                            have c30b0 : decide (x8_3 < (l0_7.length : Int)) = true := decide_eq_true c30
                            clear c30
                            by_cases c31 : x10_4 < ((rd_L3 l0_7 x8_3).length : Int)
                            · rw [if_pos c31] at H
                              have c31b0 : decide (x10_4 < ((rd_L3 l0_7 x8_3).length : Int)) = true := decide_eq_true c31
                              clear c31
                              by_cases c32 : 0 ≤ x10_4
                              · rw [if_pos c32] at H
                                have c32b0 : decide (0 ≤ x10_4) = true := decide_eq_true c32
                                clear c32
                                by_cases c33 : x9_4.length < 35184372088832
                                · rw [if_pos c33] at H
                                  have LMc33 := Aside0.mk c33
                                  clear c33
                                  obtain ⟨y236, hy236⟩ : ∃ y_ : List Int, y_ = (x9_4 ++ [rd (rd_L3 l0_7 x8_3) x10_4]) := ⟨_, rfl⟩
                                  replace H : (vendmeterref_WorldCopy.l3 k4 x7_3 x8_3 y236 (wrap64 (x10_4 + 1)) x3_1 a0_1 a0_2 a0_3 a0_4 x5_2 t230 l0_7) = some (r1, r2, r3, r4, r5, r6, r7, r8) := by first | (rw [hy236]; with_reducible exact H) | (have H2_ := (Option.bind_some _ _).symm.trans H; rw [hy236]; with_reducible exact H2_) | (have H2_ := (Option.bind_some _ _).symm.trans H; with_reducible exact H2_) | with_reducible exact H | (rw [hy236]; exact H) | exact H
                                  have Ny236 := Aside0.mk hy236
                                  clear hy236
                                  have H' := Aside0.mk H
                                  clear H
                                  have hnb34 := NB220_221.1
                                  have hnc34 := NB221_220.1
                                  obtain ⟨hcz35_0, hcz35_1, hcz35_2, hcz35_3, hcz35_4, hcz35_5, hcz35_6, hcz35_7⟩ := c8_44 BK220.1
                                  obtain ⟨hfz35_0, hfz35_1, hfz35_2, hfz35_3, hfz35_4, hfz35_5, hfz35_6, hfz35_7⟩ := f8_44 BK220.1
                                  have p233 : 0 ≤ (x8_3 : Int) := of_decide_eq_true (by first | (with_reducible assumption) | assumption)
                                  have q233 : x8_3 < (l0_7.length : Int) := of_decide_eq_true (by first | (with_reducible assumption) | assumption)
                                  obtain ⟨ad233, A233_0, c233_0, e233, hx233_0, hl233_0, hi233_0⟩ := at_L3 HR0_7.out x8_3 p233 q233
                                  cases e233
                                  replace hx233_0 := (HB.1.cell (World.block_lt_of_cell? w _ hx233_0)).trans hx233_0
                                  have HR233_0 := Aside0.mk hi233_0
                                  have HC233_0 := Aside0.mk hl233_0
                                  clear hi233_0 hl233_0
                                  replace p233 := eq_true p233
                                  replace q233 := eq_true q233
                                  have p234 : 0 ≤ (x8_3 : Int) := of_decide_eq_true (by first | (with_reducible assumption) | assumption)
                                  have q234 : x8_3 < (l0_7.length : Int) := of_decide_eq_true (by first | (with_reducible assumption) | assumption)
                                  obtain ⟨ad234, A234_0, c234_0, e234, hx234_0, hl234_0, hi234_0⟩ := at_L3 HR0_7.out x8_3 p234 q234
                                  obtain rfl : ad233 = ad234 := (by injection e234)
                                  replace hx234_0 := (HB.1.cell (World.block_lt_of_cell? w _ hx234_0)).trans hx234_0
                                  have HR234_0 := Aside0.mk hi234_0
                                  have HC234_0 := Aside0.mk hl234_0
                                  clear hi234_0 hl234_0
                                  replace p234 := eq_true p234
                                  replace q234 := eq_true q234
                                  have ea_ := Option.some.inj (hx233_0.symm.trans hx234_0)
                                  injection ea_ with ea_ en_ ec_
                                  subst ea_
                                  subst ec_
                                  clear en_
                                  have p235 : 0 ≤ (x10_4 : Int) := of_decide_eq_true (by first | (with_reducible assumption) | assumption)
                                  have q235 : x10_4 < ((rd_L3 l0_7 x8_3).length : Int) := of_decide_eq_true (by first | (with_reducible assumption) | assumption)
                                  obtain ⟨ad235, e235, hx235_0⟩ := Kd.at_int HR234_0.out x10_4 p235 q235
                                  cases e235
                                  replace hx235_0 := (HB.1.cell (World.block_lt_of_cell? w _ hx235_0)).trans hx235_0
                                  replace p235 := eq_true p235
                                  replace q235 := eq_true q235
                                  go_wp2_with (first | ((with_reducible refine gate_builtin (b := .append) (xs := #[.tmp 69, .tmp 78]) rfl ?_); at_builtin; refine Kd.R_append (Kd.int .u32) (w0 := w) w.heap.size rfl (.tmp 69) (.tmp 78) 42 22 (.int .u32 0) 4 rfl Try.underlying42 info22 rfl (by decide) (by omega) u9 x9_4 (rd (rd_L3 l0_7 x8_3) x10_4) [.int .u32 (rd (rd_L3 l0_7 x8_3) x10_4)] (fun k_ => some k_ ≠ (.slice Ao22 x5_2.length co22 : Value).ownBlock) (fun _ => False) rfl rfl ?aP (fun _ hk => hk.elim) ?aF ?aO ?aB ?aS ?aL ?_; (case aP => exact rfl); (case aB => exact (by with_reducible repeat (first | exact HB.1 | apply ya44 | apply yn44 | apply yd44 | refine below_set ?_ GE220.1 | refine below_set ?_ GE221.1))); (case aF => exact (fun k_ hk => Kd.fresh' (Kd.R_lt (by (with_reducible repeat (first | apply Kd.R_alloc | apply Kd.R_drewN | apply Kd.R_drew)); exact HO_221005.out)) k_ hk)); (case aO => exact (by (with_reducible repeat (first | apply Kd.R_alloc | apply Kd.R_drewN | apply Kd.R_drew)); exact HO_9.out)); (case aS => exact (below_size (by with_reducible repeat (first | exact HB.1 | apply ya44 | apply yn44 | apply yd44 | refine below_set ?_ GE220.1 | refine below_set ?_ GE221.1)))); (case aL => have := LMc33.out; omega); intro v237 w36 ho hb hg hat; rw [← Ny236.out] at ho; have n0_ := Aside0.mk (Kd.S_after (ok := (fun k_ => some k_ ≠ (.slice Ao22 x5_2.length co22 : Value).ownBlock)) (by (with_reducible repeat (first | apply Kd.S_alloc | apply Kd.S_drewN | apply Kd.S_drew)); exact Kd.S_mono HO_7.out (fun _ hk => ⟨hk.2, hk.1⟩)) hg hat); have n1_ := Aside0.mk (Kd.R_over' (by (with_reducible repeat (first | apply Kd.R_alloc | apply Kd.R_drewN | apply Kd.R_drew)); exact HO_221000.out) (Kd.R_typed (by (with_reducible repeat (first | apply Kd.R_alloc | apply Kd.R_drewN | apply Kd.R_drew)); exact HO_9.out)) (by decide) hg); have n2_ := Aside0.mk (Kd.R_after (ok := (fun _ => True)) (by (with_reducible repeat (first | apply Kd.R_alloc | apply Kd.R_drewN | apply Kd.R_drew)); exact Kd.R_mono HO_221005.out (fun _ hk => ⟨trivial, hk⟩)) hg hat); have n3_ := Aside0.mk (Kd.R_over' (by (with_reducible repeat (first | apply Kd.R_alloc | apply Kd.R_drewN | apply Kd.R_drew)); exact HO_221006.out) (Kd.R_typed (by (with_reducible repeat (first | apply Kd.R_alloc | apply Kd.R_drewN | apply Kd.R_drew)); exact HO_9.out)) (by decide) hg); have n4_ := Aside0.mk (blk_grown (g := gb220) (o := .cells #[.slice Ao12 x3_1.length co12, .int .i64 a0_1, .int .i64 a0_2, .int .i64 a0_3, .int .i64 a0_4, .slice Ao22 x5_2.length co22, .slice Ao24 t230.length co24, .slice (some ad233) l0_7.length c0_7] 48 (0, 0)) (by (with_reducible repeat (first | apply xn44 | apply xd44 | apply xa44)); exact BK220.1) hg (Kd.R_ne HO_9.out BK220.1 (by decide))); have n5_ := Aside0.mk (blk_grown (g := gb221) (o := .cells #[.slice none 0 0, .int .i64 0, .int .i64 0, .int .i64 0, .int .i64 0, .slice none 0 0, .slice none 0 0, .slice none 0 0] 48 (0, 0)) (by (with_reducible repeat (first | apply xn44 | apply xd44 | apply xa44)); exact BK221.1) hg (Kd.R_ne HO_9.out BK221.1 (by decide))); have n6_ := Aside0.mk (hb); have n7_ := Aside0.mk (ho); clear HO_7; clear HO_221000; clear HO_221005; clear HO_221006; clear BK220; clear BK221; clear HB; clear HO_9; have HO_7 := n0_; have HO_221000 := n1_; have HO_221005 := n2_; have HO_221006 := n3_; have BK220 := n4_; have BK221 := n5_; have HB := n6_; have HO238 := n7_; clear n0_ n1_ n2_ n3_ n4_ n5_ n6_ n7_; clear ho hb hg hat))
                                  go_roundg k4
                                  case measure => have := HK1.out; have := HK2.out; have := HK3.out; have := HK4.out; omega
                                  case rel => exact ⟨(y236), (wrap64 (x10_4 + 1)), (by first | rfl | (simp; done) | (simp [*]; done)), H', ⟨by have := HK1.out; have := HK2.out; have := HK3.out; have := HK4.out; omega⟩, ⟨by (with_reducible repeat (first | apply Kd.S_alloc | apply Kd.S_drewN | apply Kd.S_drew)); exact Kd.S_mono HO_7.out (fun _ hk => ⟨hk.2, hk.1⟩)⟩, ⟨by (with_reducible repeat (first | apply Kd.R_alloc | apply Kd.R_drewN | apply Kd.R_drew)); exact HO238.1⟩, ⟨by (with_reducible repeat (first | apply Kd.R_alloc | apply Kd.R_drewN | apply Kd.R_drew)); exact HO_221000.out⟩, ⟨by (with_reducible repeat (first | apply Kd.R_alloc | apply Kd.R_drewN | apply Kd.R_drew)); exact Kd.R_mono HO_221005.out (fun _ hk => hk.2)⟩, ⟨by (with_reducible repeat (first | apply Kd.R_alloc | apply Kd.R_drewN | apply Kd.R_drew)); exact HO_221006.out⟩, ⟨by (with_reducible repeat (first | apply xn44 | apply xd44 | apply xa44)); exact BK220.1⟩, ⟨by (with_reducible repeat (first | apply xn44 | apply xd44 | apply xa44)); exact BK221.1⟩, ⟨by repeat (first | (with_reducible first | exact HB.1 | apply below_alloc | apply pw_below_drewN | apply below_drew1 | refine below_set ?_ GE220.1 | refine below_set ?_ GE221.1) | exact HB.1)⟩⟩
                                · rw [if_neg c33] at H
                                  exact absurd H (by simp)
                              · rw [if_neg c32] at H
                                exact absurd H (by simp)
                            · rw [if_neg c31] at H
                              have c31b0 : decide (x10_4 < ((rd_L3 l0_7 x8_3).length : Int)) = false := decide_eq_false c31
                              clear c31
                              by_cases c37 : x7_3.length < 5864062014805
                              · rw [if_pos c37] at H
                                have LMc37 := Aside0.mk c37
                                clear c37
                                obtain ⟨y239, hy239⟩ : ∃ y_ : List (List Int), y_ = (x7_3 ++ [x9_4]) := ⟨_, rfl⟩
                                replace H : (vendmeterref_WorldCopy.l2 k4 y239 (wrap64 (x8_3 + 1)) x3_1 a0_1 a0_2 a0_3 a0_4 x5_2 t230 l0_7) = some (r1, r2, r3, r4, r5, r6, r7, r8) := by first | (rw [hy239]; with_reducible exact H) | (have H2_ := (Option.bind_some _ _).symm.trans H; rw [hy239]; with_reducible exact H2_) | (have H2_ := (Option.bind_some _ _).symm.trans H; with_reducible exact H2_) | with_reducible exact H | (rw [hy239]; exact H) | exact H
                                have Ny239 := Aside0.mk hy239
                                clear hy239
                                have H' := Aside0.mk H
                                clear H
                                have hnb38 := NB220_221.1
                                have hnc38 := NB221_220.1
                                obtain ⟨hcz39_0, hcz39_1, hcz39_2, hcz39_3, hcz39_4, hcz39_5, hcz39_6, hcz39_7⟩ := c8_44 BK220.1
                                obtain ⟨hfz39_0, hfz39_1, hfz39_2, hfz39_3, hfz39_4, hfz39_5, hfz39_6, hfz39_7⟩ := f8_44 BK220.1
                                have p233 : 0 ≤ (x8_3 : Int) := of_decide_eq_true (by first | (with_reducible assumption) | assumption)
                                have q233 : x8_3 < (l0_7.length : Int) := of_decide_eq_true (by first | (with_reducible assumption) | assumption)
                                obtain ⟨ad233, A233_0, c233_0, e233, hx233_0, hl233_0, hi233_0⟩ := at_L3 HR0_7.out x8_3 p233 q233
                                cases e233
                                replace hx233_0 := (HB.1.cell (World.block_lt_of_cell? w _ hx233_0)).trans hx233_0
                                have HR233_0 := Aside0.mk hi233_0
                                have HC233_0 := Aside0.mk hl233_0
                                clear hi233_0 hl233_0
                                replace p233 := eq_true p233
                                replace q233 := eq_true q233
                                obtain ⟨Ao41, co41, eo41⟩ := Kd.R_slice HO_9.out
                                subst eo41
                                go_wp2_with (first | ((with_reducible refine gate_builtin (b := .append) (xs := #[.tmp 80, .tmp 82]) rfl ?_); at_builtin; refine Kd.S_append (Kd.slice 22 (Kd.int .u32)) (w0 := w) w.heap.size rfl (.tmp 80) (.tmp 82) 46 42 (.slice none 0 0) 24 rfl Try.underlying46 info42 rfl (by decide) (by omega) u7 x7_3 x9_4 [.slice Ao41 x9_4.length co41] (fun k_ => some k_ ≠ (.slice Ao22 x5_2.length co22 : Value).ownBlock) (fun k_ => some k_ = (.slice Ao41 x9_4.length co41 : Value).ownBlock) rfl rfl ?aP (fun k_ hk_ => ((Kd.R_mono (ok' := fun k_ => ((fun k_ => some k_ ≠ (.slice Ao22 x5_2.length co22 : Value).ownBlock)) k_ ∧ some k_ ≠ (u7 : Value).ownBlock) (Kd.R_apart' (HO_9.out) (Kd.S_typed HO_7.out) (by decide)) (fun k_ hk => ⟨hk.1, hk.2⟩))).1 k_ hk_.symm) ?aF ?aO ?aB ?aS ?aL ?_; (case aP => exact Kd.M_row (Kd.R_mono (Kd.R_tight rfl (Kd.R_mono (ok' := fun k_ => ((fun k_ => some k_ ≠ (.slice Ao22 x5_2.length co22 : Value).ownBlock)) k_ ∧ some k_ ≠ (u7 : Value).ownBlock) (Kd.R_apart' (HO_9.out) (Kd.S_typed HO_7.out) (by decide)) (fun k_ hk => ⟨hk.1, hk.2⟩))) (fun _ h_ => h_))); (case aB => exact (by with_reducible repeat (first | exact HB.1 | apply ya44 | apply yn44 | apply yd44 | refine below_set ?_ GE220.1 | refine below_set ?_ GE221.1))); (case aF => exact (fun k_ hk => Kd.fresh' (Kd.R_lt (by (with_reducible repeat (first | apply Kd.R_alloc | apply Kd.R_drewN | apply Kd.R_drew)); exact HO_221005.out)) k_ hk)); (case aO => exact (by (with_reducible repeat (first | apply Kd.S_alloc | apply Kd.S_drewN | apply Kd.S_drew)); exact Kd.S_mono HO_7.out (fun k_ hk => ⟨hk.2, fun e_ => hk.1 e_⟩))); (case aS => exact (below_size (by with_reducible repeat (first | exact HB.1 | apply ya44 | apply yn44 | apply yd44 | refine below_set ?_ GE220.1 | refine below_set ?_ GE221.1)))); (case aL => have := LMc37.out; omega); intro v240 w40 ho hb hg hat; rw [← Ny239.out] at ho; have n0_ := Aside0.mk (Kd.R_over' (by (with_reducible repeat (first | apply Kd.R_alloc | apply Kd.R_drewN | apply Kd.R_drew)); exact HO_221000.out) (Kd.S_typed (by (with_reducible repeat (first | apply Kd.S_alloc | apply Kd.S_drewN | apply Kd.S_drew)); exact HO_7.out)) (by decide) hg); have n1_ := Aside0.mk (Kd.R_over' (by (with_reducible repeat (first | apply Kd.R_alloc | apply Kd.R_drewN | apply Kd.R_drew)); exact HO_221005.out) (Kd.S_typed (by (with_reducible repeat (first | apply Kd.S_alloc | apply Kd.S_drewN | apply Kd.S_drew)); exact HO_7.out)) (by decide) hg); have n2_ := Aside0.mk (Kd.R_over' (by (with_reducible repeat (first | apply Kd.R_alloc | apply Kd.R_drewN | apply Kd.R_drew)); exact HO_221006.out) (Kd.S_typed (by (with_reducible repeat (first | apply Kd.S_alloc | apply Kd.S_drewN | apply Kd.S_drew)); exact HO_7.out)) (by decide) hg); have n3_ := Aside0.mk (blk_grown (g := gb220) (o := .cells #[.slice Ao12 x3_1.length co12, .int .i64 a0_1, .int .i64 a0_2, .int .i64 a0_3, .int .i64 a0_4, .slice Ao22 x5_2.length co22, .slice Ao24 t230.length co24, .slice (some ad233) l0_7.length c0_7] 48 (0, 0)) (by (with_reducible repeat (first | apply xn44 | apply xd44 | apply xa44)); exact BK220.1) hg (Kd.S_ne HO_7.out BK220.1 (by decide))); have n4_ := Aside0.mk (blk_grown (g := gb221) (o := .cells #[.slice none 0 0, .int .i64 0, .int .i64 0, .int .i64 0, .int .i64 0, .slice none 0 0, .slice none 0 0, .slice none 0 0] 48 (0, 0)) (by (with_reducible repeat (first | apply xn44 | apply xd44 | apply xa44)); exact BK221.1) hg (Kd.S_ne HO_7.out BK221.1 (by decide))); have n5_ := Aside0.mk (hb); have n6_ := Aside0.mk (ho); clear HO_221000; clear HO_221005; clear HO_221006; clear BK220; clear BK221; clear HB; clear HO_7; clear HO_9; have HO_221000 := n0_; have HO_221005 := n1_; have HO_221006 := n2_; have BK220 := n3_; have BK221 := n4_; have HB := n5_; have HO241 := n6_; clear n0_ n1_ n2_ n3_ n4_ n5_ n6_; clear ho hb hg hat))
                                go_roundg k4
                                case measure => have := HK1.out; have := HK2.out; have := HK3.out; have := HK4.out; omega
                                case rel => exact ⟨(y239), (wrap64 (x8_3 + 1)), (by first | rfl | (simp; done) | (simp [*]; done)), H', ⟨by have := HK1.out; have := HK2.out; have := HK3.out; have := HK4.out; omega⟩, ⟨by (with_reducible repeat (first | apply Kd.S_alloc | apply Kd.S_drewN | apply Kd.S_drew)); exact HO241.1⟩, ⟨by (with_reducible repeat (first | apply Kd.R_alloc | apply Kd.R_drewN | apply Kd.R_drew)); exact HO_221000.out⟩, ⟨by (with_reducible repeat (first | apply Kd.R_alloc | apply Kd.R_drewN | apply Kd.R_drew)); exact Kd.R_mono HO_221005.out (fun _ hk => trivial)⟩, ⟨by (with_reducible repeat (first | apply Kd.R_alloc | apply Kd.R_drewN | apply Kd.R_drew)); exact HO_221006.out⟩, ⟨by (with_reducible repeat (first | apply xn44 | apply xd44 | apply xa44)); exact BK220.1⟩, ⟨by (with_reducible repeat (first | apply xn44 | apply xd44 | apply xa44)); exact BK221.1⟩, ⟨by repeat (first | (with_reducible first | exact HB.1 | apply below_alloc | apply pw_below_drewN | apply below_drew1 | refine below_set ?_ GE220.1 | refine below_set ?_ GE221.1) | exact HB.1)⟩⟩
                              · rw [if_neg c37] at H
                                exact absurd H (by simp)
                          · rw [if_neg c30] at H
                            exact absurd H (by simp)
                        · rw [if_neg c29] at H
                          exact absurd H (by simp)
                  · rw [if_neg c26] at H
                    have c26b0 : decide (x8_3 < (l0_7.length : Int)) = false := decide_eq_false c26
                    clear c26
                    simp only [Option.some.injEq, Prod.mk.injEq] at H
                    obtain ⟨rfl, rfl, rfl, rfl, rfl, rfl, rfl, rfl⟩ := H
                    have hnb42 := NB220_221.1
                    have hnc42 := NB221_220.1
                    obtain ⟨hcz43_0, hcz43_1, hcz43_2, hcz43_3, hcz43_4, hcz43_5, hcz43_6, hcz43_7⟩ := c8_44 BK220.1
                    obtain ⟨hfz43_0, hfz43_1, hfz43_2, hfz43_3, hfz43_4, hfz43_5, hfz43_6, hfz43_7⟩ := f8_44 BK220.1
                    obtain ⟨Ao44, co44, eo44⟩ := Kd.S_slice HO_7.out
                    subst eo44
                    obtain ⟨hcz45_0, hcz45_1, hcz45_2, hcz45_3, hcz45_4, hcz45_5, hcz45_6, hcz45_7⟩ := c8_44 BK221.1
                    obtain ⟨hfz45_0, hfz45_1, hfz45_2, hfz45_3, hfz45_4, hfz45_5, hfz45_6, hfz45_7⟩ := f8_44 BK221.1
                    go_wp2
                    refine bodyPost_ret (results_cell_row rfl _ _ gb221 48 #[.slice Ao12 x3_1.length co12, .int .i64 a0_1, .int .i64 a0_2, .int .i64 a0_3, .int .i64 a0_4, .slice Ao22 x5_2.length co22, .slice Ao24 t230.length co24, .slice Ao44 x7_3.length co44] (0, 0) _ rfl (by (with_reducible repeat (first | apply xn44 | apply xd44 | apply xa44)); refine blk_put (cs := #[.slice Ao12 x3_1.length co12, .int .i64 a0_1, .int .i64 a0_2, .int .i64 a0_3, .int .i64 a0_4, .slice Ao22 x5_2.length co22, .slice Ao24 t230.length co24, .slice none 0 0]) ?_ 7 _ rfl; (with_reducible repeat (first | apply xn44 | apply xd44 | apply xa44)); refine blk_put (cs := #[.slice Ao12 x3_1.length co12, .int .i64 a0_1, .int .i64 a0_2, .int .i64 a0_3, .int .i64 a0_4, .slice Ao22 x5_2.length co22, .slice none 0 0, .slice none 0 0]) ?_ 6 _ rfl; (with_reducible repeat (first | apply xn44 | apply xd44 | apply xa44)); refine blk_put (cs := #[.slice Ao12 x3_1.length co12, .int .i64 a0_1, .int .i64 a0_2, .int .i64 a0_3, .int .i64 a0_4, .slice none 0 0, .slice none 0 0, .slice none 0 0]) ?_ 5 _ rfl; (with_reducible repeat (first | apply xn44 | apply xd44 | apply xa44)); refine blk_put (cs := #[.slice Ao12 x3_1.length co12, .int .i64 a0_1, .int .i64 a0_2, .int .i64 a0_3, .int .i64 0, .slice none 0 0, .slice none 0 0, .slice none 0 0]) ?_ 4 _ rfl; (with_reducible repeat (first | apply xn44 | apply xd44 | apply xa44)); refine blk_put (cs := #[.slice Ao12 x3_1.length co12, .int .i64 a0_1, .int .i64 a0_2, .int .i64 0, .int .i64 0, .slice none 0 0, .slice none 0 0, .slice none 0 0]) ?_ 3 _ rfl; (with_reducible repeat (first | apply xn44 | apply xd44 | apply xa44)); refine blk_put (cs := #[.slice Ao12 x3_1.length co12, .int .i64 a0_1, .int .i64 0, .int .i64 0, .int .i64 0, .slice none 0 0, .slice none 0 0, .slice none 0 0]) ?_ 2 _ rfl; (with_reducible repeat (first | apply xn44 | apply xd44 | apply xa44)); refine blk_put (cs := #[.slice Ao12 x3_1.length co12, .int .i64 0, .int .i64 0, .int .i64 0, .int .i64 0, .slice none 0 0, .slice none 0 0, .slice none 0 0]) ?_ 1 _ rfl; (with_reducible repeat (first | apply xn44 | apply xd44 | apply xa44)); refine blk_put (cs := #[.slice none 0 0, .int .i64 0, .int .i64 0, .int .i64 0, .int .i64 0, .slice none 0 0, .slice none 0 0, .slice none 0 0]) ?_ 0 _ rfl; (with_reducible repeat (first | apply xn44 | apply xd44 | apply xa44)); refine blk_far ?_ NB221_220.1 _; (with_reducible repeat (first | apply xn44 | apply xd44 | apply xa44)); exact BK221.1) Try.underlying48 rfl (by kernel_rfl)) rfl ?_
                    exact ⟨_, _, _, _, by first | rfl | (simp [errW_none, errW_some] <;> rfl) | (simp [*, errW_none, errW_some] <;> rfl), by (with_reducible repeat (first | apply Kd.R_alloc | apply Kd.R_drewN | apply Kd.R_drew)); exact Kd.R_mono (Kd.R_far (p := ⟨gb221, 7, none⟩) (Kd.R_far (p := ⟨gb221, 6, none⟩) (Kd.R_far (p := ⟨gb221, 5, none⟩) (Kd.R_far (p := ⟨gb221, 4, none⟩) (Kd.R_far (p := ⟨gb221, 3, none⟩) (Kd.R_far (p := ⟨gb221, 2, none⟩) (Kd.R_far (p := ⟨gb221, 1, none⟩) (Kd.R_far (p := ⟨gb221, 0, none⟩) (Kd.R_far (p := ⟨gb220, 7, none⟩) (Kd.R_types (Kd.R_types HO_221000.out BK220.1 (by decide)) BK221.1 (by decide)) (fun _ hk => hk.1.2) (.slice Ao44 x7_3.length co44)) (fun _ hk => hk.2) (.slice Ao12 x3_1.length co12)) (fun _ hk => hk.2) (.int .i64 a0_1)) (fun _ hk => hk.2) (.int .i64 a0_2)) (fun _ hk => hk.2) (.int .i64 a0_3)) (fun _ hk => hk.2) (.int .i64 a0_4)) (fun _ hk => hk.2) (.slice Ao22 x5_2.length co22)) (fun _ hk => hk.2) (.slice Ao24 t230.length co24)) (fun _ hk => hk.2) (.slice Ao44 x7_3.length co44)) (fun _ hk => trivial), by (with_reducible repeat (first | apply Kd.R_alloc | apply Kd.R_drewN | apply Kd.R_drew)); exact Kd.R_mono (Kd.R_far (p := ⟨gb221, 7, none⟩) (Kd.R_far (p := ⟨gb221, 6, none⟩) (Kd.R_far (p := ⟨gb221, 5, none⟩) (Kd.R_far (p := ⟨gb221, 4, none⟩) (Kd.R_far (p := ⟨gb221, 3, none⟩) (Kd.R_far (p := ⟨gb221, 2, none⟩) (Kd.R_far (p := ⟨gb221, 1, none⟩) (Kd.R_far (p := ⟨gb221, 0, none⟩) (Kd.R_far (p := ⟨gb220, 7, none⟩) (Kd.R_types (Kd.R_types HO_221005.out BK220.1 (by decide)) BK221.1 (by decide)) (fun _ hk => hk.1.2) (.slice Ao44 x7_3.length co44)) (fun _ hk => hk.2) (.slice Ao12 x3_1.length co12)) (fun _ hk => hk.2) (.int .i64 a0_1)) (fun _ hk => hk.2) (.int .i64 a0_2)) (fun _ hk => hk.2) (.int .i64 a0_3)) (fun _ hk => hk.2) (.int .i64 a0_4)) (fun _ hk => hk.2) (.slice Ao22 x5_2.length co22)) (fun _ hk => hk.2) (.slice Ao24 t230.length co24)) (fun _ hk => hk.2) (.slice Ao44 x7_3.length co44)) (fun _ hk => trivial), by (with_reducible repeat (first | apply Kd.R_alloc | apply Kd.R_drewN | apply Kd.R_drew)); exact Kd.R_mono (Kd.R_far (p := ⟨gb221, 7, none⟩) (Kd.R_far (p := ⟨gb221, 6, none⟩) (Kd.R_far (p := ⟨gb221, 5, none⟩) (Kd.R_far (p := ⟨gb221, 4, none⟩) (Kd.R_far (p := ⟨gb221, 3, none⟩) (Kd.R_far (p := ⟨gb221, 2, none⟩) (Kd.R_far (p := ⟨gb221, 1, none⟩) (Kd.R_far (p := ⟨gb221, 0, none⟩) (Kd.R_far (p := ⟨gb220, 7, none⟩) (Kd.R_types (Kd.R_types HO_221006.out BK220.1 (by decide)) BK221.1 (by decide)) (fun _ hk => hk.1.2) (.slice Ao44 x7_3.length co44)) (fun _ hk => hk.2) (.slice Ao12 x3_1.length co12)) (fun _ hk => hk.2) (.int .i64 a0_1)) (fun _ hk => hk.2) (.int .i64 a0_2)) (fun _ hk => hk.2) (.int .i64 a0_3)) (fun _ hk => hk.2) (.int .i64 a0_4)) (fun _ hk => hk.2) (.slice Ao22 x5_2.length co22)) (fun _ hk => hk.2) (.slice Ao24 t230.length co24)) (fun _ hk => hk.2) (.slice Ao44 x7_3.length co44)) (fun _ hk => trivial), by (with_reducible repeat (first | apply Kd.S_alloc | apply Kd.S_drewN | apply Kd.S_drew)); exact Kd.S_mono (Kd.S_far (p := ⟨gb221, 7, none⟩) (Kd.S_far (p := ⟨gb221, 6, none⟩) (Kd.S_far (p := ⟨gb221, 5, none⟩) (Kd.S_far (p := ⟨gb221, 4, none⟩) (Kd.S_far (p := ⟨gb221, 3, none⟩) (Kd.S_far (p := ⟨gb221, 2, none⟩) (Kd.S_far (p := ⟨gb221, 1, none⟩) (Kd.S_far (p := ⟨gb221, 0, none⟩) (Kd.S_far (p := ⟨gb220, 7, none⟩) (Kd.S_types (Kd.S_types HO_7.out BK220.1 (by decide)) BK221.1 (by decide)) (fun _ hk => hk.1.2) (.slice Ao44 x7_3.length co44)) (fun _ hk => hk.2) (.slice Ao12 x3_1.length co12)) (fun _ hk => hk.2) (.int .i64 a0_1)) (fun _ hk => hk.2) (.int .i64 a0_2)) (fun _ hk => hk.2) (.int .i64 a0_3)) (fun _ hk => hk.2) (.int .i64 a0_4)) (fun _ hk => hk.2) (.slice Ao22 x5_2.length co22)) (fun _ hk => hk.2) (.slice Ao24 t230.length co24)) (fun _ hk => hk.2) (.slice Ao44 x7_3.length co44)) (fun _ hk => hk.1.1), by repeat (first | (with_reducible first | exact HB.1 | apply below_alloc | apply pw_below_drewN | apply below_drew1 | refine below_set ?_ GE220.1 | refine below_set ?_ GE221.1) | exact HB.1)⟩

/-! ### vendmeterref_PocketMade: function 45 -/
theorem xa45 {w : World} {g : Nat} {o : Obj} (h : w.heap[g]? = some o) (o' : Obj) : (w.alloc o').heap[g]? = some o := blk_alloc h o'
theorem xd45 {w : World} {g : Nat} {o : Obj} (h : w.heap[g]? = some o) : w.drew.heap[g]? = some o := blk_drew h
theorem xn45 {w : World} {g : Nat} {o : Obj} (h : w.heap[g]? = some o) (n : Nat) : (w.drewN n).heap[g]? = some o := blk_drewN h n
theorem ya45 {w W : World} (h : Below w.heap.size w W) (o : Obj) : Below w.heap.size w (W.alloc o) := below_alloc h o
theorem yn45 {B : Nat} {w W : World} (h : Below B w W) (n : Nat) : Below B w (W.drewN n) := pw_below_drewN h n
theorem yd45 {B : Nat} {w W : World} (h : Below B w W) : Below B w W.drew := below_drew1 h
def vendmeterref_PocketMade.f (a0 : Int) : Option (List Int × Int) := (vendmeterref_In.f a0 0 49).bind fun t242 => (if t242 = true then (some ((([1, 0, (a0) % 4294967296, 0, 0, 0, 0, 0, 0, 0, 0, 0] : List Int)), 0)) else (some (([] : List Int), 2)))
set_option maxHeartbeats 8000000 in
set_option maxRecDepth 100000 in
theorem vendmeterref_PocketMade.calls (a0 : Int) (r1 : List Int) (r2 : Int) (w : World) (h : vendmeterref_PocketMade.f a0 = some (r1, r2)) :
    Calls Try.prog 45 #[.int .i64 a0] w fun e w' => ∃ v0_ : Value, e = .returned (.tuple #[v0_, .int .i64 r2]) ∧ Kd.R (Kd.int .u32) 22 w' w.heap.size (fun _ => True) v0_ r1 ∧ Below w.heap.size w w' := by
  have HB := Aside0.mk (Below.refl w.heap.size w)
  have H : ((vendmeterref_In.f a0 0 49).bind fun t242 => (if t242 = true then (some ((([1, 0, (a0) % 4294967296, 0, 0, 0, 0, 0, 0, 0, 0, 0] : List Int)), 0)) else (some (([] : List Int), 2)))) = some (r1, r2) := h
  clear h
  replace H := Option.bind_eq_some_iff.mp H
  obtain ⟨t242, A20, H⟩ := H
  replace H : (if t242 = true then (some ((([1, 0, (a0) % 4294967296, 0, 0, 0, 0, 0, 0, 0, 0, 0] : List Int)), 0)) else (some (([] : List Int), 2))) = some (r1, r2) := H
  have A2 := Aside0.mk A20
  clear A20
  by_cases c3 : t242 = true
  · subst c3
    have H1 : (some ((([1, 0, (a0) % 4294967296, 0, 0, 0, 0, 0, 0, 0, 0, 0] : List Int)), 0)) = some (r1, r2) := by rw [if_pos rfl] at H; exact H
    clear H
    have H := H1
    clear H1
    obtain ⟨y243, hy243⟩ : ∃ y_ : List Int, y_ = (([1, 0, (a0) % 4294967296, 0, 0, 0, 0, 0, 0, 0, 0, 0] : List Int)) := ⟨_, rfl⟩
    replace H : (some (y243, 0)) = some (r1, r2) := by first | (rw [hy243]; with_reducible exact H) | (have H2_ := (Option.bind_some _ _).symm.trans H; rw [hy243]; with_reducible exact H2_) | (have H2_ := (Option.bind_some _ _).symm.trans H; with_reducible exact H2_) | with_reducible exact H | (rw [hy243]; exact H) | exact H
    have Ny243 := Aside0.mk hy243
    clear hy243
    simp only [Option.some.injEq, Prod.mk.injEq] at H
    obtain ⟨rfl, rfl⟩ := H
    go_enter Try.func45, Try.ntmps45
    go_wp2_with (first | ((with_reducible refine gate_callee (f := 43) rfl ?_); refine goesL_ (some 5) rfl rfl Try.func43 (by kernel_rfl) rfl #[.int .i64 a0, .int .i64 0, .int .i64 49] rfl (by (try simp only [List.map_toArray, List.map_cons, List.map_nil]); first | done | rfl | (simp only [List.length_drop, List.length_take]; rfl)) ?_; (with_reducible refine (vendmeterref_In.calls a0 0 49 true _ A2.out).mono ?_); rintro e w' ⟨rfl, ⟨nd, rfl⟩⟩; refine ⟨_, rfl, ?_⟩) | ((with_reducible refine gate_dst (N := 9) rfl ?_); refine Kd.R_lit (Kd.int .u32) _ 22 ?hg (N := 9) ?hd (xs := ([1, 0, (a0) % 4294967296, 0, 0, 0, 0, 0, 0, 0, 0, 0] : List Int)) (inner := [.int .u32 1, .int .u32 0, .int .u32 ((a0) % 4294967296), .int .u32 0, .int .u32 0, .int .u32 0, .int .u32 0, .int .u32 0, .int .u32 0, .int .u32 0, .int .u32 0, .int .u32 0]) (ok := fun _ => True) (okp := fun _ => True) ?hr ?hp (fun _ hk => hk) trivial (Below.refl _ _) (Nat.le_refl _) (by simp) ?_; (case hd => rfl); (case hg => rfl); (case hr => first | (go_simp; done) | (go_simp; rfl)); (case hp => exact (Reps.one (show Kd.M (Kd.int .u32) _ _ _ 1 [.int .u32 1] from rfl) (Reps.one (show Kd.M (Kd.int .u32) _ _ _ 0 [.int .u32 0] from rfl) (Reps.one (show Kd.M (Kd.int .u32) _ _ _ ((a0) % 4294967296) [.int .u32 ((a0) % 4294967296)] from rfl) (Reps.one (show Kd.M (Kd.int .u32) _ _ _ 0 [.int .u32 0] from rfl) (Reps.one (show Kd.M (Kd.int .u32) _ _ _ 0 [.int .u32 0] from rfl) (Reps.one (show Kd.M (Kd.int .u32) _ _ _ 0 [.int .u32 0] from rfl) (Reps.one (show Kd.M (Kd.int .u32) _ _ _ 0 [.int .u32 0] from rfl) (Reps.one (show Kd.M (Kd.int .u32) _ _ _ 0 [.int .u32 0] from rfl) (Reps.one (show Kd.M (Kd.int .u32) _ _ _ 0 [.int .u32 0] from rfl) (Reps.one (show Kd.M (Kd.int .u32) _ _ _ 0 [.int .u32 0] from rfl) (Reps.one (show Kd.M (Kd.int .u32) _ _ _ 0 [.int .u32 0] from rfl) (Reps.one (show Kd.M (Kd.int .u32) _ _ _ 0 [.int .u32 0] from rfl) (Reps.none _ _)))))))))))))); intro v244 w4 ho5 hb hg_ hnew_; clear hg_ hnew_; (first | rw [← Ny243.out] at ho5 | (simp only [Int.reduceToNat] at ho5; rw [← Ny243.out] at ho5)); have n0_ := Aside0.mk (Kd.R_lower ho5 (below_size (by with_reducible repeat (first | exact HB.1 | apply ya45 | apply yn45 | apply yd45)))); have n1_ := Aside0.mk (below_step (by with_reducible repeat (first | exact HB.1 | apply ya45 | apply yn45 | apply yd45)) hb); clear HB; have HO245 := n0_; have HB := n1_; clear n0_ n1_; clear hb ho5))
    go_ret2
    exact ⟨_, by first | rfl | (simp [errW_none, errW_some] <;> rfl) | (simp [*, errW_none, errW_some] <;> rfl), by (with_reducible repeat (first | apply Kd.R_alloc | apply Kd.R_drewN | apply Kd.R_drew)); exact HO245.1, by repeat (first | (with_reducible first | exact HB.1 | apply below_alloc | apply pw_below_drewN | apply below_drew1) | exact HB.1)⟩
  · replace c3 := Bool.eq_false_iff.mpr c3
    subst c3
    have H1 : (some (([] : List Int), 2)) = some (r1, r2) := by rw [if_neg (show ¬ (false = true) by decide)] at H; exact H
    clear H
    have H := H1
    clear H1
    simp only [Option.some.injEq, Prod.mk.injEq] at H
    obtain ⟨rfl, rfl⟩ := H
    go_enter Try.func45, Try.ntmps45
    go_wp2_with (first | ((with_reducible refine gate_callee (f := 43) rfl ?_); refine goesL_ (some 5) rfl rfl Try.func43 (by kernel_rfl) rfl #[.int .i64 a0, .int .i64 0, .int .i64 49] rfl (by (try simp only [List.map_toArray, List.map_cons, List.map_nil]); first | done | rfl | (simp only [List.length_drop, List.length_take]; rfl)) ?_; (with_reducible refine (vendmeterref_In.calls a0 0 49 false _ A2.out).mono ?_); rintro e w' ⟨rfl, ⟨nd, rfl⟩⟩; refine ⟨_, rfl, ?_⟩))
    go_ret2
    exact ⟨_, by first | rfl | (simp [errW_none, errW_some] <;> rfl) | (simp [*, errW_none, errW_some] <;> rfl), by first | exact Kd.R_nil _ _ _ _ _ | exact Kd.N_nil _ _ _ _ _ | exact Kd.V_nil _ _ _ _ _ | exact Kd.Q_nil _ _ _ _ _ | exact Kd.S_nil _ _ _ _ _, by repeat (first | (with_reducible first | exact HB.1 | apply below_alloc | apply pw_below_drewN | apply below_drew1) | exact HB.1)⟩

end Go.Proofs.Ytoookcmablnjfaa.PWorldBegins
