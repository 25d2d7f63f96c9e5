-- written by this session's program wip/xp/xprint.py (it drives the kit's print and adds to it)
import Derived.Test.YtocolmpfpbclbaaGreatDoorPReceiptShowsx0
import Derived.Test.YtocolmpfpbclbaaGreatDoorPReceiptShowsx6
import Derived.Test.YtocolmpfpbclbaaGreatDoorPReceiptShowsx9
namespace Go.Proofs.YtocolmpfpbclbaaGreatDoor.PReceiptShows
open Go.RowKit Go.Proofs.YtocolmpfpbclbaaGreatDoorW.PrintWords Go.Proofs.YtocolmpfpbclbaaGreatDoorW.PrintLast Go.Proofs.YtocolmpfpbclbaaGreatDoorW.PrintMore
attribute [local go_sem] max2_int min2_int max_two min_two max_three min_three max_four min_four
set_option linter.unusedVariables false
set_option linter.unusedSimpArgs false
set_option maxHeartbeats 8000000
set_option maxRecDepth 100000

/-! ### vendmeterref_ReceiptFault: function 17 -/
mutual
def vendmeterref_ReceiptFault.j0 : Nat → Bool → Int → Int → Int → Int → Int → Int → Int → Int → ByteArray → Int → Int → Int → Int → Int → Int → Int → Option (Int)
 | 0, _, _, _, _, _, _, _, _, _, _, _, _, _, _, _, _, _ => none
 | k + 1, x33, x210000, x210001, x210002, x210003, x210004, x210005, x210006, x210007, x210008, x212000, x212001, x212002, x212003, x212004, x212005, x212006 => if x33 = true then (some 2) else ((vendmeterref_In.f x212005 0 100000000).bind fun t216 => (if t216 = true then ((vendmeterref_In.f x212000 1 1048575).bind fun t217 => (if t217 = true then ((vendmeterref_In.f x212006 0 2097151).bind fun t218 => (vendmeterref_ReceiptFault.j1 k (!t218) x210000 x210001 x210002 x210003 x210004 x210005 x210006 x210007 x210008 x212000 x212001 x212002 x212003 x212004 x212005 x212006)) else (vendmeterref_ReceiptFault.j1 k true x210000 x210001 x210002 x210003 x210004 x210005 x210006 x210007 x210008 x212000 x212001 x212002 x212003 x212004 x212005 x212006))) else (vendmeterref_ReceiptFault.j1 k true x210000 x210001 x210002 x210003 x210004 x210005 x210006 x210007 x210008 x212000 x212001 x212002 x212003 x212004 x212005 x212006)))
def vendmeterref_ReceiptFault.j1 : Nat → Bool → Int → Int → Int → Int → Int → Int → Int → Int → ByteArray → Int → Int → Int → Int → Int → Int → Int → Option (Int)
 | 0, _, _, _, _, _, _, _, _, _, _, _, _, _, _, _, _, _ => none
 | k + 1, x49, x210000, x210001, x210002, x210003, x210004, x210005, x210006, x210007, x210008, x212000, x212001, x212002, x212003, x212004, x212005, x212006 => if x49 = true then (some 2) else (if (wrap64 ((wrap64 ((wrap64 ((wrap64 (x212001 - x212002)) - x212003)) - x212004)) - x212005)) = 0 then ((vendmeterref_Parsed.f k x210008).bind fun bt219 => (if bt219.2.2.2.2 = 0 then (if bt219.2.1 = x212000 then (if bt219.1 = 0 then (if bt219.2.2.1 = x212006 then (some 0) else (some 8)) else (if x212006 = 0 then (some 0) else (some 8))) else (some 8)) else (some bt219.2.2.2.2))) else (some 19))
end
def vendmeterref_ReceiptFault.f (k : Nat) (a0_0 : Int) (a0_1 : Int) (a0_2 : Int) (a0_3 : Int) (a0_4 : Int) (a0_5 : Int) (a0_6 : Int) (a0_7 : Int) (a0_8 : ByteArray) : Option (Int) := (vendmeterref_In.f a0_0 0 49).bind fun t210 => (if t210 = true then ((vendmeterref_In.f a0_2 0 100000000).bind fun t212 => (if t212 = true then ((vendmeterref_In.f a0_3 0 100000000).bind fun t213 => (if t213 = true then ((vendmeterref_In.f a0_4 0 100000000).bind fun t214 => (if t214 = true then ((vendmeterref_In.f a0_5 0 100000000).bind fun t215 => (vendmeterref_ReceiptFault.j0 k (!t215) a0_0 a0_1 a0_2 a0_3 a0_4 a0_5 a0_6 a0_7 a0_8 a0_1 a0_2 a0_3 a0_4 a0_5 a0_6 a0_7)) else (vendmeterref_ReceiptFault.j0 k true a0_0 a0_1 a0_2 a0_3 a0_4 a0_5 a0_6 a0_7 a0_8 a0_1 a0_2 a0_3 a0_4 a0_5 a0_6 a0_7))) else (vendmeterref_ReceiptFault.j0 k true a0_0 a0_1 a0_2 a0_3 a0_4 a0_5 a0_6 a0_7 a0_8 a0_1 a0_2 a0_3 a0_4 a0_5 a0_6 a0_7))) else (vendmeterref_ReceiptFault.j0 k true a0_0 a0_1 a0_2 a0_3 a0_4 a0_5 a0_6 a0_7 a0_8 a0_1 a0_2 a0_3 a0_4 a0_5 a0_6 a0_7))) else (some 18))
theorem vendmeterref_ReceiptFault.mono_l : ∀ k, (∀ y0 y1 y2 y3 y4 y5 y6 y7 y8 y9 y10 y11 y12 y13 y14 y15 y16, LeO (vendmeterref_ReceiptFault.j0 k y0 y1 y2 y3 y4 y5 y6 y7 y8 y9 y10 y11 y12 y13 y14 y15 y16) (vendmeterref_ReceiptFault.j0 (k + 1) y0 y1 y2 y3 y4 y5 y6 y7 y8 y9 y10 y11 y12 y13 y14 y15 y16)) ∧ (∀ y0 y1 y2 y3 y4 y5 y6 y7 y8 y9 y10 y11 y12 y13 y14 y15 y16, LeO (vendmeterref_ReceiptFault.j1 k y0 y1 y2 y3 y4 y5 y6 y7 y8 y9 y10 y11 y12 y13 y14 y15 y16) (vendmeterref_ReceiptFault.j1 (k + 1) y0 y1 y2 y3 y4 y5 y6 y7 y8 y9 y10 y11 y12 y13 y14 y15 y16))
 | 0 => ⟨fun _ _ _ _ _ _ _ _ _ _ _ _ _ _ _ _ _ r h => by simp [vendmeterref_ReceiptFault.j0] at h, fun _ _ _ _ _ _ _ _ _ _ _ _ _ _ _ _ _ r h => by simp [vendmeterref_ReceiptFault.j1] at h⟩
 | k + 1 => by
  obtain ⟨ih0, ih1⟩ := vendmeterref_ReceiptFault.mono_l k
  refine ⟨?_, ?_⟩
  ·
   intro y0 y1 y2 y3 y4 y5 y6 y7 y8 y9 y10 y11 y12 y13 y14 y15 y16
   unfold vendmeterref_ReceiptFault.j0
   repeat' first
   | (with_reducible exact ih0 _ _ _ _ _ _ _ _ _ _ _ _ _ _ _ _ _)
   | (with_reducible exact ih1 _ _ _ _ _ _ _ _ _ _ _ _ _ _ _ _ _)
   | (with_reducible exact vendmeterref_Parsed.mono _ _)
   | (with_reducible exact LeO.refl _)
   | (with_reducible exact LeO.none _)
   | (with_reducible refine LeO.ite ?_ ?_)
   | (with_reducible refine LeO.bind ?_ (fun _ => ?_))
  ·
   intro y0 y1 y2 y3 y4 y5 y6 y7 y8 y9 y10 y11 y12 y13 y14 y15 y16
   unfold vendmeterref_ReceiptFault.j1
   repeat' first
   | (with_reducible exact ih0 _ _ _ _ _ _ _ _ _ _ _ _ _ _ _ _ _)
   | (with_reducible exact ih1 _ _ _ _ _ _ _ _ _ _ _ _ _ _ _ _ _)
   | (with_reducible exact vendmeterref_Parsed.mono _ _)
   | (with_reducible exact LeO.refl _)
   | (with_reducible exact LeO.none _)
   | (with_reducible refine LeO.ite ?_ ?_)
   | (with_reducible refine LeO.bind ?_ (fun _ => ?_))
theorem vendmeterref_ReceiptFault.mono : ∀ a0 a1 a2 a3 a4 a5 a6 a7 a8 k, LeO (vendmeterref_ReceiptFault.f k a0 a1 a2 a3 a4 a5 a6 a7 a8) (vendmeterref_ReceiptFault.f (k + 1) a0 a1 a2 a3 a4 a5 a6 a7 a8) := by
 intro a0 a1 a2 a3 a4 a5 a6 a7 a8 k
 obtain ⟨ih0, ih1⟩ := vendmeterref_ReceiptFault.mono_l k
 unfold vendmeterref_ReceiptFault.f
 repeat' first
   | (with_reducible exact ih0 _ _ _ _ _ _ _ _ _ _ _ _ _ _ _ _ _)
   | (with_reducible exact ih1 _ _ _ _ _ _ _ _ _ _ _ _ _ _ _ _ _)
   | (with_reducible exact vendmeterref_Parsed.mono _ _)
   | (with_reducible exact LeO.refl _)
   | (with_reducible exact LeO.none _)
   | (with_reducible refine LeO.ite ?_ ?_)
   | (with_reducible refine LeO.bind ?_ (fun _ => ?_))
theorem vendmeterref_ReceiptFault.calls (k : Nat) (a0_0 : Int) (a0_1 : Int) (a0_2 : Int) (a0_3 : Int) (a0_4 : Int) (a0_5 : Int) (a0_6 : Int) (a0_7 : Int) (a0_8 : ByteArray) (r : Int) (w : World) (h : vendmeterref_ReceiptFault.f k a0_0 a0_1 a0_2 a0_3 a0_4 a0_5 a0_6 a0_7 a0_8 = some r) :
  Calls Tryz.prog 17 #[.agg #[.int .i64 a0_0, .int .i64 a0_1, .int .i64 a0_2, .int .i64 a0_3, .int .i64 a0_4, .int .i64 a0_5, .int .i64 a0_6, .int .i64 a0_7, .string a0_8]] w fun e w' => e = .returned (.int .i64 r) ∧ Below w.heap.size w w' := by
 have hu25 := Tryz.underlying25
 have hu23 := Tryz.underlying23
 have hu67 := Tryz.underlying67
 have HB := am (Below.refl w.heap.size w)
 have H : ((vendmeterref_In.f a0_0 0 49).bind fun t210 => (if t210 = true then ((vendmeterref_In.f a0_2 0 100000000).bind fun t212 => (if t212 = true then ((vendmeterref_In.f a0_3 0 100000000).bind fun t213 => (if t213 = true then ((vendmeterref_In.f a0_4 0 100000000).bind fun t214 => (if t214 = true then ((vendmeterref_In.f a0_5 0 100000000).bind fun t215 => (vendmeterref_ReceiptFault.j0 k (!t215) a0_0 a0_1 a0_2 a0_3 a0_4 a0_5 a0_6 a0_7 a0_8 a0_1 a0_2 a0_3 a0_4 a0_5 a0_6 a0_7)) else (vendmeterref_ReceiptFault.j0 k true a0_0 a0_1 a0_2 a0_3 a0_4 a0_5 a0_6 a0_7 a0_8 a0_1 a0_2 a0_3 a0_4 a0_5 a0_6 a0_7))) else (vendmeterref_ReceiptFault.j0 k true a0_0 a0_1 a0_2 a0_3 a0_4 a0_5 a0_6 a0_7 a0_8 a0_1 a0_2 a0_3 a0_4 a0_5 a0_6 a0_7))) else (vendmeterref_ReceiptFault.j0 k true a0_0 a0_1 a0_2 a0_3 a0_4 a0_5 a0_6 a0_7 a0_8 a0_1 a0_2 a0_3 a0_4 a0_5 a0_6 a0_7))) else (some 18))) = some r := h
 clear h
 replace H := Option.bind_eq_some_iff.mp H
 obtain ⟨t210, A20, H⟩ := H
 (try dsimp only at H)
 have A2 := am A20
 clear A20
 by_cases c3 : t210 = true
 ·
  subst c3
  have H1 : ((vendmeterref_In.f a0_2 0 100000000).bind fun t212 => (if t212 = true then ((vendmeterref_In.f a0_3 0 100000000).bind fun t213 => (if t213 = true then ((vendmeterref_In.f a0_4 0 100000000).bind fun t214 => (if t214 = true then ((vendmeterref_In.f a0_5 0 100000000).bind fun t215 => (vendmeterref_ReceiptFault.j0 k (!t215) a0_0 a0_1 a0_2 a0_3 a0_4 a0_5 a0_6 a0_7 a0_8 a0_1 a0_2 a0_3 a0_4 a0_5 a0_6 a0_7)) else (vendmeterref_ReceiptFault.j0 k true a0_0 a0_1 a0_2 a0_3 a0_4 a0_5 a0_6 a0_7 a0_8 a0_1 a0_2 a0_3 a0_4 a0_5 a0_6 a0_7))) else (vendmeterref_ReceiptFault.j0 k true a0_0 a0_1 a0_2 a0_3 a0_4 a0_5 a0_6 a0_7 a0_8 a0_1 a0_2 a0_3 a0_4 a0_5 a0_6 a0_7))) else (vendmeterref_ReceiptFault.j0 k true a0_0 a0_1 a0_2 a0_3 a0_4 a0_5 a0_6 a0_7 a0_8 a0_1 a0_2 a0_3 a0_4 a0_5 a0_6 a0_7))) = some r := by rw [if_pos rfl] at H; exact H
  clear H
  have H := H1
  clear H1
  have HC4 := am H
  clear H
  go_enter Tryz.func17, Tryz.ntmps17
  go_upto_region 4 with (first | ((with_reducible refine gate_dst (N := 1) rfl ?_); refine czbox 1 #[.int .i64 a0_0, .int .i64 a0_1, .int .i64 a0_2, .int .i64 a0_3, .int .i64 a0_4, .int .i64 a0_5, .int .i64 a0_6, .int .i64 a0_7, .string a0_8] 25 ?_; intro gb209 hg w5 hbox hb; have BK209 := am (hbox); have GW209 := czsz hg (czbl HB); have GE209 := czsz hg (czbl HB); replace HB := am (below_step (czbl HB) hb); clear hb hbox hg; obtain ⟨hcz6_0, hcz6_1, hcz6_2, hcz6_3, hcz6_4, hcz6_5, hcz6_6, hcz6_7, hcz6_8⟩ := czc9 BK209.1; obtain ⟨hfz6_0, hfz6_1, hfz6_2, hfz6_3, hfz6_4, hfz6_5, hfz6_6, hfz6_7, hfz6_8⟩ := czf9 BK209.1) | ((with_reducible refine gate_callee (f := 38) rfl ?_); refine czgo (some 8) Tryz.func38 #[.int .i64 a0_0, .int .i64 0, .int .i64 49] ?_; (with_reducible refine (vendmeterref_In.calls a0_0 0 49 true _ A2.out).mono ?_); rintro e w' ⟨rfl, ⟨nd, rfl⟩⟩; refine ⟨_, rfl, ?_⟩; (try (rw [drewN_self w5]; generalize hq_ : World.drewN w5 _ = w5; have n0_ : Aside0 (w5.heap[gb209]? = some (.cells #[.int .i64 a0_0, .int .i64 a0_1, .int .i64 a0_2, .int .i64 a0_3, .int .i64 a0_4, .int .i64 a0_5, .int .i64 a0_6, .int .i64 a0_7, .string a0_8] 25 (0, 0))) := ⟨by rw [← hq_]; exact (czbk BK209)⟩; have n1_ : Aside0 (Below w.heap.size w w5) := ⟨by rw [← hq_]; exact (czbl1 HB GE209)⟩; clear BK209 HB hq_; have BK209 := n0_; have HB := n1_; clear n0_ n1_; (try (have hcu209_0 : w5.cell? ⟨gb209, 0, none⟩ = some (.int .i64 a0_0) := (blk_cell BK209.1 0).trans rfl)); (try (have hfu209_0 := blk_frozen BK209.1 0)); (try (have hcu209_1 : w5.cell? ⟨gb209, 1, none⟩ = some (.int .i64 a0_1) := (blk_cell BK209.1 1).trans rfl)); (try (have hfu209_1 := blk_frozen BK209.1 1)); (try (have hcu209_2 : w5.cell? ⟨gb209, 2, none⟩ = some (.int .i64 a0_2) := (blk_cell BK209.1 2).trans rfl)); (try (have hfu209_2 := blk_frozen BK209.1 2)); (try (have hcu209_3 : w5.cell? ⟨gb209, 3, none⟩ = some (.int .i64 a0_3) := (blk_cell BK209.1 3).trans rfl)); (try (have hfu209_3 := blk_frozen BK209.1 3)); (try (have hcu209_4 : w5.cell? ⟨gb209, 4, none⟩ = some (.int .i64 a0_4) := (blk_cell BK209.1 4).trans rfl)); (try (have hfu209_4 := blk_frozen BK209.1 4)); (try (have hcu209_5 : w5.cell? ⟨gb209, 5, none⟩ = some (.int .i64 a0_5) := (blk_cell BK209.1 5).trans rfl)); (try (have hfu209_5 := blk_frozen BK209.1 5)); (try (have hcu209_6 : w5.cell? ⟨gb209, 6, none⟩ = some (.int .i64 a0_6) := (blk_cell BK209.1 6).trans rfl)); (try (have hfu209_6 := blk_frozen BK209.1 6)); (try (have hcu209_7 : w5.cell? ⟨gb209, 7, none⟩ = some (.int .i64 a0_7) := (blk_cell BK209.1 7).trans rfl)); (try (have hfu209_7 := blk_frozen BK209.1 7)); (try (have hcu209_8 : w5.cell? ⟨gb209, 8, none⟩ = some (.string a0_8) := (blk_cell BK209.1 8).trans rfl)); (try (have hfu209_8 := blk_frozen BK209.1 8))))) | ((with_reducible refine gate_dst (N := 3) rfl ?_); refine czbox 3 #[.int .i64 0, .int .i64 0, .int .i64 0, .int .i64 0, .int .i64 0, .int .i64 0, .int .i64 0] 23 ?_; intro gb211 hg w7 hbox hb; have BK211 := am (hbox); have GW211 := czsz hg (czbl1 HB GE209); have GE211 := czsz hg (czbl1 HB GE209); have NB209_211 := czne BK209 hg; have NB211_209 := czen BK209 hg; replace BK209 := czbb BK209 hb; replace HB := am (below_step (czbl1 HB GE209) hb); clear hb hbox hg; have hnb8 := NB211_209.1; have hnc8 := NB209_211.1; obtain ⟨hcz9_0, hcz9_1, hcz9_2, hcz9_3, hcz9_4, hcz9_5, hcz9_6⟩ := czc7 BK211.1; obtain ⟨hfz9_0, hfz9_1, hfz9_2, hfz9_3, hfz9_4, hfz9_5, hfz9_6⟩ := czf7 BK211.1))
  (try simp only [Act.put, List.setIfInBounds_toArray, List.set_cons_zero, List.set_cons_succ])
  go_cut [33] (fun v33 wc => ∃ (kq : Nat) (x33_3 : Bool), v33 = .bool x33_3 ∧ Aside0 (vendmeterref_ReceiptFault.j0 kq x33_3 a0_0 a0_1 a0_2 a0_3 a0_4 a0_5 a0_6 a0_7 a0_8 a0_1 a0_2 a0_3 a0_4 a0_5 a0_6 a0_7 = some r) ∧ Aside0 (kq ≤ k) ∧ Aside0 (wc.heap[gb209]? = some (.cells #[.int .i64 a0_0, .int .i64 a0_1, .int .i64 a0_2, .int .i64 a0_3, .int .i64 a0_4, .int .i64 a0_5, .int .i64 a0_6, .int .i64 a0_7, .string a0_8] 25 (0, 0))) ∧ Aside0 (wc.heap[gb211]? = some (.cells #[.int .i64 a0_1, .int .i64 a0_2, .int .i64 a0_3, .int .i64 a0_4, .int .i64 a0_5, .int .i64 a0_6, .int .i64 a0_7] 23 (0, 0))) ∧ Aside0 (Below w.heap.size w wc))
  case first =>
   have H := HC4.out
   clear HC4
   replace H := Option.bind_eq_some_iff.mp H
   obtain ⟨t212, A100, H⟩ := H
   (try dsimp only at H)
   have A10 := am A100
   clear A100
   by_cases c11 : t212 = true
   ·
    subst c11
    have H1 : ((vendmeterref_In.f a0_3 0 100000000).bind fun t213 => (if t213 = true then ((vendmeterref_In.f a0_4 0 100000000).bind fun t214 => (if t214 = true then ((vendmeterref_In.f a0_5 0 100000000).bind fun t215 => (vendmeterref_ReceiptFault.j0 k (!t215) a0_0 a0_1 a0_2 a0_3 a0_4 a0_5 a0_6 a0_7 a0_8 a0_1 a0_2 a0_3 a0_4 a0_5 a0_6 a0_7)) else (vendmeterref_ReceiptFault.j0 k true a0_0 a0_1 a0_2 a0_3 a0_4 a0_5 a0_6 a0_7 a0_8 a0_1 a0_2 a0_3 a0_4 a0_5 a0_6 a0_7))) else (vendmeterref_ReceiptFault.j0 k true a0_0 a0_1 a0_2 a0_3 a0_4 a0_5 a0_6 a0_7 a0_8 a0_1 a0_2 a0_3 a0_4 a0_5 a0_6 a0_7))) = some r := by rw [if_pos rfl] at H; exact H
    clear H
    have H := H1
    clear H1
    replace H := Option.bind_eq_some_iff.mp H
    obtain ⟨t213, A120, H⟩ := H
    (try dsimp only at H)
    have A12 := am A120
    clear A120
    by_cases c13 : t213 = true
    ·
     subst c13
     have H1 : ((vendmeterref_In.f a0_4 0 100000000).bind fun t214 => (if t214 = true then ((vendmeterref_In.f a0_5 0 100000000).bind fun t215 => (vendmeterref_ReceiptFault.j0 k (!t215) a0_0 a0_1 a0_2 a0_3 a0_4 a0_5 a0_6 a0_7 a0_8 a0_1 a0_2 a0_3 a0_4 a0_5 a0_6 a0_7)) else (vendmeterref_ReceiptFault.j0 k true a0_0 a0_1 a0_2 a0_3 a0_4 a0_5 a0_6 a0_7 a0_8 a0_1 a0_2 a0_3 a0_4 a0_5 a0_6 a0_7))) = some r := by rw [if_pos rfl] at H; exact H
     clear H
     have H := H1
     clear H1
     replace H := Option.bind_eq_some_iff.mp H
     obtain ⟨t214, A140, H⟩ := H
     (try dsimp only at H)
     have A14 := am A140
     clear A140
     by_cases c15 : t214 = true
     ·
      subst c15
      have H1 : ((vendmeterref_In.f a0_5 0 100000000).bind fun t215 => (vendmeterref_ReceiptFault.j0 k (!t215) a0_0 a0_1 a0_2 a0_3 a0_4 a0_5 a0_6 a0_7 a0_8 a0_1 a0_2 a0_3 a0_4 a0_5 a0_6 a0_7)) = some r := by rw [if_pos rfl] at H; exact H
      clear H
      have H := H1
      clear H1
      replace H := Option.bind_eq_some_iff.mp H
      obtain ⟨t215, A160, H⟩ := H
      (try dsimp only at H)
      have A16 := am A160
      clear A160
      have H' := am H
      clear H
      have hnb17 := NB211_209.1
      have hnc17 := NB209_211.1
      obtain ⟨hcz18_0, hcz18_1, hcz18_2, hcz18_3, hcz18_4, hcz18_5, hcz18_6⟩ := czc7 BK211.1
      obtain ⟨hfz18_0, hfz18_1, hfz18_2, hfz18_3, hfz18_4, hfz18_5, hfz18_6⟩ := czf7 BK211.1
      go_wp2_with (first | ((with_reducible refine gate_callee (f := 38) rfl ?_); refine czgo (some 14) Tryz.func38 #[.int .i64 a0_2, .int .i64 0, .int .i64 100000000] ?_; (with_reducible refine (vendmeterref_In.calls a0_2 0 100000000 true _ A10.out).mono ?_); rintro e w' ⟨rfl, ⟨nd, rfl⟩⟩; refine ⟨_, rfl, ?_⟩) | (go_at_call 38; (with_reducible refine (vendmeterref_In.calls a0_3 0 100000000 true _ A12.out).mono ?_); rintro e w' ⟨rfl, ⟨nd, rfl⟩⟩) | (go_at_call 38; (with_reducible refine (vendmeterref_In.calls a0_4 0 100000000 true _ A14.out).mono ?_); rintro e w' ⟨rfl, ⟨nd, rfl⟩⟩) | (go_at_call 38; (with_reducible refine (vendmeterref_In.calls a0_5 0 100000000 t215 _ A16.out).mono ?_); rintro e w' ⟨rfl, ⟨nd, rfl⟩⟩))
      go_meet
      case rel => exact ⟨_, (!t215), czr, H', ⟨by first | omega | exact Nat.le_refl _⟩, ⟨by (with_reducible repeat (first | apply czxn | apply czxd | apply czxa)); refine blk_far ?_ NB209_211.1 _; (with_reducible repeat (first | apply czxn | apply czxd | apply czxa)); refine blk_far ?_ NB209_211.1 _; (with_reducible repeat (first | apply czxn | apply czxd | apply czxa)); refine blk_far ?_ NB209_211.1 _; (with_reducible repeat (first | apply czxn | apply czxd | apply czxa)); refine blk_far ?_ NB209_211.1 _; (with_reducible repeat (first | apply czxn | apply czxd | apply czxa)); refine blk_far ?_ NB209_211.1 _; (with_reducible repeat (first | apply czxn | apply czxd | apply czxa)); refine blk_far ?_ NB209_211.1 _; (with_reducible repeat (first | apply czxn | apply czxd | apply czxa)); refine blk_far ?_ NB209_211.1 _; (with_reducible repeat (first | apply czxn | apply czxd | apply czxa)); exact BK209.1⟩, ⟨by (with_reducible repeat (first | apply czxn | apply czxd | apply czxa)); refine blk_put (cs := #[.int .i64 a0_1, .int .i64 a0_2, .int .i64 a0_3, .int .i64 a0_4, .int .i64 a0_5, .int .i64 a0_6, .int .i64 0]) ?_ 6 _ rfl; (with_reducible repeat (first | apply czxn | apply czxd | apply czxa)); refine blk_put (cs := #[.int .i64 a0_1, .int .i64 a0_2, .int .i64 a0_3, .int .i64 a0_4, .int .i64 a0_5, .int .i64 0, .int .i64 0]) ?_ 5 _ rfl; (with_reducible repeat (first | apply czxn | apply czxd | apply czxa)); refine blk_put (cs := #[.int .i64 a0_1, .int .i64 a0_2, .int .i64 a0_3, .int .i64 a0_4, .int .i64 0, .int .i64 0, .int .i64 0]) ?_ 4 _ rfl; (with_reducible repeat (first | apply czxn | apply czxd | apply czxa)); refine blk_put (cs := #[.int .i64 a0_1, .int .i64 a0_2, .int .i64 a0_3, .int .i64 0, .int .i64 0, .int .i64 0, .int .i64 0]) ?_ 3 _ rfl; (with_reducible repeat (first | apply czxn | apply czxd | apply czxa)); refine blk_put (cs := #[.int .i64 a0_1, .int .i64 a0_2, .int .i64 0, .int .i64 0, .int .i64 0, .int .i64 0, .int .i64 0]) ?_ 2 _ rfl; (with_reducible repeat (first | apply czxn | apply czxd | apply czxa)); refine blk_put (cs := #[.int .i64 a0_1, .int .i64 0, .int .i64 0, .int .i64 0, .int .i64 0, .int .i64 0, .int .i64 0]) ?_ 1 _ rfl; (with_reducible repeat (first | apply czxn | apply czxd | apply czxa)); refine blk_put (cs := #[.int .i64 0, .int .i64 0, .int .i64 0, .int .i64 0, .int .i64 0, .int .i64 0, .int .i64 0]) ?_ 0 _ rfl; (with_reducible repeat (first | apply czxn | apply czxd | apply czxa)); exact BK211.1⟩, ⟨czbl2 HB GE209 GE211⟩⟩
     ·
      replace c15 := Bool.eq_false_iff.mpr c15
      subst c15
      have H1 : (vendmeterref_ReceiptFault.j0 k true a0_0 a0_1 a0_2 a0_3 a0_4 a0_5 a0_6 a0_7 a0_8 a0_1 a0_2 a0_3 a0_4 a0_5 a0_6 a0_7) = some r := by rw [if_neg (show ¬ (false = true) by decide)] at H; exact H
      clear H
      have H := H1
      clear H1
      have H' := am H
      clear H
      have hnb19 := NB211_209.1
      have hnc19 := NB209_211.1
      obtain ⟨hcz20_0, hcz20_1, hcz20_2, hcz20_3, hcz20_4, hcz20_5, hcz20_6⟩ := czc7 BK211.1
      obtain ⟨hfz20_0, hfz20_1, hfz20_2, hfz20_3, hfz20_4, hfz20_5, hfz20_6⟩ := czf7 BK211.1
      go_wp2_with (first | ((with_reducible refine gate_callee (f := 38) rfl ?_); refine czgo (some 14) Tryz.func38 #[.int .i64 a0_2, .int .i64 0, .int .i64 100000000] ?_; (with_reducible refine (vendmeterref_In.calls a0_2 0 100000000 true _ A10.out).mono ?_); rintro e w' ⟨rfl, ⟨nd, rfl⟩⟩; refine ⟨_, rfl, ?_⟩) | (go_at_call 38; (with_reducible refine (vendmeterref_In.calls a0_3 0 100000000 true _ A12.out).mono ?_); rintro e w' ⟨rfl, ⟨nd, rfl⟩⟩) | (go_at_call 38; (with_reducible refine (vendmeterref_In.calls a0_4 0 100000000 false _ A14.out).mono ?_); rintro e w' ⟨rfl, ⟨nd, rfl⟩⟩))
      go_meet
      case rel => exact ⟨_, (true), czr, H', ⟨by first | omega | exact Nat.le_refl _⟩, ⟨by (with_reducible repeat (first | apply czxn | apply czxd | apply czxa)); refine blk_far ?_ NB209_211.1 _; (with_reducible repeat (first | apply czxn | apply czxd | apply czxa)); refine blk_far ?_ NB209_211.1 _; (with_reducible repeat (first | apply czxn | apply czxd | apply czxa)); refine blk_far ?_ NB209_211.1 _; (with_reducible repeat (first | apply czxn | apply czxd | apply czxa)); refine blk_far ?_ NB209_211.1 _; (with_reducible repeat (first | apply czxn | apply czxd | apply czxa)); refine blk_far ?_ NB209_211.1 _; (with_reducible repeat (first | apply czxn | apply czxd | apply czxa)); refine blk_far ?_ NB209_211.1 _; (with_reducible repeat (first | apply czxn | apply czxd | apply czxa)); refine blk_far ?_ NB209_211.1 _; (with_reducible repeat (first | apply czxn | apply czxd | apply czxa)); exact BK209.1⟩, ⟨by (with_reducible repeat (first | apply czxn | apply czxd | apply czxa)); refine blk_put (cs := #[.int .i64 a0_1, .int .i64 a0_2, .int .i64 a0_3, .int .i64 a0_4, .int .i64 a0_5, .int .i64 a0_6, .int .i64 0]) ?_ 6 _ rfl; (with_reducible repeat (first | apply czxn | apply czxd | apply czxa)); refine blk_put (cs := #[.int .i64 a0_1, .int .i64 a0_2, .int .i64 a0_3, .int .i64 a0_4, .int .i64 a0_5, .int .i64 0, .int .i64 0]) ?_ 5 _ rfl; (with_reducible repeat (first | apply czxn | apply czxd | apply czxa)); refine blk_put (cs := #[.int .i64 a0_1, .int .i64 a0_2, .int .i64 a0_3, .int .i64 a0_4, .int .i64 0, .int .i64 0, .int .i64 0]) ?_ 4 _ rfl; (with_reducible repeat (first | apply czxn | apply czxd | apply czxa)); refine blk_put (cs := #[.int .i64 a0_1, .int .i64 a0_2, .int .i64 a0_3, .int .i64 0, .int .i64 0, .int .i64 0, .int .i64 0]) ?_ 3 _ rfl; (with_reducible repeat (first | apply czxn | apply czxd | apply czxa)); refine blk_put (cs := #[.int .i64 a0_1, .int .i64 a0_2, .int .i64 0, .int .i64 0, .int .i64 0, .int .i64 0, .int .i64 0]) ?_ 2 _ rfl; (with_reducible repeat (first | apply czxn | apply czxd | apply czxa)); refine blk_put (cs := #[.int .i64 a0_1, .int .i64 0, .int .i64 0, .int .i64 0, .int .i64 0, .int .i64 0, .int .i64 0]) ?_ 1 _ rfl; (with_reducible repeat (first | apply czxn | apply czxd | apply czxa)); refine blk_put (cs := #[.int .i64 0, .int .i64 0, .int .i64 0, .int .i64 0, .int .i64 0, .int .i64 0, .int .i64 0]) ?_ 0 _ rfl; (with_reducible repeat (first | apply czxn | apply czxd | apply czxa)); exact BK211.1⟩, ⟨czbl2 HB GE209 GE211⟩⟩
    ·
     replace c13 := Bool.eq_false_iff.mpr c13
     subst c13
     have H1 : (vendmeterref_ReceiptFault.j0 k true a0_0 a0_1 a0_2 a0_3 a0_4 a0_5 a0_6 a0_7 a0_8 a0_1 a0_2 a0_3 a0_4 a0_5 a0_6 a0_7) = some r := by rw [if_neg (show ¬ (false = true) by decide)] at H; exact H
     clear H
     have H := H1
     clear H1
     have H' := am H
     clear H
     have hnb21 := NB211_209.1
     have hnc21 := NB209_211.1
     obtain ⟨hcz22_0, hcz22_1, hcz22_2, hcz22_3, hcz22_4, hcz22_5, hcz22_6⟩ := czc7 BK211.1
     obtain ⟨hfz22_0, hfz22_1, hfz22_2, hfz22_3, hfz22_4, hfz22_5, hfz22_6⟩ := czf7 BK211.1
     go_wp2_with (first | ((with_reducible refine gate_callee (f := 38) rfl ?_); refine czgo (some 14) Tryz.func38 #[.int .i64 a0_2, .int .i64 0, .int .i64 100000000] ?_; (with_reducible refine (vendmeterref_In.calls a0_2 0 100000000 true _ A10.out).mono ?_); rintro e w' ⟨rfl, ⟨nd, rfl⟩⟩; refine ⟨_, rfl, ?_⟩) | (go_at_call 38; (with_reducible refine (vendmeterref_In.calls a0_3 0 100000000 false _ A12.out).mono ?_); rintro e w' ⟨rfl, ⟨nd, rfl⟩⟩))
     go_meet
     case rel => exact ⟨_, (true), czr, H', ⟨by first | omega | exact Nat.le_refl _⟩, ⟨by (with_reducible repeat (first | apply czxn | apply czxd | apply czxa)); refine blk_far ?_ NB209_211.1 _; (with_reducible repeat (first | apply czxn | apply czxd | apply czxa)); refine blk_far ?_ NB209_211.1 _; (with_reducible repeat (first | apply czxn | apply czxd | apply czxa)); refine blk_far ?_ NB209_211.1 _; (with_reducible repeat (first | apply czxn | apply czxd | apply czxa)); refine blk_far ?_ NB209_211.1 _; (with_reducible repeat (first | apply czxn | apply czxd | apply czxa)); refine blk_far ?_ NB209_211.1 _; (with_reducible repeat (first | apply czxn | apply czxd | apply czxa)); refine blk_far ?_ NB209_211.1 _; (with_reducible repeat (first | apply czxn | apply czxd | apply czxa)); refine blk_far ?_ NB209_211.1 _; (with_reducible repeat (first | apply czxn | apply czxd | apply czxa)); exact BK209.1⟩, ⟨by (with_reducible repeat (first | apply czxn | apply czxd | apply czxa)); refine blk_put (cs := #[.int .i64 a0_1, .int .i64 a0_2, .int .i64 a0_3, .int .i64 a0_4, .int .i64 a0_5, .int .i64 a0_6, .int .i64 0]) ?_ 6 _ rfl; (with_reducible repeat (first | apply czxn | apply czxd | apply czxa)); refine blk_put (cs := #[.int .i64 a0_1, .int .i64 a0_2, .int .i64 a0_3, .int .i64 a0_4, .int .i64 a0_5, .int .i64 0, .int .i64 0]) ?_ 5 _ rfl; (with_reducible repeat (first | apply czxn | apply czxd | apply czxa)); refine blk_put (cs := #[.int .i64 a0_1, .int .i64 a0_2, .int .i64 a0_3, .int .i64 a0_4, .int .i64 0, .int .i64 0, .int .i64 0]) ?_ 4 _ rfl; (with_reducible repeat (first | apply czxn | apply czxd | apply czxa)); refine blk_put (cs := #[.int .i64 a0_1, .int .i64 a0_2, .int .i64 a0_3, .int .i64 0, .int .i64 0, .int .i64 0, .int .i64 0]) ?_ 3 _ rfl; (with_reducible repeat (first | apply czxn | apply czxd | apply czxa)); refine blk_put (cs := #[.int .i64 a0_1, .int .i64 a0_2, .int .i64 0, .int .i64 0, .int .i64 0, .int .i64 0, .int .i64 0]) ?_ 2 _ rfl; (with_reducible repeat (first | apply czxn | apply czxd | apply czxa)); refine blk_put (cs := #[.int .i64 a0_1, .int .i64 0, .int .i64 0, .int .i64 0, .int .i64 0, .int .i64 0, .int .i64 0]) ?_ 1 _ rfl; (with_reducible repeat (first | apply czxn | apply czxd | apply czxa)); refine blk_put (cs := #[.int .i64 0, .int .i64 0, .int .i64 0, .int .i64 0, .int .i64 0, .int .i64 0, .int .i64 0]) ?_ 0 _ rfl; (with_reducible repeat (first | apply czxn | apply czxd | apply czxa)); exact BK211.1⟩, ⟨czbl2 HB GE209 GE211⟩⟩
   ·
    replace c11 := Bool.eq_false_iff.mpr c11
    subst c11
    have H1 : (vendmeterref_ReceiptFault.j0 k true a0_0 a0_1 a0_2 a0_3 a0_4 a0_5 a0_6 a0_7 a0_8 a0_1 a0_2 a0_3 a0_4 a0_5 a0_6 a0_7) = some r := by rw [if_neg (show ¬ (false = true) by decide)] at H; exact H
    clear H
    have H := H1
    clear H1
    have H' := am H
    clear H
    have hnb23 := NB211_209.1
    have hnc23 := NB209_211.1
    obtain ⟨hcz24_0, hcz24_1, hcz24_2, hcz24_3, hcz24_4, hcz24_5, hcz24_6⟩ := czc7 BK211.1
    obtain ⟨hfz24_0, hfz24_1, hfz24_2, hfz24_3, hfz24_4, hfz24_5, hfz24_6⟩ := czf7 BK211.1
    go_wp2_with (first | ((with_reducible refine gate_callee (f := 38) rfl ?_); refine czgo (some 14) Tryz.func38 #[.int .i64 a0_2, .int .i64 0, .int .i64 100000000] ?_; (with_reducible refine (vendmeterref_In.calls a0_2 0 100000000 false _ A10.out).mono ?_); rintro e w' ⟨rfl, ⟨nd, rfl⟩⟩; refine ⟨_, rfl, ?_⟩))
    go_meet
    case rel => exact ⟨_, (true), czr, H', ⟨by first | omega | exact Nat.le_refl _⟩, ⟨by (with_reducible repeat (first | apply czxn | apply czxd | apply czxa)); refine blk_far ?_ NB209_211.1 _; (with_reducible repeat (first | apply czxn | apply czxd | apply czxa)); refine blk_far ?_ NB209_211.1 _; (with_reducible repeat (first | apply czxn | apply czxd | apply czxa)); refine blk_far ?_ NB209_211.1 _; (with_reducible repeat (first | apply czxn | apply czxd | apply czxa)); refine blk_far ?_ NB209_211.1 _; (with_reducible repeat (first | apply czxn | apply czxd | apply czxa)); refine blk_far ?_ NB209_211.1 _; (with_reducible repeat (first | apply czxn | apply czxd | apply czxa)); refine blk_far ?_ NB209_211.1 _; (with_reducible repeat (first | apply czxn | apply czxd | apply czxa)); refine blk_far ?_ NB209_211.1 _; (with_reducible repeat (first | apply czxn | apply czxd | apply czxa)); exact BK209.1⟩, ⟨by (with_reducible repeat (first | apply czxn | apply czxd | apply czxa)); refine blk_put (cs := #[.int .i64 a0_1, .int .i64 a0_2, .int .i64 a0_3, .int .i64 a0_4, .int .i64 a0_5, .int .i64 a0_6, .int .i64 0]) ?_ 6 _ rfl; (with_reducible repeat (first | apply czxn | apply czxd | apply czxa)); refine blk_put (cs := #[.int .i64 a0_1, .int .i64 a0_2, .int .i64 a0_3, .int .i64 a0_4, .int .i64 a0_5, .int .i64 0, .int .i64 0]) ?_ 5 _ rfl; (with_reducible repeat (first | apply czxn | apply czxd | apply czxa)); refine blk_put (cs := #[.int .i64 a0_1, .int .i64 a0_2, .int .i64 a0_3, .int .i64 a0_4, .int .i64 0, .int .i64 0, .int .i64 0]) ?_ 4 _ rfl; (with_reducible repeat (first | apply czxn | apply czxd | apply czxa)); refine blk_put (cs := #[.int .i64 a0_1, .int .i64 a0_2, .int .i64 a0_3, .int .i64 0, .int .i64 0, .int .i64 0, .int .i64 0]) ?_ 3 _ rfl; (with_reducible repeat (first | apply czxn | apply czxd | apply czxa)); refine blk_put (cs := #[.int .i64 a0_1, .int .i64 a0_2, .int .i64 0, .int .i64 0, .int .i64 0, .int .i64 0, .int .i64 0]) ?_ 2 _ rfl; (with_reducible repeat (first | apply czxn | apply czxd | apply czxa)); refine blk_put (cs := #[.int .i64 a0_1, .int .i64 0, .int .i64 0, .int .i64 0, .int .i64 0, .int .i64 0, .int .i64 0]) ?_ 1 _ rfl; (with_reducible repeat (first | apply czxn | apply czxd | apply czxa)); refine blk_put (cs := #[.int .i64 0, .int .i64 0, .int .i64 0, .int .i64 0, .int .i64 0, .int .i64 0, .int .i64 0]) ?_ 0 _ rfl; (with_reducible repeat (first | apply czxn | apply czxd | apply czxa)); exact BK211.1⟩, ⟨czbl2 HB GE209 GE211⟩⟩
  case rest =>
   clear HC4
   try clear c1
   try clear c2
   try clear p2
   try clear c3
   try clear c8
   try clear c11
   try clear c13
   try clear c15
   try clear c17
   try clear c19
   try clear c21
   try clear c23
   try clear hcz18_0
   try clear hcz18_1
   try clear hcz18_2
   try clear hcz18_3
   try clear hcz18_4
   try clear hcz18_5
   try clear hcz18_6
   try clear hcz20_0
   try clear hcz20_1
   try clear hcz20_2
   try clear hcz20_3
   try clear hcz20_4
   try clear hcz20_5
   try clear hcz20_6
   try clear hcz22_0
   try clear hcz22_1
   try clear hcz22_2
   try clear hcz22_3
   try clear hcz22_4
   try clear hcz22_5
   try clear hcz22_6
   try clear hcz24_0
   try clear hcz24_1
   try clear hcz24_2
   try clear hcz24_3
   try clear hcz24_4
   try clear hcz24_5
   try clear hcz24_6
   try clear hcz6_0
   try clear hcz6_1
   try clear hcz6_2
   try clear hcz6_3
   try clear hcz6_4
   try clear hcz6_5
   try clear hcz6_6
   try clear hcz6_7
   try clear hcz6_8
   try clear hcz9_0
   try clear hcz9_1
   try clear hcz9_2
   try clear hcz9_3
   try clear hcz9_4
   try clear hcz9_5
   try clear hcz9_6
   try clear hfz18_0
   try clear hfz18_1
   try clear hfz18_2
   try clear hfz18_3
   try clear hfz18_4
   try clear hfz18_5
   try clear hfz18_6
   try clear hfz20_0
   try clear hfz20_1
   try clear hfz20_2
   try clear hfz20_3
   try clear hfz20_4
   try clear hfz20_5
   try clear hfz20_6
   try clear hfz22_0
   try clear hfz22_1
   try clear hfz22_2
   try clear hfz22_3
   try clear hfz22_4
   try clear hfz22_5
   try clear hfz22_6
   try clear hfz24_0
   try clear hfz24_1
   try clear hfz24_2
   try clear hfz24_3
   try clear hfz24_4
   try clear hfz24_5
   try clear hfz24_6
   try clear hfz6_0
   try clear hfz6_1
   try clear hfz6_2
   try clear hfz6_3
   try clear hfz6_4
   try clear hfz6_5
   try clear hfz6_6
   try clear hfz6_7
   try clear hfz6_8
   try clear hfz9_0
   try clear hfz9_1
   try clear hfz9_2
   try clear hfz9_3
   try clear hfz9_4
   try clear hfz9_5
   try clear hfz9_6
   obtain ⟨kq, x33_3, rfl, HA, HJ3, BK209, BK211, HB⟩ := hcut
   cases kq with
   | zero => exact absurd HA.out (by simp [vendmeterref_ReceiptFault.j0])
   | succ kj3 =>
    have H := HA.out
    clear HA
    simp only [vendmeterref_ReceiptFault.j0] at H
    by_cases c25 : x33_3 = true
    ·
     subst c25
     have H1 : (some 2) = some r := by rw [if_pos rfl] at H; exact H
     clear H
     have H := H1
     clear H1
     obtain rfl := Option.some.inj H
     go_wp2
     go_ret
     exact ⟨czeq, czbl2 HB GE209 GE211⟩
    ·
     replace c25 := Bool.eq_false_iff.mpr c25
     subst c25
     have H1 : ((vendmeterref_In.f a0_6 0 100000000).bind fun t216 => (if t216 = true then ((vendmeterref_In.f a0_1 1 1048575).bind fun t217 => (if t217 = true then ((vendmeterref_In.f a0_7 0 2097151).bind fun t218 => (vendmeterref_ReceiptFault.j1 kj3 (!t218) a0_0 a0_1 a0_2 a0_3 a0_4 a0_5 a0_6 a0_7 a0_8 a0_1 a0_2 a0_3 a0_4 a0_5 a0_6 a0_7)) else (vendmeterref_ReceiptFault.j1 kj3 true a0_0 a0_1 a0_2 a0_3 a0_4 a0_5 a0_6 a0_7 a0_8 a0_1 a0_2 a0_3 a0_4 a0_5 a0_6 a0_7))) else (vendmeterref_ReceiptFault.j1 kj3 true a0_0 a0_1 a0_2 a0_3 a0_4 a0_5 a0_6 a0_7 a0_8 a0_1 a0_2 a0_3 a0_4 a0_5 a0_6 a0_7))) = some r := by rw [if_neg (show ¬ (false = true) by decide)] at H; exact H
     clear H
     have H := H1
     clear H1
     have HC26 := am H
     clear H
     go_upto_region 6 with (fail)
     go_cut [49] (fun v49 wc => ∃ (kq : Nat) (x49_25 : Bool), v49 = .bool x49_25 ∧ Aside0 (vendmeterref_ReceiptFault.j1 kq x49_25 a0_0 a0_1 a0_2 a0_3 a0_4 a0_5 a0_6 a0_7 a0_8 a0_1 a0_2 a0_3 a0_4 a0_5 a0_6 a0_7 = some r) ∧ Aside0 (kq ≤ kj3) ∧ Aside0 (wc.heap[gb209]? = some (.cells #[.int .i64 a0_0, .int .i64 a0_1, .int .i64 a0_2, .int .i64 a0_3, .int .i64 a0_4, .int .i64 a0_5, .int .i64 a0_6, .int .i64 a0_7, .string a0_8] 25 (0, 0))) ∧ Aside0 (wc.heap[gb211]? = some (.cells #[.int .i64 a0_1, .int .i64 a0_2, .int .i64 a0_3, .int .i64 a0_4, .int .i64 a0_5, .int .i64 a0_6, .int .i64 a0_7] 23 (0, 0))) ∧ Aside0 (Below w.heap.size w wc))
     case first =>
      have H := HC26.out
      clear HC26
      replace H := Option.bind_eq_some_iff.mp H
      obtain ⟨t216, A270, H⟩ := H
      (try dsimp only at H)
      have A27 := am A270
      clear A270
      by_cases c28 : t216 = true
      ·
       subst c28
       have H1 : ((vendmeterref_In.f a0_1 1 1048575).bind fun t217 => (if t217 = true then ((vendmeterref_In.f a0_7 0 2097151).bind fun t218 => (vendmeterref_ReceiptFault.j1 kj3 (!t218) a0_0 a0_1 a0_2 a0_3 a0_4 a0_5 a0_6 a0_7 a0_8 a0_1 a0_2 a0_3 a0_4 a0_5 a0_6 a0_7)) else (vendmeterref_ReceiptFault.j1 kj3 true a0_0 a0_1 a0_2 a0_3 a0_4 a0_5 a0_6 a0_7 a0_8 a0_1 a0_2 a0_3 a0_4 a0_5 a0_6 a0_7))) = some r := by rw [if_pos rfl] at H; exact H
       clear H
       have H := H1
       clear H1
       replace H := Option.bind_eq_some_iff.mp H
       obtain ⟨t217, A290, H⟩ := H
       (try dsimp only at H)
       have A29 := am A290
       clear A290
       by_cases c30 : t217 = true
       ·
        subst c30
        have H1 : ((vendmeterref_In.f a0_7 0 2097151).bind fun t218 => (vendmeterref_ReceiptFault.j1 kj3 (!t218) a0_0 a0_1 a0_2 a0_3 a0_4 a0_5 a0_6 a0_7 a0_8 a0_1 a0_2 a0_3 a0_4 a0_5 a0_6 a0_7)) = some r := by rw [if_pos rfl] at H; exact H
        clear H
        have H := H1
        clear H1
        replace H := Option.bind_eq_some_iff.mp H
        obtain ⟨t218, A310, H⟩ := H
        (try dsimp only at H)
        have A31 := am A310
        clear A310
        have H' := am H
        clear H
        have hnb32 := NB211_209.1
        have hnc32 := NB209_211.1
        obtain ⟨hcz33_0, hcz33_1, hcz33_2, hcz33_3, hcz33_4, hcz33_5, hcz33_6⟩ := czc7 BK211.1
        obtain ⟨hfz33_0, hfz33_1, hfz33_2, hfz33_3, hfz33_4, hfz33_5, hfz33_6⟩ := czf7 BK211.1
        go_wp2_with (first | ((with_reducible refine gate_callee (f := 38) rfl ?_); refine czgo (some 36) Tryz.func38 #[.int .i64 a0_6, .int .i64 0, .int .i64 100000000] ?_; (with_reducible refine (vendmeterref_In.calls a0_6 0 100000000 true _ A27.out).mono ?_); rintro e w' ⟨rfl, ⟨nd, rfl⟩⟩; refine ⟨_, rfl, ?_⟩) | (go_at_call 38; (with_reducible refine (vendmeterref_In.calls a0_1 1 1048575 true _ A29.out).mono ?_); rintro e w' ⟨rfl, ⟨nd, rfl⟩⟩) | (go_at_call 38; (with_reducible refine (vendmeterref_In.calls a0_7 0 2097151 t218 _ A31.out).mono ?_); rintro e w' ⟨rfl, ⟨nd, rfl⟩⟩))
        go_meet
        case rel => exact ⟨_, (!t218), czr, H', ⟨by have := HJ3.out; first | omega | exact Nat.le_refl _⟩, ⟨czbk BK209⟩, ⟨czbk BK211⟩, ⟨czbl2 HB GE209 GE211⟩⟩
       ·
        replace c30 := Bool.eq_false_iff.mpr c30
        subst c30
        have H1 : (vendmeterref_ReceiptFault.j1 kj3 true a0_0 a0_1 a0_2 a0_3 a0_4 a0_5 a0_6 a0_7 a0_8 a0_1 a0_2 a0_3 a0_4 a0_5 a0_6 a0_7) = some r := by rw [if_neg (show ¬ (false = true) by decide)] at H; exact H
        clear H
        have H := H1
        clear H1
        have H' := am H
        clear H
        have hnb34 := NB211_209.1
        have hnc34 := NB209_211.1
        obtain ⟨hcz35_0, hcz35_1, hcz35_2, hcz35_3, hcz35_4, hcz35_5, hcz35_6⟩ := czc7 BK211.1
        obtain ⟨hfz35_0, hfz35_1, hfz35_2, hfz35_3, hfz35_4, hfz35_5, hfz35_6⟩ := czf7 BK211.1
        go_wp2_with (first | ((with_reducible refine gate_callee (f := 38) rfl ?_); refine czgo (some 36) Tryz.func38 #[.int .i64 a0_6, .int .i64 0, .int .i64 100000000] ?_; (with_reducible refine (vendmeterref_In.calls a0_6 0 100000000 true _ A27.out).mono ?_); rintro e w' ⟨rfl, ⟨nd, rfl⟩⟩; refine ⟨_, rfl, ?_⟩) | (go_at_call 38; (with_reducible refine (vendmeterref_In.calls a0_1 1 1048575 false _ A29.out).mono ?_); rintro e w' ⟨rfl, ⟨nd, rfl⟩⟩))
        go_meet
        case rel => exact ⟨_, (true), czr, H', ⟨by have := HJ3.out; first | omega | exact Nat.le_refl _⟩, ⟨czbk BK209⟩, ⟨czbk BK211⟩, ⟨czbl2 HB GE209 GE211⟩⟩
      ·
       replace c28 := Bool.eq_false_iff.mpr c28
       subst c28
       have H1 : (vendmeterref_ReceiptFault.j1 kj3 true a0_0 a0_1 a0_2 a0_3 a0_4 a0_5 a0_6 a0_7 a0_8 a0_1 a0_2 a0_3 a0_4 a0_5 a0_6 a0_7) = some r := by rw [if_neg (show ¬ (false = true) by decide)] at H; exact H
       clear H
       have H := H1
       clear H1
       have H' := am H
       clear H
       have hnb36 := NB211_209.1
       have hnc36 := NB209_211.1
       obtain ⟨hcz37_0, hcz37_1, hcz37_2, hcz37_3, hcz37_4, hcz37_5, hcz37_6⟩ := czc7 BK211.1
       obtain ⟨hfz37_0, hfz37_1, hfz37_2, hfz37_3, hfz37_4, hfz37_5, hfz37_6⟩ := czf7 BK211.1
       go_wp2_with (first | ((with_reducible refine gate_callee (f := 38) rfl ?_); refine czgo (some 36) Tryz.func38 #[.int .i64 a0_6, .int .i64 0, .int .i64 100000000] ?_; (with_reducible refine (vendmeterref_In.calls a0_6 0 100000000 false _ A27.out).mono ?_); rintro e w' ⟨rfl, ⟨nd, rfl⟩⟩; refine ⟨_, rfl, ?_⟩))
       go_meet
       case rel => exact ⟨_, (true), czr, H', ⟨by have := HJ3.out; first | omega | exact Nat.le_refl _⟩, ⟨czbk BK209⟩, ⟨czbk BK211⟩, ⟨czbl2 HB GE209 GE211⟩⟩
     case rest =>
      clear HC26
      try clear c1
      try clear c2
      try clear p2
      try clear c3
      try clear c8
      try clear c11
      try clear c13
      try clear c15
      try clear c17
      try clear c19
      try clear c21
      try clear c23
      try clear c25
      try clear c28
      try clear c30
      try clear c32
      try clear c34
      try clear c36
      try clear hcz18_0
      try clear hcz18_1
      try clear hcz18_2
      try clear hcz18_3
      try clear hcz18_4
      try clear hcz18_5
      try clear hcz18_6
      try clear hcz20_0
      try clear hcz20_1
      try clear hcz20_2
      try clear hcz20_3
      try clear hcz20_4
      try clear hcz20_5
      try clear hcz20_6
      try clear hcz22_0
      try clear hcz22_1
      try clear hcz22_2
      try clear hcz22_3
      try clear hcz22_4
      try clear hcz22_5
      try clear hcz22_6
      try clear hcz24_0
      try clear hcz24_1
      try clear hcz24_2
      try clear hcz24_3
      try clear hcz24_4
      try clear hcz24_5
      try clear hcz24_6
      try clear hcz33_0
      try clear hcz33_1
      try clear hcz33_2
      try clear hcz33_3
      try clear hcz33_4
      try clear hcz33_5
      try clear hcz33_6
      try clear hcz35_0
      try clear hcz35_1
      try clear hcz35_2
      try clear hcz35_3
      try clear hcz35_4
      try clear hcz35_5
      try clear hcz35_6
      try clear hcz37_0
      try clear hcz37_1
      try clear hcz37_2
      try clear hcz37_3
      try clear hcz37_4
      try clear hcz37_5
      try clear hcz37_6
      try clear hcz6_0
      try clear hcz6_1
      try clear hcz6_2
      try clear hcz6_3
      try clear hcz6_4
      try clear hcz6_5
      try clear hcz6_6
      try clear hcz6_7
      try clear hcz6_8
      try clear hcz9_0
      try clear hcz9_1
      try clear hcz9_2
      try clear hcz9_3
      try clear hcz9_4
      try clear hcz9_5
      try clear hcz9_6
      try clear hfz18_0
      try clear hfz18_1
      try clear hfz18_2
      try clear hfz18_3
      try clear hfz18_4
      try clear hfz18_5
      try clear hfz18_6
      try clear hfz20_0
      try clear hfz20_1
      try clear hfz20_2
      try clear hfz20_3
      try clear hfz20_4
      try clear hfz20_5
      try clear hfz20_6
      try clear hfz22_0
      try clear hfz22_1
      try clear hfz22_2
      try clear hfz22_3
      try clear hfz22_4
      try clear hfz22_5
      try clear hfz22_6
      try clear hfz24_0
      try clear hfz24_1
      try clear hfz24_2
      try clear hfz24_3
      try clear hfz24_4
      try clear hfz24_5
      try clear hfz24_6
      try clear hfz33_0
      try clear hfz33_1
      try clear hfz33_2
      try clear hfz33_3
      try clear hfz33_4
      try clear hfz33_5
      try clear hfz33_6
      try clear hfz35_0
      try clear hfz35_1
      try clear hfz35_2
      try clear hfz35_3
      try clear hfz35_4
      try clear hfz35_5
      try clear hfz35_6
      try clear hfz37_0
      try clear hfz37_1
      try clear hfz37_2
      try clear hfz37_3
      try clear hfz37_4
      try clear hfz37_5
      try clear hfz37_6
      try clear hfz6_0
      try clear hfz6_1
      try clear hfz6_2
      try clear hfz6_3
      try clear hfz6_4
      try clear hfz6_5
      try clear hfz6_6
      try clear hfz6_7
      try clear hfz6_8
      try clear hfz9_0
      try clear hfz9_1
      try clear hfz9_2
      try clear hfz9_3
      try clear hfz9_4
      try clear hfz9_5
      try clear hfz9_6
      try clear p2
      obtain ⟨kq, x49_25, rfl, HA, HJ25, BK209, BK211, HB⟩ := hcut
      cases kq with
      | zero => exact absurd HA.out (by simp [vendmeterref_ReceiptFault.j1])
      | succ kj25 =>
       have H := HA.out
       clear HA
       simp only [vendmeterref_ReceiptFault.j1] at H
       by_cases c38 : x49_25 = true
       ·
        subst c38
        have H1 : (some 2) = some r := by rw [if_pos rfl] at H; exact H
        clear H
        have H := H1
        clear H1
        obtain rfl := Option.some.inj H
        go_wp2
        go_ret
        exact ⟨czeq, czbl2 HB GE209 GE211⟩
       ·
        replace c38 := Bool.eq_false_iff.mpr c38
        subst c38
        have H1 : (if (wrap64 ((wrap64 ((wrap64 ((wrap64 (a0_2 - a0_3)) - a0_4)) - a0_5)) - a0_6)) = 0 then ((vendmeterref_Parsed.f kj25 a0_8).bind fun bt219 => (if bt219.2.2.2.2 = 0 then (if bt219.2.1 = a0_1 then (if bt219.1 = 0 then (if bt219.2.2.1 = a0_7 then (some 0) else (some 8)) else (if a0_7 = 0 then (some 0) else (some 8))) else (some 8)) else (some bt219.2.2.2.2))) else (some 19)) = some r := by rw [if_neg (show ¬ (false = true) by decide)] at H; exact H
        clear H
        have H := H1
        clear H1
        revert H
        refine czei (fun c39b0 c39b1 H => ?_) (fun c39 c39b0 c39b1 H => ?_)
        ·
         replace H := Option.bind_eq_some_iff.mp H
         obtain ⟨⟨t219, t220, t221, t222, t223⟩, A400, H⟩ := H
         (try dsimp only at H)
         have A40 := am A400
         clear A400
         have HC41 := am H
         clear H
         have hnb42 := NB211_209.1
         have hnc42 := NB209_211.1
         obtain ⟨hcz43_0, hcz43_1, hcz43_2, hcz43_3, hcz43_4, hcz43_5, hcz43_6⟩ := czc7 BK211.1
         obtain ⟨hfz43_0, hfz43_1, hfz43_2, hfz43_3, hfz43_4, hfz43_5, hfz43_6⟩ := czf7 BK211.1
         obtain ⟨hcz44_0, hcz44_1, hcz44_2, hcz44_3, hcz44_4, hcz44_5, hcz44_6, hcz44_7, hcz44_8⟩ := czc9 BK209.1
         obtain ⟨hfz44_0, hfz44_1, hfz44_2, hfz44_3, hfz44_4, hfz44_5, hfz44_6, hfz44_7, hfz44_8⟩ := czf9 BK209.1
         go_upto_region 11 with (first | ((with_reducible refine gate_callee (f := 39) rfl ?_); refine czgo (some 68) Tryz.func39 #[.string a0_8] ?_; (with_reducible refine (vendmeterref_Parsed.calls kj25 a0_8 t219 t220 t221 t222 t223 _ A40.out).mono ?_); rintro e w45 ⟨rfl, hb⟩; refine ⟨_, rfl, ?_⟩; replace BK209 := czbb BK209 hb; replace BK211 := czbb BK211 hb; replace HB := am (below_step (czbl2 HB GE209 GE211) hb); (try clear hb hb2 hk hi)) | ((with_reducible refine gate_dst (N := 4) rfl ?_); refine czbox 4 #[.int .i64 0, .int .i64 0, .int .i64 0, .int .i64 0] 67 ?_; intro gb224 hg w46 hbox hb; have BK224 := am (hbox); have GW224 := czsz hg (czbl2 HB GE209 GE211); have GE224 := czsz hg (czbl2 HB GE209 GE211); have NB209_224 := czne BK209 hg; have NB224_209 := czen BK209 hg; have NB211_224 := czne BK211 hg; have NB224_211 := czen BK211 hg; replace BK209 := czbb BK209 hb; replace BK211 := czbb BK211 hb; replace HB := am (below_step (czbl2 HB GE209 GE211) hb); clear hb hbox hg; have hnb47 := NB224_209.1; have hnc47 := NB209_224.1; have hnb48 := NB224_211.1; have hnc48 := NB211_224.1; obtain ⟨hcz49_0, hcz49_1, hcz49_2, hcz49_3⟩ := czc4 BK224.1; obtain ⟨hfz49_0, hfz49_1, hfz49_2, hfz49_3⟩ := czf4 BK224.1))
         have H := HC41.out
         clear HC41
         revert H
         refine czei (fun c50b0 c50b1 H => ?_) (fun c50 c50b0 c50b1 H => ?_)
         ·
          revert H
          refine czei (fun c51b0 c51b1 H => ?_) (fun c51 c51b0 c51b1 H => ?_)
          ·
           revert H
           refine czei (fun c52b0 c52b1 H => ?_) (fun c52 c52b0 c52b1 H => ?_)
           ·
            revert H
            refine czei (fun c53b0 c53b1 H => ?_) (fun c53 c53b0 c53b1 H => ?_)
            ·
             obtain rfl := Option.some.inj H
             have hnb54 := NB224_209.1
             have hnc54 := NB209_224.1
             have hnb55 := NB224_211.1
             have hnc55 := NB211_224.1
             obtain ⟨hcz56_0, hcz56_1, hcz56_2, hcz56_3⟩ := czc4 BK224.1
             obtain ⟨hfz56_0, hfz56_1, hfz56_2, hfz56_3⟩ := czf4 BK224.1
             have hnb57 := NB211_209.1
             have hnc57 := NB209_211.1
             obtain ⟨hcz58_0, hcz58_1, hcz58_2, hcz58_3, hcz58_4, hcz58_5, hcz58_6⟩ := czc7 BK211.1
             obtain ⟨hfz58_0, hfz58_1, hfz58_2, hfz58_3, hfz58_4, hfz58_5, hfz58_6⟩ := czf7 BK211.1
             go_wp2
             go_ret
             exact ⟨czeq, czbl3 HB GE209 GE211 GE224⟩
            ·
             obtain rfl := Option.some.inj H
             have hnb59 := NB224_209.1
             have hnc59 := NB209_224.1
             have hnb60 := NB224_211.1
             have hnc60 := NB211_224.1
             obtain ⟨hcz61_0, hcz61_1, hcz61_2, hcz61_3⟩ := czc4 BK224.1
             obtain ⟨hfz61_0, hfz61_1, hfz61_2, hfz61_3⟩ := czf4 BK224.1
             have hnb62 := NB211_209.1
             have hnc62 := NB209_211.1
             obtain ⟨hcz63_0, hcz63_1, hcz63_2, hcz63_3, hcz63_4, hcz63_5, hcz63_6⟩ := czc7 BK211.1
             obtain ⟨hfz63_0, hfz63_1, hfz63_2, hfz63_3, hfz63_4, hfz63_5, hfz63_6⟩ := czf7 BK211.1
             go_wp2
             go_ret
             exact ⟨czeq, czbl3 HB GE209 GE211 GE224⟩
           ·
            revert H
            refine czei (fun c64b0 c64b1 H => ?_) (fun c64 c64b0 c64b1 H => ?_)
            ·
             obtain rfl := Option.some.inj H
             have hnb65 := NB224_209.1
             have hnc65 := NB209_224.1
             have hnb66 := NB224_211.1
             have hnc66 := NB211_224.1
             obtain ⟨hcz67_0, hcz67_1, hcz67_2, hcz67_3⟩ := czc4 BK224.1
             obtain ⟨hfz67_0, hfz67_1, hfz67_2, hfz67_3⟩ := czf4 BK224.1
             have hnb68 := NB211_209.1
             have hnc68 := NB209_211.1
             obtain ⟨hcz69_0, hcz69_1, hcz69_2, hcz69_3, hcz69_4, hcz69_5, hcz69_6⟩ := czc7 BK211.1
             obtain ⟨hfz69_0, hfz69_1, hfz69_2, hfz69_3, hfz69_4, hfz69_5, hfz69_6⟩ := czf7 BK211.1
             go_wp2
             go_ret
             exact ⟨czeq, czbl3 HB GE209 GE211 GE224⟩
            ·
             obtain rfl := Option.some.inj H
             have hnb70 := NB224_209.1
             have hnc70 := NB209_224.1
             have hnb71 := NB224_211.1
             have hnc71 := NB211_224.1
             obtain ⟨hcz72_0, hcz72_1, hcz72_2, hcz72_3⟩ := czc4 BK224.1
             obtain ⟨hfz72_0, hfz72_1, hfz72_2, hfz72_3⟩ := czf4 BK224.1
             have hnb73 := NB211_209.1
             have hnc73 := NB209_211.1
             obtain ⟨hcz74_0, hcz74_1, hcz74_2, hcz74_3, hcz74_4, hcz74_5, hcz74_6⟩ := czc7 BK211.1
             obtain ⟨hfz74_0, hfz74_1, hfz74_2, hfz74_3, hfz74_4, hfz74_5, hfz74_6⟩ := czf7 BK211.1
             go_wp2
             go_ret
             exact ⟨czeq, czbl3 HB GE209 GE211 GE224⟩
          ·
           obtain rfl := Option.some.inj H
           have hnb75 := NB224_209.1
           have hnc75 := NB209_224.1
           have hnb76 := NB224_211.1
           have hnc76 := NB211_224.1
           obtain ⟨hcz77_0, hcz77_1, hcz77_2, hcz77_3⟩ := czc4 BK224.1
           obtain ⟨hfz77_0, hfz77_1, hfz77_2, hfz77_3⟩ := czf4 BK224.1
           have hnb78 := NB211_209.1
           have hnc78 := NB209_211.1
           obtain ⟨hcz79_0, hcz79_1, hcz79_2, hcz79_3, hcz79_4, hcz79_5, hcz79_6⟩ := czc7 BK211.1
           obtain ⟨hfz79_0, hfz79_1, hfz79_2, hfz79_3, hfz79_4, hfz79_5, hfz79_6⟩ := czf7 BK211.1
           go_wp2
           go_ret
           exact ⟨czeq, czbl3 HB GE209 GE211 GE224⟩
         ·
          obtain rfl := Option.some.inj H
          go_wp2
          go_ret
          exact ⟨czeq, czbl3 HB GE209 GE211 GE224⟩
        ·
         obtain rfl := Option.some.inj H
         have hnb80 := NB211_209.1
         have hnc80 := NB209_211.1
         obtain ⟨hcz81_0, hcz81_1, hcz81_2, hcz81_3, hcz81_4, hcz81_5, hcz81_6⟩ := czc7 BK211.1
         obtain ⟨hfz81_0, hfz81_1, hfz81_2, hfz81_3, hfz81_4, hfz81_5, hfz81_6⟩ := czf7 BK211.1
         go_wp2
         go_ret
         exact ⟨czeq, czbl2 HB GE209 GE211⟩
 ·
  replace c3 := Bool.eq_false_iff.mpr c3
  subst c3
  have H1 : (some 18) = some r := by rw [if_neg (show ¬ (false = true) by decide)] at H; exact H
  clear H
  have H := H1
  clear H1
  obtain rfl := Option.some.inj H
  go_enter Tryz.func17, Tryz.ntmps17
  go_wp2_with (first | ((with_reducible refine gate_dst (N := 1) rfl ?_); refine czbox 1 #[.int .i64 a0_0, .int .i64 a0_1, .int .i64 a0_2, .int .i64 a0_3, .int .i64 a0_4, .int .i64 a0_5, .int .i64 a0_6, .int .i64 a0_7, .string a0_8] 25 ?_; intro gb209 hg w82 hbox hb; have BK209 := am (hbox); have GW209 := czsz hg (czbl HB); have GE209 := czsz hg (czbl HB); replace HB := am (below_step (czbl HB) hb); clear hb hbox hg; obtain ⟨hcz83_0, hcz83_1, hcz83_2, hcz83_3, hcz83_4, hcz83_5, hcz83_6, hcz83_7, hcz83_8⟩ := czc9 BK209.1; obtain ⟨hfz83_0, hfz83_1, hfz83_2, hfz83_3, hfz83_4, hfz83_5, hfz83_6, hfz83_7, hfz83_8⟩ := czf9 BK209.1) | ((with_reducible refine gate_callee (f := 38) rfl ?_); refine czgo (some 8) Tryz.func38 #[.int .i64 a0_0, .int .i64 0, .int .i64 49] ?_; (with_reducible refine (vendmeterref_In.calls a0_0 0 49 false _ A2.out).mono ?_); rintro e w' ⟨rfl, ⟨nd, rfl⟩⟩; refine ⟨_, rfl, ?_⟩))
  go_ret
  exact ⟨czeq, czbl1 HB GE209⟩

end Go.Proofs.YtocolmpfpbclbaaGreatDoor.PReceiptShows
