-- written by this session's program wip/xp/xprint.py (it drives the kit's print and adds to it)
import Derived.Test.YtoookcmablnjfaaDoorPTokenParsesx0
import Derived.Test.YtoookcmablnjfaaDoorPTokenParsesx1
import Derived.Test.YtoookcmablnjfaaDoorPTokenParsesx4
import Derived.Test.YtoookcmablnjfaaDoorPTokenParsesx7
namespace Go.Proofs.YtoookcmablnjfaaDoor.PTokenParses
open Go.RowKit Go.Proofs.YtoookcmablnjfaaDoorW.PrintWords Go.Proofs.YtoookcmablnjfaaDoorW.PrintLast Go.Proofs.YtoookcmablnjfaaDoorW.PrintMore
attribute [local go_sem] max2_int min2_int max_two min_two max_three min_three max_four min_four   -- for this text's walks alone
set_option linter.unusedVariables false
set_option linter.unusedSimpArgs false

attribute [local go_sem high] eqA23
/-! ### vendmeterlaw_TokenParses: function 3 -/
theorem xa3 {w : World} {g : Nat} {o : Obj} (h : w.heap[g]? = some o) (o' : Obj) : (w.alloc o').heap[g]? = some o := blk_alloc h o'
theorem xd3 {w : World} {g : Nat} {o : Obj} (h : w.heap[g]? = some o) : w.drew.heap[g]? = some o := blk_drew h
theorem xn3 {w : World} {g : Nat} {o : Obj} (h : w.heap[g]? = some o) (n : Nat) : (w.drewN n).heap[g]? = some o := blk_drewN h n
theorem ya3 {w W : World} (h : Below w.heap.size w W) (o : Obj) : Below w.heap.size w (W.alloc o) := below_alloc h o
theorem yn3 {B : Nat} {w W : World} (h : Below B w W) (n : Nat) : Below B w (W.drewN n) := pw_below_drewN h n
theorem yd3 {B : Nat} {w W : World} (h : Below B w W) : Below B w W.drew := below_drew1 h
theorem c4_3 {w : World} {g : Nat} {t : TypeId} {x0 x1 x2 x3 : Value} {r : List Value} (h : w.heap[g]? = some (.cells (List.toArray (x0 :: x1 :: x2 :: x3 :: r)) t (0, 0))) : w.cell? ⟨g, 0, none⟩ = some x0 ∧ w.cell? ⟨g, 1, none⟩ = some x1 ∧ w.cell? ⟨g, 2, none⟩ = some x2 ∧ w.cell? ⟨g, 3, none⟩ = some x3 := ⟨(blk_cell h 0).trans rfl, (blk_cell h 1).trans rfl, (blk_cell h 2).trans rfl, (blk_cell h 3).trans rfl⟩
theorem f4_3 {w : World} {g : Nat} {t : TypeId} {cs : Array Value} (h : w.heap[g]? = some (.cells cs t (0, 0))) : w.frozen? ⟨g, 0, none⟩ = false ∧ w.frozen? ⟨g, 1, none⟩ = false ∧ w.frozen? ⟨g, 2, none⟩ = false ∧ w.frozen? ⟨g, 3, none⟩ = false := ⟨blk_frozen h 0, blk_frozen h 1, blk_frozen h 2, blk_frozen h 3⟩
def vendmeterlaw_TokenParses.f (k : Nat) (a0 : ByteArray) : Option (Bool) := (token_Parse.f a0).bind fun bt191 => ((vendmeterref_Parsed.f k a0).bind fun bt197 => (if (bt191.1 == bt197.1 && (bt191.2.1 == bt197.2.1 && (bt191.2.2.1 == bt197.2.2.1 && (bt191.2.2.2.1 == bt197.2.2.2.1)))) = true then (some (bt191.2.2.2.2 == bt197.2.2.2.2)) else (some false)))
theorem vendmeterlaw_TokenParses.mono : ∀ a0 k, LeO (vendmeterlaw_TokenParses.f k a0) (vendmeterlaw_TokenParses.f (k + 1) a0) := by
  intro a0 k
  unfold vendmeterlaw_TokenParses.f
  repeat' first
      | (with_reducible exact vendmeterref_Parsed.mono _ _)
      | (with_reducible exact LeO.refl _)
      | (with_reducible exact LeO.none _)
      | (with_reducible refine LeO.ite ?_ ?_)
      | (with_reducible refine LeO.bind ?_ (fun _ => ?_))
      | exact vendmeterref_Parsed.mono _ _
      | exact LeO.none _
      | refine LeO.ite ?_ ?_
      | refine LeO.bind ?_ (fun _ => ?_)
set_option maxHeartbeats 8000000 in
set_option maxRecDepth 100000 in
theorem vendmeterlaw_TokenParses.calls (k : Nat) (a0 : ByteArray) (r : Bool) (w : World) (h : vendmeterlaw_TokenParses.f k a0 = some r) :
    Calls Tryd.prog 3 #[.string a0] w fun e w' => e = .returned (.bool r) ∧ Below w.heap.size w w' := by
  have hu23 := Tryd.underlying23
  have HB := Aside0.mk (Below.refl w.heap.size w)
  have H : ((token_Parse.f a0).bind fun bt191 => ((vendmeterref_Parsed.f k a0).bind fun bt197 => (if (bt191.1 == bt197.1 && (bt191.2.1 == bt197.2.1 && (bt191.2.2.1 == bt197.2.2.1 && (bt191.2.2.2.1 == bt197.2.2.2.1)))) = true then (some (bt191.2.2.2.2 == bt197.2.2.2.2)) else (some false)))) = some r := h
  clear h
  replace H := Option.bind_eq_some_iff.mp H
  obtain ⟨⟨t191, t192, t193, t194, t195⟩, A20, H⟩ := H
  replace H : ((vendmeterref_Parsed.f k a0).bind fun bt197 => (if (t191 == bt197.1 && (t192 == bt197.2.1 && (t193 == bt197.2.2.1 && (t194 == bt197.2.2.2.1)))) = true then (some (t195 == bt197.2.2.2.2)) else (some false))) = some r := H
  have A2 := Aside0.mk A20
  clear A20
  replace H := Option.bind_eq_some_iff.mp H
  obtain ⟨⟨t197, t198, t199, t200, t201⟩, A30, H⟩ := H
  replace H : (if (t191 == t197 && (t192 == t198 && (t193 == t199 && (t194 == t200)))) = true then (some (t195 == t201)) else (some false)) = some r := H
  have A3 := Aside0.mk A30
  clear A30
  by_cases c4 : (t191 == t197 && (t192 == t198 && (t193 == t199 && (t194 == t200)))) = true
  · rw [if_pos c4] at H
    have c4b0 : (t191 == t197 && (t192 == t198 && (t193 == t199 && (t194 == t200)))) = true := c4
    (try (have c4b1 : decide (t191 = t197 && (t192 == t198 && (t193 == t199 && (t194 == t200)))) = true := by simpa using c4))
    (try (have c4b2 : (t191 == t197 && (t192 == t198 && (t193 == t199 && (t194 == t200)))) = true := by simpa using c4))
    clear c4
    obtain rfl := Option.some.inj H
    go_enter Tryd.func3, Tryd.ntmps3
    go_wp2_with (first | ((with_reducible refine gate_callee (f := 10) rfl ?_); refine goesL_ (some 9) rfl rfl Tryd.func10 (by kernel_rfl) rfl #[.string a0] rfl (by (try simp only [List.map_toArray, List.map_cons, List.map_nil]); first | done | rfl | (simp only [List.length_drop, List.length_take]; rfl)) ?_; (with_reducible refine (token_Parse.calls a0 t191 t192 t193 t194 t195 _ A2.out).mono ?_); rintro e w5 ⟨rfl, hb⟩; refine ⟨_, rfl, ?_⟩; have n0_ := Aside0.mk (below_step (by with_reducible repeat (first | exact HB.1 | apply ya3 | apply yn3 | apply yd3)) hb); clear HB; have HB := n0_; clear n0_; (try clear hb); (try clear hb2); (try clear hk); (try clear hi)) | ((with_reducible refine gate_dst (N := 3) rfl ?_); refine box_event ?hg (N := 3) ?hd (cs := #[.int .i64 0, .int .i64 0, .int .i64 0, .int .i64 0]) (t := 23) ?hr ?_; (case hd => rfl); (case hg => rfl); (case hr => first | (go_simp; done) | (go_simp; rfl)); intro gb196 hg w6 hbox hb; have n0_ := Aside0.mk (below_step (by with_reducible repeat (first | exact HB.1 | apply ya3 | apply yn3 | apply yd3)) hb); have n1_ := Aside0.mk (hbox); have n2_ := Aside0.mk ((by rw [hg]; exact (below_size (by with_reducible repeat (first | exact HB.1 | apply ya3 | apply yn3 | apply yd3))) : w.heap.size ≤ gb196)); have n3_ := n2_; clear HB; have HB := n0_; have BK196 := n1_; have GW196 := n2_; have GE196 := n3_; clear n0_ n1_ n2_ n3_; clear hb hbox hg; obtain ⟨hcz7_0, hcz7_1, hcz7_2, hcz7_3⟩ := c4_3 BK196.1; obtain ⟨hfz7_0, hfz7_1, hfz7_2, hfz7_3⟩ := f4_3 BK196.1) | ((with_reducible refine gate_callee (f := 11) rfl ?_); refine goesL_ (some 14) rfl rfl Tryd.func11 (by kernel_rfl) rfl #[.string a0] rfl (by (try simp only [List.map_toArray, List.map_cons, List.map_nil]); first | done | rfl | (simp only [List.length_drop, List.length_take]; rfl)) ?_; (with_reducible refine (vendmeterref_Parsed.calls k a0 t197 t198 t199 t200 t201 _ A3.out).mono ?_); rintro e w8 ⟨rfl, hb⟩; refine ⟨_, rfl, ?_⟩; have n0_ := Aside0.mk (blk_below (g := gb196) (o := .cells #[.int .i64 t191, .int .i64 t192, .int .i64 t193, .int .i64 t194] 23 (0, 0)) (by (with_reducible repeat (first | apply xn3 | apply xd3 | apply xa3)); refine blk_put (cs := #[.int .i64 t191, .int .i64 t192, .int .i64 t193, .int .i64 0]) ?_ 3 _ rfl; (with_reducible repeat (first | apply xn3 | apply xd3 | apply xa3)); refine blk_put (cs := #[.int .i64 t191, .int .i64 t192, .int .i64 0, .int .i64 0]) ?_ 2 _ rfl; (with_reducible repeat (first | apply xn3 | apply xd3 | apply xa3)); refine blk_put (cs := #[.int .i64 t191, .int .i64 0, .int .i64 0, .int .i64 0]) ?_ 1 _ rfl; (with_reducible repeat (first | apply xn3 | apply xd3 | apply xa3)); refine blk_put (cs := #[.int .i64 0, .int .i64 0, .int .i64 0, .int .i64 0]) ?_ 0 _ rfl; (with_reducible repeat (first | apply xn3 | apply xd3 | apply xa3)); exact BK196.1) hb); have n1_ := Aside0.mk (below_step (by with_reducible repeat (first | exact HB.1 | apply ya3 | apply yn3 | apply yd3 | refine below_set ?_ GE196.1)) hb); clear BK196; clear HB; have BK196 := n0_; have HB := n1_; clear n0_ n1_; (try clear hb); (try clear hb2); (try clear hk); (try clear hi)) | ((with_reducible refine gate_dst (N := 5) rfl ?_); refine box_event ?hg (N := 5) ?hd (cs := #[.int .i64 0, .int .i64 0, .int .i64 0, .int .i64 0]) (t := 23) ?hr ?_; (case hd => rfl); (case hg => rfl); (case hr => first | (go_simp; done) | (go_simp; rfl)); intro gb202 hg w9 hbox hb; have n0_ := Aside0.mk (blk_below (g := gb196) (o := .cells #[.int .i64 t191, .int .i64 t192, .int .i64 t193, .int .i64 t194] 23 (0, 0)) (by (with_reducible repeat (first | apply xn3 | apply xd3 | apply xa3)); exact BK196.1) hb); have n1_ := Aside0.mk (below_step (by with_reducible repeat (first | exact HB.1 | apply ya3 | apply yn3 | apply yd3 | refine below_set ?_ GE196.1)) hb); have n2_ := Aside0.mk (hbox); have n3_ := Aside0.mk ((by rw [hg]; exact (below_size (by with_reducible repeat (first | exact HB.1 | apply ya3 | apply yn3 | apply yd3 | refine below_set ?_ GE196.1))) : w.heap.size ≤ gb202)); have n4_ := n3_; have n5_ := Aside0.mk ((by rw [hg]; exact Nat.ne_of_lt (blk_lt (g := gb196) (o := .cells #[.int .i64 t191, .int .i64 t192, .int .i64 t193, .int .i64 t194] 23 (0, 0)) (by (with_reducible repeat (first | apply xn3 | apply xd3 | apply xa3)); exact BK196.1)) : gb196 ≠ gb202)); have n6_ := Aside0.mk ((by rw [hg]; exact Nat.ne_of_gt (blk_lt (g := gb196) (o := .cells #[.int .i64 t191, .int .i64 t192, .int .i64 t193, .int .i64 t194] 23 (0, 0)) (by (with_reducible repeat (first | apply xn3 | apply xd3 | apply xa3)); exact BK196.1)) : gb202 ≠ gb196)); clear BK196; clear HB; have BK196 := n0_; have HB := n1_; have BK202 := n2_; have GW202 := n3_; have GE202 := n4_; have NB196_202 := n5_; have NB202_196 := n6_; clear n0_ n1_ n2_ n3_ n4_ n5_ n6_; clear hb hbox hg; have hnb10 := NB202_196.1; have hnc10 := NB196_202.1; obtain ⟨hcz11_0, hcz11_1, hcz11_2, hcz11_3⟩ := c4_3 BK202.1; obtain ⟨hfz11_0, hfz11_1, hfz11_2, hfz11_3⟩ := f4_3 BK202.1; obtain ⟨hcz12_0, hcz12_1, hcz12_2, hcz12_3⟩ := c4_3 BK196.1; obtain ⟨hfz12_0, hfz12_1, hfz12_2, hfz12_3⟩ := f4_3 BK196.1))
    go_ret
    exact ⟨by first | rfl | (simp [errW_none, errW_some] <;> rfl) | (simp [*, errW_none, errW_some] <;> rfl), by repeat (first | (with_reducible first | exact HB.1 | apply below_alloc | apply pw_below_drewN | apply below_drew1 | refine below_set ?_ GE196.1 | refine below_set ?_ GE202.1) | exact HB.1)⟩
  · rw [if_neg c4] at H
    have c4b0 : (t191 == t197 && (t192 == t198 && (t193 == t199 && (t194 == t200)))) = false := by simpa using c4
    (try (have c4b1 : decide (t191 = t197 && (t192 == t198 && (t193 == t199 && (t194 == t200)))) = false := by simpa using c4))
    (try (have c4b2 : (t191 == t197 && (t192 == t198 && (t193 == t199 && (t194 == t200)))) = false := by simpa using c4))
    (try (have c4b3 : ¬ (t191 = t197 && (t192 == t198 && (t193 == t199 && (t194 == t200)))) := by simpa using c4))
    clear c4
    obtain rfl := Option.some.inj H
    go_enter Tryd.func3, Tryd.ntmps3
    go_wp2_with (first | ((with_reducible refine gate_callee (f := 10) rfl ?_); refine goesL_ (some 9) rfl rfl Tryd.func10 (by kernel_rfl) rfl #[.string a0] rfl (by (try simp only [List.map_toArray, List.map_cons, List.map_nil]); first | done | rfl | (simp only [List.length_drop, List.length_take]; rfl)) ?_; (with_reducible refine (token_Parse.calls a0 t191 t192 t193 t194 t195 _ A2.out).mono ?_); rintro e w13 ⟨rfl, hb⟩; refine ⟨_, rfl, ?_⟩; have n0_ := Aside0.mk (below_step (by with_reducible repeat (first | exact HB.1 | apply ya3 | apply yn3 | apply yd3)) hb); clear HB; have HB := n0_; clear n0_; (try clear hb); (try clear hb2); (try clear hk); (try clear hi)) | ((with_reducible refine gate_dst (N := 3) rfl ?_); refine box_event ?hg (N := 3) ?hd (cs := #[.int .i64 0, .int .i64 0, .int .i64 0, .int .i64 0]) (t := 23) ?hr ?_; (case hd => rfl); (case hg => rfl); (case hr => first | (go_simp; done) | (go_simp; rfl)); intro gb196 hg w14 hbox hb; have n0_ := Aside0.mk (below_step (by with_reducible repeat (first | exact HB.1 | apply ya3 | apply yn3 | apply yd3)) hb); have n1_ := Aside0.mk (hbox); have n2_ := Aside0.mk ((by rw [hg]; exact (below_size (by with_reducible repeat (first | exact HB.1 | apply ya3 | apply yn3 | apply yd3))) : w.heap.size ≤ gb196)); have n3_ := n2_; clear HB; have HB := n0_; have BK196 := n1_; have GW196 := n2_; have GE196 := n3_; clear n0_ n1_ n2_ n3_; clear hb hbox hg; obtain ⟨hcz15_0, hcz15_1, hcz15_2, hcz15_3⟩ := c4_3 BK196.1; obtain ⟨hfz15_0, hfz15_1, hfz15_2, hfz15_3⟩ := f4_3 BK196.1) | ((with_reducible refine gate_callee (f := 11) rfl ?_); refine goesL_ (some 14) rfl rfl Tryd.func11 (by kernel_rfl) rfl #[.string a0] rfl (by (try simp only [List.map_toArray, List.map_cons, List.map_nil]); first | done | rfl | (simp only [List.length_drop, List.length_take]; rfl)) ?_; (with_reducible refine (vendmeterref_Parsed.calls k a0 t197 t198 t199 t200 t201 _ A3.out).mono ?_); rintro e w16 ⟨rfl, hb⟩; refine ⟨_, rfl, ?_⟩; have n0_ := Aside0.mk (blk_below (g := gb196) (o := .cells #[.int .i64 t191, .int .i64 t192, .int .i64 t193, .int .i64 t194] 23 (0, 0)) (by (with_reducible repeat (first | apply xn3 | apply xd3 | apply xa3)); refine blk_put (cs := #[.int .i64 t191, .int .i64 t192, .int .i64 t193, .int .i64 0]) ?_ 3 _ rfl; (with_reducible repeat (first | apply xn3 | apply xd3 | apply xa3)); refine blk_put (cs := #[.int .i64 t191, .int .i64 t192, .int .i64 0, .int .i64 0]) ?_ 2 _ rfl; (with_reducible repeat (first | apply xn3 | apply xd3 | apply xa3)); refine blk_put (cs := #[.int .i64 t191, .int .i64 0, .int .i64 0, .int .i64 0]) ?_ 1 _ rfl; (with_reducible repeat (first | apply xn3 | apply xd3 | apply xa3)); refine blk_put (cs := #[.int .i64 0, .int .i64 0, .int .i64 0, .int .i64 0]) ?_ 0 _ rfl; (with_reducible repeat (first | apply xn3 | apply xd3 | apply xa3)); exact BK196.1) hb); have n1_ := Aside0.mk (below_step (by with_reducible repeat (first | exact HB.1 | apply ya3 | apply yn3 | apply yd3 | refine below_set ?_ GE196.1)) hb); clear BK196; clear HB; have BK196 := n0_; have HB := n1_; clear n0_ n1_; (try clear hb); (try clear hb2); (try clear hk); (try clear hi)) | ((with_reducible refine gate_dst (N := 5) rfl ?_); refine box_event ?hg (N := 5) ?hd (cs := #[.int .i64 0, .int .i64 0, .int .i64 0, .int .i64 0]) (t := 23) ?hr ?_; (case hd => rfl); (case hg => rfl); (case hr => first | (go_simp; done) | (go_simp; rfl)); intro gb202 hg w17 hbox hb; have n0_ := Aside0.mk (blk_below (g := gb196) (o := .cells #[.int .i64 t191, .int .i64 t192, .int .i64 t193, .int .i64 t194] 23 (0, 0)) (by (with_reducible repeat (first | apply xn3 | apply xd3 | apply xa3)); exact BK196.1) hb); have n1_ := Aside0.mk (below_step (by with_reducible repeat (first | exact HB.1 | apply ya3 | apply yn3 | apply yd3 | refine below_set ?_ GE196.1)) hb); have n2_ := Aside0.mk (hbox); have n3_ := Aside0.mk ((by rw [hg]; exact (below_size (by with_reducible repeat (first | exact HB.1 | apply ya3 | apply yn3 | apply yd3 | refine below_set ?_ GE196.1))) : w.heap.size ≤ gb202)); have n4_ := n3_; have n5_ := Aside0.mk ((by rw [hg]; exact Nat.ne_of_lt (blk_lt (g := gb196) (o := .cells #[.int .i64 t191, .int .i64 t192, .int .i64 t193, .int .i64 t194] 23 (0, 0)) (by (with_reducible repeat (first | apply xn3 | apply xd3 | apply xa3)); exact BK196.1)) : gb196 ≠ gb202)); have n6_ := Aside0.mk ((by rw [hg]; exact Nat.ne_of_gt (blk_lt (g := gb196) (o := .cells #[.int .i64 t191, .int .i64 t192, .int .i64 t193, .int .i64 t194] 23 (0, 0)) (by (with_reducible repeat (first | apply xn3 | apply xd3 | apply xa3)); exact BK196.1)) : gb202 ≠ gb196)); clear BK196; clear HB; have BK196 := n0_; have HB := n1_; have BK202 := n2_; have GW202 := n3_; have GE202 := n4_; have NB196_202 := n5_; have NB202_196 := n6_; clear n0_ n1_ n2_ n3_ n4_ n5_ n6_; clear hb hbox hg; have hnb18 := NB202_196.1; have hnc18 := NB196_202.1; obtain ⟨hcz19_0, hcz19_1, hcz19_2, hcz19_3⟩ := c4_3 BK202.1; obtain ⟨hfz19_0, hfz19_1, hfz19_2, hfz19_3⟩ := f4_3 BK202.1; obtain ⟨hcz20_0, hcz20_1, hcz20_2, hcz20_3⟩ := c4_3 BK196.1; obtain ⟨hfz20_0, hfz20_1, hfz20_2, hfz20_3⟩ := f4_3 BK196.1))
    go_ret
    exact ⟨by first | rfl | (simp [errW_none, errW_some] <;> rfl) | (simp [*, errW_none, errW_some] <;> rfl), by repeat (first | (with_reducible first | exact HB.1 | apply below_alloc | apply pw_below_drewN | apply below_drew1 | refine below_set ?_ GE196.1 | refine below_set ?_ GE202.1) | exact HB.1)⟩

/-- THE ONE PURE STATEMENT of vendmeterlaw_TokenParses: yours. -/
def vendmeterlaw_TokenParses.Pure : Prop := ∀ (a0 : ByteArray), a0.size ≤ 140737488351232 → ∃ k, vendmeterlaw_TokenParses.f k a0 = some true
theorem vendmeterlaw_TokenParses.walk (P : vendmeterlaw_TokenParses.Pure) (a0 : ByteArray) (w : World) (w0 : a0.size ≤ 140737488351232) :
    Calls Tryd.prog 3 #[.string a0] w fun e w' => e = .returned (.bool true) ∧ Below w.heap.size w w' := by
  obtain ⟨k, h⟩ := P a0 w0
  refine (vendmeterlaw_TokenParses.calls k a0 true w h).mono ?_
  rintro e w' ⟨rfl, hd⟩
  exact ⟨rfl, hd⟩

end Go.Proofs.YtoookcmablnjfaaDoor.PTokenParses
