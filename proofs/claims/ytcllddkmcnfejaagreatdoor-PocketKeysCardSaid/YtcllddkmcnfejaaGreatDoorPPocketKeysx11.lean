-- written by this session's program wip/xp/xprint.py (it drives the kit's print and adds to it)
import Derived.Test.YtcllddkmcnfejaaGreatDoorPPocketKeysx0
import Derived.Test.YtcllddkmcnfejaaGreatDoorPPocketKeysx6
import Derived.Test.YtcllddkmcnfejaaGreatDoorPPocketKeysx7
import Derived.Test.YtcllddkmcnfejaaGreatDoorPPocketKeysx10
namespace Go.Proofs.YtcllddkmcnfejaaGreatDoor.PPocketKeys
open Go.RowKit Go.Proofs.YtcllddkmcnfejaaGreatDoorW.PrintWords Go.Proofs.YtcllddkmcnfejaaGreatDoorW.PrintLast Go.Proofs.YtcllddkmcnfejaaGreatDoorW.PrintMore
attribute [local go_sem] max2_int min2_int max_two min_two max_three min_three max_four min_four
set_option linter.unusedVariables false
set_option linter.unusedSimpArgs false

/-! ### meter_state -/
def mstate.cells (me rev cr H b bad lock ad : Int) : Array Value := #[.int .i64 me, .int .i64 rev, .int .i64 cr, .int .i64 H, .int .u64 b, .int .i64 bad, .int .i64 lock, .int .i64 ad]
abbrev mstate.At (w : World) (g : Nat) (me rev cr H b bad lock ad : Int) : Prop := w.heap[g]? = some (.cells (mstate.cells me rev cr H b bad lock ad) 75 (0, 0))
theorem mstate.get {w : World} {g : Nat} {me rev cr H b bad lock ad : Int} (h : mstate.At w g me rev cr H b bad lock ad) : w.cell? ⟨g, 0, none⟩ = some (.int .i64 me) ∧ w.cell? ⟨g, 1, none⟩ = some (.int .i64 rev) ∧ w.cell? ⟨g, 2, none⟩ = some (.int .i64 cr) ∧ w.cell? ⟨g, 3, none⟩ = some (.int .i64 H) ∧ w.cell? ⟨g, 4, none⟩ = some (.int .u64 b) ∧ w.cell? ⟨g, 5, none⟩ = some (.int .i64 bad) ∧ w.cell? ⟨g, 6, none⟩ = some (.int .i64 lock) ∧ w.cell? ⟨g, 7, none⟩ = some (.int .i64 ad) :=
 ⟨(blk_cell h 0).trans rfl, (blk_cell h 1).trans rfl, (blk_cell h 2).trans rfl, (blk_cell h 3).trans rfl, (blk_cell h 4).trans rfl, (blk_cell h 5).trans rfl, (blk_cell h 6).trans rfl, (blk_cell h 7).trans rfl⟩
set_option maxHeartbeats 2000000 in
theorem mstate.clear (g : Nat) (me rev cr H b bad lock ad u : Int) (w0 w : World) (hg : w0.heap.size ≤ g) (hb : Below w0.heap.size w0 w) (h : mstate.At w g me rev cr H b bad lock ad) :
  Calls Tryz.prog 71 #[.pointer (some ⟨g, 0, none⟩), .int .i64 u] w fun e w' => e = .returned (.int .i64 0) ∧ mstate.At w' g me rev 0 H b bad lock ad ∧ Kept w w' (fun k => k = g) ∧ Below w0.heap.size w0 w' := by
 have HX := am h
 have HB := am hb
 have hu40 := Tryz.underlying40
 have hu111 := Tryz.underlying75
 obtain ⟨x0, x1, x2, x3, x4, x5, x6, x7⟩ := mstate.get h
 have f2 := blk_frozen h 2
 clear h hb
 go_enter Tryz.func71, Tryz.ntmps71
 go_wp2
 go_ret
 exact ⟨rfl, blk_put HX.1 2 _ rfl, (Kept.refl w (fun k => k = g)).setCell (.inl rfl) _, HB.1.setCell hg _⟩
set_option maxHeartbeats 2000000 in
theorem mstate.change (g : Nat) (me rev cr H b bad lock ad u : Int) (w0 w : World) (hg : w0.heap.size ≤ g) (hb : Below w0.heap.size w0 w) (h : mstate.At w g me rev cr H b bad lock ad) :
  Calls Tryz.prog 72 #[.pointer (some ⟨g, 0, none⟩), .int .i64 u] w fun e w' => e = .returned (.int .i64 (if u ≤ rev then 24 else 0)) ∧ mstate.At w' g me (if u ≤ rev then rev else u) cr H b bad lock ad ∧ Kept w w' (fun k => k = g) ∧ Below w0.heap.size w0 w' := by
 have HX := am h
 have HB := am hb
 have hu40 := Tryz.underlying40
 have hu111 := Tryz.underlying75
 obtain ⟨x0, x1, x2, x3, x4, x5, x6, x7⟩ := mstate.get h
 have f1 := blk_frozen h 1
 clear h hb
 by_cases c : u ≤ rev
 ·
  have q := decide_eq_true c
  rw [if_pos c, if_pos c]
  clear c
  go_enter Tryz.func72, Tryz.ntmps72
  go_wp2
  go_ret
  exact ⟨rfl, HX.1, Kept.refl _ _, HB.1⟩
 ·
  have q := decide_eq_false c
  rw [if_neg c, if_neg c]
  clear c
  go_enter Tryz.func72, Tryz.ntmps72
  go_wp2
  go_ret
  exact ⟨rfl, blk_put HX.1 1 _ rfl, (Kept.refl w (fun k => k = g)).setCell (.inl rfl) _, HB.1.setCell hg _⟩
set_option maxHeartbeats 2000000 in
theorem mstate.credit (g : Nat) (me rev cr H b bad lock ad u : Int) (w0 w : World) (hg : w0.heap.size ≤ g) (hb : Below w0.heap.size w0 w) (h : mstate.At w g me rev cr H b bad lock ad) :
  Calls Tryz.prog 70 #[.pointer (some ⟨g, 0, none⟩), .int .i64 u] w fun e w' => e = .returned (.int .i64 (if wrap64 (cr + u) > 99999999 then 15 else 0)) ∧ mstate.At w' g me rev (if wrap64 (cr + u) > 99999999 then cr else wrap64 (cr + u)) H b bad lock (if wrap64 (cr + u) > 99999999 then ad else u) ∧ Kept w w' (fun k => k = g) ∧ Below w0.heap.size w0 w' := by
 have HX := am h
 have HB := am hb
 have hu40 := Tryz.underlying40
 have hu111 := Tryz.underlying75
 obtain ⟨x0, x1, x2, x3, x4, x5, x6, x7⟩ := mstate.get h
 have f2 := blk_frozen h 2
 have f7 := blk_frozen h 7
 clear h hb
 by_cases c : wrap64 (cr + u) > 99999999
 ·
  have q := decide_eq_true c
  rw [if_pos c, if_pos c, if_pos c]
  clear c
  go_enter Tryz.func70, Tryz.ntmps70
  go_wp2
  go_ret
  exact ⟨rfl, HX.1, Kept.refl _ _, HB.1⟩
 ·
  have q := decide_eq_false c
  rw [if_neg c, if_neg c, if_neg c]
  clear c
  go_enter Tryz.func70, Tryz.ntmps70
  go_wp2
  go_ret
  have h1 : mstate.At (w.setCell ⟨g, 2, none⟩ (.int .i64 (wrap64 (cr + u)))) g me rev (wrap64 (cr + u)) H b bad lock ad := blk_put HX.1 2 _ rfl
  exact ⟨rfl, blk_put h1 7 _ rfl, ((Kept.refl w (fun k => k = g)).setCell (.inl rfl) _).setCell (.inl rfl) _, (HB.1.setCell hg _).setCell hg _⟩
def mstate.does (rev cr ad cls amt : Int) : Int × Int × Int × Int := if cls = 1 then (rev, 0, ad, 0) else if cls = 2 then (if amt ≤ rev then (rev, cr, ad, 24) else (amt, cr, ad, 0)) else (if wrap64 (cr + amt) > 99999999 then (rev, cr, ad, 15) else (rev, wrap64 (cr + amt), amt, 0))
def mstate.takeF (rev cr H b bad ad cls amt w1 w2 e : Int) : Int × Int × Int × Int × Int × Int × Int := if e = 0 then (if (mstate.does rev cr ad cls amt).2.2.2 = 0 then ((mstate.does rev cr ad cls amt).1, (mstate.does rev cr ad cls amt).2.1, w1, w2, 0, (mstate.does rev cr ad cls amt).2.2.1, 0) else ((mstate.does rev cr ad cls amt).1, (mstate.does rev cr ad cls amt).2.1, H, b, bad, (mstate.does rev cr ad cls amt).2.2.1, (mstate.does rev cr ad cls amt).2.2.2)) else (rev, cr, H, b, bad, ad, e)
set_option maxHeartbeats 8000000 in
set_option maxRecDepth 100000 in
theorem mstate.take (k g : Nat) (me rev cr H b bad lock ad cls id amt tag w1 w2 e : Int) (w wx : World) (hg : w.heap.size ≤ g) (hb : Below w.heap.size w wx) (h : mstate.At wx g me rev cr H b bad lock ad) (hW : window_Take.f k H b id = some (w1, w2, e)) :
  Calls Tryz.prog 32 #[.pointer (some ⟨g, 0, none⟩), .agg #[.int .i64 cls, .int .i64 id, .int .i64 amt, .int .i64 tag]] wx fun en w' => en = .returned (.int .i64 (mstate.takeF rev cr H b bad ad cls amt w1 w2 e).2.2.2.2.2.2) ∧ mstate.At w' g me (mstate.takeF rev cr H b bad ad cls amt w1 w2 e).1 (mstate.takeF rev cr H b bad ad cls amt w1 w2 e).2.1 (mstate.takeF rev cr H b bad ad cls amt w1 w2 e).2.2.1 (mstate.takeF rev cr H b bad ad cls amt w1 w2 e).2.2.2.1 (mstate.takeF rev cr H b bad ad cls amt w1 w2 e).2.2.2.2.1 lock (mstate.takeF rev cr H b bad ad cls amt w1 w2 e).2.2.2.2.2.1 ∧ Kept wx w' (fun k => k = g) ∧ Below w.heap.size w w' := by
 have Bg := am h
 have HB := am hb
 have HK := am (Kept.refl wx (fun k => k = g))
 have HW := am hW
 have Gg := am hg
 have hu40 := Tryz.underlying40
 have hu38 := Tryz.underlying38
 have hu45 := Tryz.underlying44
 have hu111 := Tryz.underlying75
 clear h hb hW hg
 go_enter Tryz.func32, Tryz.ntmps32
 go_wp2_with (first | ((with_reducible refine gate_dst (N := 3) rfl ?_); refine czbox 3 #[.int .i64 cls, .int .i64 id, .int .i64 amt, .int .i64 tag] 44 ?_; intro g1 hgq W1 hbox hb; have Ngg1 := am (by rw [hgq]; exact Nat.ne_of_lt (blk_lt Bg.1) : g ≠ g1); have Gg1 := am (by rw [hgq]; exact below_size HB.1 : w.heap.size ≤ g1); have Kg1 := am (by rw [hgq]; exact HK.1.1 : wx.heap.size ≤ g1); replace Bg := am (blk_below Bg.1 hb); replace HK := am (HK.1.below hb); replace HB := am (below_step HB.1 hb); have Bg1 := am hbox; clear hb hbox hgq; have xg3 : W1.cell? ⟨g, 3, none⟩ = some (.int .i64 H) := (blk_cell Bg.1 3).trans rfl; have xg4 : W1.cell? ⟨g, 4, none⟩ = some (.int .u64 b) := (blk_cell Bg.1 4).trans rfl; have xg11 : W1.cell? ⟨g1, 1, none⟩ = some (.int .i64 id) := (blk_cell Bg1.1 1).trans rfl; skip))
 refine start_ (n := 14) (S := fun w' => w'.cell? ⟨g, 3, none⟩ = some (.int .i64 H) ∧ w'.cell? ⟨g, 4, none⟩ = some (.int .u64 b) ∧ w'.cell? ⟨g1, 1, none⟩ = some (.int .i64 id)) (ds := [12]) #[false, false, false, false, false, false, false, false, false, false, false, false, false, false] (by kernel_rfl) rfl rfl ⟨xg3, xg4, xg11⟩ (fun hHeld => ?_)
 refine czpp 0 9 ?_
 refine czpp 1 10 ?_
 refine czpp 2 11 ?_
 refine czpp 3 12 ?_
 refine czpp 5 14 ?_
 refine cztk 4 13 ?_
 refine cztk 6 15 ?_
 refine join_ (σ := Nat) 2 #[true, true, true, true, true, true, true, true, true, true, true, true, false, false] (fun s => [(16, .tuple #[.agg #[.int .i64 w1, .int .u64 w2], .int .i64 e]), (8, .tuple #[.agg #[.int .i64 w1, .int .u64 w2], .int .i64 e]), (17, .agg #[.int .i64 w1, .int .u64 w2]), (18, .int .i64 e), (5, .pointer (some ⟨s, 0, none⟩))]) (fun s w' => (w'.heap[s]? = some (.cells #[.int .i64 0, .int .u64 0] 38 (0, 0))) ∧ (w'.heap[g]? = some (.cells #[.int .i64 me, .int .i64 rev, .int .i64 cr, .int .i64 H, .int .u64 b, .int .i64 bad, .int .i64 lock, .int .i64 ad] 75 (0, 0))) ∧ (w'.heap[g1]? = some (.cells #[.int .i64 cls, .int .i64 id, .int .i64 amt, .int .i64 tag] 44 (0, 0))) ∧ Kept wx w' (fun k => k = g) ∧ Below w.heap.size w w' ∧ w.heap.size ≤ s ∧ wx.heap.size ≤ s ∧ g ≠ s ∧ g1 ≠ s) ?_ ?_
 rotate_left
 ·
  intro hCont
  refine two_ (i := 7) (j := 11) (Ni := some 16) (Nj := some 5) #[true, true, true, true, true, true, true, true, false, false, false, false, false, false] #[true, true, true, true, true, true, true, false, false, false, false, true, false, false] rfl rfl rfl rfl (by kernel_rfl) (by decide) (by decide) (fun K hK => ?_) (fun K hK => ?_)
  ·
   skip
   refine goes_ Tryz.func69 (by kernel_rfl) rfl #[.agg #[.int .i64 H, .int .u64 b], .int .i64 id] (by rfl) rfl rfl (by (try simp only [List.map_toArray, List.map_cons, List.map_nil]); first | done | rfl) ?_
   with_reducible refine (window_Take.calls k H b id w1 w2 e _ HW.1).mono ?_
   rintro en wt ⟨rfl, hb1⟩; refine ⟨_, rfl, ?_⟩; clear xg3 xg4 xg11; replace Bg := am (blk_below (blk_drew Bg.1) hb1); replace Bg1 := am (blk_below (blk_drew Bg1.1) hb1); replace HK := am ((HK.1.drew).below hb1); replace HB := am (below_step (below_drew1 HB.1) hb1); clear hb1
   refine hK.out _ _ ⟨(blk_cell Bg.1 3).trans rfl, (blk_cell Bg.1 4).trans rfl, (blk_cell Bg1.1 1).trans rfl⟩ (fun hHeld => ?_)
   clear hK K
   refine norm_ (a' := ?_) ?_ ?_
   rotate_left
   ·
    show Act.put _ (some 16) _ = _
    simp only [Act.put, List.setIfInBounds_toArray, List.set_cons_zero, List.set_cons_succ, i64_w, i32_w]
    rfl
   refine czpp 8 8 ?_
   refine czpp 9 17 ?_
   refine czpp 10 18 ?_
   refine one_ (i := 11) (N := some 5) #[true, true, true, true, true, true, true, true, true, true, true, true, false, false] rfl rfl (by kernel_rfl) (by decide) (fun K hK => ?_)
   refine box_step ?hg (N := 5) ?hd (cs := #[.int .i64 0, .int .u64 0]) (t := 38) ?hr ?_
   (case hd => rfl)
   (case hg => rfl)
   (case hr => first | (go_simp; done) | (go_simp; rfl))
   intro g2 hgq W2 hbox hb; have Ngg2 := am (by rw [hgq]; exact Nat.ne_of_lt (blk_lt Bg.1) : g ≠ g2); have Ng1g2 := am (by rw [hgq]; exact Nat.ne_of_lt (blk_lt Bg1.1) : g1 ≠ g2); have Gg2 := am (by rw [hgq]; exact below_size HB.1 : w.heap.size ≤ g2); have Kg2 := am (by rw [hgq]; exact HK.1.1 : wx.heap.size ≤ g2); replace Bg := am (blk_below Bg.1 hb); replace Bg1 := am (blk_below Bg1.1 hb); replace HK := am (HK.1.below hb); replace HB := am (below_step HB.1 hb); have Bg2 := am hbox; clear hb hbox hgq
   refine hK.out _ _ ⟨(blk_cell Bg.1 3).trans rfl, (blk_cell Bg.1 4).trans rfl, (blk_cell Bg1.1 1).trans rfl⟩ (fun hHeld => ?_)
   clear hK K
   refine norm_ (a' := ?_) ?_ ?_
   rotate_left
   ·
    show Act.put _ (some 5) _ = _
    simp only [Act.put, List.setIfInBounds_toArray, List.set_cons_zero, List.set_cons_succ, i64_w, i32_w]
    rfl
   exact norm_ (by simp only [putAll, Act.put, List.setIfInBounds_toArray, List.set_cons_zero, List.set_cons_succ]) (hCont g2 _ ⟨Bg2.1, Bg.1, Bg1.1, HK.1, HB.1, Gg2.1, Kg2.1, Ngg2.1, Ng1g2.1⟩)
  ·
   skip
   refine box_step ?hg (N := 5) ?hd (cs := #[.int .i64 0, .int .u64 0]) (t := 38) ?hr ?_
   (case hd => rfl)
   (case hg => rfl)
   (case hr => first | (go_simp; done) | (go_simp; rfl))
   intro g2 hgq W2 hbox hb; clear xg3 xg4 xg11; have Ngg2 := am (by rw [hgq]; exact Nat.ne_of_lt (blk_lt (blk_drew Bg.1)) : g ≠ g2); have Ng1g2 := am (by rw [hgq]; exact Nat.ne_of_lt (blk_lt (blk_drew Bg1.1)) : g1 ≠ g2); have Gg2 := am (by rw [hgq]; exact below_size (below_drew1 HB.1) : w.heap.size ≤ g2); have Kg2 := am (by rw [hgq]; exact HK.1.1 : wx.heap.size ≤ g2); replace Bg := am (blk_below (blk_drew Bg.1) hb); replace Bg1 := am (blk_below (blk_drew Bg1.1) hb); replace HK := am ((HK.1.drew).below hb); replace HB := am (below_step (below_drew1 HB.1) hb); have Bg2 := am hbox; clear hb hbox hgq
   refine hK.out _ _ ⟨(blk_cell Bg.1 3).trans rfl, (blk_cell Bg.1 4).trans rfl, (blk_cell Bg1.1 1).trans rfl⟩ (fun hHeld => ?_)
   clear hK K
   refine norm_ (a' := ?_) ?_ ?_
   rotate_left
   ·
    show Act.put _ (some 5) _ = _
    simp only [Act.put, List.setIfInBounds_toArray, List.set_cons_zero, List.set_cons_succ, i64_w, i32_w]
    rfl
   refine one_ (i := 7) (N := some 16) #[true, true, true, true, true, true, true, true, false, false, false, true, false, false] rfl rfl (by kernel_rfl) (by decide) (fun K hK => ?_)
   refine goes_ Tryz.func69 (by kernel_rfl) rfl #[.agg #[.int .i64 H, .int .u64 b], .int .i64 id] (by rfl) rfl rfl (by (try simp only [List.map_toArray, List.map_cons, List.map_nil]); first | done | rfl) ?_
   with_reducible refine (window_Take.calls k H b id w1 w2 e _ HW.1).mono ?_
   rintro en wt ⟨rfl, hb1⟩; refine ⟨_, rfl, ?_⟩; replace Bg := am (blk_below Bg.1 hb1); replace Bg1 := am (blk_below Bg1.1 hb1); replace Bg2 := am (blk_below Bg2.1 hb1); replace HK := am (HK.1.below hb1); replace HB := am (below_step HB.1 hb1); clear hb1
   refine hK.out _ _ ⟨(blk_cell Bg.1 3).trans rfl, (blk_cell Bg.1 4).trans rfl, (blk_cell Bg1.1 1).trans rfl⟩ (fun hHeld => ?_)
   clear hK K
   refine norm_ (a' := ?_) ?_ ?_
   rotate_left
   ·
    show Act.put _ (some 16) _ = _
    simp only [Act.put, List.setIfInBounds_toArray, List.set_cons_zero, List.set_cons_succ, i64_w, i32_w]
    rfl
   refine czpp 8 8 ?_
   refine czpp 9 17 ?_
   refine czpp 10 18 ?_
   exact norm_ (by simp only [putAll, Act.put, List.setIfInBounds_toArray, List.set_cons_zero, List.set_cons_succ]) (hCont g2 _ ⟨Bg2.1, Bg.1, Bg1.1, HK.1, HB.1, Gg2.1, Kg2.1, Ngg2.1, Ng1g2.1⟩)
 rintro g2 wd ⟨b2, b0, b1, hk, hbd, h2, k2, m0, m1⟩
 clear Bg Bg1 HB HK xg3 xg4 xg11
 have Bg := am b0
 have Bg1 := am b1
 have Bg2 := am b2
 have HK := am hk
 have HB := am hbd
 have Gg2 := am h2
 have Kg2 := am k2
 have Ngg2 := am m0
 have Ng1g2 := am m1
 have hHeld := (⟨(blk_cell Bg.1 3).trans rfl, (blk_cell Bg.1 4).trans rfl, (blk_cell Bg1.1 1).trans rfl⟩ : wd.cell? ⟨g, 3, none⟩ = some (.int .i64 H) ∧ wd.cell? ⟨g, 4, none⟩ = some (.int .u64 b) ∧ wd.cell? ⟨g1, 1, none⟩ = some (.int .i64 id))
 clear b0 b1 b2 hk hbd h2 k2 m0 m1
 refine norm_ (a' := ?_) ?_ ?_
 rotate_left
 ·
  simp only [putAll, Act.put, List.setIfInBounds_toArray, List.set_cons_zero, List.set_cons_succ]
  rfl
 refine last_ (i := 12) (N := none) #[true, true, true, true, true, true, true, true, true, true, true, true, true, false] rfl rfl (by kernel_rfl) (by decide) (fun K hK => ?_)
 refine seg.step (by rfl) rfl 38 (.tmp 5) _ (by rfl) 38 g2 0 #[.int .i64 0, .int .u64 0] #[.int .i64 w1, .int .u64 w2] [.int .i64 w1, .int .u64 w2] (by rfl) (by rfl) (by kernel_rfl) (by simp [Value.oneCell']) Bg2.1 (by simp) rfl ?_
 intro W2 bx hgr
 replace Bg := am (seg.far Bg.1 hgr Ngg2.1)
 replace Bg1 := am (seg.far Bg1.1 hgr Ng1g2.1)
 replace HK := am (Kept.of_grown hgr HK.1 (fun k e => .inr (Option.some.inj e ▸ Kg2.1)))
 replace HB := am (seg.below HB.1 hgr Gg2.1)
 replace Bg2 := am bx
 clear bx hgr
 have xg1 : W2.cell? ⟨g, 1, none⟩ = some (.int .i64 rev) := (blk_cell Bg.1 1).trans rfl
 have xg2 : W2.cell? ⟨g, 2, none⟩ = some (.int .i64 cr) := (blk_cell Bg.1 2).trans rfl
 have xg10 : W2.cell? ⟨g1, 0, none⟩ = some (.int .i64 cls) := (blk_cell Bg1.1 0).trans rfl
 have xg12 : W2.cell? ⟨g1, 2, none⟩ = some (.int .i64 amt) := (blk_cell Bg1.1 2).trans rfl
 refine hK.out _ _ ?_
 clear hK K
 refine czpp 13 6 ?_
 refine done_ (by kernel_rfl) ?_
 by_cases c0 : e = 0
 ·
  subst c0
  by_cases c1 : cls = 1
  ·
   have q1 : (cls == 1) = true := beq_iff_eq.mpr c1
   have T : mstate.takeF rev cr H b bad ad cls amt w1 w2 0 = (rev, 0, w1, w2, 0, ad, 0) := by simp [mstate.takeF, mstate.does, c1]
   have HT := am T
   clear T c1
   go_wp2_with (first | (go_at_call 71; refine (mstate.clear g me rev cr H b bad lock ad amt w _ Gg.1 HB.1 Bg.1).mono ?_; rintro en wc ⟨rfl, ha, hk, hb1⟩; clear xg1 xg2 xg10 xg12; replace Bg1 := am (blk_kept Bg1.1 hk (Ne.symm Ngg1.1)); replace Bg2 := am (blk_kept Bg2.1 hk (Ne.symm Ngg2.1)); replace HK := am (HK.1.then_ hk (fun _ h => .inl h)); replace HB := am hb1; replace Bg := am ha; have xg20 : wc.cell? ⟨g2, 0, none⟩ = some (.int .i64 w1) := (blk_cell Bg2.1 0).trans rfl; have xg21 : wc.cell? ⟨g2, 1, none⟩ = some (.int .u64 w2) := (blk_cell Bg2.1 1).trans rfl; clear ha hk hb1) | ((with_reducible refine gate_store (t := 38) (p := 45) rfl ?_); refine seg.list rfl rfl 38 (.tmp 45) _ rfl 75 g 3 #[.int .i64 me, .int .i64 rev, .int .i64 0, .int .i64 H, .int .u64 b, .int .i64 bad, .int .i64 lock, .int .i64 ad] #[.int .i64 me, .int .i64 rev, .int .i64 0, .int .i64 w1, .int .u64 w2, .int .i64 bad, .int .i64 lock, .int .i64 ad] [.int .i64 w1, .int .u64 w2] rfl rfl (by kernel_rfl) (by simp [Value.oneCell']) Bg.1 (by simp) rfl ?_; intro W3 bx hgr; clear xg20 xg21; replace Bg1 := am (seg.far Bg1.1 hgr (Ne.symm Ngg1.1)); replace Bg2 := am (seg.far Bg2.1 hgr (Ne.symm Ngg2.1)); replace HK := am (Kept.of_grown hgr HK.1 (fun k e => .inl (Option.some.inj e).symm)); replace HB := am (seg.below HB.1 hgr Gg.1); replace Bg := am bx; clear bx hgr; have xg20 : W3.cell? ⟨g2, 0, none⟩ = some (.int .i64 w1) := (blk_cell Bg2.1 0).trans rfl; have xg21 : W3.cell? ⟨g2, 1, none⟩ = some (.int .u64 w2) := (blk_cell Bg2.1 1).trans rfl; skip) | ((with_reducible refine gate_store (t := 3) (p := 48) rfl ?_); refine seg.list rfl rfl 3 (.tmp 48) _ rfl 75 g 5 #[.int .i64 me, .int .i64 rev, .int .i64 0, .int .i64 w1, .int .u64 w2, .int .i64 bad, .int .i64 lock, .int .i64 ad] #[.int .i64 me, .int .i64 rev, .int .i64 0, .int .i64 w1, .int .u64 w2, .int .i64 0, .int .i64 lock, .int .i64 ad] [.int .i64 0] rfl rfl (by kernel_rfl) (by simp [Value.oneCell']) Bg.1 (by simp) rfl ?_; intro W4 bx hgr; clear xg20 xg21; replace Bg1 := am (seg.far Bg1.1 hgr (Ne.symm Ngg1.1)); replace Bg2 := am (seg.far Bg2.1 hgr (Ne.symm Ngg2.1)); replace HK := am (Kept.of_grown hgr HK.1 (fun k e => .inl (Option.some.inj e).symm)); replace HB := am (seg.below HB.1 hgr Gg.1); replace Bg := am bx; clear bx hgr; skip))
   go_ret
   rw [HT.1]
   exact ⟨rfl, Bg.1, HK.1, HB.1⟩
  ·
   have q1 : (cls == 1) = false := beq_eq_false_iff_ne.mpr c1
   by_cases c2 : cls = 2
   ·
    have q2 : (cls == 2) = true := beq_iff_eq.mpr c2
    by_cases c3 : amt ≤ rev
    ·
     have T : mstate.takeF rev cr H b bad ad cls amt w1 w2 0 = (rev, cr, H, b, bad, ad, 24) := by simp [mstate.takeF, mstate.does, c2, c3]
     have HC1 := am (if_pos c3 : (if amt ≤ rev then (24 : Int) else 0) = 24)
     have HC2 := am (if_pos c3 : (if amt ≤ rev then rev else amt) = rev)
     have HT := am T
     clear T c1 c2 c3
     go_wp2_with (first | (go_at_call 72; refine (mstate.change g me rev cr H b bad lock ad amt w _ Gg.1 HB.1 Bg.1).mono ?_; rintro en wc ⟨rfl, ha, hk, hb1⟩; rw [HC1.1]; rw [HC2.1] at ha; clear xg1 xg2 xg10 xg12; replace Bg1 := am (blk_kept Bg1.1 hk (Ne.symm Ngg1.1)); replace Bg2 := am (blk_kept Bg2.1 hk (Ne.symm Ngg2.1)); replace HK := am (HK.1.then_ hk (fun _ h => .inl h)); replace HB := am hb1; replace Bg := am ha; clear ha hk hb1))
     go_ret
     rw [HT.1]
     exact ⟨rfl, Bg.1, HK.1, HB.1⟩
    ·
     have T : mstate.takeF rev cr H b bad ad cls amt w1 w2 0 = (amt, cr, w1, w2, 0, ad, 0) := by simp [mstate.takeF, mstate.does, c2, c3]
     have HC1 := am (if_neg c3 : (if amt ≤ rev then (24 : Int) else 0) = 0)
     have HC2 := am (if_neg c3 : (if amt ≤ rev then rev else amt) = amt)
     have HT := am T
     clear T c1 c2 c3
     go_wp2_with (first | (go_at_call 72; refine (mstate.change g me rev cr H b bad lock ad amt w _ Gg.1 HB.1 Bg.1).mono ?_; rintro en wc ⟨rfl, ha, hk, hb1⟩; rw [HC1.1]; rw [HC2.1] at ha; clear xg1 xg2 xg10 xg12; replace Bg1 := am (blk_kept Bg1.1 hk (Ne.symm Ngg1.1)); replace Bg2 := am (blk_kept Bg2.1 hk (Ne.symm Ngg2.1)); replace HK := am (HK.1.then_ hk (fun _ h => .inl h)); replace HB := am hb1; replace Bg := am ha; have xg20 : wc.cell? ⟨g2, 0, none⟩ = some (.int .i64 w1) := (blk_cell Bg2.1 0).trans rfl; have xg21 : wc.cell? ⟨g2, 1, none⟩ = some (.int .u64 w2) := (blk_cell Bg2.1 1).trans rfl; clear ha hk hb1) | ((with_reducible refine gate_store (t := 38) (p := 45) rfl ?_); refine seg.list rfl rfl 38 (.tmp 45) _ rfl 75 g 3 #[.int .i64 me, .int .i64 amt, .int .i64 cr, .int .i64 H, .int .u64 b, .int .i64 bad, .int .i64 lock, .int .i64 ad] #[.int .i64 me, .int .i64 amt, .int .i64 cr, .int .i64 w1, .int .u64 w2, .int .i64 bad, .int .i64 lock, .int .i64 ad] [.int .i64 w1, .int .u64 w2] rfl rfl (by kernel_rfl) (by simp [Value.oneCell']) Bg.1 (by simp) rfl ?_; intro W3 bx hgr; clear xg20 xg21; replace Bg1 := am (seg.far Bg1.1 hgr (Ne.symm Ngg1.1)); replace Bg2 := am (seg.far Bg2.1 hgr (Ne.symm Ngg2.1)); replace HK := am (Kept.of_grown hgr HK.1 (fun k e => .inl (Option.some.inj e).symm)); replace HB := am (seg.below HB.1 hgr Gg.1); replace Bg := am bx; clear bx hgr; have xg20 : W3.cell? ⟨g2, 0, none⟩ = some (.int .i64 w1) := (blk_cell Bg2.1 0).trans rfl; have xg21 : W3.cell? ⟨g2, 1, none⟩ = some (.int .u64 w2) := (blk_cell Bg2.1 1).trans rfl; skip) | ((with_reducible refine gate_store (t := 3) (p := 48) rfl ?_); refine seg.list rfl rfl 3 (.tmp 48) _ rfl 75 g 5 #[.int .i64 me, .int .i64 amt, .int .i64 cr, .int .i64 w1, .int .u64 w2, .int .i64 bad, .int .i64 lock, .int .i64 ad] #[.int .i64 me, .int .i64 amt, .int .i64 cr, .int .i64 w1, .int .u64 w2, .int .i64 0, .int .i64 lock, .int .i64 ad] [.int .i64 0] rfl rfl (by kernel_rfl) (by simp [Value.oneCell']) Bg.1 (by simp) rfl ?_; intro W4 bx hgr; clear xg20 xg21; replace Bg1 := am (seg.far Bg1.1 hgr (Ne.symm Ngg1.1)); replace Bg2 := am (seg.far Bg2.1 hgr (Ne.symm Ngg2.1)); replace HK := am (Kept.of_grown hgr HK.1 (fun k e => .inl (Option.some.inj e).symm)); replace HB := am (seg.below HB.1 hgr Gg.1); replace Bg := am bx; clear bx hgr; skip))
     go_ret
     rw [HT.1]
     exact ⟨rfl, Bg.1, HK.1, HB.1⟩
   ·
    have q2 : (cls == 2) = false := beq_eq_false_iff_ne.mpr c2
    by_cases c3 : wrap64 (cr + amt) > 99999999
    ·
     have T : mstate.takeF rev cr H b bad ad cls amt w1 w2 0 = (rev, cr, H, b, bad, ad, 15) := by simp only [mstate.takeF, mstate.does, if_neg c1, if_neg c2, if_pos c3]; rfl
     have HC1 := am (if_pos c3 : (if wrap64 (cr + amt) > 99999999 then (15 : Int) else 0) = 15)
     have HC2 := am (if_pos c3 : (if wrap64 (cr + amt) > 99999999 then cr else wrap64 (cr + amt)) = cr)
     have HC3 := am (if_pos c3 : (if wrap64 (cr + amt) > 99999999 then ad else amt) = ad)
     have HT := am T
     clear T c1 c2 c3
     go_wp2_with (first | (go_at_call 70; refine (mstate.credit g me rev cr H b bad lock ad amt w _ Gg.1 HB.1 Bg.1).mono ?_; rintro en wc ⟨rfl, ha, hk, hb1⟩; rw [HC1.1]; rw [HC2.1, HC3.1] at ha; clear xg1 xg2 xg10 xg12; replace Bg1 := am (blk_kept Bg1.1 hk (Ne.symm Ngg1.1)); replace Bg2 := am (blk_kept Bg2.1 hk (Ne.symm Ngg2.1)); replace HK := am (HK.1.then_ hk (fun _ h => .inl h)); replace HB := am hb1; replace Bg := am ha; clear ha hk hb1))
     go_ret
     rw [HT.1]
     exact ⟨rfl, Bg.1, HK.1, HB.1⟩
    ·
     have T : mstate.takeF rev cr H b bad ad cls amt w1 w2 0 = (rev, wrap64 (cr + amt), w1, w2, 0, amt, 0) := by simp only [mstate.takeF, mstate.does, if_neg c1, if_neg c2, if_neg c3]; rfl
     have HC1 := am (if_neg c3 : (if wrap64 (cr + amt) > 99999999 then (15 : Int) else 0) = 0)
     have HC2 := am (if_neg c3 : (if wrap64 (cr + amt) > 99999999 then cr else wrap64 (cr + amt)) = wrap64 (cr + amt))
     have HC3 := am (if_neg c3 : (if wrap64 (cr + amt) > 99999999 then ad else amt) = amt)
     have HT := am T
     clear T c1 c2 c3
     go_wp2_with (first | (go_at_call 70; refine (mstate.credit g me rev cr H b bad lock ad amt w _ Gg.1 HB.1 Bg.1).mono ?_; rintro en wc ⟨rfl, ha, hk, hb1⟩; rw [HC1.1]; rw [HC2.1, HC3.1] at ha; clear xg1 xg2 xg10 xg12; replace Bg1 := am (blk_kept Bg1.1 hk (Ne.symm Ngg1.1)); replace Bg2 := am (blk_kept Bg2.1 hk (Ne.symm Ngg2.1)); replace HK := am (HK.1.then_ hk (fun _ h => .inl h)); replace HB := am hb1; replace Bg := am ha; have xg20 : wc.cell? ⟨g2, 0, none⟩ = some (.int .i64 w1) := (blk_cell Bg2.1 0).trans rfl; have xg21 : wc.cell? ⟨g2, 1, none⟩ = some (.int .u64 w2) := (blk_cell Bg2.1 1).trans rfl; clear ha hk hb1) | ((with_reducible refine gate_store (t := 38) (p := 45) rfl ?_); refine seg.list rfl rfl 38 (.tmp 45) _ rfl 75 g 3 #[.int .i64 me, .int .i64 rev, .int .i64 (wrap64 (cr + amt)), .int .i64 H, .int .u64 b, .int .i64 bad, .int .i64 lock, .int .i64 amt] #[.int .i64 me, .int .i64 rev, .int .i64 (wrap64 (cr + amt)), .int .i64 w1, .int .u64 w2, .int .i64 bad, .int .i64 lock, .int .i64 amt] [.int .i64 w1, .int .u64 w2] rfl rfl (by kernel_rfl) (by simp [Value.oneCell']) Bg.1 (by simp) rfl ?_; intro W3 bx hgr; clear xg20 xg21; replace Bg1 := am (seg.far Bg1.1 hgr (Ne.symm Ngg1.1)); replace Bg2 := am (seg.far Bg2.1 hgr (Ne.symm Ngg2.1)); replace HK := am (Kept.of_grown hgr HK.1 (fun k e => .inl (Option.some.inj e).symm)); replace HB := am (seg.below HB.1 hgr Gg.1); replace Bg := am bx; clear bx hgr; have xg20 : W3.cell? ⟨g2, 0, none⟩ = some (.int .i64 w1) := (blk_cell Bg2.1 0).trans rfl; have xg21 : W3.cell? ⟨g2, 1, none⟩ = some (.int .u64 w2) := (blk_cell Bg2.1 1).trans rfl; skip) | ((with_reducible refine gate_store (t := 3) (p := 48) rfl ?_); refine seg.list rfl rfl 3 (.tmp 48) _ rfl 75 g 5 #[.int .i64 me, .int .i64 rev, .int .i64 (wrap64 (cr + amt)), .int .i64 w1, .int .u64 w2, .int .i64 bad, .int .i64 lock, .int .i64 amt] #[.int .i64 me, .int .i64 rev, .int .i64 (wrap64 (cr + amt)), .int .i64 w1, .int .u64 w2, .int .i64 0, .int .i64 lock, .int .i64 amt] [.int .i64 0] rfl rfl (by kernel_rfl) (by simp [Value.oneCell']) Bg.1 (by simp) rfl ?_; intro W4 bx hgr; clear xg20 xg21; replace Bg1 := am (seg.far Bg1.1 hgr (Ne.symm Ngg1.1)); replace Bg2 := am (seg.far Bg2.1 hgr (Ne.symm Ngg2.1)); replace HK := am (Kept.of_grown hgr HK.1 (fun k e => .inl (Option.some.inj e).symm)); replace HB := am (seg.below HB.1 hgr Gg.1); replace Bg := am bx; clear bx hgr; skip))
     go_ret
     rw [HT.1]
     exact ⟨rfl, Bg.1, HK.1, HB.1⟩
 ·
  have T : mstate.takeF rev cr H b bad ad cls amt w1 w2 e = (rev, cr, H, b, bad, ad, e) := by simp [mstate.takeF, c0]
  have q0 : (e != 0) = true := bne_iff_ne.mpr c0
  have HT := am T
  clear T c0
  go_wp2
  go_ret
  rw [HT.1]
  exact ⟨rfl, Bg.1, HK.1, HB.1⟩
def mstate.ver (l : List S55) (me body tag : Int) (r : Int) : Bool := (oracle_Verify.f l me r body tag).getD false
theorem mstate.ver_eq (l : List S55) (me body tag r : Int) : oracle_Verify.f l me r body tag = some (mstate.ver l me body tag r) := rfl
def mstate.hunt (l : List S55) (me body tag : Int) : Nat → Option Nat
 | 0 => none
 | n + 1 => if mstate.ver l me body tag (n : Int) = true then some n else mstate.hunt l me body tag n
def mstate.soldF (l : List S55) (me rev bad lock body tag : Int) : Int × Int × Int := match mstate.hunt l me body tag (rev.toNat + 1) with
 | some r => (bad, lock, if (r : Int) < rev then 11 else 0)
 | none => if wrap64 (bad + 1) = 5 then (0, 30, 12) else (wrap64 (bad + 1), lock, 12)
set_option maxHeartbeats 8000000 in
set_option maxRecDepth 100000 in
theorem mstate.sold (g : Nat) (A : Option Addr) (c : Nat) (l : List S55) (me rev cr H b bad lock ad body tag : Int) (w wx : World) (hg : w.heap.size ≤ g) (hb : Below w.heap.size w wx) (h : mstate.At wx g me rev cr H b bad lock ad) (hr0 : Kd.C k55 w A l.length l) (hc0 : l.length ≤ c) (hrev : 0 ≤ rev ∧ rev ≤ 15) :
  Calls Tryz.prog 31 #[.pointer (some ⟨g, 0, none⟩), .agg #[.slice A l.length c], .int .i64 body, .int .i64 tag] wx fun en w' => en = .returned (.int .i64 (mstate.soldF l me rev bad lock body tag).2.2) ∧ mstate.At w' g me rev cr H b (mstate.soldF l me rev bad lock body tag).1 (mstate.soldF l me rev bad lock body tag).2.1 ad ∧ Kept wx w' (fun k => k = g) ∧ Below w.heap.size w w' := by
 have Bg := am h
 have HB := am hb
 have HK := am (Kept.refl wx (fun k => k = g))
 have HR0 := am hr0
 have HC0 := am hc0
 have Gg := am hg
 have hu40 := Tryz.underlying40
 have hu43 := Tryz.underlying25
 have hu111 := Tryz.underlying75
 obtain ⟨R, rfl⟩ := Int.eq_ofNat_of_zero_le hrev.1
 have HR15 : Aside0 (R ≤ 15) := ⟨by omega⟩
 clear h hb hg hr0 hc0 hrev
 have xg1 : wx.cell? ⟨g, 1, none⟩ = some (.int .i64 (R : Int)) := (blk_cell Bg.1 1).trans rfl
 go_enter Tryz.func31, Tryz.ntmps31
 go_wp2_with (first | ((with_reducible refine gate_dst (N := 5) rfl ?_); refine czbox 5 #[.slice A l.length c] 25 ?_; intro g1 hgq W1 hbox hb; clear xg1; have Ngg1 := am (by rw [hgq]; exact Nat.ne_of_lt (blk_lt Bg.1) : g ≠ g1); have Gg1 := am (by rw [hgq]; exact below_size HB.1 : w.heap.size ≤ g1); have Kg1 := am (by rw [hgq]; exact HK.1.1 : wx.heap.size ≤ g1); replace Bg := am (blk_below Bg.1 hb); replace HK := am (HK.1.below hb); replace HB := am (below_step HB.1 hb); have Bg1 := am hbox; clear hb hbox hgq; have xg1 : W1.cell? ⟨g, 1, none⟩ = some (.int .i64 (R : Int)) := (blk_cell Bg.1 1).trans rfl; skip))
 go_loopg [9] (R + 1) (fun kq v9 w' => v9 = .int .i64 ((kq : Int) - 1) ∧ kq ≤ R + 1 ∧ Aside0 (mstate.hunt l me body tag kq = mstate.hunt l me body tag (R + 1)) ∧ Aside0 (mstate.At w' g me (R : Int) cr H b bad lock ad) ∧ Aside0 (w'.heap[g1]? = some (.cells #[.slice A l.length c] 25 (0, 0))) ∧ Aside0 (Kept wx w' (fun k => k = g)) ∧ Aside0 (Below w.heap.size w w'))
 case atStart => exact ⟨by simp, Nat.le_refl _, ⟨rfl⟩, Bg, Bg1, HK, HB⟩
 case round =>
  clear Bg Bg1 HK HB
  obtain ⟨rfl, hle, HH, Bg, Bg1, HK, HB⟩ := hrel
  cases gk with
  | zero =>
   have q0 : decide ((((0 : Nat) : Int) - 1) ≥ 0) = false := by decide
   have hn : mstate.hunt l me body tag (R + 1) = none := HH.1.symm
   have xg5 : wr.cell? ⟨g, 5, none⟩ = some (.int .i64 bad) := (blk_cell Bg.1 5).trans rfl
   by_cases h5 : wrap64 (bad + 1) = 5
   ·
    have q5 : (wrap64 (bad + 1) == 5) = true := beq_iff_eq.mpr h5
    have HT := am (show mstate.soldF l me (R : Int) bad lock body tag = (0, 30, 12) by unfold mstate.soldF; rw [Int.toNat_natCast, hn]; simp [h5])
    clear h5 hn HH
    go_wp2_with (first | ((with_reducible refine gate_store (t := 3) (p := 45) rfl ?_); refine seg.list rfl rfl 3 (.tmp 45) _ rfl 75 g 5 #[.int .i64 me, .int .i64 (R : Int), .int .i64 cr, .int .i64 H, .int .u64 b, .int .i64 bad, .int .i64 lock, .int .i64 ad] #[.int .i64 me, .int .i64 (R : Int), .int .i64 cr, .int .i64 H, .int .u64 b, .int .i64 (wrap64 (bad + 1)), .int .i64 lock, .int .i64 ad] [.int .i64 (wrap64 (bad + 1))] rfl rfl (by kernel_rfl) (by simp [Value.oneCell']) Bg.1 (by simp) rfl ?_; intro W2 bx hgr; clear xg5; replace Bg1 := am (seg.far Bg1.1 hgr (Ne.symm Ngg1.1)); replace HK := am (Kept.of_grown hgr HK.1 (fun k e => .inl (Option.some.inj e).symm)); replace HB := am (seg.below HB.1 hgr Gg.1); replace Bg := am bx; clear bx hgr; have xg5 : W2.cell? ⟨g, 5, none⟩ = some (.int .i64 (wrap64 (bad + 1))) := (blk_cell Bg.1 5).trans rfl; skip) | ((with_reducible refine gate_store (t := 3) (p := 56) rfl ?_); refine seg.list rfl rfl 3 (.tmp 56) _ rfl 75 g 5 #[.int .i64 me, .int .i64 (R : Int), .int .i64 cr, .int .i64 H, .int .u64 b, .int .i64 (wrap64 (bad + 1)), .int .i64 lock, .int .i64 ad] #[.int .i64 me, .int .i64 (R : Int), .int .i64 cr, .int .i64 H, .int .u64 b, .int .i64 0, .int .i64 lock, .int .i64 ad] [.int .i64 0] rfl rfl (by kernel_rfl) (by simp [Value.oneCell']) Bg.1 (by simp) rfl ?_; intro W3 bx hgr; clear xg5; replace Bg1 := am (seg.far Bg1.1 hgr (Ne.symm Ngg1.1)); replace HK := am (Kept.of_grown hgr HK.1 (fun k e => .inl (Option.some.inj e).symm)); replace HB := am (seg.below HB.1 hgr Gg.1); replace Bg := am bx; clear bx hgr; skip) | ((with_reducible refine gate_store (t := 3) (p := 59) rfl ?_); refine seg.list rfl rfl 3 (.tmp 59) _ rfl 75 g 6 #[.int .i64 me, .int .i64 (R : Int), .int .i64 cr, .int .i64 H, .int .u64 b, .int .i64 0, .int .i64 lock, .int .i64 ad] #[.int .i64 me, .int .i64 (R : Int), .int .i64 cr, .int .i64 H, .int .u64 b, .int .i64 0, .int .i64 30, .int .i64 ad] [.int .i64 30] rfl rfl (by kernel_rfl) (by simp [Value.oneCell']) Bg.1 (by simp) rfl ?_; intro W4 bx hgr; replace Bg1 := am (seg.far Bg1.1 hgr (Ne.symm Ngg1.1)); replace HK := am (Kept.of_grown hgr HK.1 (fun k e => .inl (Option.some.inj e).symm)); replace HB := am (seg.below HB.1 hgr Gg.1); replace Bg := am bx; clear bx hgr; skip))
    go_ret
    rw [HT.1]
    exact ⟨rfl, Bg.1, HK.1, HB.1⟩
   ·
    have q5 : (wrap64 (bad + 1) == 5) = false := beq_eq_false_iff_ne.mpr h5
    have HT := am (show mstate.soldF l me (R : Int) bad lock body tag = (wrap64 (bad + 1), lock, 12) by unfold mstate.soldF; rw [Int.toNat_natCast, hn]; simp [h5])
    clear h5 hn HH
    go_wp2_with (first | ((with_reducible refine gate_store (t := 3) (p := 45) rfl ?_); refine seg.list rfl rfl 3 (.tmp 45) _ rfl 75 g 5 #[.int .i64 me, .int .i64 (R : Int), .int .i64 cr, .int .i64 H, .int .u64 b, .int .i64 bad, .int .i64 lock, .int .i64 ad] #[.int .i64 me, .int .i64 (R : Int), .int .i64 cr, .int .i64 H, .int .u64 b, .int .i64 (wrap64 (bad + 1)), .int .i64 lock, .int .i64 ad] [.int .i64 (wrap64 (bad + 1))] rfl rfl (by kernel_rfl) (by simp [Value.oneCell']) Bg.1 (by simp) rfl ?_; intro W2 bx hgr; clear xg5; replace Bg1 := am (seg.far Bg1.1 hgr (Ne.symm Ngg1.1)); replace HK := am (Kept.of_grown hgr HK.1 (fun k e => .inl (Option.some.inj e).symm)); replace HB := am (seg.below HB.1 hgr Gg.1); replace Bg := am bx; clear bx hgr; have xg5 : W2.cell? ⟨g, 5, none⟩ = some (.int .i64 (wrap64 (bad + 1))) := (blk_cell Bg.1 5).trans rfl; skip))
    go_ret
    rw [HT.1]
    exact ⟨rfl, Bg.1, HK.1, HB.1⟩
  | succ m =>
   have q0 : decide ((((m + 1 : Nat) : Int) - 1) ≥ 0) = true := decide_eq_true (by omega)
   have em : (((m + 1 : Nat) : Int) - 1) = (m : Int) := by omega
   rw [em] at q0 ⊢
   clear em
   have HM : Aside0 (m ≤ R) := ⟨by omega⟩
   have y0 : wr.drew.cell? ⟨g1, 0, none⟩ = some (.slice A l.length c) := (blk_cell (blk_drew Bg1.1) 0).trans rfl
   have y1 : wr.drew.cell? ⟨g, 0, none⟩ = some (.int .i64 me) := (blk_cell (blk_drew Bg.1) 0).trans rfl
   cases hv : mstate.ver l me body tag (m : Int) with
   | true =>
    have HV : Aside0 (oracle_Verify.f l me (m : Int) body tag = some true) := ⟨by rw [mstate.ver_eq, hv]⟩
    have hh : mstate.hunt l me body tag (R + 1) = some m := by rw [← HH.1]; simp [mstate.hunt, hv]
    have HT := am (show mstate.soldF l me (R : Int) bad lock body tag = (bad, lock, if (m : Int) < (R : Int) then 11 else 0) by unfold mstate.soldF; rw [Int.toNat_natCast, hh])
    clear hv hh HH
    go_wp2
    refine start_ (n := 11) (S := fun w' => w'.cell? ⟨g1, 0, none⟩ = some (.slice A l.length c) ∧ w'.cell? ⟨g, 0, none⟩ = some (.int .i64 me)) (ds := []) #[false, false, false, false, false, false, false, false, false, false, false] (by kernel_rfl) rfl rfl ⟨y0, y1⟩ (fun hHeld => ?_)
    refine czpp 1 20 ?_
    refine czpp 2 21 ?_
    refine czpp 3 22 ?_
    refine czpp 4 23 ?_
    refine czpp 6 25 ?_
    refine czpp 7 26 ?_
    refine czpp 8 27 ?_
    refine cztk 0 19 ?_
    refine cztk 5 24 ?_
    refine one_ (i := 9) (N := some 28) #[true, true, true, true, true, true, true, true, true, true, false] rfl rfl (by kernel_rfl) (by decide) (fun K hK => ?_)
    refine goes_ Tryz.func68 (by kernel_rfl) rfl #[.agg #[.slice A l.length c], .int .i64 me, .int .i64 (m : Int), .int .i64 body, .int .i64 tag] (by rfl) rfl rfl (by (try simp only [List.map_toArray, List.map_cons, List.map_nil]); first | done | rfl) ?_
    with_reducible refine (oracle_Verify.calls A c l me (m : Int) body tag true _ (Kd.C_below HR0.1 (below_drew1 HB.1)) HC0.1 HV.1).mono ?_
    rintro en wv ⟨rfl, hb1⟩
    refine ⟨_, rfl, ?_⟩
    replace Bg := am (blk_below (blk_drew Bg.1) hb1)
    replace Bg1 := am (blk_below (blk_drew Bg1.1) hb1)
    replace HK := am ((HK.1.drew).below hb1)
    replace HB := am (below_step (below_drew1 HB.1) hb1)
    have xg1 : wv.cell? ⟨g, 1, none⟩ = some (.int .i64 (R : Int)) := (blk_cell Bg.1 1).trans rfl
    clear hb1
    refine hK.out _ _ ⟨(blk_cell Bg1.1 0).trans rfl, (blk_cell Bg.1 0).trans rfl⟩ (fun hHeld => ?_)
    clear hK K
    refine norm_ (a' := ?_) ?_ ?_
    rotate_left
    ·
     show Act.put _ (some 28) _ = _
     simp only [Act.put, List.setIfInBounds_toArray, List.set_cons_zero, List.set_cons_succ, i64_w, i32_w]
     rfl
    refine czpp 10 29 ?_
    refine done_ (by kernel_rfl) ?_
    by_cases hl : (m : Int) < (R : Int)
    ·
     have ql := decide_eq_true hl
     have ql2 : decide (m < R) = true := decide_eq_true (by omega)
     rw [if_pos hl] at HT
     clear hl
     go_wp2
     go_ret
     rw [HT.1]
     exact ⟨rfl, Bg.1, HK.1, HB.1⟩
    ·
     have ql := decide_eq_false hl
     have ql2 : decide (m < R) = false := decide_eq_false (by omega)
     rw [if_neg hl] at HT
     clear hl
     go_wp2
     go_ret
     rw [HT.1]
     exact ⟨rfl, Bg.1, HK.1, HB.1⟩
   | false =>
    have HV : Aside0 (oracle_Verify.f l me (m : Int) body tag = some false) := ⟨by rw [mstate.ver_eq, hv]⟩
    have HH2 : Aside0 (mstate.hunt l me body tag m = mstate.hunt l me body tag (R + 1)) := ⟨by rw [← HH.1]; simp [mstate.hunt, hv]⟩
    clear hv HH
    go_wp2
    refine start_ (n := 11) (S := fun w' => w'.cell? ⟨g1, 0, none⟩ = some (.slice A l.length c) ∧ w'.cell? ⟨g, 0, none⟩ = some (.int .i64 me)) (ds := []) #[false, false, false, false, false, false, false, false, false, false, false] (by kernel_rfl) rfl rfl ⟨y0, y1⟩ (fun hHeld => ?_)
    refine czpp 1 20 ?_
    refine czpp 2 21 ?_
    refine czpp 3 22 ?_
    refine czpp 4 23 ?_
    refine czpp 6 25 ?_
    refine czpp 7 26 ?_
    refine czpp 8 27 ?_
    refine cztk 0 19 ?_
    refine cztk 5 24 ?_
    refine one_ (i := 9) (N := some 28) #[true, true, true, true, true, true, true, true, true, true, false] rfl rfl (by kernel_rfl) (by decide) (fun K hK => ?_)
    refine goes_ Tryz.func68 (by kernel_rfl) rfl #[.agg #[.slice A l.length c], .int .i64 me, .int .i64 (m : Int), .int .i64 body, .int .i64 tag] (by rfl) rfl rfl (by (try simp only [List.map_toArray, List.map_cons, List.map_nil]); first | done | rfl) ?_
    with_reducible refine (oracle_Verify.calls A c l me (m : Int) body tag false _ (Kd.C_below HR0.1 (below_drew1 HB.1)) HC0.1 HV.1).mono ?_
    rintro en wv ⟨rfl, hb1⟩
    refine ⟨_, rfl, ?_⟩
    replace Bg := am (blk_below (blk_drew Bg.1) hb1)
    replace Bg1 := am (blk_below (blk_drew Bg1.1) hb1)
    replace HK := am ((HK.1.drew).below hb1)
    replace HB := am (below_step (below_drew1 HB.1) hb1)
    have xg1 : wv.cell? ⟨g, 1, none⟩ = some (.int .i64 (R : Int)) := (blk_cell Bg.1 1).trans rfl
    clear hb1
    refine hK.out _ _ ⟨(blk_cell Bg1.1 0).trans rfl, (blk_cell Bg.1 0).trans rfl⟩ (fun hHeld => ?_)
    clear hK K
    refine norm_ (a' := ?_) ?_ ?_
    rotate_left
    ·
     show Act.put _ (some 28) _ = _
     simp only [Act.put, List.setIfInBounds_toArray, List.set_cons_zero, List.set_cons_succ, i64_w, i32_w]
     rfl
    refine czpp 10 29 ?_
    refine done_ (by kernel_rfl) ?_
    go_wp2
    go_roundg m
    case measure => exact Nat.lt_succ_self _
    case rel => exact ⟨by first | rfl | (congr 1; have := HM.1; have := HR15.1; unfold wrap64; omega), Nat.le_succ_of_le HM.1, HH2, Bg, Bg1, HK, HB⟩
def meter_Key.f (k : Nat) (me rev cr H b bad lock : Int) (l : List S55) (cls id amt tag : Int) : Option (Int × Int × Int × Int × Int × Int × Int × Int × Int) :=
 (meter_may.f k me rev cr H b bad lock).bind fun m => if m = true then ((oracle_May.f l).bind fun v => if v = true then ((token_Body.f cls id amt tag).bind fun bd => if bd.2 = 0 then (if lock > 0 then some (me, rev, cr, H, b, bad, lock, 0, 10) else if cls = 3 then some (me, rev, cr, H, b, bad, lock, 0, 0) else if 0 ≤ rev ∧ rev ≤ 15 then (if (mstate.soldF l me rev bad lock bd.1 tag).2.2 = 0 then ((window_Take.f k H b id).bind fun wv => some (me, (mstate.takeF rev cr H b (mstate.soldF l me rev bad lock bd.1 tag).1 0 cls amt wv.1 wv.2.1 wv.2.2).1, (mstate.takeF rev cr H b (mstate.soldF l me rev bad lock bd.1 tag).1 0 cls amt wv.1 wv.2.1 wv.2.2).2.1, (mstate.takeF rev cr H b (mstate.soldF l me rev bad lock bd.1 tag).1 0 cls amt wv.1 wv.2.1 wv.2.2).2.2.1, (mstate.takeF rev cr H b (mstate.soldF l me rev bad lock bd.1 tag).1 0 cls amt wv.1 wv.2.1 wv.2.2).2.2.2.1, (mstate.takeF rev cr H b (mstate.soldF l me rev bad lock bd.1 tag).1 0 cls amt wv.1 wv.2.1 wv.2.2).2.2.2.2.1, (mstate.soldF l me rev bad lock bd.1 tag).2.1, (mstate.takeF rev cr H b (mstate.soldF l me rev bad lock bd.1 tag).1 0 cls amt wv.1 wv.2.1 wv.2.2).2.2.2.2.2.1, (mstate.takeF rev cr H b (mstate.soldF l me rev bad lock bd.1 tag).1 0 cls amt wv.1 wv.2.1 wv.2.2).2.2.2.2.2.2)) else some (me, rev, cr, H, b, (mstate.soldF l me rev bad lock bd.1 tag).1, (mstate.soldF l me rev bad lock bd.1 tag).2.1, 0, (mstate.soldF l me rev bad lock bd.1 tag).2.2)) else none) else some (me, rev, cr, H, b, bad, lock, 0, bd.2)) else some (0, 0, 0, 0, 0, 0, 0, 0, 5)) else some (0, 0, 0, 0, 0, 0, 0, 0, 5)
theorem meter_Key.mono : ∀ a0 a1 a2 a3 a4 a5 a6 a7 a8 a9 a10 a11 k, LeO (meter_Key.f k a0 a1 a2 a3 a4 a5 a6 a7 a8 a9 a10 a11) (meter_Key.f (k + 1) a0 a1 a2 a3 a4 a5 a6 a7 a8 a9 a10 a11) := by
 intro a0 a1 a2 a3 a4 a5 a6 a7 a8 a9 a10 a11 k
 unfold meter_Key.f
 exact LeO.bind (meter_may.mono _ _ _ _ _ _ _ _) (fun _ => LeO.ite (LeO.bind (LeO.refl _) (fun _ => LeO.ite (LeO.bind (LeO.refl _) (fun _ => LeO.ite (LeO.ite (LeO.refl _) (LeO.ite (LeO.refl _) (LeO.ite (LeO.ite (LeO.bind (window_Take.mono _ _ _ _) (fun _ => LeO.refl _)) (LeO.refl _)) (LeO.refl _)))) (LeO.refl _))) (LeO.refl _))) (LeO.refl _))
set_option maxHeartbeats 16000000 in
set_option maxRecDepth 100000 in
theorem meter_Key.calls (k : Nat) (me rev cr H b bad lock : Int) (A : Option Addr) (c : Nat) (l : List S55) (cls id amt tag : Int) (r1 r2 r3 r4 r5 r6 r7 r8 r9 : Int) (w : World) (hr0 : Kd.C k55 w A l.length l) (hc0 : l.length ≤ c) (h : meter_Key.f k me rev cr H b bad lock l cls id amt tag = some (r1, r2, r3, r4, r5, r6, r7, r8, r9)) :
  Calls Tryz.prog 13 #[.agg #[.int .i64 me, .int .i64 rev, .int .i64 cr, .int .i64 H, .int .u64 b, .int .i64 bad, .int .i64 lock], .agg #[.slice A l.length c], .agg #[.int .i64 cls, .int .i64 id, .int .i64 amt, .int .i64 tag]] w fun e w' => e = .returned (.tuple #[.agg #[.int .i64 r1, .int .i64 r2, .int .i64 r3, .int .i64 r4, .int .u64 r5, .int .i64 r6, .int .i64 r7], .int .i64 r8, .int .i64 r9]) ∧ Below w.heap.size w w' := by
 have HR0 := am hr0
 have HC0 := am hc0
 have HB := am (Below.refl w.heap.size w)
 have hu40 := Tryz.underlying40
 have hu38 := Tryz.underlying38
 have hu43 := Tryz.underlying25
 have hu45 := Tryz.underlying44
 have hu111 := Tryz.underlying75
 clear hr0 hc0
 unfold meter_Key.f at h
 replace h := Option.bind_eq_some_iff.mp h
 obtain ⟨m, hm, h⟩ := h
 have HM := am hm
 clear hm
 by_cases c0 : m = true
 case neg =>
  rw [if_neg c0] at h
  simp only [Option.some.injEq, Prod.mk.injEq] at h
  obtain ⟨rfl, rfl, rfl, rfl, rfl, rfl, rfl, rfl, rfl⟩ := h
  replace c0 := Bool.eq_false_iff.mpr c0
  subst c0
  go_enter Tryz.func13, Tryz.ntmps13
  go_wp2_with (first | ((with_reducible refine gate_dst (N := 3) rfl ?_); refine czbox 3 #[.int .i64 me, .int .i64 rev, .int .i64 cr, .int .i64 H, .int .u64 b, .int .i64 bad, .int .i64 lock] 40 ?_; intro g1 hgq W1 hbox hb; have Gg1 := am (by rw [hgq]; exact below_size HB.1 : w.heap.size ≤ g1); replace HB := am (below_step HB.1 hb); have Bg1 := am hbox; clear hb hbox hgq; skip) | ((with_reducible refine gate_dst (N := 4) rfl ?_); refine czbox 4 #[.slice A l.length c] 25 ?_; intro g2 hgq W2 hbox hb; have Ng1g2 := am (by rw [hgq]; exact Nat.ne_of_lt (blk_lt Bg1.1) : g1 ≠ g2); have Gg2 := am (by rw [hgq]; exact below_size HB.1 : w.heap.size ≤ g2); replace Bg1 := am (blk_below Bg1.1 hb); replace HB := am (below_step HB.1 hb); have Bg2 := am hbox; clear hb hbox hgq; skip) | ((with_reducible refine gate_dst (N := 5) rfl ?_); refine czbox 5 #[.int .i64 cls, .int .i64 id, .int .i64 amt, .int .i64 tag] 44 ?_; intro g3 hgq W3 hbox hb; have Ng1g3 := am (by rw [hgq]; exact Nat.ne_of_lt (blk_lt Bg1.1) : g1 ≠ g3); have Ng2g3 := am (by rw [hgq]; exact Nat.ne_of_lt (blk_lt Bg2.1) : g2 ≠ g3); have Gg3 := am (by rw [hgq]; exact below_size HB.1 : w.heap.size ≤ g3); replace Bg1 := am (blk_below Bg1.1 hb); replace Bg2 := am (blk_below Bg2.1 hb); replace HB := am (below_step HB.1 hb); have Bg3 := am hbox; clear hb hbox hgq; skip) | ((with_reducible refine gate_dst (N := 6) rfl ?_); refine czbox 6 #[.int .i64 0, .int .i64 0, .int .i64 0, .int .i64 0, .int .u64 0, .int .i64 0, .int .i64 0] 40 ?_; intro g4 hgq W4 hbox hb; have Ng1g4 := am (by rw [hgq]; exact Nat.ne_of_lt (blk_lt Bg1.1) : g1 ≠ g4); have Ng2g4 := am (by rw [hgq]; exact Nat.ne_of_lt (blk_lt Bg2.1) : g2 ≠ g4); have Ng3g4 := am (by rw [hgq]; exact Nat.ne_of_lt (blk_lt Bg3.1) : g3 ≠ g4); have Gg4 := am (by rw [hgq]; exact below_size HB.1 : w.heap.size ≤ g4); replace Bg1 := am (blk_below Bg1.1 hb); replace Bg2 := am (blk_below Bg2.1 hb); replace Bg3 := am (blk_below Bg3.1 hb); replace HB := am (below_step HB.1 hb); have Bg4 := am hbox; clear hb hbox hgq; have xg10 : W4.cell? ⟨g1, 0, none⟩ = some (.int .i64 me) := (blk_cell Bg1.1 0).trans rfl; have xg11 : W4.cell? ⟨g1, 1, none⟩ = some (.int .i64 rev) := (blk_cell Bg1.1 1).trans rfl; have xg12 : W4.cell? ⟨g1, 2, none⟩ = some (.int .i64 cr) := (blk_cell Bg1.1 2).trans rfl; have xg13 : W4.cell? ⟨g1, 3, none⟩ = some (.int .i64 H) := (blk_cell Bg1.1 3).trans rfl; have xg14 : W4.cell? ⟨g1, 4, none⟩ = some (.int .u64 b) := (blk_cell Bg1.1 4).trans rfl; have xg15 : W4.cell? ⟨g1, 5, none⟩ = some (.int .i64 bad) := (blk_cell Bg1.1 5).trans rfl; have xg16 : W4.cell? ⟨g1, 6, none⟩ = some (.int .i64 lock) := (blk_cell Bg1.1 6).trans rfl; skip) | (go_at_call 28; refine (meter_may.calls k me rev cr H b bad lock false _ HM.1).mono ?_; rintro en wa ⟨rfl, hb1⟩; clear xg10 xg11 xg12 xg13 xg14 xg15 xg16; replace Bg1 := am (blk_below Bg1.1 hb1); replace Bg2 := am (blk_below Bg2.1 hb1); replace Bg3 := am (blk_below Bg3.1 hb1); replace Bg4 := am (blk_below Bg4.1 hb1); replace HB := am (below_step HB.1 hb1); have xg20 : wa.cell? ⟨g2, 0, none⟩ = some (.slice A l.length c) := (blk_cell Bg2.1 0).trans rfl; clear hb1) | ((with_reducible refine gate_store (t := 40) (p := 6) rfl ?_); refine seg.list rfl rfl 40 (.tmp 6) _ rfl 40 g4 0 #[.int .i64 0, .int .i64 0, .int .i64 0, .int .i64 0, .int .u64 0, .int .i64 0, .int .i64 0] #[.int .i64 0, .int .i64 0, .int .i64 0, .int .i64 0, .int .u64 0, .int .i64 0, .int .i64 0] [.int .i64 0, .int .i64 0, .int .i64 0, .int .i64 0, .int .u64 0, .int .i64 0, .int .i64 0] rfl rfl (by kernel_rfl) (by simp [Value.oneCell']) Bg4.1 (by simp) rfl ?_; intro W5 bx hgr; clear xg20; replace Bg1 := am (seg.far Bg1.1 hgr Ng1g4.1); replace Bg2 := am (seg.far Bg2.1 hgr Ng2g4.1); replace Bg3 := am (seg.far Bg3.1 hgr Ng3g4.1); replace HB := am (seg.below HB.1 hgr Gg4.1); replace Bg4 := am bx; clear bx hgr; skip))
  refine bodyPost_ret (results_list (rs := [.cell 6 40, .tmp 7, .tmp 8]) rfl (by simp) (.cell g4 40 #[.int .i64 0, .int .i64 0, .int .i64 0, .int .i64 0, .int .u64 0, .int .i64 0, .int .i64 0] (0, 0) _ rfl Bg4.1 Tryz.underlying40 rfl (by kernel_rfl) (.tmp (.tmp .nil)))) rfl ?_
  exact ⟨rfl, HB.1⟩
 rw [if_pos c0] at h
 subst c0
 replace h := Option.bind_eq_some_iff.mp h
 obtain ⟨v, hv, h⟩ := h
 have HV := am hv
 clear hv
 by_cases c1 : v = true
 case neg =>
  rw [if_neg c1] at h
  simp only [Option.some.injEq, Prod.mk.injEq] at h
  obtain ⟨rfl, rfl, rfl, rfl, rfl, rfl, rfl, rfl, rfl⟩ := h
  replace c1 := Bool.eq_false_iff.mpr c1
  subst c1
  go_enter Tryz.func13, Tryz.ntmps13
  go_wp2_with (first | ((with_reducible refine gate_dst (N := 3) rfl ?_); refine czbox 3 #[.int .i64 me, .int .i64 rev, .int .i64 cr, .int .i64 H, .int .u64 b, .int .i64 bad, .int .i64 lock] 40 ?_; intro g1 hgq W1 hbox hb; have Gg1 := am (by rw [hgq]; exact below_size HB.1 : w.heap.size ≤ g1); replace HB := am (below_step HB.1 hb); have Bg1 := am hbox; clear hb hbox hgq; skip) | ((with_reducible refine gate_dst (N := 4) rfl ?_); refine czbox 4 #[.slice A l.length c] 25 ?_; intro g2 hgq W2 hbox hb; have Ng1g2 := am (by rw [hgq]; exact Nat.ne_of_lt (blk_lt Bg1.1) : g1 ≠ g2); have Gg2 := am (by rw [hgq]; exact below_size HB.1 : w.heap.size ≤ g2); replace Bg1 := am (blk_below Bg1.1 hb); replace HB := am (below_step HB.1 hb); have Bg2 := am hbox; clear hb hbox hgq; skip) | ((with_reducible refine gate_dst (N := 5) rfl ?_); refine czbox 5 #[.int .i64 cls, .int .i64 id, .int .i64 amt, .int .i64 tag] 44 ?_; intro g3 hgq W3 hbox hb; have Ng1g3 := am (by rw [hgq]; exact Nat.ne_of_lt (blk_lt Bg1.1) : g1 ≠ g3); have Ng2g3 := am (by rw [hgq]; exact Nat.ne_of_lt (blk_lt Bg2.1) : g2 ≠ g3); have Gg3 := am (by rw [hgq]; exact below_size HB.1 : w.heap.size ≤ g3); replace Bg1 := am (blk_below Bg1.1 hb); replace Bg2 := am (blk_below Bg2.1 hb); replace HB := am (below_step HB.1 hb); have Bg3 := am hbox; clear hb hbox hgq; skip) | ((with_reducible refine gate_dst (N := 6) rfl ?_); refine czbox 6 #[.int .i64 0, .int .i64 0, .int .i64 0, .int .i64 0, .int .u64 0, .int .i64 0, .int .i64 0] 40 ?_; intro g4 hgq W4 hbox hb; have Ng1g4 := am (by rw [hgq]; exact Nat.ne_of_lt (blk_lt Bg1.1) : g1 ≠ g4); have Ng2g4 := am (by rw [hgq]; exact Nat.ne_of_lt (blk_lt Bg2.1) : g2 ≠ g4); have Ng3g4 := am (by rw [hgq]; exact Nat.ne_of_lt (blk_lt Bg3.1) : g3 ≠ g4); have Gg4 := am (by rw [hgq]; exact below_size HB.1 : w.heap.size ≤ g4); replace Bg1 := am (blk_below Bg1.1 hb); replace Bg2 := am (blk_below Bg2.1 hb); replace Bg3 := am (blk_below Bg3.1 hb); replace HB := am (below_step HB.1 hb); have Bg4 := am hbox; clear hb hbox hgq; have xg10 : W4.cell? ⟨g1, 0, none⟩ = some (.int .i64 me) := (blk_cell Bg1.1 0).trans rfl; have xg11 : W4.cell? ⟨g1, 1, none⟩ = some (.int .i64 rev) := (blk_cell Bg1.1 1).trans rfl; have xg12 : W4.cell? ⟨g1, 2, none⟩ = some (.int .i64 cr) := (blk_cell Bg1.1 2).trans rfl; have xg13 : W4.cell? ⟨g1, 3, none⟩ = some (.int .i64 H) := (blk_cell Bg1.1 3).trans rfl; have xg14 : W4.cell? ⟨g1, 4, none⟩ = some (.int .u64 b) := (blk_cell Bg1.1 4).trans rfl; have xg15 : W4.cell? ⟨g1, 5, none⟩ = some (.int .i64 bad) := (blk_cell Bg1.1 5).trans rfl; have xg16 : W4.cell? ⟨g1, 6, none⟩ = some (.int .i64 lock) := (blk_cell Bg1.1 6).trans rfl; skip) | (go_at_call 28; refine (meter_may.calls k me rev cr H b bad lock true _ HM.1).mono ?_; rintro en wa ⟨rfl, hb1⟩; clear xg10 xg11 xg12 xg13 xg14 xg15 xg16; replace Bg1 := am (blk_below Bg1.1 hb1); replace Bg2 := am (blk_below Bg2.1 hb1); replace Bg3 := am (blk_below Bg3.1 hb1); replace Bg4 := am (blk_below Bg4.1 hb1); replace HB := am (below_step HB.1 hb1); have xg20 : wa.cell? ⟨g2, 0, none⟩ = some (.slice A l.length c) := (blk_cell Bg2.1 0).trans rfl; clear hb1) | (go_at_call 29; refine (oracle_May.calls A c l false _ (Kd.C_below HR0.1 HB.1) HC0.1 HV.1).mono ?_; rintro en wb ⟨rfl, hb1⟩; clear xg20; replace Bg1 := am (blk_below Bg1.1 hb1); replace Bg2 := am (blk_below Bg2.1 hb1); replace Bg3 := am (blk_below Bg3.1 hb1); replace Bg4 := am (blk_below Bg4.1 hb1); replace HB := am (below_step HB.1 hb1); have xg30 : wb.cell? ⟨g3, 0, none⟩ = some (.int .i64 cls) := (blk_cell Bg3.1 0).trans rfl; have xg31 : wb.cell? ⟨g3, 1, none⟩ = some (.int .i64 id) := (blk_cell Bg3.1 1).trans rfl; have xg32 : wb.cell? ⟨g3, 2, none⟩ = some (.int .i64 amt) := (blk_cell Bg3.1 2).trans rfl; have xg33 : wb.cell? ⟨g3, 3, none⟩ = some (.int .i64 tag) := (blk_cell Bg3.1 3).trans rfl; clear hb1) | ((with_reducible refine gate_store (t := 40) (p := 6) rfl ?_); refine seg.list rfl rfl 40 (.tmp 6) _ rfl 40 g4 0 #[.int .i64 0, .int .i64 0, .int .i64 0, .int .i64 0, .int .u64 0, .int .i64 0, .int .i64 0] #[.int .i64 0, .int .i64 0, .int .i64 0, .int .i64 0, .int .u64 0, .int .i64 0, .int .i64 0] [.int .i64 0, .int .i64 0, .int .i64 0, .int .i64 0, .int .u64 0, .int .i64 0, .int .i64 0] rfl rfl (by kernel_rfl) (by simp [Value.oneCell']) Bg4.1 (by simp) rfl ?_; intro W5 bx hgr; clear xg30 xg31 xg32 xg33; replace Bg1 := am (seg.far Bg1.1 hgr Ng1g4.1); replace Bg2 := am (seg.far Bg2.1 hgr Ng2g4.1); replace Bg3 := am (seg.far Bg3.1 hgr Ng3g4.1); replace HB := am (seg.below HB.1 hgr Gg4.1); replace Bg4 := am bx; clear bx hgr; skip))
  refine bodyPost_ret (results_list (rs := [.cell 6 40, .tmp 7, .tmp 8]) rfl (by simp) (.cell g4 40 #[.int .i64 0, .int .i64 0, .int .i64 0, .int .i64 0, .int .u64 0, .int .i64 0, .int .i64 0] (0, 0) _ rfl Bg4.1 Tryz.underlying40 rfl (by kernel_rfl) (.tmp (.tmp .nil)))) rfl ?_
  exact ⟨rfl, HB.1⟩
 rw [if_pos c1] at h
 subst c1
 replace h := Option.bind_eq_some_iff.mp h
 obtain ⟨⟨bd, e⟩, hd, h⟩ := h
 have HD := am hd
 clear hd
 have HH := am h
 clear h
 go_enter Tryz.func13, Tryz.ntmps13
 go_upto_region 4 with (first | ((with_reducible refine gate_dst (N := 3) rfl ?_); refine czbox 3 #[.int .i64 me, .int .i64 rev, .int .i64 cr, .int .i64 H, .int .u64 b, .int .i64 bad, .int .i64 lock] 40 ?_; intro g1 hgq W1 hbox hb; have Gg1 := am (by rw [hgq]; exact below_size HB.1 : w.heap.size ≤ g1); replace HB := am (below_step HB.1 hb); have Bg1 := am hbox; clear hb hbox hgq; skip) | ((with_reducible refine gate_dst (N := 4) rfl ?_); refine czbox 4 #[.slice A l.length c] 25 ?_; intro g2 hgq W2 hbox hb; have Ng1g2 := am (by rw [hgq]; exact Nat.ne_of_lt (blk_lt Bg1.1) : g1 ≠ g2); have Gg2 := am (by rw [hgq]; exact below_size HB.1 : w.heap.size ≤ g2); replace Bg1 := am (blk_below Bg1.1 hb); replace HB := am (below_step HB.1 hb); have Bg2 := am hbox; clear hb hbox hgq; skip) | ((with_reducible refine gate_dst (N := 5) rfl ?_); refine czbox 5 #[.int .i64 cls, .int .i64 id, .int .i64 amt, .int .i64 tag] 44 ?_; intro g3 hgq W3 hbox hb; have Ng1g3 := am (by rw [hgq]; exact Nat.ne_of_lt (blk_lt Bg1.1) : g1 ≠ g3); have Ng2g3 := am (by rw [hgq]; exact Nat.ne_of_lt (blk_lt Bg2.1) : g2 ≠ g3); have Gg3 := am (by rw [hgq]; exact below_size HB.1 : w.heap.size ≤ g3); replace Bg1 := am (blk_below Bg1.1 hb); replace Bg2 := am (blk_below Bg2.1 hb); replace HB := am (below_step HB.1 hb); have Bg3 := am hbox; clear hb hbox hgq; skip) | ((with_reducible refine gate_dst (N := 6) rfl ?_); refine czbox 6 #[.int .i64 0, .int .i64 0, .int .i64 0, .int .i64 0, .int .u64 0, .int .i64 0, .int .i64 0] 40 ?_; intro g4 hgq W4 hbox hb; have Ng1g4 := am (by rw [hgq]; exact Nat.ne_of_lt (blk_lt Bg1.1) : g1 ≠ g4); have Ng2g4 := am (by rw [hgq]; exact Nat.ne_of_lt (blk_lt Bg2.1) : g2 ≠ g4); have Ng3g4 := am (by rw [hgq]; exact Nat.ne_of_lt (blk_lt Bg3.1) : g3 ≠ g4); have Gg4 := am (by rw [hgq]; exact below_size HB.1 : w.heap.size ≤ g4); replace Bg1 := am (blk_below Bg1.1 hb); replace Bg2 := am (blk_below Bg2.1 hb); replace Bg3 := am (blk_below Bg3.1 hb); replace HB := am (below_step HB.1 hb); have Bg4 := am hbox; clear hb hbox hgq; have xg10 : W4.cell? ⟨g1, 0, none⟩ = some (.int .i64 me) := (blk_cell Bg1.1 0).trans rfl; have xg11 : W4.cell? ⟨g1, 1, none⟩ = some (.int .i64 rev) := (blk_cell Bg1.1 1).trans rfl; have xg12 : W4.cell? ⟨g1, 2, none⟩ = some (.int .i64 cr) := (blk_cell Bg1.1 2).trans rfl; have xg13 : W4.cell? ⟨g1, 3, none⟩ = some (.int .i64 H) := (blk_cell Bg1.1 3).trans rfl; have xg14 : W4.cell? ⟨g1, 4, none⟩ = some (.int .u64 b) := (blk_cell Bg1.1 4).trans rfl; have xg15 : W4.cell? ⟨g1, 5, none⟩ = some (.int .i64 bad) := (blk_cell Bg1.1 5).trans rfl; have xg16 : W4.cell? ⟨g1, 6, none⟩ = some (.int .i64 lock) := (blk_cell Bg1.1 6).trans rfl; skip) | (go_at_call 28; refine (meter_may.calls k me rev cr H b bad lock true _ HM.1).mono ?_; rintro en wa ⟨rfl, hb1⟩; clear xg10 xg11 xg12 xg13 xg14 xg15 xg16; replace Bg1 := am (blk_below Bg1.1 hb1); replace Bg2 := am (blk_below Bg2.1 hb1); replace Bg3 := am (blk_below Bg3.1 hb1); replace Bg4 := am (blk_below Bg4.1 hb1); replace HB := am (below_step HB.1 hb1); have xg20 : wa.cell? ⟨g2, 0, none⟩ = some (.slice A l.length c) := (blk_cell Bg2.1 0).trans rfl; clear hb1) | (go_at_call 29; refine (oracle_May.calls A c l true _ (Kd.C_below HR0.1 HB.1) HC0.1 HV.1).mono ?_; rintro en wb ⟨rfl, hb1⟩; clear xg20; replace Bg1 := am (blk_below Bg1.1 hb1); replace Bg2 := am (blk_below Bg2.1 hb1); replace Bg3 := am (blk_below Bg3.1 hb1); replace Bg4 := am (blk_below Bg4.1 hb1); replace HB := am (below_step HB.1 hb1); have xg30 : wb.cell? ⟨g3, 0, none⟩ = some (.int .i64 cls) := (blk_cell Bg3.1 0).trans rfl; have xg31 : wb.cell? ⟨g3, 1, none⟩ = some (.int .i64 id) := (blk_cell Bg3.1 1).trans rfl; have xg32 : wb.cell? ⟨g3, 2, none⟩ = some (.int .i64 amt) := (blk_cell Bg3.1 2).trans rfl; have xg33 : wb.cell? ⟨g3, 3, none⟩ = some (.int .i64 tag) := (blk_cell Bg3.1 3).trans rfl; clear hb1) | (go_at_call 30; refine (token_Body.calls cls id amt tag bd e _ HD.1).mono ?_; rintro en wc ⟨rfl, hb1⟩; clear xg30 xg31 xg32 xg33; replace Bg1 := am (blk_below Bg1.1 hb1); replace Bg2 := am (blk_below Bg2.1 hb1); replace Bg3 := am (blk_below Bg3.1 hb1); replace Bg4 := am (blk_below Bg4.1 hb1); replace HB := am (below_step HB.1 hb1); have xg10 : wc.cell? ⟨g1, 0, none⟩ = some (.int .i64 me) := (blk_cell Bg1.1 0).trans rfl; have xg11 : wc.cell? ⟨g1, 1, none⟩ = some (.int .i64 rev) := (blk_cell Bg1.1 1).trans rfl; have xg12 : wc.cell? ⟨g1, 2, none⟩ = some (.int .i64 cr) := (blk_cell Bg1.1 2).trans rfl; have xg13 : wc.cell? ⟨g1, 3, none⟩ = some (.int .i64 H) := (blk_cell Bg1.1 3).trans rfl; have xg14 : wc.cell? ⟨g1, 4, none⟩ = some (.int .u64 b) := (blk_cell Bg1.1 4).trans rfl; have xg15 : wc.cell? ⟨g1, 5, none⟩ = some (.int .i64 bad) := (blk_cell Bg1.1 5).trans rfl; have xg16 : wc.cell? ⟨g1, 6, none⟩ = some (.int .i64 lock) := (blk_cell Bg1.1 6).trans rfl; have xg30 : wc.cell? ⟨g3, 0, none⟩ = some (.int .i64 cls) := (blk_cell Bg3.1 0).trans rfl; clear hb1))
 have h := HH.1
 clear HH
 by_cases c2 : e = 0
 case neg =>
  rw [if_neg c2] at h
  simp only [Option.some.injEq, Prod.mk.injEq] at h
  obtain ⟨rfl, rfl, rfl, rfl, rfl, rfl, rfl, rfl, rfl⟩ := h
  have q2 : (e != 0) = true := bne_iff_ne.mpr c2
  clear c2
  go_wp2_with (first | ((with_reducible refine gate_store (t := 40) (p := 6) rfl ?_); refine seg.list rfl rfl 40 (.tmp 6) _ rfl 40 g4 0 #[.int .i64 0, .int .i64 0, .int .i64 0, .int .i64 0, .int .u64 0, .int .i64 0, .int .i64 0] #[.int .i64 me, .int .i64 rev, .int .i64 cr, .int .i64 H, .int .u64 b, .int .i64 bad, .int .i64 lock] [.int .i64 me, .int .i64 rev, .int .i64 cr, .int .i64 H, .int .u64 b, .int .i64 bad, .int .i64 lock] rfl rfl (by kernel_rfl) (by simp [Value.oneCell']) Bg4.1 (by simp) rfl ?_; intro W5 bx hgr; clear xg10 xg11 xg12 xg13 xg14 xg15 xg16 xg30; replace Bg1 := am (seg.far Bg1.1 hgr Ng1g4.1); replace Bg2 := am (seg.far Bg2.1 hgr Ng2g4.1); replace Bg3 := am (seg.far Bg3.1 hgr Ng3g4.1); replace HB := am (seg.below HB.1 hgr Gg4.1); replace Bg4 := am bx; clear bx hgr; skip))
  refine bodyPost_ret (results_list (rs := [.cell 6 40, .tmp 7, .tmp 8]) rfl (by simp) (.cell g4 40 #[.int .i64 me, .int .i64 rev, .int .i64 cr, .int .i64 H, .int .u64 b, .int .i64 bad, .int .i64 lock] (0, 0) _ rfl Bg4.1 Tryz.underlying40 rfl (by kernel_rfl) (.tmp (.tmp .nil)))) rfl ?_
  exact ⟨rfl, HB.1⟩
 rw [if_pos c2] at h
 have q2 : (e != 0) = false := bne_eq_false_iff_eq.mpr c2
 clear c2
 by_cases c3 : lock > 0
 ·
  rw [if_pos c3] at h
  simp only [Option.some.injEq, Prod.mk.injEq] at h
  obtain ⟨rfl, rfl, rfl, rfl, rfl, rfl, rfl, rfl, rfl⟩ := h
  have q3 := decide_eq_true c3
  clear c3
  go_wp2_with (first | ((with_reducible refine gate_store (t := 40) (p := 6) rfl ?_); refine seg.list rfl rfl 40 (.tmp 6) _ rfl 40 g4 0 #[.int .i64 0, .int .i64 0, .int .i64 0, .int .i64 0, .int .u64 0, .int .i64 0, .int .i64 0] #[.int .i64 me, .int .i64 rev, .int .i64 cr, .int .i64 H, .int .u64 b, .int .i64 bad, .int .i64 lock] [.int .i64 me, .int .i64 rev, .int .i64 cr, .int .i64 H, .int .u64 b, .int .i64 bad, .int .i64 lock] rfl rfl (by kernel_rfl) (by simp [Value.oneCell']) Bg4.1 (by simp) rfl ?_; intro W5 bx hgr; clear xg10 xg11 xg12 xg13 xg14 xg15 xg16 xg30; replace Bg1 := am (seg.far Bg1.1 hgr Ng1g4.1); replace Bg2 := am (seg.far Bg2.1 hgr Ng2g4.1); replace Bg3 := am (seg.far Bg3.1 hgr Ng3g4.1); replace HB := am (seg.below HB.1 hgr Gg4.1); replace Bg4 := am bx; clear bx hgr; skip))
  refine bodyPost_ret (results_list (rs := [.cell 6 40, .tmp 7, .tmp 8]) rfl (by simp) (.cell g4 40 #[.int .i64 me, .int .i64 rev, .int .i64 cr, .int .i64 H, .int .u64 b, .int .i64 bad, .int .i64 lock] (0, 0) _ rfl Bg4.1 Tryz.underlying40 rfl (by kernel_rfl) (.tmp (.tmp .nil)))) rfl ?_
  exact ⟨rfl, HB.1⟩
 rw [if_neg c3] at h
 have q3 := decide_eq_false c3
 clear c3
 by_cases c4 : cls = 3
 ·
  rw [if_pos c4] at h
  simp only [Option.some.injEq, Prod.mk.injEq] at h
  obtain ⟨rfl, rfl, rfl, rfl, rfl, rfl, rfl, rfl, rfl⟩ := h
  have q4 : (cls == 3) = true := beq_iff_eq.mpr c4
  clear c4
  go_wp2_with (first | ((with_reducible refine gate_store (t := 40) (p := 6) rfl ?_); refine seg.list rfl rfl 40 (.tmp 6) _ rfl 40 g4 0 #[.int .i64 0, .int .i64 0, .int .i64 0, .int .i64 0, .int .u64 0, .int .i64 0, .int .i64 0] #[.int .i64 me, .int .i64 rev, .int .i64 cr, .int .i64 H, .int .u64 b, .int .i64 bad, .int .i64 lock] [.int .i64 me, .int .i64 rev, .int .i64 cr, .int .i64 H, .int .u64 b, .int .i64 bad, .int .i64 lock] rfl rfl (by kernel_rfl) (by simp [Value.oneCell']) Bg4.1 (by simp) rfl ?_; intro W5 bx hgr; clear xg10 xg11 xg12 xg13 xg14 xg15 xg16 xg30; replace Bg1 := am (seg.far Bg1.1 hgr Ng1g4.1); replace Bg2 := am (seg.far Bg2.1 hgr Ng2g4.1); replace Bg3 := am (seg.far Bg3.1 hgr Ng3g4.1); replace HB := am (seg.below HB.1 hgr Gg4.1); replace Bg4 := am bx; clear bx hgr; skip))
  refine bodyPost_ret (results_list (rs := [.cell 6 40, .tmp 7, .tmp 8]) rfl (by simp) (.cell g4 40 #[.int .i64 me, .int .i64 rev, .int .i64 cr, .int .i64 H, .int .u64 b, .int .i64 bad, .int .i64 lock] (0, 0) _ rfl Bg4.1 Tryz.underlying40 rfl (by kernel_rfl) (.tmp (.tmp .nil)))) rfl ?_
  exact ⟨rfl, HB.1⟩
 rw [if_neg c4] at h
 have q4 : (cls == 3) = false := beq_eq_false_iff_ne.mpr c4
 clear c4
 by_cases c5 : 0 ≤ rev ∧ rev ≤ 15
 case neg => rw [if_neg c5] at h; cases h
 rw [if_pos c5] at h
 have HRV := am c5
 clear c5
 obtain ⟨s, hs⟩ : ∃ s, mstate.soldF l me rev bad lock bd tag = s := ⟨_, rfl⟩
 obtain ⟨s1, s2, s3⟩ := s
 rw [hs] at h
 have HS := am hs
 clear hs
 by_cases c6 : s3 = 0
 ·
  rw [if_pos c6] at h
  subst c6
  replace h := Option.bind_eq_some_iff.mp h
  obtain ⟨⟨w1, w2, w3⟩, hw, h⟩ := h
  have HW := am hw
  clear hw
  obtain ⟨t, ht⟩ : ∃ t, mstate.takeF rev cr H b s1 0 cls amt w1 w2 w3 = t := ⟨_, rfl⟩
  obtain ⟨t1, t2, t3, t4, t5, t6, t7⟩ := t
  dsimp only at h
  rw [ht] at h
  have HT := am ht
  clear ht
  simp only [Option.some.injEq, Prod.mk.injEq] at h
  obtain ⟨rfl, rfl, rfl, rfl, rfl, rfl, rfl, rfl, rfl⟩ := h
  go_wp2_with (first | ((with_reducible refine gate_dst (N := 40) rfl ?_); refine czbox 40 #[.int .i64 me, .int .i64 rev, .int .i64 cr, .int .i64 H, .int .u64 b, .int .i64 bad, .int .i64 lock, .int .i64 0] 75 ?_; intro g5 hgq W5 hbox hb; clear xg10 xg11 xg12 xg13 xg14 xg15 xg16 xg30; have Ng1g5 := am (by rw [hgq]; exact Nat.ne_of_lt (blk_lt Bg1.1) : g1 ≠ g5); have Ng2g5 := am (by rw [hgq]; exact Nat.ne_of_lt (blk_lt Bg2.1) : g2 ≠ g5); have Ng3g5 := am (by rw [hgq]; exact Nat.ne_of_lt (blk_lt Bg3.1) : g3 ≠ g5); have Ng4g5 := am (by rw [hgq]; exact Nat.ne_of_lt (blk_lt Bg4.1) : g4 ≠ g5); have Gg5 := am (by rw [hgq]; exact below_size HB.1 : w.heap.size ≤ g5); replace Bg1 := am (blk_below Bg1.1 hb); replace Bg2 := am (blk_below Bg2.1 hb); replace Bg3 := am (blk_below Bg3.1 hb); replace Bg4 := am (blk_below Bg4.1 hb); replace HB := am (below_step HB.1 hb); have Bg5 := am hbox; clear hb hbox hgq; have xg20 : W5.cell? ⟨g2, 0, none⟩ = some (.slice A l.length c) := (blk_cell Bg2.1 0).trans rfl; have xg33 : W5.cell? ⟨g3, 3, none⟩ = some (.int .i64 tag) := (blk_cell Bg3.1 3).trans rfl; skip) | (go_at_call 31; refine (mstate.sold g5 A c l me rev cr H b bad lock 0 bd tag w _ Gg5.1 HB.1 Bg5.1 HR0.1 HC0.1 HRV.1).mono ?_; rintro en wd ⟨rfl, ha, hk, hb1⟩; rw [HS.1] at ha ⊢; clear xg20 xg33; replace Bg1 := am (blk_kept Bg1.1 hk Ng1g5.1); replace Bg2 := am (blk_kept Bg2.1 hk Ng2g5.1); replace Bg3 := am (blk_kept Bg3.1 hk Ng3g5.1); replace Bg4 := am (blk_kept Bg4.1 hk Ng4g5.1); replace Bg5 := am ha; replace HB := am hb1; have xg30 : wd.cell? ⟨g3, 0, none⟩ = some (.int .i64 cls) := (blk_cell Bg3.1 0).trans rfl; have xg31 : wd.cell? ⟨g3, 1, none⟩ = some (.int .i64 id) := (blk_cell Bg3.1 1).trans rfl; have xg32 : wd.cell? ⟨g3, 2, none⟩ = some (.int .i64 amt) := (blk_cell Bg3.1 2).trans rfl; have xg33 : wd.cell? ⟨g3, 3, none⟩ = some (.int .i64 tag) := (blk_cell Bg3.1 3).trans rfl; clear ha hk hb1) | (go_at_call 32; refine (mstate.take k g5 me rev cr H b s1 s2 0 cls id amt tag w1 w2 w3 w _ Gg5.1 HB.1 Bg5.1 HW.1).mono ?_; rintro en we ⟨rfl, ha, hk, hb1⟩; rw [HT.1] at ha ⊢; clear xg30 xg31 xg32 xg33; replace Bg1 := am (blk_kept Bg1.1 hk Ng1g5.1); replace Bg2 := am (blk_kept Bg2.1 hk Ng2g5.1); replace Bg3 := am (blk_kept Bg3.1 hk Ng3g5.1); replace Bg4 := am (blk_kept Bg4.1 hk Ng4g5.1); replace Bg5 := am ha; replace HB := am hb1; clear ha hk hb1))
  refine start_ (n := 12) (S := fun w' => w'.cell? ⟨g5, 0, none⟩ = some (.int .i64 me) ∧ w'.cell? ⟨g5, 1, none⟩ = some (.int .i64 t1) ∧ w'.cell? ⟨g5, 2, none⟩ = some (.int .i64 t2) ∧ w'.cell? ⟨g5, 3, none⟩ = some (.int .i64 t3) ∧ w'.cell? ⟨g5, 4, none⟩ = some (.int .u64 t4) ∧ w'.cell? ⟨g5, 5, none⟩ = some (.int .i64 t5) ∧ w'.cell? ⟨g5, 6, none⟩ = some (.int .i64 s2) ∧ w'.cell? ⟨g5, 7, none⟩ = some (.int .i64 t6)) (ds := []) #[false, false, false, false, false, false, false, false, false, false, false, false] (by kernel_rfl) rfl rfl ⟨(blk_cell Bg5.1 0).trans rfl, (blk_cell Bg5.1 1).trans rfl, (blk_cell Bg5.1 2).trans rfl, (blk_cell Bg5.1 3).trans rfl, (blk_cell Bg5.1 4).trans rfl, (blk_cell Bg5.1 5).trans rfl, (blk_cell Bg5.1 6).trans rfl, (blk_cell Bg5.1 7).trans rfl⟩ (fun hHeld => ?_)
  refine czpp 0 52 ?_
  refine czpp 1 53 ?_
  refine czpp 2 54 ?_
  refine czpp 4 56 ?_
  refine czpp 5 57 ?_
  refine czpp 6 58 ?_
  refine czpp 8 60 ?_
  refine cztk 3 55 ?_
  refine cztk 7 59 ?_
  refine one_ (i := 9) (N := none) #[true, true, true, true, true, true, true, true, true, true, false, false] rfl rfl (by kernel_rfl) (by decide) (fun K hK => ?_)
  refine seg.step (by rfl) rfl 40 (.tmp 6) _ (by rfl) 40 g4 0 #[.int .i64 0, .int .i64 0, .int .i64 0, .int .i64 0, .int .u64 0, .int .i64 0, .int .i64 0] #[.int .i64 me, .int .i64 t1, .int .i64 t2, .int .i64 t3, .int .u64 t4, .int .i64 t5, .int .i64 s2] [.int .i64 me, .int .i64 t1, .int .i64 t2, .int .i64 t3, .int .u64 t4, .int .i64 t5, .int .i64 s2] (by rfl) (by rfl) (by kernel_rfl) (by simp [Value.oneCell']) (blk_drew Bg4.1) (by simp) rfl ?_
  intro W6 bx hgr
  replace Bg1 := am (seg.far (blk_drew Bg1.1) hgr Ng1g4.1)
  replace Bg2 := am (seg.far (blk_drew Bg2.1) hgr Ng2g4.1)
  replace Bg3 := am (seg.far (blk_drew Bg3.1) hgr Ng3g4.1)
  replace Bg5 := am (seg.far (blk_drew Bg5.1) hgr (Ne.symm Ng4g5.1))
  replace HB := am (seg.below (below_drew1 HB.1) hgr Gg4.1)
  replace Bg4 := am bx
  clear bx hgr
  have xg30 : W6.cell? ⟨g3, 0, none⟩ = some (.int .i64 cls) := (blk_cell Bg3.1 0).trans rfl
  have xg31 : W6.cell? ⟨g3, 1, none⟩ = some (.int .i64 id) := (blk_cell Bg3.1 1).trans rfl
  have xg32 : W6.cell? ⟨g3, 2, none⟩ = some (.int .i64 amt) := (blk_cell Bg3.1 2).trans rfl
  have xg33 : W6.cell? ⟨g3, 3, none⟩ = some (.int .i64 tag) := (blk_cell Bg3.1 3).trans rfl
  refine hK.out _ _ ⟨(blk_cell Bg5.1 0).trans rfl, (blk_cell Bg5.1 1).trans rfl, (blk_cell Bg5.1 2).trans rfl, (blk_cell Bg5.1 3).trans rfl, (blk_cell Bg5.1 4).trans rfl, (blk_cell Bg5.1 5).trans rfl, (blk_cell Bg5.1 6).trans rfl, (blk_cell Bg5.1 7).trans rfl⟩ (fun hHeld => ?_)
  clear hK K
  refine czpp 10 7 ?_
  refine czpp 11 8 ?_
  refine done_ (by kernel_rfl) ?_
  go_wp2
  refine bodyPost_ret (results_list (rs := [.cell 6 40, .tmp 7, .tmp 8]) rfl (by simp) (.cell g4 40 #[.int .i64 me, .int .i64 t1, .int .i64 t2, .int .i64 t3, .int .u64 t4, .int .i64 t5, .int .i64 s2] (0, 0) _ rfl Bg4.1 Tryz.underlying40 rfl (by kernel_rfl) (.tmp (.tmp .nil)))) rfl ?_
  exact ⟨rfl, HB.1⟩
 ·
  rw [if_neg c6] at h
  simp only [Option.some.injEq, Prod.mk.injEq] at h
  obtain ⟨rfl, rfl, rfl, rfl, rfl, rfl, rfl, rfl, rfl⟩ := h
  have q6 : (s3 == 0) = false := beq_eq_false_iff_ne.mpr c6
  clear c6
  go_wp2_with (first | ((with_reducible refine gate_dst (N := 40) rfl ?_); refine czbox 40 #[.int .i64 me, .int .i64 rev, .int .i64 cr, .int .i64 H, .int .u64 b, .int .i64 bad, .int .i64 lock, .int .i64 0] 75 ?_; intro g5 hgq W5 hbox hb; clear xg10 xg11 xg12 xg13 xg14 xg15 xg16 xg30; have Ng1g5 := am (by rw [hgq]; exact Nat.ne_of_lt (blk_lt Bg1.1) : g1 ≠ g5); have Ng2g5 := am (by rw [hgq]; exact Nat.ne_of_lt (blk_lt Bg2.1) : g2 ≠ g5); have Ng3g5 := am (by rw [hgq]; exact Nat.ne_of_lt (blk_lt Bg3.1) : g3 ≠ g5); have Ng4g5 := am (by rw [hgq]; exact Nat.ne_of_lt (blk_lt Bg4.1) : g4 ≠ g5); have Gg5 := am (by rw [hgq]; exact below_size HB.1 : w.heap.size ≤ g5); replace Bg1 := am (blk_below Bg1.1 hb); replace Bg2 := am (blk_below Bg2.1 hb); replace Bg3 := am (blk_below Bg3.1 hb); replace Bg4 := am (blk_below Bg4.1 hb); replace HB := am (below_step HB.1 hb); have Bg5 := am hbox; clear hb hbox hgq; have xg20 : W5.cell? ⟨g2, 0, none⟩ = some (.slice A l.length c) := (blk_cell Bg2.1 0).trans rfl; have xg33 : W5.cell? ⟨g3, 3, none⟩ = some (.int .i64 tag) := (blk_cell Bg3.1 3).trans rfl; skip) | (go_at_call 31; refine (mstate.sold g5 A c l me rev cr H b bad lock 0 bd tag w _ Gg5.1 HB.1 Bg5.1 HR0.1 HC0.1 HRV.1).mono ?_; rintro en wd ⟨rfl, ha, hk, hb1⟩; rw [HS.1] at ha ⊢; clear xg20 xg33; replace Bg1 := am (blk_kept Bg1.1 hk Ng1g5.1); replace Bg2 := am (blk_kept Bg2.1 hk Ng2g5.1); replace Bg3 := am (blk_kept Bg3.1 hk Ng3g5.1); replace Bg4 := am (blk_kept Bg4.1 hk Ng4g5.1); replace Bg5 := am ha; replace HB := am hb1; clear ha hk hb1))
  refine start_ (n := 12) (S := fun w' => w'.cell? ⟨g5, 0, none⟩ = some (.int .i64 me) ∧ w'.cell? ⟨g5, 1, none⟩ = some (.int .i64 rev) ∧ w'.cell? ⟨g5, 2, none⟩ = some (.int .i64 cr) ∧ w'.cell? ⟨g5, 3, none⟩ = some (.int .i64 H) ∧ w'.cell? ⟨g5, 4, none⟩ = some (.int .u64 b) ∧ w'.cell? ⟨g5, 5, none⟩ = some (.int .i64 s1) ∧ w'.cell? ⟨g5, 6, none⟩ = some (.int .i64 s2) ∧ w'.cell? ⟨g5, 7, none⟩ = some (.int .i64 0)) (ds := []) #[false, false, false, false, false, false, false, false, false, false, false, false] (by kernel_rfl) rfl rfl ⟨(blk_cell Bg5.1 0).trans rfl, (blk_cell Bg5.1 1).trans rfl, (blk_cell Bg5.1 2).trans rfl, (blk_cell Bg5.1 3).trans rfl, (blk_cell Bg5.1 4).trans rfl, (blk_cell Bg5.1 5).trans rfl, (blk_cell Bg5.1 6).trans rfl, (blk_cell Bg5.1 7).trans rfl⟩ (fun hHeld => ?_)
  refine czpp 0 52 ?_
  refine czpp 1 53 ?_
  refine czpp 2 54 ?_
  refine czpp 4 56 ?_
  refine czpp 5 57 ?_
  refine czpp 6 58 ?_
  refine czpp 8 60 ?_
  refine cztk 3 55 ?_
  refine cztk 7 59 ?_
  refine one_ (i := 9) (N := none) #[true, true, true, true, true, true, true, true, true, true, false, false] rfl rfl (by kernel_rfl) (by decide) (fun K hK => ?_)
  refine seg.step (by rfl) rfl 40 (.tmp 6) _ (by rfl) 40 g4 0 #[.int .i64 0, .int .i64 0, .int .i64 0, .int .i64 0, .int .u64 0, .int .i64 0, .int .i64 0] #[.int .i64 me, .int .i64 rev, .int .i64 cr, .int .i64 H, .int .u64 b, .int .i64 s1, .int .i64 s2] [.int .i64 me, .int .i64 rev, .int .i64 cr, .int .i64 H, .int .u64 b, .int .i64 s1, .int .i64 s2] (by rfl) (by rfl) (by kernel_rfl) (by simp [Value.oneCell']) (blk_drew Bg4.1) (by simp) rfl ?_
  intro W6 bx hgr
  replace Bg1 := am (seg.far (blk_drew Bg1.1) hgr Ng1g4.1)
  replace Bg2 := am (seg.far (blk_drew Bg2.1) hgr Ng2g4.1)
  replace Bg3 := am (seg.far (blk_drew Bg3.1) hgr Ng3g4.1)
  replace Bg5 := am (seg.far (blk_drew Bg5.1) hgr (Ne.symm Ng4g5.1))
  replace HB := am (seg.below (below_drew1 HB.1) hgr Gg4.1)
  replace Bg4 := am bx
  clear bx hgr
  refine hK.out _ _ ⟨(blk_cell Bg5.1 0).trans rfl, (blk_cell Bg5.1 1).trans rfl, (blk_cell Bg5.1 2).trans rfl, (blk_cell Bg5.1 3).trans rfl, (blk_cell Bg5.1 4).trans rfl, (blk_cell Bg5.1 5).trans rfl, (blk_cell Bg5.1 6).trans rfl, (blk_cell Bg5.1 7).trans rfl⟩ (fun hHeld => ?_)
  clear hK K
  refine czpp 10 7 ?_
  refine czpp 11 8 ?_
  refine done_ (by kernel_rfl) ?_
  go_wp2
  refine bodyPost_ret (results_list (rs := [.cell 6 40, .tmp 7, .tmp 8]) rfl (by simp) (.cell g4 40 #[.int .i64 me, .int .i64 rev, .int .i64 cr, .int .i64 H, .int .u64 b, .int .i64 s1, .int .i64 s2] (0, 0) _ rfl Bg4.1 Tryz.underlying40 rfl (by kernel_rfl) (.tmp (.tmp .nil)))) rfl ?_
  exact ⟨rfl, HB.1⟩

end Go.Proofs.YtcllddkmcnfejaaGreatDoor.PPocketKeys
