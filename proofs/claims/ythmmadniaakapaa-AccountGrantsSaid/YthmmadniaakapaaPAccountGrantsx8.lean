-- written by this session's program wip/xp/xprint.py (it drives the kit's print and adds to it)
import Derived.Test.YthmmadniaakapaaPAccountGrantsx0
import Derived.Test.YthmmadniaakapaaPAccountGrantsx2
import Derived.Test.YthmmadniaakapaaPAccountGrantsx4
import Derived.Test.YthmmadniaakapaaPAccountGrantsx7
namespace Go.Proofs.Ythmmadniaakapaa.PAccountGrants
open Go.RowKit Go.Proofs.YthmmadniaakapaaW.PrintWords Go.Proofs.YthmmadniaakapaaW.PrintLast Go.Proofs.YthmmadniaakapaaW.PrintMore
attribute [local go_sem] max2_int min2_int max_two min_two max_three min_three max_four min_four   -- for this text's walks alone
set_option linter.unusedVariables false
set_option linter.unusedSimpArgs false

theorem vendmeterlaw_AccountGrants.eqA (d : Nat) (w : World) (x0 y0 : Int) (x1 y1 : Int) (x2 y2 : Int) (x3 y3 : Int) (x4 y4 : Int) (x5 y5 : Int) (x6 y6 : Int) :
    (Op.equalIn (d + 2) 67 (.agg #[.int .i64 x0, .int .i64 x1, .int .i64 x2, .int .i64 x3, .int .i64 x4, .int .i64 x5, .int .i64 x6]) (.agg #[.int .i64 y0, .int .i64 y1, .int .i64 y2, .int .i64 y3, .int .i64 y4, .int .i64 y5, .int .i64 y6])).run Try.prog w = .ok (x0 == y0 && (x1 == y1 && (x2 == y2 && (x3 == y3 && (x4 == y4 && (x5 == y5 && (x6 == y6))))))) w := by
  refine eqA_of Try.underlying67 (by kernel_rfl) ?_
  refine eqf_cons (by rfl) (by go_simp; rfl) (by go_simp; rfl) (by go_simp) ?_
  refine eqf_cons (by rfl) (by go_simp; rfl) (by go_simp; rfl) (by go_simp) ?_
  refine eqf_cons (by rfl) (by go_simp; rfl) (by go_simp; rfl) (by go_simp) ?_
  refine eqf_cons (by rfl) (by go_simp; rfl) (by go_simp; rfl) (by go_simp) ?_
  refine eqf_cons (by rfl) (by go_simp; rfl) (by go_simp; rfl) (by go_simp) ?_
  refine eqf_cons (by rfl) (by go_simp; rfl) (by go_simp; rfl) (by go_simp) ?_
  exact eqf_last (by rfl) (by go_simp; rfl) (by go_simp; rfl) (by go_simp)
attribute [local go_sem high] vendmeterlaw_AccountGrants.eqA
def vendmeterlaw_AccountGrants.end (k : Nat) (me rev nx mo bo fr : Int) (l : List S76) (n : Int × Int × Int × Int × Int × Int × List S76) (p q : Int × Int × Int × Int × Int × Int × List S76 × Int × Int × Int × Int × Int × Int × Int × Int) : Option Bool :=
  if p.2.2.2.2.2.2.2.2.2.2.2.2.2.2 = q.2.2.2.2.2.2.2.2.2.2.2.2.2.2 then (if (p.2.2.2.2.2.2.2.1 == q.2.2.2.2.2.2.2.1 && (p.2.2.2.2.2.2.2.2.1 == q.2.2.2.2.2.2.2.2.1 && (p.2.2.2.2.2.2.2.2.2.1 == q.2.2.2.2.2.2.2.2.2.1 && (p.2.2.2.2.2.2.2.2.2.2.1 == q.2.2.2.2.2.2.2.2.2.2.1 && (p.2.2.2.2.2.2.2.2.2.2.2.1 == q.2.2.2.2.2.2.2.2.2.2.2.1 && (p.2.2.2.2.2.2.2.2.2.2.2.2.1 == q.2.2.2.2.2.2.2.2.2.2.2.2.1 && (p.2.2.2.2.2.2.2.2.2.2.2.2.2.1 == q.2.2.2.2.2.2.2.2.2.2.2.2.2.1))))))) = true then ((vendmeterlaw_sameAccount.f k p.1 p.2.1 p.2.2.1 p.2.2.2.1 p.2.2.2.2.1 p.2.2.2.2.2.1 p.2.2.2.2.2.2.1 q.1 q.2.1 q.2.2.1 q.2.2.2.1 q.2.2.2.2.1 q.2.2.2.2.2.1 q.2.2.2.2.2.2.1).bind fun x => if x = true then (vendmeterlaw_sameAccount.f k n.1 n.2.1 n.2.2.1 n.2.2.2.1 n.2.2.2.2.1 n.2.2.2.2.2.1 n.2.2.2.2.2.2 me rev nx mo bo fr l) else some false) else some false) else some false
def vendmeterlaw_AccountGrants.f (k : Nat) (me rev nx mo bo fr : Int) (l : List S76) (t : List S125) (a b c d month : Int) : Option Bool :=
  (vendmeterlaw_accounts.f me rev nx mo bo fr l).bind fun n => (vendmeterlaw_terms.f t a b c d).bind fun u => (account_Grant.f k n.1 n.2.1 n.2.2.1 n.2.2.2.1 n.2.2.2.2.1 n.2.2.2.2.2.1 n.2.2.2.2.2.2 u.1 u.2.1 u.2.2.1 u.2.2.2.1 u.2.2.2.2 month).bind fun p => (vendmeterref_Granted.f k me rev nx mo bo fr l t a b c d month).bind fun q => vendmeterlaw_AccountGrants.end k me rev nx mo bo fr l n p q
theorem vendmeterlaw_AccountGrants.mono : ∀ a0 a1 a2 a3 a4 a5 a6 a7 a8 a9 a10 a11 a12 k, LeO (vendmeterlaw_AccountGrants.f k a0 a1 a2 a3 a4 a5 a6 a7 a8 a9 a10 a11 a12) (vendmeterlaw_AccountGrants.f (k + 1) a0 a1 a2 a3 a4 a5 a6 a7 a8 a9 a10 a11 a12) := by
  intro a0 a1 a2 a3 a4 a5 a6 a7 a8 a9 a10 a11 a12 k
  unfold vendmeterlaw_AccountGrants.f vendmeterlaw_AccountGrants.end
  exact LeO.bind (LeO.refl _) (fun _ => LeO.bind (LeO.refl _) (fun _ => LeO.bind (account_Grant.mono _ _ _ _ _ _ _ _ _ _ _ _ _ _) (fun _ => LeO.bind (vendmeterref_Granted.mono _ _ _ _ _ _ _ _ _ _ _ _ _ _) (fun _ => LeO.ite (LeO.ite (LeO.bind (vendmeterlaw_sameAccount.mono _ _ _ _ _ _ _ _ _ _ _ _ _ _ _) (fun _ => LeO.ite (vendmeterlaw_sameAccount.mono _ _ _ _ _ _ _ _ _ _ _ _ _ _ _) (LeO.refl _))) (LeO.refl _)) (LeO.refl _)))))
theorem vendmeterlaw_AccountGrants.S {w : World} {g3 g2 : Nat} {v0 v1 v2 v3 v4 v5 v6 v7 v8 v9 v10 v11 : Value} (h3 : w.heap[g3]? = some (.cells #[v0, v1, v2, v3, v4, v5, v6] 60 (0, 0))) (h2 : w.heap[g2]? = some (.cells #[v7, v8, v9, v10, v11] 53 (0, 0))) : w.cell? ⟨g3, 0, none⟩ = some v0 ∧ w.cell? ⟨g3, 1, none⟩ = some v1 ∧ w.cell? ⟨g3, 2, none⟩ = some v2 ∧ w.cell? ⟨g3, 3, none⟩ = some v3 ∧ w.cell? ⟨g3, 4, none⟩ = some v4 ∧ w.cell? ⟨g3, 5, none⟩ = some v5 ∧ w.cell? ⟨g3, 6, none⟩ = some v6 ∧ w.cell? ⟨g2, 0, none⟩ = some v7 ∧ w.cell? ⟨g2, 1, none⟩ = some v8 ∧ w.cell? ⟨g2, 2, none⟩ = some v9 ∧ w.cell? ⟨g2, 3, none⟩ = some v10 ∧ w.cell? ⟨g2, 4, none⟩ = some v11 := ⟨(blk_cell h3 0).trans rfl, (blk_cell h3 1).trans rfl, (blk_cell h3 2).trans rfl, (blk_cell h3 3).trans rfl, (blk_cell h3 4).trans rfl, (blk_cell h3 5).trans rfl, (blk_cell h3 6).trans rfl, (blk_cell h2 0).trans rfl, (blk_cell h2 1).trans rfl, (blk_cell h2 2).trans rfl, (blk_cell h2 3).trans rfl, (blk_cell h2 4).trans rfl⟩
set_option maxHeartbeats 16000000 in
set_option maxRecDepth 100000 in
theorem vendmeterlaw_AccountGrants.calls (k : Nat) (me rev nx mo bo fr : Int) (A6 : Option Addr) (c6 : Nat) (l : List S76) (At : Option Addr) (ct : Nat) (t : List S125) (a b c d month : Int) (r : Bool) (w : World) (hr0 : Kd.C k76 w A6 l.length l) (hc0 : l.length ≤ c6) (ht0 : Kd.C k125 w At t.length t) (hct : t.length ≤ ct) (h : vendmeterlaw_AccountGrants.f k me rev nx mo bo fr l t a b c d month = some r) :
    Calls Try.prog 8 #[.agg #[.int .i64 me, .int .i64 rev, .int .i64 nx, .int .i64 mo, .int .i64 bo, .int .i64 fr, .slice A6 l.length c6], .agg #[.slice At t.length ct, .int .i64 a, .int .i64 b, .int .i64 c, .int .i64 d], .int .i64 month] w fun e w' => e = .returned (.bool r) ∧ Below w.heap.size w w' := by
  have HR0 := Aside0.mk hr0
  have HC0 := Aside0.mk hc0
  have HT0 := Aside0.mk ht0
  have HCT := Aside0.mk hct
  have HB := Aside0.mk (Below.refl w.heap.size w)
  have hu60 := Try.underlying60
  have hu53 := Try.underlying53
  have hu67 := Try.underlying67
  clear hr0 hc0 ht0 hct
  unfold vendmeterlaw_AccountGrants.f at h
  obtain ⟨⟨n1, n2, n3, n4, n5, n6, n7⟩, hn, h⟩ := Option.bind_eq_some_iff.mp h
  obtain ⟨⟨u1, u2, u3, u4, u5⟩, hu, h⟩ := Option.bind_eq_some_iff.mp h
  obtain ⟨⟨p1, p2, p3, p4, p5, p6, p7, p8, p9, p10, p11, p12, p13, p14, p15⟩, hg, h⟩ := Option.bind_eq_some_iff.mp h
  obtain ⟨⟨q1, q2, q3, q4, q5, q6, q7, q8, q9, q10, q11, q12, q13, q14, q15⟩, hq, h⟩ := Option.bind_eq_some_iff.mp h
  have HN := Aside0.mk hn
  have HU := Aside0.mk hu
  have HG := Aside0.mk hg
  have HQ := Aside0.mk hq
  have H := Aside0.mk h
  clear hn hu hg hq h
  go_enter Try.func8, Try.ntmps8
  go_wp2_with (first | ((with_reducible refine gate_dst (N := 3) rfl ?_); refine box_event ?hg (N := 3) ?hd (cs := #[.int .i64 me, .int .i64 rev, .int .i64 nx, .int .i64 mo, .int .i64 bo, .int .i64 fr, .slice A6 l.length c6]) (t := 60) ?hr ?_; (case hd => rfl); (case hg => rfl); (case hr => first | (go_simp; done) | (go_simp; rfl)); intro g1 hgq W1 hbox hb; have Gg1 := Aside0.mk (by rw [hgq]; exact below_size HB.out : w.heap.size ≤ g1); replace HB := Aside0.mk (below_step HB.out hb); have Bg1 := Aside0.mk hbox; clear hb hbox hgq; skip) | ((with_reducible refine gate_dst (N := 4) rfl ?_); refine box_event ?hg (N := 4) ?hd (cs := #[.slice At t.length ct, .int .i64 a, .int .i64 b, .int .i64 c, .int .i64 d]) (t := 53) ?hr ?_; (case hd => rfl); (case hg => rfl); (case hr => first | (go_simp; done) | (go_simp; rfl)); intro g2 hgq W2 hbox hb; have Ng1g2 := Aside0.mk (by rw [hgq]; exact Nat.ne_of_lt (blk_lt Bg1.out) : g1 ≠ g2); have Gg2 := Aside0.mk (by rw [hgq]; exact below_size HB.out : w.heap.size ≤ g2); replace Bg1 := Aside0.mk (blk_below Bg1.out hb); replace HB := Aside0.mk (below_step HB.out hb); have Bg2 := Aside0.mk hbox; clear hb hbox hgq; have xg10 : W2.cell? ⟨g1, 0, none⟩ = some (.int .i64 me) := (blk_cell Bg1.out 0).trans rfl; have xg11 : W2.cell? ⟨g1, 1, none⟩ = some (.int .i64 rev) := (blk_cell Bg1.out 1).trans rfl; have xg12 : W2.cell? ⟨g1, 2, none⟩ = some (.int .i64 nx) := (blk_cell Bg1.out 2).trans rfl; have xg13 : W2.cell? ⟨g1, 3, none⟩ = some (.int .i64 mo) := (blk_cell Bg1.out 3).trans rfl; have xg14 : W2.cell? ⟨g1, 4, none⟩ = some (.int .i64 bo) := (blk_cell Bg1.out 4).trans rfl; have xg15 : W2.cell? ⟨g1, 5, none⟩ = some (.int .i64 fr) := (blk_cell Bg1.out 5).trans rfl; have xg16 : W2.cell? ⟨g1, 6, none⟩ = some (.slice A6 l.length c6) := (blk_cell Bg1.out 6).trans rfl; skip) | (go_at_call 31; refine (vendmeterlaw_accounts.calls me rev nx mo bo fr A6 c6 l n1 n2 n3 n4 n5 n6 n7 _ (Kd.C_below HR0.out HB.out) HC0.out HN.out).mono ?_; rintro e wa ⟨v6, rfl, hr, hb1⟩; obtain ⟨A8, c8, rfl⟩ := Kd.R_slice hr; have RC_ := Kd.R_lower hr (below_size HB.out); clear xg10 xg11 xg12 xg13 xg14 xg15 xg16; replace Bg1 := Aside0.mk (blk_below Bg1.out hb1); replace Bg2 := Aside0.mk (blk_below Bg2.out hb1); replace HB := Aside0.mk (below_step HB.out hb1); have xg10 : wa.cell? ⟨g1, 0, none⟩ = some (.int .i64 me) := (blk_cell Bg1.out 0).trans rfl; have xg11 : wa.cell? ⟨g1, 1, none⟩ = some (.int .i64 rev) := (blk_cell Bg1.out 1).trans rfl; have xg12 : wa.cell? ⟨g1, 2, none⟩ = some (.int .i64 nx) := (blk_cell Bg1.out 2).trans rfl; have xg13 : wa.cell? ⟨g1, 3, none⟩ = some (.int .i64 mo) := (blk_cell Bg1.out 3).trans rfl; have xg14 : wa.cell? ⟨g1, 4, none⟩ = some (.int .i64 bo) := (blk_cell Bg1.out 4).trans rfl; have xg15 : wa.cell? ⟨g1, 5, none⟩ = some (.int .i64 fr) := (blk_cell Bg1.out 5).trans rfl; have xg16 : wa.cell? ⟨g1, 6, none⟩ = some (.slice A6 l.length c6) := (blk_cell Bg1.out 6).trans rfl; have xg20 : wa.cell? ⟨g2, 0, none⟩ = some (.slice At t.length ct) := (blk_cell Bg2.out 0).trans rfl; have xg21 : wa.cell? ⟨g2, 1, none⟩ = some (.int .i64 a) := (blk_cell Bg2.out 1).trans rfl; have xg22 : wa.cell? ⟨g2, 2, none⟩ = some (.int .i64 b) := (blk_cell Bg2.out 2).trans rfl; have xg23 : wa.cell? ⟨g2, 3, none⟩ = some (.int .i64 c) := (blk_cell Bg2.out 3).trans rfl; have xg24 : wa.cell? ⟨g2, 4, none⟩ = some (.int .i64 d) := (blk_cell Bg2.out 4).trans rfl; have RC := Aside0.mk (Kd.R_types (Kd.R_types RC_ Bg1.out (by decide)) Bg2.out (by decide)); clear RC_ hr hb1) | ((with_reducible refine gate_dst (N := 7) rfl ?_); refine box_event ?hg (N := 7) ?hd (cs := #[.int .i64 0, .int .i64 0, .int .i64 0, .int .i64 0, .int .i64 0, .int .i64 0, .slice none 0 0]) (t := 60) ?hr ?_; (case hd => rfl); (case hg => rfl); (case hr => first | (go_simp; done) | (go_simp; rfl)); intro g3 hgq W3 hbox hb; clear xg10 xg11 xg12 xg13 xg14 xg15 xg16 xg20 xg21 xg22 xg23 xg24; have Ng1g3 := Aside0.mk (by rw [hgq]; exact Nat.ne_of_lt (blk_lt Bg1.out) : g1 ≠ g3); have Ng2g3 := Aside0.mk (by rw [hgq]; exact Nat.ne_of_lt (blk_lt Bg2.out) : g2 ≠ g3); have Gg3 := Aside0.mk (by rw [hgq]; exact below_size HB.out : w.heap.size ≤ g3); replace RC := Aside0.mk (Kd.R_below (Kd.R_mono (Kd.R_bound (ok := fun k => ((True) ∧ k ≠ g1) ∧ k ≠ g2) RC.out) (fun k hk => (⟨hk.1, by have := hk.2.2.1; omega⟩ : (((True) ∧ k ≠ g1) ∧ k ≠ g2) ∧ k ≠ g3))) hb); replace Bg1 := Aside0.mk (blk_below Bg1.out hb); replace Bg2 := Aside0.mk (blk_below Bg2.out hb); replace HB := Aside0.mk (below_step HB.out hb); have Bg3 := Aside0.mk hbox; clear hb hbox hgq; have xg10 : W3.cell? ⟨g1, 0, none⟩ = some (.int .i64 me) := (blk_cell Bg1.out 0).trans rfl; have xg11 : W3.cell? ⟨g1, 1, none⟩ = some (.int .i64 rev) := (blk_cell Bg1.out 1).trans rfl; have xg12 : W3.cell? ⟨g1, 2, none⟩ = some (.int .i64 nx) := (blk_cell Bg1.out 2).trans rfl; have xg13 : W3.cell? ⟨g1, 3, none⟩ = some (.int .i64 mo) := (blk_cell Bg1.out 3).trans rfl; have xg14 : W3.cell? ⟨g1, 4, none⟩ = some (.int .i64 bo) := (blk_cell Bg1.out 4).trans rfl; have xg15 : W3.cell? ⟨g1, 5, none⟩ = some (.int .i64 fr) := (blk_cell Bg1.out 5).trans rfl; have xg16 : W3.cell? ⟨g1, 6, none⟩ = some (.slice A6 l.length c6) := (blk_cell Bg1.out 6).trans rfl; have xg20 : W3.cell? ⟨g2, 0, none⟩ = some (.slice At t.length ct) := (blk_cell Bg2.out 0).trans rfl; have xg21 : W3.cell? ⟨g2, 1, none⟩ = some (.int .i64 a) := (blk_cell Bg2.out 1).trans rfl; have xg22 : W3.cell? ⟨g2, 2, none⟩ = some (.int .i64 b) := (blk_cell Bg2.out 2).trans rfl; have xg23 : W3.cell? ⟨g2, 3, none⟩ = some (.int .i64 c) := (blk_cell Bg2.out 3).trans rfl; have xg24 : W3.cell? ⟨g2, 4, none⟩ = some (.int .i64 d) := (blk_cell Bg2.out 4).trans rfl; skip) | ((with_reducible refine gate_store (t := 60) (p := 7) rfl ?_); refine seg.list rfl rfl 60 (.tmp 7) _ rfl 60 g3 0 #[.int .i64 0, .int .i64 0, .int .i64 0, .int .i64 0, .int .i64 0, .int .i64 0, .slice none 0 0] #[.int .i64 n1, .int .i64 n2, .int .i64 n3, .int .i64 n4, .int .i64 n5, .int .i64 n6, .slice A8 n7.length c8] [.int .i64 n1, .int .i64 n2, .int .i64 n3, .int .i64 n4, .int .i64 n5, .int .i64 n6, .slice A8 n7.length c8] rfl rfl (by kernel_rfl) (by simp [Value.oneCell']) Bg3.out (by simp) rfl ?_; intro W4 bx hgr; clear xg10 xg11 xg12 xg13 xg14 xg15 xg16 xg20 xg21 xg22 xg23 xg24; replace RC := Aside0.mk (seg.R (ok := fun k => (((True) ∧ k ≠ g1) ∧ k ≠ g2) ∧ k ≠ g3) RC.out hgr (fun k hk => hk.2)); replace Bg1 := Aside0.mk (seg.far Bg1.out hgr Ng1g3.out); replace Bg2 := Aside0.mk (seg.far Bg2.out hgr Ng2g3.out); replace HB := Aside0.mk (seg.below HB.out hgr Gg3.out); replace Bg3 := Aside0.mk bx; clear bx hgr; have xg20 : W4.cell? ⟨g2, 0, none⟩ = some (.slice At t.length ct) := (blk_cell Bg2.out 0).trans rfl; have xg21 : W4.cell? ⟨g2, 1, none⟩ = some (.int .i64 a) := (blk_cell Bg2.out 1).trans rfl; have xg22 : W4.cell? ⟨g2, 2, none⟩ = some (.int .i64 b) := (blk_cell Bg2.out 2).trans rfl; have xg23 : W4.cell? ⟨g2, 3, none⟩ = some (.int .i64 c) := (blk_cell Bg2.out 3).trans rfl; have xg24 : W4.cell? ⟨g2, 4, none⟩ = some (.int .i64 d) := (blk_cell Bg2.out 4).trans rfl; have xg30 : W4.cell? ⟨g3, 0, none⟩ = some (.int .i64 n1) := (blk_cell Bg3.out 0).trans rfl; have xg31 : W4.cell? ⟨g3, 1, none⟩ = some (.int .i64 n2) := (blk_cell Bg3.out 1).trans rfl; have xg32 : W4.cell? ⟨g3, 2, none⟩ = some (.int .i64 n3) := (blk_cell Bg3.out 2).trans rfl; have xg33 : W4.cell? ⟨g3, 3, none⟩ = some (.int .i64 n4) := (blk_cell Bg3.out 3).trans rfl; have xg34 : W4.cell? ⟨g3, 4, none⟩ = some (.int .i64 n5) := (blk_cell Bg3.out 4).trans rfl; have xg35 : W4.cell? ⟨g3, 5, none⟩ = some (.int .i64 n6) := (blk_cell Bg3.out 5).trans rfl; have xg36 : W4.cell? ⟨g3, 6, none⟩ = some (.slice A8 n7.length c8) := (blk_cell Bg3.out 6).trans rfl; skip))
  refine start_ (n := 14) (S := fun w' => w'.cell? ⟨g3, 0, none⟩ = some (.int .i64 n1) ∧ w'.cell? ⟨g3, 1, none⟩ = some (.int .i64 n2) ∧ w'.cell? ⟨g3, 2, none⟩ = some (.int .i64 n3) ∧ w'.cell? ⟨g3, 3, none⟩ = some (.int .i64 n4) ∧ w'.cell? ⟨g3, 4, none⟩ = some (.int .i64 n5) ∧ w'.cell? ⟨g3, 5, none⟩ = some (.int .i64 n6) ∧ w'.cell? ⟨g3, 6, none⟩ = some (.slice A8 n7.length c8) ∧ w'.cell? ⟨g2, 0, none⟩ = some (.slice At t.length ct) ∧ w'.cell? ⟨g2, 1, none⟩ = some (.int .i64 a) ∧ w'.cell? ⟨g2, 2, none⟩ = some (.int .i64 b) ∧ w'.cell? ⟨g2, 3, none⟩ = some (.int .i64 c) ∧ w'.cell? ⟨g2, 4, none⟩ = some (.int .i64 d)) (ds := [12]) #[false, false, false, false, false, false, false, false, false, false, false, false, false, false] (by kernel_rfl) rfl rfl ⟨xg30, xg31, xg32, xg33, xg34, xg35, xg36, xg20, xg21, xg22, xg23, xg24⟩ (fun hHeld => ?_)
  refine pure_ (i := 3) (N := some 20) (v := ?_) (a' := ?_) #[false, false, false, true, false, false, false, false, false, false, false, false, false, false] rfl rfl (by kernel_rfl) (fun _ _ _ h => h) (Or.inl ⟨by rfl, ?_⟩) ?_ ?_
  rotate_left
  · intro w'
    go_simp
    with_reducible rfl
  rotate_left
  · simp only [Act.put, List.setIfInBounds_toArray, List.set_cons_zero, List.set_cons_succ, i64_w, i32_w]
    rfl
  refine take_ (i := 0) (N := some 17) (v := ?_) (a' := ?_) #[true, false, false, true, false, false, false, false, false, false, false, false, false, false] rfl rfl (by kernel_rfl) (fun _ _ _ h => h) (Or.inl ⟨by rfl, ?_⟩) hHeld ?_ ?_
  rotate_left
  · rintro w' ⟨s0, s1, s2, s3, s4, s5, s6, s7, s8, s9, s10, s11⟩
    go_simp
    with_reducible rfl
  rotate_left
  · simp only [Act.put, List.setIfInBounds_toArray, List.set_cons_zero, List.set_cons_succ, i64_w, i32_w]
    rfl
  refine take_ (i := 1) (N := some 18) (v := ?_) (a' := ?_) #[true, true, false, true, false, false, false, false, false, false, false, false, false, false] rfl rfl (by kernel_rfl) (fun _ _ _ h => h) (Or.inl ⟨by rfl, ?_⟩) hHeld ?_ ?_
  rotate_left
  · rintro w' ⟨s0, s1, s2, s3, s4, s5, s6, s7, s8, s9, s10, s11⟩
    go_simp
    with_reducible rfl
  rotate_left
  · simp only [Act.put, List.setIfInBounds_toArray, List.set_cons_zero, List.set_cons_succ, i64_w, i32_w]
    rfl
  refine join_ (σ := Nat × Nat × Option Addr × Nat × Option Addr × Nat) 3 #[true, true, true, true, true, true, true, true, true, true, true, false, false, false] (fun s => [(19, .agg #[.slice s.2.2.1 u1.length s.2.2.2.1, .int .i64 u2, .int .i64 u3, .int .i64 u4, .int .i64 u5]), (21, .tuple #[.agg #[.int .i64 p1, .int .i64 p2, .int .i64 p3, .int .i64 p4, .int .i64 p5, .int .i64 p6, .slice s.2.2.2.2.1 p7.length s.2.2.2.2.2], .agg #[.int .i64 p8, .int .i64 p9, .int .i64 p10, .int .i64 p11, .int .i64 p12, .int .i64 p13, .int .i64 p14], .int .i64 p15]), (16, .tuple #[.agg #[.int .i64 p1, .int .i64 p2, .int .i64 p3, .int .i64 p4, .int .i64 p5, .int .i64 p6, .slice s.2.2.2.2.1 p7.length s.2.2.2.2.2], .agg #[.int .i64 p8, .int .i64 p9, .int .i64 p10, .int .i64 p11, .int .i64 p12, .int .i64 p13, .int .i64 p14], .int .i64 p15]), (22, .agg #[.int .i64 p1, .int .i64 p2, .int .i64 p3, .int .i64 p4, .int .i64 p5, .int .i64 p6, .slice s.2.2.2.2.1 p7.length s.2.2.2.2.2]), (23, .agg #[.int .i64 p8, .int .i64 p9, .int .i64 p10, .int .i64 p11, .int .i64 p12, .int .i64 p13, .int .i64 p14]), (24, .int .i64 p15), (8, .pointer (some ⟨s.1, 0, none⟩)), (9, .pointer (some ⟨s.2.1, 0, none⟩))]) (fun s w' => (w'.heap[s.1]? = some (.cells #[.int .i64 0, .int .i64 0, .int .i64 0, .int .i64 0, .int .i64 0, .int .i64 0, .slice none 0 0] 60 (0, 0))) ∧ (w'.heap[s.2.1]? = some (.cells #[.int .i64 0, .int .i64 0, .int .i64 0, .int .i64 0, .int .i64 0, .int .i64 0, .int .i64 0] 67 (0, 0))) ∧ (w'.heap[g1]? = some (.cells #[.int .i64 me, .int .i64 rev, .int .i64 nx, .int .i64 mo, .int .i64 bo, .int .i64 fr, .slice A6 l.length c6] 60 (0, 0))) ∧ (w'.heap[g2]? = some (.cells #[.slice At t.length ct, .int .i64 a, .int .i64 b, .int .i64 c, .int .i64 d] 53 (0, 0))) ∧ (w'.heap[g3]? = some (.cells #[.int .i64 n1, .int .i64 n2, .int .i64 n3, .int .i64 n4, .int .i64 n5, .int .i64 n6, .slice A8 n7.length c8] 60 (0, 0))) ∧ Kd.R k76 76 w' w.heap.size (fun _ => True) (.slice A8 n7.length c8) n7 ∧ Kd.R k76 76 w' w.heap.size (fun _ => True) (.slice s.2.2.2.2.1 p7.length s.2.2.2.2.2) p7 ∧ Below w.heap.size w w' ∧ w.heap.size ≤ s.1 ∧ w.heap.size ≤ s.2.1 ∧ g1 ≠ s.1 ∧ g2 ≠ s.1 ∧ g3 ≠ s.1 ∧ g1 ≠ s.2.1 ∧ g2 ≠ s.2.1 ∧ g3 ≠ s.2.1 ∧ s.1 ≠ s.2.1) ?_ ?_
  rotate_left
  · intro hCont
    refine three_ (i := 2) (j := 9) (k := 10) (Ni := some 19) (Nj := some 8) (Nk := some 9) #[true, true, true, true, false, false, false, false, false, false, false, false, false, false] #[true, true, false, true, false, false, false, false, false, true, false, false, false, false] #[true, true, false, true, false, false, false, false, false, false, true, false, false, false] rfl rfl rfl rfl rfl rfl (by kernel_rfl) (by decide) (by decide) (by decide) (fun K hK => ?_) (fun K hK => ?_) (fun K hK => ?_)
    · skip
      refine goes_ Try.func27 (by kernel_rfl) rfl #[.agg #[.slice At t.length ct, .int .i64 a, .int .i64 b, .int .i64 c, .int .i64 d]] (by rfl) rfl rfl (by (try simp only [List.map_toArray, List.map_cons, List.map_nil]); first | done | rfl) ?_
      with_reducible refine (vendmeterlaw_terms.calls At ct t a b c d u1 u2 u3 u4 u5 _ (Kd.C_below HT0.out (below_drew1 HB.out)) HCT.out HU.out).mono ?_
      rintro e wt ⟨vu, rfl, hr, hb1⟩; refine ⟨_, rfl, ?_⟩; obtain ⟨Au, cu, rfl⟩ := Kd.R_slice hr; have RU_ := Kd.R_lower hr (below_size (below_drew1 HB.out)); clear xg20 xg21 xg22 xg23 xg24 xg30 xg31 xg32 xg33 xg34 xg35 xg36; replace RC := Aside0.mk (Kd.R_below (Kd.R_drew RC.out) hb1); replace Bg1 := Aside0.mk (blk_below (blk_drew Bg1.out) hb1); replace Bg2 := Aside0.mk (blk_below (blk_drew Bg2.out) hb1); replace Bg3 := Aside0.mk (blk_below (blk_drew Bg3.out) hb1); replace HB := Aside0.mk (below_step (below_drew1 HB.out) hb1); have RU := Aside0.mk (Kd.R_types (Kd.R_types (Kd.R_types (RU_) Bg1.out (by decide)) Bg2.out (by decide)) Bg3.out (by decide)); clear RU_ hr hb1
      refine hK.out _ _ ((vendmeterlaw_AccountGrants.S Bg3.out Bg2.out)) (fun hHeld => ?_)
      clear hK K
      refine norm_ (a' := ?_) ?_ ?_
      rotate_left
      · show Act.put _ (some 19) _ = _
        simp only [Act.put, List.setIfInBounds_toArray, List.set_cons_zero, List.set_cons_succ, i64_w, i32_w]
        rfl
      refine three_ (i := 4) (j := 9) (k := 10) (Ni := some 21) (Nj := some 8) (Nk := some 9) #[true, true, true, true, true, false, false, false, false, false, false, false, false, false] #[true, true, true, true, false, false, false, false, false, true, false, false, false, false] #[true, true, true, true, false, false, false, false, false, false, true, false, false, false] rfl rfl rfl rfl rfl rfl (by kernel_rfl) (by decide) (by decide) (by decide) (fun K hK => ?_) (fun K hK => ?_) (fun K hK => ?_)
      · skip
        refine goes_ Try.func35 (by kernel_rfl) rfl #[.agg #[.int .i64 n1, .int .i64 n2, .int .i64 n3, .int .i64 n4, .int .i64 n5, .int .i64 n6, .slice A8 n7.length c8], .agg #[.slice Au u1.length cu, .int .i64 u2, .int .i64 u3, .int .i64 u4, .int .i64 u5], .int .i64 month] (by rfl) rfl rfl (by (try simp only [List.map_toArray, List.map_cons, List.map_nil]); first | done | rfl) ?_
        with_reducible refine (account_Grant.calls k n1 n2 n3 n4 n5 n6 A8 c8 n7 Au cu u1 u2 u3 u4 u5 month p1 p2 p3 p4 p5 p6 p7 p8 p9 p10 p11 p12 p13 p14 p15 _ (Kd.R_reads' RC.out).2.2 (Kd.R_reads' RC.out).2.1 (Kd.R_reads' RU.out).2.2 (Kd.R_reads' RU.out).2.1 HG.out).mono ?_
        rintro e wg ⟨vg, rfl, hr, hb1⟩; refine ⟨_, rfl, ?_⟩; obtain ⟨A9, c9, rfl⟩ := Kd.R_slice hr; have RP_ := Kd.R_lower hr (below_size HB.out); replace RC := Aside0.mk (Kd.R_below RC.out hb1); replace RU := Aside0.mk (Kd.R_below RU.out hb1); replace Bg1 := Aside0.mk (blk_below Bg1.out hb1); replace Bg2 := Aside0.mk (blk_below Bg2.out hb1); replace Bg3 := Aside0.mk (blk_below Bg3.out hb1); replace HB := Aside0.mk (below_step HB.out hb1); have RP := Aside0.mk (Kd.R_types (Kd.R_types (Kd.R_types (RP_) Bg1.out (by decide)) Bg2.out (by decide)) Bg3.out (by decide)); clear RP_ hr hb1
        refine hK.out _ _ ((vendmeterlaw_AccountGrants.S Bg3.out Bg2.out)) (fun hHeld => ?_)
        clear hK K
        refine norm_ (a' := ?_) ?_ ?_
        rotate_left
        · show Act.put _ (some 21) _ = _
          simp only [Act.put, List.setIfInBounds_toArray, List.set_cons_zero, List.set_cons_succ, i64_w, i32_w]
          rfl
        refine pure_ (i := 5) (N := some 16) (v := ?_) (a' := ?_) #[true, true, true, true, true, true, false, false, false, false, false, false, false, false] rfl rfl (by kernel_rfl) (fun _ _ _ h => h) (Or.inl ⟨by rfl, ?_⟩) ?_ ?_
        rotate_left
        · intro w'
          go_simp
          with_reducible rfl
        rotate_left
        · simp only [Act.put, List.setIfInBounds_toArray, List.set_cons_zero, List.set_cons_succ, i64_w, i32_w]
          rfl
        refine pure_ (i := 6) (N := some 22) (v := ?_) (a' := ?_) #[true, true, true, true, true, true, true, false, false, false, false, false, false, false] rfl rfl (by kernel_rfl) (fun _ _ _ h => h) (Or.inl ⟨by rfl, ?_⟩) ?_ ?_
        rotate_left
        · intro w'
          go_simp
          with_reducible rfl
        rotate_left
        · simp only [Act.put, List.setIfInBounds_toArray, List.set_cons_zero, List.set_cons_succ, i64_w, i32_w]
          rfl
        refine pure_ (i := 7) (N := some 23) (v := ?_) (a' := ?_) #[true, true, true, true, true, true, true, true, false, false, false, false, false, false] rfl rfl (by kernel_rfl) (fun _ _ _ h => h) (Or.inl ⟨by rfl, ?_⟩) ?_ ?_
        rotate_left
        · intro w'
          go_simp
          with_reducible rfl
        rotate_left
        · simp only [Act.put, List.setIfInBounds_toArray, List.set_cons_zero, List.set_cons_succ, i64_w, i32_w]
          rfl
        refine pure_ (i := 8) (N := some 24) (v := ?_) (a' := ?_) #[true, true, true, true, true, true, true, true, true, false, false, false, false, false] rfl rfl (by kernel_rfl) (fun _ _ _ h => h) (Or.inl ⟨by rfl, ?_⟩) ?_ ?_
        rotate_left
        · intro w'
          go_simp
          with_reducible rfl
        rotate_left
        · simp only [Act.put, List.setIfInBounds_toArray, List.set_cons_zero, List.set_cons_succ, i64_w, i32_w]
          rfl
        refine two_ (i := 9) (j := 10) (Ni := some 8) (Nj := some 9) #[true, true, true, true, true, true, true, true, true, true, false, false, false, false] #[true, true, true, true, true, true, true, true, true, false, true, false, false, false] rfl rfl rfl rfl (by kernel_rfl) (by decide) (by decide) (fun K hK => ?_) (fun K hK => ?_)
        · skip
          refine box_step ?hg (N := 8) ?hd (cs := #[.int .i64 0, .int .i64 0, .int .i64 0, .int .i64 0, .int .i64 0, .int .i64 0, .slice none 0 0]) (t := 60) ?hr ?_
          (case hd => rfl)
          (case hg => rfl)
          (case hr => first | (go_simp; done) | (go_simp; rfl))
          intro g4 hgq W5 hbox hb; have Ng1g4 := Aside0.mk (by rw [hgq]; exact Nat.ne_of_lt (blk_lt Bg1.out) : g1 ≠ g4); have Ng2g4 := Aside0.mk (by rw [hgq]; exact Nat.ne_of_lt (blk_lt Bg2.out) : g2 ≠ g4); have Ng3g4 := Aside0.mk (by rw [hgq]; exact Nat.ne_of_lt (blk_lt Bg3.out) : g3 ≠ g4); have Gg4 := Aside0.mk (by rw [hgq]; exact below_size HB.out : w.heap.size ≤ g4); replace RC := Aside0.mk (Kd.R_below (Kd.R_mono (Kd.R_bound (ok := fun k => (((True) ∧ k ≠ g1) ∧ k ≠ g2) ∧ k ≠ g3) RC.out) (fun k hk => (⟨hk.1, by have := hk.2.2.1; omega⟩ : ((((True) ∧ k ≠ g1) ∧ k ≠ g2) ∧ k ≠ g3) ∧ k ≠ g4))) hb); replace RU := Aside0.mk (Kd.R_below (Kd.R_mono (Kd.R_bound (ok := fun k => (((True) ∧ k ≠ g1) ∧ k ≠ g2) ∧ k ≠ g3) RU.out) (fun k hk => (⟨hk.1, by have := hk.2.2.1; omega⟩ : ((((True) ∧ k ≠ g1) ∧ k ≠ g2) ∧ k ≠ g3) ∧ k ≠ g4))) hb); replace RP := Aside0.mk (Kd.R_below (Kd.R_mono (Kd.R_bound (ok := fun k => (((True) ∧ k ≠ g1) ∧ k ≠ g2) ∧ k ≠ g3) RP.out) (fun k hk => (⟨hk.1, by have := hk.2.2.1; omega⟩ : ((((True) ∧ k ≠ g1) ∧ k ≠ g2) ∧ k ≠ g3) ∧ k ≠ g4))) hb); replace Bg1 := Aside0.mk (blk_below Bg1.out hb); replace Bg2 := Aside0.mk (blk_below Bg2.out hb); replace Bg3 := Aside0.mk (blk_below Bg3.out hb); replace HB := Aside0.mk (below_step HB.out hb); have Bg4 := Aside0.mk hbox; clear hb hbox hgq
          refine hK.out _ _ ((vendmeterlaw_AccountGrants.S Bg3.out Bg2.out)) (fun hHeld => ?_)
          clear hK K
          refine norm_ (a' := ?_) ?_ ?_
          rotate_left
          · show Act.put _ (some 8) _ = _
            simp only [Act.put, List.setIfInBounds_toArray, List.set_cons_zero, List.set_cons_succ, i64_w, i32_w]
            rfl
          refine one_ (i := 10) (N := some 9) #[true, true, true, true, true, true, true, true, true, true, true, false, false, false] rfl rfl (by kernel_rfl) (by decide) (fun K hK => ?_)
          refine box_step ?hg (N := 9) ?hd (cs := #[.int .i64 0, .int .i64 0, .int .i64 0, .int .i64 0, .int .i64 0, .int .i64 0, .int .i64 0]) (t := 67) ?hr ?_
          (case hd => rfl)
          (case hg => rfl)
          (case hr => first | (go_simp; done) | (go_simp; rfl))
          intro g5 hgq W6 hbox hb; have Ng1g5 := Aside0.mk (by rw [hgq]; exact Nat.ne_of_lt (blk_lt Bg1.out) : g1 ≠ g5); have Ng2g5 := Aside0.mk (by rw [hgq]; exact Nat.ne_of_lt (blk_lt Bg2.out) : g2 ≠ g5); have Ng3g5 := Aside0.mk (by rw [hgq]; exact Nat.ne_of_lt (blk_lt Bg3.out) : g3 ≠ g5); have Ng4g5 := Aside0.mk (by rw [hgq]; exact Nat.ne_of_lt (blk_lt Bg4.out) : g4 ≠ g5); have Gg5 := Aside0.mk (by rw [hgq]; exact below_size HB.out : w.heap.size ≤ g5); replace RC := Aside0.mk (Kd.R_below (Kd.R_mono (Kd.R_bound (ok := fun k => ((((True) ∧ k ≠ g1) ∧ k ≠ g2) ∧ k ≠ g3) ∧ k ≠ g4) RC.out) (fun k hk => (⟨hk.1, by have := hk.2.2.1; omega⟩ : (((((True) ∧ k ≠ g1) ∧ k ≠ g2) ∧ k ≠ g3) ∧ k ≠ g4) ∧ k ≠ g5))) hb); replace RU := Aside0.mk (Kd.R_below (Kd.R_mono (Kd.R_bound (ok := fun k => ((((True) ∧ k ≠ g1) ∧ k ≠ g2) ∧ k ≠ g3) ∧ k ≠ g4) RU.out) (fun k hk => (⟨hk.1, by have := hk.2.2.1; omega⟩ : (((((True) ∧ k ≠ g1) ∧ k ≠ g2) ∧ k ≠ g3) ∧ k ≠ g4) ∧ k ≠ g5))) hb); replace RP := Aside0.mk (Kd.R_below (Kd.R_mono (Kd.R_bound (ok := fun k => ((((True) ∧ k ≠ g1) ∧ k ≠ g2) ∧ k ≠ g3) ∧ k ≠ g4) RP.out) (fun k hk => (⟨hk.1, by have := hk.2.2.1; omega⟩ : (((((True) ∧ k ≠ g1) ∧ k ≠ g2) ∧ k ≠ g3) ∧ k ≠ g4) ∧ k ≠ g5))) hb); replace Bg1 := Aside0.mk (blk_below Bg1.out hb); replace Bg2 := Aside0.mk (blk_below Bg2.out hb); replace Bg3 := Aside0.mk (blk_below Bg3.out hb); replace Bg4 := Aside0.mk (blk_below Bg4.out hb); replace HB := Aside0.mk (below_step HB.out hb); have Bg5 := Aside0.mk hbox; clear hb hbox hgq
          refine hK.out _ _ ((vendmeterlaw_AccountGrants.S Bg3.out Bg2.out)) (fun hHeld => ?_)
          clear hK K
          refine norm_ (a' := ?_) ?_ ?_
          rotate_left
          · show Act.put _ (some 9) _ = _
            simp only [Act.put, List.setIfInBounds_toArray, List.set_cons_zero, List.set_cons_succ, i64_w, i32_w]
            rfl
          exact norm_ (by simp only [putAll, Act.put, List.setIfInBounds_toArray, List.set_cons_zero, List.set_cons_succ]) (hCont (g4, g5, Au, cu, A9, c9) _ ⟨Bg4.out, Bg5.out, Bg1.out, Bg2.out, Bg3.out, Kd.R_mono RC.out (fun _ _ => trivial), Kd.R_mono RP.out (fun _ _ => trivial), HB.out, Gg4.out, Gg5.out, Ng1g4.out, Ng2g4.out, Ng3g4.out, Ng1g5.out, Ng2g5.out, Ng3g5.out, Ng4g5.out⟩)
        · skip
          refine box_step ?hg (N := 9) ?hd (cs := #[.int .i64 0, .int .i64 0, .int .i64 0, .int .i64 0, .int .i64 0, .int .i64 0, .int .i64 0]) (t := 67) ?hr ?_
          (case hd => rfl)
          (case hg => rfl)
          (case hr => first | (go_simp; done) | (go_simp; rfl))
          intro g5 hgq W5 hbox hb; have Ng1g5 := Aside0.mk (by rw [hgq]; exact Nat.ne_of_lt (blk_lt Bg1.out) : g1 ≠ g5); have Ng2g5 := Aside0.mk (by rw [hgq]; exact Nat.ne_of_lt (blk_lt Bg2.out) : g2 ≠ g5); have Ng3g5 := Aside0.mk (by rw [hgq]; exact Nat.ne_of_lt (blk_lt Bg3.out) : g3 ≠ g5); have Gg5 := Aside0.mk (by rw [hgq]; exact below_size HB.out : w.heap.size ≤ g5); replace RC := Aside0.mk (Kd.R_below (Kd.R_mono (Kd.R_bound (ok := fun k => (((True) ∧ k ≠ g1) ∧ k ≠ g2) ∧ k ≠ g3) RC.out) (fun k hk => (⟨hk.1, by have := hk.2.2.1; omega⟩ : ((((True) ∧ k ≠ g1) ∧ k ≠ g2) ∧ k ≠ g3) ∧ k ≠ g5))) hb); replace RU := Aside0.mk (Kd.R_below (Kd.R_mono (Kd.R_bound (ok := fun k => (((True) ∧ k ≠ g1) ∧ k ≠ g2) ∧ k ≠ g3) RU.out) (fun k hk => (⟨hk.1, by have := hk.2.2.1; omega⟩ : ((((True) ∧ k ≠ g1) ∧ k ≠ g2) ∧ k ≠ g3) ∧ k ≠ g5))) hb); replace RP := Aside0.mk (Kd.R_below (Kd.R_mono (Kd.R_bound (ok := fun k => (((True) ∧ k ≠ g1) ∧ k ≠ g2) ∧ k ≠ g3) RP.out) (fun k hk => (⟨hk.1, by have := hk.2.2.1; omega⟩ : ((((True) ∧ k ≠ g1) ∧ k ≠ g2) ∧ k ≠ g3) ∧ k ≠ g5))) hb); replace Bg1 := Aside0.mk (blk_below Bg1.out hb); replace Bg2 := Aside0.mk (blk_below Bg2.out hb); replace Bg3 := Aside0.mk (blk_below Bg3.out hb); replace HB := Aside0.mk (below_step HB.out hb); have Bg5 := Aside0.mk hbox; clear hb hbox hgq
          refine hK.out _ _ ((vendmeterlaw_AccountGrants.S Bg3.out Bg2.out)) (fun hHeld => ?_)
          clear hK K
          refine norm_ (a' := ?_) ?_ ?_
          rotate_left
          · show Act.put _ (some 9) _ = _
            simp only [Act.put, List.setIfInBounds_toArray, List.set_cons_zero, List.set_cons_succ, i64_w, i32_w]
            rfl
          refine one_ (i := 9) (N := some 8) #[true, true, true, true, true, true, true, true, true, true, true, false, false, false] rfl rfl (by kernel_rfl) (by decide) (fun K hK => ?_)
          refine box_step ?hg (N := 8) ?hd (cs := #[.int .i64 0, .int .i64 0, .int .i64 0, .int .i64 0, .int .i64 0, .int .i64 0, .slice none 0 0]) (t := 60) ?hr ?_
          (case hd => rfl)
          (case hg => rfl)
          (case hr => first | (go_simp; done) | (go_simp; rfl))
          intro g4 hgq W6 hbox hb; have Ng1g4 := Aside0.mk (by rw [hgq]; exact Nat.ne_of_lt (blk_lt Bg1.out) : g1 ≠ g4); have Ng2g4 := Aside0.mk (by rw [hgq]; exact Nat.ne_of_lt (blk_lt Bg2.out) : g2 ≠ g4); have Ng3g4 := Aside0.mk (by rw [hgq]; exact Nat.ne_of_lt (blk_lt Bg3.out) : g3 ≠ g4); have Ng5g4 := Aside0.mk (by rw [hgq]; exact Nat.ne_of_lt (blk_lt Bg5.out) : g5 ≠ g4); have Gg4 := Aside0.mk (by rw [hgq]; exact below_size HB.out : w.heap.size ≤ g4); replace RC := Aside0.mk (Kd.R_below (Kd.R_mono (Kd.R_bound (ok := fun k => ((((True) ∧ k ≠ g1) ∧ k ≠ g2) ∧ k ≠ g3) ∧ k ≠ g5) RC.out) (fun k hk => (⟨hk.1, by have := hk.2.2.1; omega⟩ : (((((True) ∧ k ≠ g1) ∧ k ≠ g2) ∧ k ≠ g3) ∧ k ≠ g5) ∧ k ≠ g4))) hb); replace RU := Aside0.mk (Kd.R_below (Kd.R_mono (Kd.R_bound (ok := fun k => ((((True) ∧ k ≠ g1) ∧ k ≠ g2) ∧ k ≠ g3) ∧ k ≠ g5) RU.out) (fun k hk => (⟨hk.1, by have := hk.2.2.1; omega⟩ : (((((True) ∧ k ≠ g1) ∧ k ≠ g2) ∧ k ≠ g3) ∧ k ≠ g5) ∧ k ≠ g4))) hb); replace RP := Aside0.mk (Kd.R_below (Kd.R_mono (Kd.R_bound (ok := fun k => ((((True) ∧ k ≠ g1) ∧ k ≠ g2) ∧ k ≠ g3) ∧ k ≠ g5) RP.out) (fun k hk => (⟨hk.1, by have := hk.2.2.1; omega⟩ : (((((True) ∧ k ≠ g1) ∧ k ≠ g2) ∧ k ≠ g3) ∧ k ≠ g5) ∧ k ≠ g4))) hb); replace Bg1 := Aside0.mk (blk_below Bg1.out hb); replace Bg2 := Aside0.mk (blk_below Bg2.out hb); replace Bg3 := Aside0.mk (blk_below Bg3.out hb); replace Bg5 := Aside0.mk (blk_below Bg5.out hb); replace HB := Aside0.mk (below_step HB.out hb); have Bg4 := Aside0.mk hbox; clear hb hbox hgq
          refine hK.out _ _ ((vendmeterlaw_AccountGrants.S Bg3.out Bg2.out)) (fun hHeld => ?_)
          clear hK K
          refine norm_ (a' := ?_) ?_ ?_
          rotate_left
          · show Act.put _ (some 8) _ = _
            simp only [Act.put, List.setIfInBounds_toArray, List.set_cons_zero, List.set_cons_succ, i64_w, i32_w]
            rfl
          exact norm_ (by simp only [putAll, Act.put, List.setIfInBounds_toArray, List.set_cons_zero, List.set_cons_succ]) (hCont (g4, g5, Au, cu, A9, c9) _ ⟨Bg4.out, Bg5.out, Bg1.out, Bg2.out, Bg3.out, Kd.R_mono RC.out (fun _ _ => trivial), Kd.R_mono RP.out (fun _ _ => trivial), HB.out, Gg4.out, Gg5.out, Ng1g4.out, Ng2g4.out, Ng3g4.out, Ng1g5.out, Ng2g5.out, Ng3g5.out, (Ne.symm Ng5g4.out)⟩)
      · skip
        refine box_step ?hg (N := 8) ?hd (cs := #[.int .i64 0, .int .i64 0, .int .i64 0, .int .i64 0, .int .i64 0, .int .i64 0, .slice none 0 0]) (t := 60) ?hr ?_
        (case hd => rfl)
        (case hg => rfl)
        (case hr => first | (go_simp; done) | (go_simp; rfl))
        intro g4 hgq W5 hbox hb; have Ng1g4 := Aside0.mk (by rw [hgq]; exact Nat.ne_of_lt (blk_lt Bg1.out) : g1 ≠ g4); have Ng2g4 := Aside0.mk (by rw [hgq]; exact Nat.ne_of_lt (blk_lt Bg2.out) : g2 ≠ g4); have Ng3g4 := Aside0.mk (by rw [hgq]; exact Nat.ne_of_lt (blk_lt Bg3.out) : g3 ≠ g4); have Gg4 := Aside0.mk (by rw [hgq]; exact below_size HB.out : w.heap.size ≤ g4); replace RC := Aside0.mk (Kd.R_below (Kd.R_mono (Kd.R_bound (ok := fun k => (((True) ∧ k ≠ g1) ∧ k ≠ g2) ∧ k ≠ g3) RC.out) (fun k hk => (⟨hk.1, by have := hk.2.2.1; omega⟩ : ((((True) ∧ k ≠ g1) ∧ k ≠ g2) ∧ k ≠ g3) ∧ k ≠ g4))) hb); replace RU := Aside0.mk (Kd.R_below (Kd.R_mono (Kd.R_bound (ok := fun k => (((True) ∧ k ≠ g1) ∧ k ≠ g2) ∧ k ≠ g3) RU.out) (fun k hk => (⟨hk.1, by have := hk.2.2.1; omega⟩ : ((((True) ∧ k ≠ g1) ∧ k ≠ g2) ∧ k ≠ g3) ∧ k ≠ g4))) hb); replace Bg1 := Aside0.mk (blk_below Bg1.out hb); replace Bg2 := Aside0.mk (blk_below Bg2.out hb); replace Bg3 := Aside0.mk (blk_below Bg3.out hb); replace HB := Aside0.mk (below_step HB.out hb); have Bg4 := Aside0.mk hbox; clear hb hbox hgq
        refine hK.out _ _ ((vendmeterlaw_AccountGrants.S Bg3.out Bg2.out)) (fun hHeld => ?_)
        clear hK K
        refine norm_ (a' := ?_) ?_ ?_
        rotate_left
        · show Act.put _ (some 8) _ = _
          simp only [Act.put, List.setIfInBounds_toArray, List.set_cons_zero, List.set_cons_succ, i64_w, i32_w]
          rfl
        refine two_ (i := 4) (j := 10) (Ni := some 21) (Nj := some 9) #[true, true, true, true, true, false, false, false, false, true, false, false, false, false] #[true, true, true, true, false, false, false, false, false, true, true, false, false, false] rfl rfl rfl rfl (by kernel_rfl) (by decide) (by decide) (fun K hK => ?_) (fun K hK => ?_)
        · skip
          refine goes_ Try.func35 (by kernel_rfl) rfl #[.agg #[.int .i64 n1, .int .i64 n2, .int .i64 n3, .int .i64 n4, .int .i64 n5, .int .i64 n6, .slice A8 n7.length c8], .agg #[.slice Au u1.length cu, .int .i64 u2, .int .i64 u3, .int .i64 u4, .int .i64 u5], .int .i64 month] (by rfl) rfl rfl (by (try simp only [List.map_toArray, List.map_cons, List.map_nil]); first | done | rfl) ?_
          with_reducible refine (account_Grant.calls k n1 n2 n3 n4 n5 n6 A8 c8 n7 Au cu u1 u2 u3 u4 u5 month p1 p2 p3 p4 p5 p6 p7 p8 p9 p10 p11 p12 p13 p14 p15 _ (Kd.R_reads' RC.out).2.2 (Kd.R_reads' RC.out).2.1 (Kd.R_reads' RU.out).2.2 (Kd.R_reads' RU.out).2.1 HG.out).mono ?_
          rintro e wg ⟨vg, rfl, hr, hb1⟩; refine ⟨_, rfl, ?_⟩; obtain ⟨A9, c9, rfl⟩ := Kd.R_slice hr; have RP_ := Kd.R_lower hr (below_size HB.out); replace RC := Aside0.mk (Kd.R_below RC.out hb1); replace RU := Aside0.mk (Kd.R_below RU.out hb1); replace Bg1 := Aside0.mk (blk_below Bg1.out hb1); replace Bg2 := Aside0.mk (blk_below Bg2.out hb1); replace Bg3 := Aside0.mk (blk_below Bg3.out hb1); replace Bg4 := Aside0.mk (blk_below Bg4.out hb1); replace HB := Aside0.mk (below_step HB.out hb1); have RP := Aside0.mk (Kd.R_types (Kd.R_types (Kd.R_types (Kd.R_types (RP_) Bg1.out (by decide)) Bg2.out (by decide)) Bg3.out (by decide)) Bg4.out (by decide)); clear RP_ hr hb1
          refine hK.out _ _ ((vendmeterlaw_AccountGrants.S Bg3.out Bg2.out)) (fun hHeld => ?_)
          clear hK K
          refine norm_ (a' := ?_) ?_ ?_
          rotate_left
          · show Act.put _ (some 21) _ = _
            simp only [Act.put, List.setIfInBounds_toArray, List.set_cons_zero, List.set_cons_succ, i64_w, i32_w]
            rfl
          refine pure_ (i := 5) (N := some 16) (v := ?_) (a' := ?_) #[true, true, true, true, true, true, false, false, false, true, false, false, false, false] rfl rfl (by kernel_rfl) (fun _ _ _ h => h) (Or.inl ⟨by rfl, ?_⟩) ?_ ?_
          rotate_left
          · intro w'
            go_simp
            with_reducible rfl
          rotate_left
          · simp only [Act.put, List.setIfInBounds_toArray, List.set_cons_zero, List.set_cons_succ, i64_w, i32_w]
            rfl
          refine pure_ (i := 6) (N := some 22) (v := ?_) (a' := ?_) #[true, true, true, true, true, true, true, false, false, true, false, false, false, false] rfl rfl (by kernel_rfl) (fun _ _ _ h => h) (Or.inl ⟨by rfl, ?_⟩) ?_ ?_
          rotate_left
          · intro w'
            go_simp
            with_reducible rfl
          rotate_left
          · simp only [Act.put, List.setIfInBounds_toArray, List.set_cons_zero, List.set_cons_succ, i64_w, i32_w]
            rfl
          refine pure_ (i := 7) (N := some 23) (v := ?_) (a' := ?_) #[true, true, true, true, true, true, true, true, false, true, false, false, false, false] rfl rfl (by kernel_rfl) (fun _ _ _ h => h) (Or.inl ⟨by rfl, ?_⟩) ?_ ?_
          rotate_left
          · intro w'
            go_simp
            with_reducible rfl
          rotate_left
          · simp only [Act.put, List.setIfInBounds_toArray, List.set_cons_zero, List.set_cons_succ, i64_w, i32_w]
            rfl
          refine pure_ (i := 8) (N := some 24) (v := ?_) (a' := ?_) #[true, true, true, true, true, true, true, true, true, true, false, false, false, false] rfl rfl (by kernel_rfl) (fun _ _ _ h => h) (Or.inl ⟨by rfl, ?_⟩) ?_ ?_
          rotate_left
          · intro w'
            go_simp
            with_reducible rfl
          rotate_left
          · simp only [Act.put, List.setIfInBounds_toArray, List.set_cons_zero, List.set_cons_succ, i64_w, i32_w]
            rfl
          refine one_ (i := 10) (N := some 9) #[true, true, true, true, true, true, true, true, true, true, true, false, false, false] rfl rfl (by kernel_rfl) (by decide) (fun K hK => ?_)
          refine box_step ?hg (N := 9) ?hd (cs := #[.int .i64 0, .int .i64 0, .int .i64 0, .int .i64 0, .int .i64 0, .int .i64 0, .int .i64 0]) (t := 67) ?hr ?_
          (case hd => rfl)
          (case hg => rfl)
          (case hr => first | (go_simp; done) | (go_simp; rfl))
          intro g5 hgq W6 hbox hb; have Ng1g5 := Aside0.mk (by rw [hgq]; exact Nat.ne_of_lt (blk_lt Bg1.out) : g1 ≠ g5); have Ng2g5 := Aside0.mk (by rw [hgq]; exact Nat.ne_of_lt (blk_lt Bg2.out) : g2 ≠ g5); have Ng3g5 := Aside0.mk (by rw [hgq]; exact Nat.ne_of_lt (blk_lt Bg3.out) : g3 ≠ g5); have Ng4g5 := Aside0.mk (by rw [hgq]; exact Nat.ne_of_lt (blk_lt Bg4.out) : g4 ≠ g5); have Gg5 := Aside0.mk (by rw [hgq]; exact below_size HB.out : w.heap.size ≤ g5); replace RC := Aside0.mk (Kd.R_below (Kd.R_mono (Kd.R_bound (ok := fun k => ((((True) ∧ k ≠ g1) ∧ k ≠ g2) ∧ k ≠ g3) ∧ k ≠ g4) RC.out) (fun k hk => (⟨hk.1, by have := hk.2.2.1; omega⟩ : (((((True) ∧ k ≠ g1) ∧ k ≠ g2) ∧ k ≠ g3) ∧ k ≠ g4) ∧ k ≠ g5))) hb); replace RU := Aside0.mk (Kd.R_below (Kd.R_mono (Kd.R_bound (ok := fun k => ((((True) ∧ k ≠ g1) ∧ k ≠ g2) ∧ k ≠ g3) ∧ k ≠ g4) RU.out) (fun k hk => (⟨hk.1, by have := hk.2.2.1; omega⟩ : (((((True) ∧ k ≠ g1) ∧ k ≠ g2) ∧ k ≠ g3) ∧ k ≠ g4) ∧ k ≠ g5))) hb); replace RP := Aside0.mk (Kd.R_below (Kd.R_mono (Kd.R_bound (ok := fun k => ((((True) ∧ k ≠ g1) ∧ k ≠ g2) ∧ k ≠ g3) ∧ k ≠ g4) RP.out) (fun k hk => (⟨hk.1, by have := hk.2.2.1; omega⟩ : (((((True) ∧ k ≠ g1) ∧ k ≠ g2) ∧ k ≠ g3) ∧ k ≠ g4) ∧ k ≠ g5))) hb); replace Bg1 := Aside0.mk (blk_below Bg1.out hb); replace Bg2 := Aside0.mk (blk_below Bg2.out hb); replace Bg3 := Aside0.mk (blk_below Bg3.out hb); replace Bg4 := Aside0.mk (blk_below Bg4.out hb); replace HB := Aside0.mk (below_step HB.out hb); have Bg5 := Aside0.mk hbox; clear hb hbox hgq
          refine hK.out _ _ ((vendmeterlaw_AccountGrants.S Bg3.out Bg2.out)) (fun hHeld => ?_)
          clear hK K
          refine norm_ (a' := ?_) ?_ ?_
          rotate_left
          · show Act.put _ (some 9) _ = _
            simp only [Act.put, List.setIfInBounds_toArray, List.set_cons_zero, List.set_cons_succ, i64_w, i32_w]
            rfl
          exact norm_ (by simp only [putAll, Act.put, List.setIfInBounds_toArray, List.set_cons_zero, List.set_cons_succ]) (hCont (g4, g5, Au, cu, A9, c9) _ ⟨Bg4.out, Bg5.out, Bg1.out, Bg2.out, Bg3.out, Kd.R_mono RC.out (fun _ _ => trivial), Kd.R_mono RP.out (fun _ _ => trivial), HB.out, Gg4.out, Gg5.out, Ng1g4.out, Ng2g4.out, Ng3g4.out, Ng1g5.out, Ng2g5.out, Ng3g5.out, Ng4g5.out⟩)
        · skip
          refine box_step ?hg (N := 9) ?hd (cs := #[.int .i64 0, .int .i64 0, .int .i64 0, .int .i64 0, .int .i64 0, .int .i64 0, .int .i64 0]) (t := 67) ?hr ?_
          (case hd => rfl)
          (case hg => rfl)
          (case hr => first | (go_simp; done) | (go_simp; rfl))
          intro g5 hgq W6 hbox hb; have Ng1g5 := Aside0.mk (by rw [hgq]; exact Nat.ne_of_lt (blk_lt Bg1.out) : g1 ≠ g5); have Ng2g5 := Aside0.mk (by rw [hgq]; exact Nat.ne_of_lt (blk_lt Bg2.out) : g2 ≠ g5); have Ng3g5 := Aside0.mk (by rw [hgq]; exact Nat.ne_of_lt (blk_lt Bg3.out) : g3 ≠ g5); have Ng4g5 := Aside0.mk (by rw [hgq]; exact Nat.ne_of_lt (blk_lt Bg4.out) : g4 ≠ g5); have Gg5 := Aside0.mk (by rw [hgq]; exact below_size HB.out : w.heap.size ≤ g5); replace RC := Aside0.mk (Kd.R_below (Kd.R_mono (Kd.R_bound (ok := fun k => ((((True) ∧ k ≠ g1) ∧ k ≠ g2) ∧ k ≠ g3) ∧ k ≠ g4) RC.out) (fun k hk => (⟨hk.1, by have := hk.2.2.1; omega⟩ : (((((True) ∧ k ≠ g1) ∧ k ≠ g2) ∧ k ≠ g3) ∧ k ≠ g4) ∧ k ≠ g5))) hb); replace RU := Aside0.mk (Kd.R_below (Kd.R_mono (Kd.R_bound (ok := fun k => ((((True) ∧ k ≠ g1) ∧ k ≠ g2) ∧ k ≠ g3) ∧ k ≠ g4) RU.out) (fun k hk => (⟨hk.1, by have := hk.2.2.1; omega⟩ : (((((True) ∧ k ≠ g1) ∧ k ≠ g2) ∧ k ≠ g3) ∧ k ≠ g4) ∧ k ≠ g5))) hb); replace Bg1 := Aside0.mk (blk_below Bg1.out hb); replace Bg2 := Aside0.mk (blk_below Bg2.out hb); replace Bg3 := Aside0.mk (blk_below Bg3.out hb); replace Bg4 := Aside0.mk (blk_below Bg4.out hb); replace HB := Aside0.mk (below_step HB.out hb); have Bg5 := Aside0.mk hbox; clear hb hbox hgq
          refine hK.out _ _ ((vendmeterlaw_AccountGrants.S Bg3.out Bg2.out)) (fun hHeld => ?_)
          clear hK K
          refine norm_ (a' := ?_) ?_ ?_
          rotate_left
          · show Act.put _ (some 9) _ = _
            simp only [Act.put, List.setIfInBounds_toArray, List.set_cons_zero, List.set_cons_succ, i64_w, i32_w]
            rfl
          refine one_ (i := 4) (N := some 21) #[true, true, true, true, true, false, false, false, false, true, true, false, false, false] rfl rfl (by kernel_rfl) (by decide) (fun K hK => ?_)
          refine goes_ Try.func35 (by kernel_rfl) rfl #[.agg #[.int .i64 n1, .int .i64 n2, .int .i64 n3, .int .i64 n4, .int .i64 n5, .int .i64 n6, .slice A8 n7.length c8], .agg #[.slice Au u1.length cu, .int .i64 u2, .int .i64 u3, .int .i64 u4, .int .i64 u5], .int .i64 month] (by rfl) rfl rfl (by (try simp only [List.map_toArray, List.map_cons, List.map_nil]); first | done | rfl) ?_
          with_reducible refine (account_Grant.calls k n1 n2 n3 n4 n5 n6 A8 c8 n7 Au cu u1 u2 u3 u4 u5 month p1 p2 p3 p4 p5 p6 p7 p8 p9 p10 p11 p12 p13 p14 p15 _ (Kd.R_reads' RC.out).2.2 (Kd.R_reads' RC.out).2.1 (Kd.R_reads' RU.out).2.2 (Kd.R_reads' RU.out).2.1 HG.out).mono ?_
          rintro e wg ⟨vg, rfl, hr, hb1⟩; refine ⟨_, rfl, ?_⟩; obtain ⟨A9, c9, rfl⟩ := Kd.R_slice hr; have RP_ := Kd.R_lower hr (below_size HB.out); replace RC := Aside0.mk (Kd.R_below RC.out hb1); replace RU := Aside0.mk (Kd.R_below RU.out hb1); replace Bg1 := Aside0.mk (blk_below Bg1.out hb1); replace Bg2 := Aside0.mk (blk_below Bg2.out hb1); replace Bg3 := Aside0.mk (blk_below Bg3.out hb1); replace Bg4 := Aside0.mk (blk_below Bg4.out hb1); replace Bg5 := Aside0.mk (blk_below Bg5.out hb1); replace HB := Aside0.mk (below_step HB.out hb1); have RP := Aside0.mk (Kd.R_types (Kd.R_types (Kd.R_types (Kd.R_types (Kd.R_types (RP_) Bg1.out (by decide)) Bg2.out (by decide)) Bg3.out (by decide)) Bg4.out (by decide)) Bg5.out (by decide)); clear RP_ hr hb1
          refine hK.out _ _ ((vendmeterlaw_AccountGrants.S Bg3.out Bg2.out)) (fun hHeld => ?_)
          clear hK K
          refine norm_ (a' := ?_) ?_ ?_
          rotate_left
          · show Act.put _ (some 21) _ = _
            simp only [Act.put, List.setIfInBounds_toArray, List.set_cons_zero, List.set_cons_succ, i64_w, i32_w]
            rfl
          refine pure_ (i := 5) (N := some 16) (v := ?_) (a' := ?_) #[true, true, true, true, true, true, false, false, false, true, true, false, false, false] rfl rfl (by kernel_rfl) (fun _ _ _ h => h) (Or.inl ⟨by rfl, ?_⟩) ?_ ?_
          rotate_left
          · intro w'
            go_simp
            with_reducible rfl
          rotate_left
          · simp only [Act.put, List.setIfInBounds_toArray, List.set_cons_zero, List.set_cons_succ, i64_w, i32_w]
            rfl
          refine pure_ (i := 6) (N := some 22) (v := ?_) (a' := ?_) #[true, true, true, true, true, true, true, false, false, true, true, false, false, false] rfl rfl (by kernel_rfl) (fun _ _ _ h => h) (Or.inl ⟨by rfl, ?_⟩) ?_ ?_
          rotate_left
          · intro w'
            go_simp
            with_reducible rfl
          rotate_left
          · simp only [Act.put, List.setIfInBounds_toArray, List.set_cons_zero, List.set_cons_succ, i64_w, i32_w]
            rfl
          refine pure_ (i := 7) (N := some 23) (v := ?_) (a' := ?_) #[true, true, true, true, true, true, true, true, false, true, true, false, false, false] rfl rfl (by kernel_rfl) (fun _ _ _ h => h) (Or.inl ⟨by rfl, ?_⟩) ?_ ?_
          rotate_left
          · intro w'
            go_simp
            with_reducible rfl
          rotate_left
          · simp only [Act.put, List.setIfInBounds_toArray, List.set_cons_zero, List.set_cons_succ, i64_w, i32_w]
            rfl
          refine pure_ (i := 8) (N := some 24) (v := ?_) (a' := ?_) #[true, true, true, true, true, true, true, true, true, true, true, false, false, false] rfl rfl (by kernel_rfl) (fun _ _ _ h => h) (Or.inl ⟨by rfl, ?_⟩) ?_ ?_
          rotate_left
          · intro w'
            go_simp
            with_reducible rfl
          rotate_left
          · simp only [Act.put, List.setIfInBounds_toArray, List.set_cons_zero, List.set_cons_succ, i64_w, i32_w]
            rfl
          exact norm_ (by simp only [putAll, Act.put, List.setIfInBounds_toArray, List.set_cons_zero, List.set_cons_succ]) (hCont (g4, g5, Au, cu, A9, c9) _ ⟨Bg4.out, Bg5.out, Bg1.out, Bg2.out, Bg3.out, Kd.R_mono RC.out (fun _ _ => trivial), Kd.R_mono RP.out (fun _ _ => trivial), HB.out, Gg4.out, Gg5.out, Ng1g4.out, Ng2g4.out, Ng3g4.out, Ng1g5.out, Ng2g5.out, Ng3g5.out, Ng4g5.out⟩)
      · skip
        refine box_step ?hg (N := 9) ?hd (cs := #[.int .i64 0, .int .i64 0, .int .i64 0, .int .i64 0, .int .i64 0, .int .i64 0, .int .i64 0]) (t := 67) ?hr ?_
        (case hd => rfl)
        (case hg => rfl)
        (case hr => first | (go_simp; done) | (go_simp; rfl))
        intro g5 hgq W5 hbox hb; have Ng1g5 := Aside0.mk (by rw [hgq]; exact Nat.ne_of_lt (blk_lt Bg1.out) : g1 ≠ g5); have Ng2g5 := Aside0.mk (by rw [hgq]; exact Nat.ne_of_lt (blk_lt Bg2.out) : g2 ≠ g5); have Ng3g5 := Aside0.mk (by rw [hgq]; exact Nat.ne_of_lt (blk_lt Bg3.out) : g3 ≠ g5); have Gg5 := Aside0.mk (by rw [hgq]; exact below_size HB.out : w.heap.size ≤ g5); replace RC := Aside0.mk (Kd.R_below (Kd.R_mono (Kd.R_bound (ok := fun k => (((True) ∧ k ≠ g1) ∧ k ≠ g2) ∧ k ≠ g3) RC.out) (fun k hk => (⟨hk.1, by have := hk.2.2.1; omega⟩ : ((((True) ∧ k ≠ g1) ∧ k ≠ g2) ∧ k ≠ g3) ∧ k ≠ g5))) hb); replace RU := Aside0.mk (Kd.R_below (Kd.R_mono (Kd.R_bound (ok := fun k => (((True) ∧ k ≠ g1) ∧ k ≠ g2) ∧ k ≠ g3) RU.out) (fun k hk => (⟨hk.1, by have := hk.2.2.1; omega⟩ : ((((True) ∧ k ≠ g1) ∧ k ≠ g2) ∧ k ≠ g3) ∧ k ≠ g5))) hb); replace Bg1 := Aside0.mk (blk_below Bg1.out hb); replace Bg2 := Aside0.mk (blk_below Bg2.out hb); replace Bg3 := Aside0.mk (blk_below Bg3.out hb); replace HB := Aside0.mk (below_step HB.out hb); have Bg5 := Aside0.mk hbox; clear hb hbox hgq
        refine hK.out _ _ ((vendmeterlaw_AccountGrants.S Bg3.out Bg2.out)) (fun hHeld => ?_)
        clear hK K
        refine norm_ (a' := ?_) ?_ ?_
        rotate_left
        · show Act.put _ (some 9) _ = _
          simp only [Act.put, List.setIfInBounds_toArray, List.set_cons_zero, List.set_cons_succ, i64_w, i32_w]
          rfl
        refine two_ (i := 4) (j := 9) (Ni := some 21) (Nj := some 8) #[true, true, true, true, true, false, false, false, false, false, true, false, false, false] #[true, true, true, true, false, false, false, false, false, true, true, false, false, false] rfl rfl rfl rfl (by kernel_rfl) (by decide) (by decide) (fun K hK => ?_) (fun K hK => ?_)
        · skip
          refine goes_ Try.func35 (by kernel_rfl) rfl #[.agg #[.int .i64 n1, .int .i64 n2, .int .i64 n3, .int .i64 n4, .int .i64 n5, .int .i64 n6, .slice A8 n7.length c8], .agg #[.slice Au u1.length cu, .int .i64 u2, .int .i64 u3, .int .i64 u4, .int .i64 u5], .int .i64 month] (by rfl) rfl rfl (by (try simp only [List.map_toArray, List.map_cons, List.map_nil]); first | done | rfl) ?_
          with_reducible refine (account_Grant.calls k n1 n2 n3 n4 n5 n6 A8 c8 n7 Au cu u1 u2 u3 u4 u5 month p1 p2 p3 p4 p5 p6 p7 p8 p9 p10 p11 p12 p13 p14 p15 _ (Kd.R_reads' RC.out).2.2 (Kd.R_reads' RC.out).2.1 (Kd.R_reads' RU.out).2.2 (Kd.R_reads' RU.out).2.1 HG.out).mono ?_
          rintro e wg ⟨vg, rfl, hr, hb1⟩; refine ⟨_, rfl, ?_⟩; obtain ⟨A9, c9, rfl⟩ := Kd.R_slice hr; have RP_ := Kd.R_lower hr (below_size HB.out); replace RC := Aside0.mk (Kd.R_below RC.out hb1); replace RU := Aside0.mk (Kd.R_below RU.out hb1); replace Bg1 := Aside0.mk (blk_below Bg1.out hb1); replace Bg2 := Aside0.mk (blk_below Bg2.out hb1); replace Bg3 := Aside0.mk (blk_below Bg3.out hb1); replace Bg5 := Aside0.mk (blk_below Bg5.out hb1); replace HB := Aside0.mk (below_step HB.out hb1); have RP := Aside0.mk (Kd.R_types (Kd.R_types (Kd.R_types (Kd.R_types (RP_) Bg1.out (by decide)) Bg2.out (by decide)) Bg3.out (by decide)) Bg5.out (by decide)); clear RP_ hr hb1
          refine hK.out _ _ ((vendmeterlaw_AccountGrants.S Bg3.out Bg2.out)) (fun hHeld => ?_)
          clear hK K
          refine norm_ (a' := ?_) ?_ ?_
          rotate_left
          · show Act.put _ (some 21) _ = _
            simp only [Act.put, List.setIfInBounds_toArray, List.set_cons_zero, List.set_cons_succ, i64_w, i32_w]
            rfl
          refine pure_ (i := 5) (N := some 16) (v := ?_) (a' := ?_) #[true, true, true, true, true, true, false, false, false, false, true, false, false, false] rfl rfl (by kernel_rfl) (fun _ _ _ h => h) (Or.inl ⟨by rfl, ?_⟩) ?_ ?_
          rotate_left
          · intro w'
            go_simp
            with_reducible rfl
          rotate_left
          · simp only [Act.put, List.setIfInBounds_toArray, List.set_cons_zero, List.set_cons_succ, i64_w, i32_w]
            rfl
          refine pure_ (i := 6) (N := some 22) (v := ?_) (a' := ?_) #[true, true, true, true, true, true, true, false, false, false, true, false, false, false] rfl rfl (by kernel_rfl) (fun _ _ _ h => h) (Or.inl ⟨by rfl, ?_⟩) ?_ ?_
          rotate_left
          · intro w'
            go_simp
            with_reducible rfl
          rotate_left
          · simp only [Act.put, List.setIfInBounds_toArray, List.set_cons_zero, List.set_cons_succ, i64_w, i32_w]
            rfl
          refine pure_ (i := 7) (N := some 23) (v := ?_) (a' := ?_) #[true, true, true, true, true, true, true, true, false, false, true, false, false, false] rfl rfl (by kernel_rfl) (fun _ _ _ h => h) (Or.inl ⟨by rfl, ?_⟩) ?_ ?_
          rotate_left
          · intro w'
            go_simp
            with_reducible rfl
          rotate_left
          · simp only [Act.put, List.setIfInBounds_toArray, List.set_cons_zero, List.set_cons_succ, i64_w, i32_w]
            rfl
          refine pure_ (i := 8) (N := some 24) (v := ?_) (a' := ?_) #[true, true, true, true, true, true, true, true, true, false, true, false, false, false] rfl rfl (by kernel_rfl) (fun _ _ _ h => h) (Or.inl ⟨by rfl, ?_⟩) ?_ ?_
          rotate_left
          · intro w'
            go_simp
            with_reducible rfl
          rotate_left
          · simp only [Act.put, List.setIfInBounds_toArray, List.set_cons_zero, List.set_cons_succ, i64_w, i32_w]
            rfl
          refine one_ (i := 9) (N := some 8) #[true, true, true, true, true, true, true, true, true, true, true, false, false, false] rfl rfl (by kernel_rfl) (by decide) (fun K hK => ?_)
          refine box_step ?hg (N := 8) ?hd (cs := #[.int .i64 0, .int .i64 0, .int .i64 0, .int .i64 0, .int .i64 0, .int .i64 0, .slice none 0 0]) (t := 60) ?hr ?_
          (case hd => rfl)
          (case hg => rfl)
          (case hr => first | (go_simp; done) | (go_simp; rfl))
          intro g4 hgq W6 hbox hb; have Ng1g4 := Aside0.mk (by rw [hgq]; exact Nat.ne_of_lt (blk_lt Bg1.out) : g1 ≠ g4); have Ng2g4 := Aside0.mk (by rw [hgq]; exact Nat.ne_of_lt (blk_lt Bg2.out) : g2 ≠ g4); have Ng3g4 := Aside0.mk (by rw [hgq]; exact Nat.ne_of_lt (blk_lt Bg3.out) : g3 ≠ g4); have Ng5g4 := Aside0.mk (by rw [hgq]; exact Nat.ne_of_lt (blk_lt Bg5.out) : g5 ≠ g4); have Gg4 := Aside0.mk (by rw [hgq]; exact below_size HB.out : w.heap.size ≤ g4); replace RC := Aside0.mk (Kd.R_below (Kd.R_mono (Kd.R_bound (ok := fun k => ((((True) ∧ k ≠ g1) ∧ k ≠ g2) ∧ k ≠ g3) ∧ k ≠ g5) RC.out) (fun k hk => (⟨hk.1, by have := hk.2.2.1; omega⟩ : (((((True) ∧ k ≠ g1) ∧ k ≠ g2) ∧ k ≠ g3) ∧ k ≠ g5) ∧ k ≠ g4))) hb); replace RU := Aside0.mk (Kd.R_below (Kd.R_mono (Kd.R_bound (ok := fun k => ((((True) ∧ k ≠ g1) ∧ k ≠ g2) ∧ k ≠ g3) ∧ k ≠ g5) RU.out) (fun k hk => (⟨hk.1, by have := hk.2.2.1; omega⟩ : (((((True) ∧ k ≠ g1) ∧ k ≠ g2) ∧ k ≠ g3) ∧ k ≠ g5) ∧ k ≠ g4))) hb); replace RP := Aside0.mk (Kd.R_below (Kd.R_mono (Kd.R_bound (ok := fun k => ((((True) ∧ k ≠ g1) ∧ k ≠ g2) ∧ k ≠ g3) ∧ k ≠ g5) RP.out) (fun k hk => (⟨hk.1, by have := hk.2.2.1; omega⟩ : (((((True) ∧ k ≠ g1) ∧ k ≠ g2) ∧ k ≠ g3) ∧ k ≠ g5) ∧ k ≠ g4))) hb); replace Bg1 := Aside0.mk (blk_below Bg1.out hb); replace Bg2 := Aside0.mk (blk_below Bg2.out hb); replace Bg3 := Aside0.mk (blk_below Bg3.out hb); replace Bg5 := Aside0.mk (blk_below Bg5.out hb); replace HB := Aside0.mk (below_step HB.out hb); have Bg4 := Aside0.mk hbox; clear hb hbox hgq
          refine hK.out _ _ ((vendmeterlaw_AccountGrants.S Bg3.out Bg2.out)) (fun hHeld => ?_)
          clear hK K
          refine norm_ (a' := ?_) ?_ ?_
          rotate_left
          · show Act.put _ (some 8) _ = _
            simp only [Act.put, List.setIfInBounds_toArray, List.set_cons_zero, List.set_cons_succ, i64_w, i32_w]
            rfl
          exact norm_ (by simp only [putAll, Act.put, List.setIfInBounds_toArray, List.set_cons_zero, List.set_cons_succ]) (hCont (g4, g5, Au, cu, A9, c9) _ ⟨Bg4.out, Bg5.out, Bg1.out, Bg2.out, Bg3.out, Kd.R_mono RC.out (fun _ _ => trivial), Kd.R_mono RP.out (fun _ _ => trivial), HB.out, Gg4.out, Gg5.out, Ng1g4.out, Ng2g4.out, Ng3g4.out, Ng1g5.out, Ng2g5.out, Ng3g5.out, (Ne.symm Ng5g4.out)⟩)
        · skip
          refine box_step ?hg (N := 8) ?hd (cs := #[.int .i64 0, .int .i64 0, .int .i64 0, .int .i64 0, .int .i64 0, .int .i64 0, .slice none 0 0]) (t := 60) ?hr ?_
          (case hd => rfl)
          (case hg => rfl)
          (case hr => first | (go_simp; done) | (go_simp; rfl))
          intro g4 hgq W6 hbox hb; have Ng1g4 := Aside0.mk (by rw [hgq]; exact Nat.ne_of_lt (blk_lt Bg1.out) : g1 ≠ g4); have Ng2g4 := Aside0.mk (by rw [hgq]; exact Nat.ne_of_lt (blk_lt Bg2.out) : g2 ≠ g4); have Ng3g4 := Aside0.mk (by rw [hgq]; exact Nat.ne_of_lt (blk_lt Bg3.out) : g3 ≠ g4); have Ng5g4 := Aside0.mk (by rw [hgq]; exact Nat.ne_of_lt (blk_lt Bg5.out) : g5 ≠ g4); have Gg4 := Aside0.mk (by rw [hgq]; exact below_size HB.out : w.heap.size ≤ g4); replace RC := Aside0.mk (Kd.R_below (Kd.R_mono (Kd.R_bound (ok := fun k => ((((True) ∧ k ≠ g1) ∧ k ≠ g2) ∧ k ≠ g3) ∧ k ≠ g5) RC.out) (fun k hk => (⟨hk.1, by have := hk.2.2.1; omega⟩ : (((((True) ∧ k ≠ g1) ∧ k ≠ g2) ∧ k ≠ g3) ∧ k ≠ g5) ∧ k ≠ g4))) hb); replace RU := Aside0.mk (Kd.R_below (Kd.R_mono (Kd.R_bound (ok := fun k => ((((True) ∧ k ≠ g1) ∧ k ≠ g2) ∧ k ≠ g3) ∧ k ≠ g5) RU.out) (fun k hk => (⟨hk.1, by have := hk.2.2.1; omega⟩ : (((((True) ∧ k ≠ g1) ∧ k ≠ g2) ∧ k ≠ g3) ∧ k ≠ g5) ∧ k ≠ g4))) hb); replace Bg1 := Aside0.mk (blk_below Bg1.out hb); replace Bg2 := Aside0.mk (blk_below Bg2.out hb); replace Bg3 := Aside0.mk (blk_below Bg3.out hb); replace Bg5 := Aside0.mk (blk_below Bg5.out hb); replace HB := Aside0.mk (below_step HB.out hb); have Bg4 := Aside0.mk hbox; clear hb hbox hgq
          refine hK.out _ _ ((vendmeterlaw_AccountGrants.S Bg3.out Bg2.out)) (fun hHeld => ?_)
          clear hK K
          refine norm_ (a' := ?_) ?_ ?_
          rotate_left
          · show Act.put _ (some 8) _ = _
            simp only [Act.put, List.setIfInBounds_toArray, List.set_cons_zero, List.set_cons_succ, i64_w, i32_w]
            rfl
          refine one_ (i := 4) (N := some 21) #[true, true, true, true, true, false, false, false, false, true, true, false, false, false] rfl rfl (by kernel_rfl) (by decide) (fun K hK => ?_)
          refine goes_ Try.func35 (by kernel_rfl) rfl #[.agg #[.int .i64 n1, .int .i64 n2, .int .i64 n3, .int .i64 n4, .int .i64 n5, .int .i64 n6, .slice A8 n7.length c8], .agg #[.slice Au u1.length cu, .int .i64 u2, .int .i64 u3, .int .i64 u4, .int .i64 u5], .int .i64 month] (by rfl) rfl rfl (by (try simp only [List.map_toArray, List.map_cons, List.map_nil]); first | done | rfl) ?_
          with_reducible refine (account_Grant.calls k n1 n2 n3 n4 n5 n6 A8 c8 n7 Au cu u1 u2 u3 u4 u5 month p1 p2 p3 p4 p5 p6 p7 p8 p9 p10 p11 p12 p13 p14 p15 _ (Kd.R_reads' RC.out).2.2 (Kd.R_reads' RC.out).2.1 (Kd.R_reads' RU.out).2.2 (Kd.R_reads' RU.out).2.1 HG.out).mono ?_
          rintro e wg ⟨vg, rfl, hr, hb1⟩; refine ⟨_, rfl, ?_⟩; obtain ⟨A9, c9, rfl⟩ := Kd.R_slice hr; have RP_ := Kd.R_lower hr (below_size HB.out); replace RC := Aside0.mk (Kd.R_below RC.out hb1); replace RU := Aside0.mk (Kd.R_below RU.out hb1); replace Bg1 := Aside0.mk (blk_below Bg1.out hb1); replace Bg2 := Aside0.mk (blk_below Bg2.out hb1); replace Bg3 := Aside0.mk (blk_below Bg3.out hb1); replace Bg5 := Aside0.mk (blk_below Bg5.out hb1); replace Bg4 := Aside0.mk (blk_below Bg4.out hb1); replace HB := Aside0.mk (below_step HB.out hb1); have RP := Aside0.mk (Kd.R_types (Kd.R_types (Kd.R_types (Kd.R_types (Kd.R_types (RP_) Bg1.out (by decide)) Bg2.out (by decide)) Bg3.out (by decide)) Bg5.out (by decide)) Bg4.out (by decide)); clear RP_ hr hb1
          refine hK.out _ _ ((vendmeterlaw_AccountGrants.S Bg3.out Bg2.out)) (fun hHeld => ?_)
          clear hK K
          refine norm_ (a' := ?_) ?_ ?_
          rotate_left
          · show Act.put _ (some 21) _ = _
            simp only [Act.put, List.setIfInBounds_toArray, List.set_cons_zero, List.set_cons_succ, i64_w, i32_w]
            rfl
          refine pure_ (i := 5) (N := some 16) (v := ?_) (a' := ?_) #[true, true, true, true, true, true, false, false, false, true, true, false, false, false] rfl rfl (by kernel_rfl) (fun _ _ _ h => h) (Or.inl ⟨by rfl, ?_⟩) ?_ ?_
          rotate_left
          · intro w'
            go_simp
            with_reducible rfl
          rotate_left
          · simp only [Act.put, List.setIfInBounds_toArray, List.set_cons_zero, List.set_cons_succ, i64_w, i32_w]
            rfl
          refine pure_ (i := 6) (N := some 22) (v := ?_) (a' := ?_) #[true, true, true, true, true, true, true, false, false, true, true, false, false, false] rfl rfl (by kernel_rfl) (fun _ _ _ h => h) (Or.inl ⟨by rfl, ?_⟩) ?_ ?_
          rotate_left
          · intro w'
            go_simp
            with_reducible rfl
          rotate_left
          · simp only [Act.put, List.setIfInBounds_toArray, List.set_cons_zero, List.set_cons_succ, i64_w, i32_w]
            rfl
          refine pure_ (i := 7) (N := some 23) (v := ?_) (a' := ?_) #[true, true, true, true, true, true, true, true, false, true, true, false, false, false] rfl rfl (by kernel_rfl) (fun _ _ _ h => h) (Or.inl ⟨by rfl, ?_⟩) ?_ ?_
          rotate_left
          · intro w'
            go_simp
            with_reducible rfl
          rotate_left
          · simp only [Act.put, List.setIfInBounds_toArray, List.set_cons_zero, List.set_cons_succ, i64_w, i32_w]
            rfl
          refine pure_ (i := 8) (N := some 24) (v := ?_) (a' := ?_) #[true, true, true, true, true, true, true, true, true, true, true, false, false, false] rfl rfl (by kernel_rfl) (fun _ _ _ h => h) (Or.inl ⟨by rfl, ?_⟩) ?_ ?_
          rotate_left
          · intro w'
            go_simp
            with_reducible rfl
          rotate_left
          · simp only [Act.put, List.setIfInBounds_toArray, List.set_cons_zero, List.set_cons_succ, i64_w, i32_w]
            rfl
          exact norm_ (by simp only [putAll, Act.put, List.setIfInBounds_toArray, List.set_cons_zero, List.set_cons_succ]) (hCont (g4, g5, Au, cu, A9, c9) _ ⟨Bg4.out, Bg5.out, Bg1.out, Bg2.out, Bg3.out, Kd.R_mono RC.out (fun _ _ => trivial), Kd.R_mono RP.out (fun _ _ => trivial), HB.out, Gg4.out, Gg5.out, Ng1g4.out, Ng2g4.out, Ng3g4.out, Ng1g5.out, Ng2g5.out, Ng3g5.out, (Ne.symm Ng5g4.out)⟩)
    · skip
      refine box_step ?hg (N := 8) ?hd (cs := #[.int .i64 0, .int .i64 0, .int .i64 0, .int .i64 0, .int .i64 0, .int .i64 0, .slice none 0 0]) (t := 60) ?hr ?_
      (case hd => rfl)
      (case hg => rfl)
      (case hr => first | (go_simp; done) | (go_simp; rfl))
      intro g4 hgq W5 hbox hb; clear xg20 xg21 xg22 xg23 xg24 xg30 xg31 xg32 xg33 xg34 xg35 xg36; have Ng1g4 := Aside0.mk (by rw [hgq]; exact Nat.ne_of_lt (blk_lt (blk_drew Bg1.out)) : g1 ≠ g4); have Ng2g4 := Aside0.mk (by rw [hgq]; exact Nat.ne_of_lt (blk_lt (blk_drew Bg2.out)) : g2 ≠ g4); have Ng3g4 := Aside0.mk (by rw [hgq]; exact Nat.ne_of_lt (blk_lt (blk_drew Bg3.out)) : g3 ≠ g4); have Gg4 := Aside0.mk (by rw [hgq]; exact below_size (below_drew1 HB.out) : w.heap.size ≤ g4); replace RC := Aside0.mk (Kd.R_below (Kd.R_mono (Kd.R_bound (ok := fun k => (((True) ∧ k ≠ g1) ∧ k ≠ g2) ∧ k ≠ g3) (Kd.R_drew RC.out)) (fun k hk => (⟨hk.1, by have := hk.2.2.1; omega⟩ : ((((True) ∧ k ≠ g1) ∧ k ≠ g2) ∧ k ≠ g3) ∧ k ≠ g4))) hb); replace Bg1 := Aside0.mk (blk_below (blk_drew Bg1.out) hb); replace Bg2 := Aside0.mk (blk_below (blk_drew Bg2.out) hb); replace Bg3 := Aside0.mk (blk_below (blk_drew Bg3.out) hb); replace HB := Aside0.mk (below_step (below_drew1 HB.out) hb); have Bg4 := Aside0.mk hbox; clear hb hbox hgq
      refine hK.out _ _ ((vendmeterlaw_AccountGrants.S Bg3.out Bg2.out)) (fun hHeld => ?_)
      clear hK K
      refine norm_ (a' := ?_) ?_ ?_
      rotate_left
      · show Act.put _ (some 8) _ = _
        simp only [Act.put, List.setIfInBounds_toArray, List.set_cons_zero, List.set_cons_succ, i64_w, i32_w]
        rfl
      refine two_ (i := 2) (j := 10) (Ni := some 19) (Nj := some 9) #[true, true, true, true, false, false, false, false, false, true, false, false, false, false] #[true, true, false, true, false, false, false, false, false, true, true, false, false, false] rfl rfl rfl rfl (by kernel_rfl) (by decide) (by decide) (fun K hK => ?_) (fun K hK => ?_)
      · skip
        refine goes_ Try.func27 (by kernel_rfl) rfl #[.agg #[.slice At t.length ct, .int .i64 a, .int .i64 b, .int .i64 c, .int .i64 d]] (by rfl) rfl rfl (by (try simp only [List.map_toArray, List.map_cons, List.map_nil]); first | done | rfl) ?_
        with_reducible refine (vendmeterlaw_terms.calls At ct t a b c d u1 u2 u3 u4 u5 _ (Kd.C_below HT0.out HB.out) HCT.out HU.out).mono ?_
        rintro e wt ⟨vu, rfl, hr, hb1⟩; refine ⟨_, rfl, ?_⟩; obtain ⟨Au, cu, rfl⟩ := Kd.R_slice hr; have RU_ := Kd.R_lower hr (below_size HB.out); replace RC := Aside0.mk (Kd.R_below RC.out hb1); replace Bg1 := Aside0.mk (blk_below Bg1.out hb1); replace Bg2 := Aside0.mk (blk_below Bg2.out hb1); replace Bg3 := Aside0.mk (blk_below Bg3.out hb1); replace Bg4 := Aside0.mk (blk_below Bg4.out hb1); replace HB := Aside0.mk (below_step HB.out hb1); have RU := Aside0.mk (Kd.R_types (Kd.R_types (Kd.R_types (Kd.R_types (RU_) Bg1.out (by decide)) Bg2.out (by decide)) Bg3.out (by decide)) Bg4.out (by decide)); clear RU_ hr hb1
        refine hK.out _ _ ((vendmeterlaw_AccountGrants.S Bg3.out Bg2.out)) (fun hHeld => ?_)
        clear hK K
        refine norm_ (a' := ?_) ?_ ?_
        rotate_left
        · show Act.put _ (some 19) _ = _
          simp only [Act.put, List.setIfInBounds_toArray, List.set_cons_zero, List.set_cons_succ, i64_w, i32_w]
          rfl
        refine two_ (i := 4) (j := 10) (Ni := some 21) (Nj := some 9) #[true, true, true, true, true, false, false, false, false, true, false, false, false, false] #[true, true, true, true, false, false, false, false, false, true, true, false, false, false] rfl rfl rfl rfl (by kernel_rfl) (by decide) (by decide) (fun K hK => ?_) (fun K hK => ?_)
        · skip
          refine goes_ Try.func35 (by kernel_rfl) rfl #[.agg #[.int .i64 n1, .int .i64 n2, .int .i64 n3, .int .i64 n4, .int .i64 n5, .int .i64 n6, .slice A8 n7.length c8], .agg #[.slice Au u1.length cu, .int .i64 u2, .int .i64 u3, .int .i64 u4, .int .i64 u5], .int .i64 month] (by rfl) rfl rfl (by (try simp only [List.map_toArray, List.map_cons, List.map_nil]); first | done | rfl) ?_
          with_reducible refine (account_Grant.calls k n1 n2 n3 n4 n5 n6 A8 c8 n7 Au cu u1 u2 u3 u4 u5 month p1 p2 p3 p4 p5 p6 p7 p8 p9 p10 p11 p12 p13 p14 p15 _ (Kd.R_reads' RC.out).2.2 (Kd.R_reads' RC.out).2.1 (Kd.R_reads' RU.out).2.2 (Kd.R_reads' RU.out).2.1 HG.out).mono ?_
          rintro e wg ⟨vg, rfl, hr, hb1⟩; refine ⟨_, rfl, ?_⟩; obtain ⟨A9, c9, rfl⟩ := Kd.R_slice hr; have RP_ := Kd.R_lower hr (below_size HB.out); replace RC := Aside0.mk (Kd.R_below RC.out hb1); replace RU := Aside0.mk (Kd.R_below RU.out hb1); replace Bg1 := Aside0.mk (blk_below Bg1.out hb1); replace Bg2 := Aside0.mk (blk_below Bg2.out hb1); replace Bg3 := Aside0.mk (blk_below Bg3.out hb1); replace Bg4 := Aside0.mk (blk_below Bg4.out hb1); replace HB := Aside0.mk (below_step HB.out hb1); have RP := Aside0.mk (Kd.R_types (Kd.R_types (Kd.R_types (Kd.R_types (RP_) Bg1.out (by decide)) Bg2.out (by decide)) Bg3.out (by decide)) Bg4.out (by decide)); clear RP_ hr hb1
          refine hK.out _ _ ((vendmeterlaw_AccountGrants.S Bg3.out Bg2.out)) (fun hHeld => ?_)
          clear hK K
          refine norm_ (a' := ?_) ?_ ?_
          rotate_left
          · show Act.put _ (some 21) _ = _
            simp only [Act.put, List.setIfInBounds_toArray, List.set_cons_zero, List.set_cons_succ, i64_w, i32_w]
            rfl
          refine pure_ (i := 5) (N := some 16) (v := ?_) (a' := ?_) #[true, true, true, true, true, true, false, false, false, true, false, false, false, false] rfl rfl (by kernel_rfl) (fun _ _ _ h => h) (Or.inl ⟨by rfl, ?_⟩) ?_ ?_
          rotate_left
          · intro w'
            go_simp
            with_reducible rfl
          rotate_left
          · simp only [Act.put, List.setIfInBounds_toArray, List.set_cons_zero, List.set_cons_succ, i64_w, i32_w]
            rfl
          refine pure_ (i := 6) (N := some 22) (v := ?_) (a' := ?_) #[true, true, true, true, true, true, true, false, false, true, false, false, false, false] rfl rfl (by kernel_rfl) (fun _ _ _ h => h) (Or.inl ⟨by rfl, ?_⟩) ?_ ?_
          rotate_left
          · intro w'
            go_simp
            with_reducible rfl
          rotate_left
          · simp only [Act.put, List.setIfInBounds_toArray, List.set_cons_zero, List.set_cons_succ, i64_w, i32_w]
            rfl
          refine pure_ (i := 7) (N := some 23) (v := ?_) (a' := ?_) #[true, true, true, true, true, true, true, true, false, true, false, false, false, false] rfl rfl (by kernel_rfl) (fun _ _ _ h => h) (Or.inl ⟨by rfl, ?_⟩) ?_ ?_
          rotate_left
          · intro w'
            go_simp
            with_reducible rfl
          rotate_left
          · simp only [Act.put, List.setIfInBounds_toArray, List.set_cons_zero, List.set_cons_succ, i64_w, i32_w]
            rfl
          refine pure_ (i := 8) (N := some 24) (v := ?_) (a' := ?_) #[true, true, true, true, true, true, true, true, true, true, false, false, false, false] rfl rfl (by kernel_rfl) (fun _ _ _ h => h) (Or.inl ⟨by rfl, ?_⟩) ?_ ?_
          rotate_left
          · intro w'
            go_simp
            with_reducible rfl
          rotate_left
          · simp only [Act.put, List.setIfInBounds_toArray, List.set_cons_zero, List.set_cons_succ, i64_w, i32_w]
            rfl
          refine one_ (i := 10) (N := some 9) #[true, true, true, true, true, true, true, true, true, true, true, false, false, false] rfl rfl (by kernel_rfl) (by decide) (fun K hK => ?_)
          refine box_step ?hg (N := 9) ?hd (cs := #[.int .i64 0, .int .i64 0, .int .i64 0, .int .i64 0, .int .i64 0, .int .i64 0, .int .i64 0]) (t := 67) ?hr ?_
          (case hd => rfl)
          (case hg => rfl)
          (case hr => first | (go_simp; done) | (go_simp; rfl))
          intro g5 hgq W6 hbox hb; have Ng1g5 := Aside0.mk (by rw [hgq]; exact Nat.ne_of_lt (blk_lt Bg1.out) : g1 ≠ g5); have Ng2g5 := Aside0.mk (by rw [hgq]; exact Nat.ne_of_lt (blk_lt Bg2.out) : g2 ≠ g5); have Ng3g5 := Aside0.mk (by rw [hgq]; exact Nat.ne_of_lt (blk_lt Bg3.out) : g3 ≠ g5); have Ng4g5 := Aside0.mk (by rw [hgq]; exact Nat.ne_of_lt (blk_lt Bg4.out) : g4 ≠ g5); have Gg5 := Aside0.mk (by rw [hgq]; exact below_size HB.out : w.heap.size ≤ g5); replace RC := Aside0.mk (Kd.R_below (Kd.R_mono (Kd.R_bound (ok := fun k => ((((True) ∧ k ≠ g1) ∧ k ≠ g2) ∧ k ≠ g3) ∧ k ≠ g4) RC.out) (fun k hk => (⟨hk.1, by have := hk.2.2.1; omega⟩ : (((((True) ∧ k ≠ g1) ∧ k ≠ g2) ∧ k ≠ g3) ∧ k ≠ g4) ∧ k ≠ g5))) hb); replace RU := Aside0.mk (Kd.R_below (Kd.R_mono (Kd.R_bound (ok := fun k => ((((True) ∧ k ≠ g1) ∧ k ≠ g2) ∧ k ≠ g3) ∧ k ≠ g4) RU.out) (fun k hk => (⟨hk.1, by have := hk.2.2.1; omega⟩ : (((((True) ∧ k ≠ g1) ∧ k ≠ g2) ∧ k ≠ g3) ∧ k ≠ g4) ∧ k ≠ g5))) hb); replace RP := Aside0.mk (Kd.R_below (Kd.R_mono (Kd.R_bound (ok := fun k => ((((True) ∧ k ≠ g1) ∧ k ≠ g2) ∧ k ≠ g3) ∧ k ≠ g4) RP.out) (fun k hk => (⟨hk.1, by have := hk.2.2.1; omega⟩ : (((((True) ∧ k ≠ g1) ∧ k ≠ g2) ∧ k ≠ g3) ∧ k ≠ g4) ∧ k ≠ g5))) hb); replace Bg1 := Aside0.mk (blk_below Bg1.out hb); replace Bg2 := Aside0.mk (blk_below Bg2.out hb); replace Bg3 := Aside0.mk (blk_below Bg3.out hb); replace Bg4 := Aside0.mk (blk_below Bg4.out hb); replace HB := Aside0.mk (below_step HB.out hb); have Bg5 := Aside0.mk hbox; clear hb hbox hgq
          refine hK.out _ _ ((vendmeterlaw_AccountGrants.S Bg3.out Bg2.out)) (fun hHeld => ?_)
          clear hK K
          refine norm_ (a' := ?_) ?_ ?_
          rotate_left
          · show Act.put _ (some 9) _ = _
            simp only [Act.put, List.setIfInBounds_toArray, List.set_cons_zero, List.set_cons_succ, i64_w, i32_w]
            rfl
          exact norm_ (by simp only [putAll, Act.put, List.setIfInBounds_toArray, List.set_cons_zero, List.set_cons_succ]) (hCont (g4, g5, Au, cu, A9, c9) _ ⟨Bg4.out, Bg5.out, Bg1.out, Bg2.out, Bg3.out, Kd.R_mono RC.out (fun _ _ => trivial), Kd.R_mono RP.out (fun _ _ => trivial), HB.out, Gg4.out, Gg5.out, Ng1g4.out, Ng2g4.out, Ng3g4.out, Ng1g5.out, Ng2g5.out, Ng3g5.out, Ng4g5.out⟩)
        · skip
          refine box_step ?hg (N := 9) ?hd (cs := #[.int .i64 0, .int .i64 0, .int .i64 0, .int .i64 0, .int .i64 0, .int .i64 0, .int .i64 0]) (t := 67) ?hr ?_
          (case hd => rfl)
          (case hg => rfl)
          (case hr => first | (go_simp; done) | (go_simp; rfl))
          intro g5 hgq W6 hbox hb; have Ng1g5 := Aside0.mk (by rw [hgq]; exact Nat.ne_of_lt (blk_lt Bg1.out) : g1 ≠ g5); have Ng2g5 := Aside0.mk (by rw [hgq]; exact Nat.ne_of_lt (blk_lt Bg2.out) : g2 ≠ g5); have Ng3g5 := Aside0.mk (by rw [hgq]; exact Nat.ne_of_lt (blk_lt Bg3.out) : g3 ≠ g5); have Ng4g5 := Aside0.mk (by rw [hgq]; exact Nat.ne_of_lt (blk_lt Bg4.out) : g4 ≠ g5); have Gg5 := Aside0.mk (by rw [hgq]; exact below_size HB.out : w.heap.size ≤ g5); replace RC := Aside0.mk (Kd.R_below (Kd.R_mono (Kd.R_bound (ok := fun k => ((((True) ∧ k ≠ g1) ∧ k ≠ g2) ∧ k ≠ g3) ∧ k ≠ g4) RC.out) (fun k hk => (⟨hk.1, by have := hk.2.2.1; omega⟩ : (((((True) ∧ k ≠ g1) ∧ k ≠ g2) ∧ k ≠ g3) ∧ k ≠ g4) ∧ k ≠ g5))) hb); replace RU := Aside0.mk (Kd.R_below (Kd.R_mono (Kd.R_bound (ok := fun k => ((((True) ∧ k ≠ g1) ∧ k ≠ g2) ∧ k ≠ g3) ∧ k ≠ g4) RU.out) (fun k hk => (⟨hk.1, by have := hk.2.2.1; omega⟩ : (((((True) ∧ k ≠ g1) ∧ k ≠ g2) ∧ k ≠ g3) ∧ k ≠ g4) ∧ k ≠ g5))) hb); replace Bg1 := Aside0.mk (blk_below Bg1.out hb); replace Bg2 := Aside0.mk (blk_below Bg2.out hb); replace Bg3 := Aside0.mk (blk_below Bg3.out hb); replace Bg4 := Aside0.mk (blk_below Bg4.out hb); replace HB := Aside0.mk (below_step HB.out hb); have Bg5 := Aside0.mk hbox; clear hb hbox hgq
          refine hK.out _ _ ((vendmeterlaw_AccountGrants.S Bg3.out Bg2.out)) (fun hHeld => ?_)
          clear hK K
          refine norm_ (a' := ?_) ?_ ?_
          rotate_left
          · show Act.put _ (some 9) _ = _
            simp only [Act.put, List.setIfInBounds_toArray, List.set_cons_zero, List.set_cons_succ, i64_w, i32_w]
            rfl
          refine one_ (i := 4) (N := some 21) #[true, true, true, true, true, false, false, false, false, true, true, false, false, false] rfl rfl (by kernel_rfl) (by decide) (fun K hK => ?_)
          refine goes_ Try.func35 (by kernel_rfl) rfl #[.agg #[.int .i64 n1, .int .i64 n2, .int .i64 n3, .int .i64 n4, .int .i64 n5, .int .i64 n6, .slice A8 n7.length c8], .agg #[.slice Au u1.length cu, .int .i64 u2, .int .i64 u3, .int .i64 u4, .int .i64 u5], .int .i64 month] (by rfl) rfl rfl (by (try simp only [List.map_toArray, List.map_cons, List.map_nil]); first | done | rfl) ?_
          with_reducible refine (account_Grant.calls k n1 n2 n3 n4 n5 n6 A8 c8 n7 Au cu u1 u2 u3 u4 u5 month p1 p2 p3 p4 p5 p6 p7 p8 p9 p10 p11 p12 p13 p14 p15 _ (Kd.R_reads' RC.out).2.2 (Kd.R_reads' RC.out).2.1 (Kd.R_reads' RU.out).2.2 (Kd.R_reads' RU.out).2.1 HG.out).mono ?_
          rintro e wg ⟨vg, rfl, hr, hb1⟩; refine ⟨_, rfl, ?_⟩; obtain ⟨A9, c9, rfl⟩ := Kd.R_slice hr; have RP_ := Kd.R_lower hr (below_size HB.out); replace RC := Aside0.mk (Kd.R_below RC.out hb1); replace RU := Aside0.mk (Kd.R_below RU.out hb1); replace Bg1 := Aside0.mk (blk_below Bg1.out hb1); replace Bg2 := Aside0.mk (blk_below Bg2.out hb1); replace Bg3 := Aside0.mk (blk_below Bg3.out hb1); replace Bg4 := Aside0.mk (blk_below Bg4.out hb1); replace Bg5 := Aside0.mk (blk_below Bg5.out hb1); replace HB := Aside0.mk (below_step HB.out hb1); have RP := Aside0.mk (Kd.R_types (Kd.R_types (Kd.R_types (Kd.R_types (Kd.R_types (RP_) Bg1.out (by decide)) Bg2.out (by decide)) Bg3.out (by decide)) Bg4.out (by decide)) Bg5.out (by decide)); clear RP_ hr hb1
          refine hK.out _ _ ((vendmeterlaw_AccountGrants.S Bg3.out Bg2.out)) (fun hHeld => ?_)
          clear hK K
          refine norm_ (a' := ?_) ?_ ?_
          rotate_left
          · show Act.put _ (some 21) _ = _
            simp only [Act.put, List.setIfInBounds_toArray, List.set_cons_zero, List.set_cons_succ, i64_w, i32_w]
            rfl
          refine pure_ (i := 5) (N := some 16) (v := ?_) (a' := ?_) #[true, true, true, true, true, true, false, false, false, true, true, false, false, false] rfl rfl (by kernel_rfl) (fun _ _ _ h => h) (Or.inl ⟨by rfl, ?_⟩) ?_ ?_
          rotate_left
          · intro w'
            go_simp
            with_reducible rfl
          rotate_left
          · simp only [Act.put, List.setIfInBounds_toArray, List.set_cons_zero, List.set_cons_succ, i64_w, i32_w]
            rfl
          refine pure_ (i := 6) (N := some 22) (v := ?_) (a' := ?_) #[true, true, true, true, true, true, true, false, false, true, true, false, false, false] rfl rfl (by kernel_rfl) (fun _ _ _ h => h) (Or.inl ⟨by rfl, ?_⟩) ?_ ?_
          rotate_left
          · intro w'
            go_simp
            with_reducible rfl
          rotate_left
          · simp only [Act.put, List.setIfInBounds_toArray, List.set_cons_zero, List.set_cons_succ, i64_w, i32_w]
            rfl
          refine pure_ (i := 7) (N := some 23) (v := ?_) (a' := ?_) #[true, true, true, true, true, true, true, true, false, true, true, false, false, false] rfl rfl (by kernel_rfl) (fun _ _ _ h => h) (Or.inl ⟨by rfl, ?_⟩) ?_ ?_
          rotate_left
          · intro w'
            go_simp
            with_reducible rfl
          rotate_left
          · simp only [Act.put, List.setIfInBounds_toArray, List.set_cons_zero, List.set_cons_succ, i64_w, i32_w]
            rfl
          refine pure_ (i := 8) (N := some 24) (v := ?_) (a' := ?_) #[true, true, true, true, true, true, true, true, true, true, true, false, false, false] rfl rfl (by kernel_rfl) (fun _ _ _ h => h) (Or.inl ⟨by rfl, ?_⟩) ?_ ?_
          rotate_left
          · intro w'
            go_simp
            with_reducible rfl
          rotate_left
          · simp only [Act.put, List.setIfInBounds_toArray, List.set_cons_zero, List.set_cons_succ, i64_w, i32_w]
            rfl
          exact norm_ (by simp only [putAll, Act.put, List.setIfInBounds_toArray, List.set_cons_zero, List.set_cons_succ]) (hCont (g4, g5, Au, cu, A9, c9) _ ⟨Bg4.out, Bg5.out, Bg1.out, Bg2.out, Bg3.out, Kd.R_mono RC.out (fun _ _ => trivial), Kd.R_mono RP.out (fun _ _ => trivial), HB.out, Gg4.out, Gg5.out, Ng1g4.out, Ng2g4.out, Ng3g4.out, Ng1g5.out, Ng2g5.out, Ng3g5.out, Ng4g5.out⟩)
      · skip
        refine box_step ?hg (N := 9) ?hd (cs := #[.int .i64 0, .int .i64 0, .int .i64 0, .int .i64 0, .int .i64 0, .int .i64 0, .int .i64 0]) (t := 67) ?hr ?_
        (case hd => rfl)
        (case hg => rfl)
        (case hr => first | (go_simp; done) | (go_simp; rfl))
        intro g5 hgq W6 hbox hb; have Ng1g5 := Aside0.mk (by rw [hgq]; exact Nat.ne_of_lt (blk_lt Bg1.out) : g1 ≠ g5); have Ng2g5 := Aside0.mk (by rw [hgq]; exact Nat.ne_of_lt (blk_lt Bg2.out) : g2 ≠ g5); have Ng3g5 := Aside0.mk (by rw [hgq]; exact Nat.ne_of_lt (blk_lt Bg3.out) : g3 ≠ g5); have Ng4g5 := Aside0.mk (by rw [hgq]; exact Nat.ne_of_lt (blk_lt Bg4.out) : g4 ≠ g5); have Gg5 := Aside0.mk (by rw [hgq]; exact below_size HB.out : w.heap.size ≤ g5); replace RC := Aside0.mk (Kd.R_below (Kd.R_mono (Kd.R_bound (ok := fun k => ((((True) ∧ k ≠ g1) ∧ k ≠ g2) ∧ k ≠ g3) ∧ k ≠ g4) RC.out) (fun k hk => (⟨hk.1, by have := hk.2.2.1; omega⟩ : (((((True) ∧ k ≠ g1) ∧ k ≠ g2) ∧ k ≠ g3) ∧ k ≠ g4) ∧ k ≠ g5))) hb); replace Bg1 := Aside0.mk (blk_below Bg1.out hb); replace Bg2 := Aside0.mk (blk_below Bg2.out hb); replace Bg3 := Aside0.mk (blk_below Bg3.out hb); replace Bg4 := Aside0.mk (blk_below Bg4.out hb); replace HB := Aside0.mk (below_step HB.out hb); have Bg5 := Aside0.mk hbox; clear hb hbox hgq
        refine hK.out _ _ ((vendmeterlaw_AccountGrants.S Bg3.out Bg2.out)) (fun hHeld => ?_)
        clear hK K
        refine norm_ (a' := ?_) ?_ ?_
        rotate_left
        · show Act.put _ (some 9) _ = _
          simp only [Act.put, List.setIfInBounds_toArray, List.set_cons_zero, List.set_cons_succ, i64_w, i32_w]
          rfl
        refine one_ (i := 2) (N := some 19) #[true, true, true, true, false, false, false, false, false, true, true, false, false, false] rfl rfl (by kernel_rfl) (by decide) (fun K hK => ?_)
        refine goes_ Try.func27 (by kernel_rfl) rfl #[.agg #[.slice At t.length ct, .int .i64 a, .int .i64 b, .int .i64 c, .int .i64 d]] (by rfl) rfl rfl (by (try simp only [List.map_toArray, List.map_cons, List.map_nil]); first | done | rfl) ?_
        with_reducible refine (vendmeterlaw_terms.calls At ct t a b c d u1 u2 u3 u4 u5 _ (Kd.C_below HT0.out HB.out) HCT.out HU.out).mono ?_
        rintro e wt ⟨vu, rfl, hr, hb1⟩; refine ⟨_, rfl, ?_⟩; obtain ⟨Au, cu, rfl⟩ := Kd.R_slice hr; have RU_ := Kd.R_lower hr (below_size HB.out); replace RC := Aside0.mk (Kd.R_below RC.out hb1); replace Bg1 := Aside0.mk (blk_below Bg1.out hb1); replace Bg2 := Aside0.mk (blk_below Bg2.out hb1); replace Bg3 := Aside0.mk (blk_below Bg3.out hb1); replace Bg4 := Aside0.mk (blk_below Bg4.out hb1); replace Bg5 := Aside0.mk (blk_below Bg5.out hb1); replace HB := Aside0.mk (below_step HB.out hb1); have RU := Aside0.mk (Kd.R_types (Kd.R_types (Kd.R_types (Kd.R_types (Kd.R_types (RU_) Bg1.out (by decide)) Bg2.out (by decide)) Bg3.out (by decide)) Bg4.out (by decide)) Bg5.out (by decide)); clear RU_ hr hb1
        refine hK.out _ _ ((vendmeterlaw_AccountGrants.S Bg3.out Bg2.out)) (fun hHeld => ?_)
        clear hK K
        refine norm_ (a' := ?_) ?_ ?_
        rotate_left
        · show Act.put _ (some 19) _ = _
          simp only [Act.put, List.setIfInBounds_toArray, List.set_cons_zero, List.set_cons_succ, i64_w, i32_w]
          rfl
        refine one_ (i := 4) (N := some 21) #[true, true, true, true, true, false, false, false, false, true, true, false, false, false] rfl rfl (by kernel_rfl) (by decide) (fun K hK => ?_)
        refine goes_ Try.func35 (by kernel_rfl) rfl #[.agg #[.int .i64 n1, .int .i64 n2, .int .i64 n3, .int .i64 n4, .int .i64 n5, .int .i64 n6, .slice A8 n7.length c8], .agg #[.slice Au u1.length cu, .int .i64 u2, .int .i64 u3, .int .i64 u4, .int .i64 u5], .int .i64 month] (by rfl) rfl rfl (by (try simp only [List.map_toArray, List.map_cons, List.map_nil]); first | done | rfl) ?_
        with_reducible refine (account_Grant.calls k n1 n2 n3 n4 n5 n6 A8 c8 n7 Au cu u1 u2 u3 u4 u5 month p1 p2 p3 p4 p5 p6 p7 p8 p9 p10 p11 p12 p13 p14 p15 _ (Kd.R_reads' RC.out).2.2 (Kd.R_reads' RC.out).2.1 (Kd.R_reads' RU.out).2.2 (Kd.R_reads' RU.out).2.1 HG.out).mono ?_
        rintro e wg ⟨vg, rfl, hr, hb1⟩; refine ⟨_, rfl, ?_⟩; obtain ⟨A9, c9, rfl⟩ := Kd.R_slice hr; have RP_ := Kd.R_lower hr (below_size HB.out); replace RC := Aside0.mk (Kd.R_below RC.out hb1); replace RU := Aside0.mk (Kd.R_below RU.out hb1); replace Bg1 := Aside0.mk (blk_below Bg1.out hb1); replace Bg2 := Aside0.mk (blk_below Bg2.out hb1); replace Bg3 := Aside0.mk (blk_below Bg3.out hb1); replace Bg4 := Aside0.mk (blk_below Bg4.out hb1); replace Bg5 := Aside0.mk (blk_below Bg5.out hb1); replace HB := Aside0.mk (below_step HB.out hb1); have RP := Aside0.mk (Kd.R_types (Kd.R_types (Kd.R_types (Kd.R_types (Kd.R_types (RP_) Bg1.out (by decide)) Bg2.out (by decide)) Bg3.out (by decide)) Bg4.out (by decide)) Bg5.out (by decide)); clear RP_ hr hb1
        refine hK.out _ _ ((vendmeterlaw_AccountGrants.S Bg3.out Bg2.out)) (fun hHeld => ?_)
        clear hK K
        refine norm_ (a' := ?_) ?_ ?_
        rotate_left
        · show Act.put _ (some 21) _ = _
          simp only [Act.put, List.setIfInBounds_toArray, List.set_cons_zero, List.set_cons_succ, i64_w, i32_w]
          rfl
        refine pure_ (i := 5) (N := some 16) (v := ?_) (a' := ?_) #[true, true, true, true, true, true, false, false, false, true, true, false, false, false] rfl rfl (by kernel_rfl) (fun _ _ _ h => h) (Or.inl ⟨by rfl, ?_⟩) ?_ ?_
        rotate_left
        · intro w'
          go_simp
          with_reducible rfl
        rotate_left
        · simp only [Act.put, List.setIfInBounds_toArray, List.set_cons_zero, List.set_cons_succ, i64_w, i32_w]
          rfl
        refine pure_ (i := 6) (N := some 22) (v := ?_) (a' := ?_) #[true, true, true, true, true, true, true, false, false, true, true, false, false, false] rfl rfl (by kernel_rfl) (fun _ _ _ h => h) (Or.inl ⟨by rfl, ?_⟩) ?_ ?_
        rotate_left
        · intro w'
          go_simp
          with_reducible rfl
        rotate_left
        · simp only [Act.put, List.setIfInBounds_toArray, List.set_cons_zero, List.set_cons_succ, i64_w, i32_w]
          rfl
        refine pure_ (i := 7) (N := some 23) (v := ?_) (a' := ?_) #[true, true, true, true, true, true, true, true, false, true, true, false, false, false] rfl rfl (by kernel_rfl) (fun _ _ _ h => h) (Or.inl ⟨by rfl, ?_⟩) ?_ ?_
        rotate_left
        · intro w'
          go_simp
          with_reducible rfl
        rotate_left
        · simp only [Act.put, List.setIfInBounds_toArray, List.set_cons_zero, List.set_cons_succ, i64_w, i32_w]
          rfl
        refine pure_ (i := 8) (N := some 24) (v := ?_) (a' := ?_) #[true, true, true, true, true, true, true, true, true, true, true, false, false, false] rfl rfl (by kernel_rfl) (fun _ _ _ h => h) (Or.inl ⟨by rfl, ?_⟩) ?_ ?_
        rotate_left
        · intro w'
          go_simp
          with_reducible rfl
        rotate_left
        · simp only [Act.put, List.setIfInBounds_toArray, List.set_cons_zero, List.set_cons_succ, i64_w, i32_w]
          rfl
        exact norm_ (by simp only [putAll, Act.put, List.setIfInBounds_toArray, List.set_cons_zero, List.set_cons_succ]) (hCont (g4, g5, Au, cu, A9, c9) _ ⟨Bg4.out, Bg5.out, Bg1.out, Bg2.out, Bg3.out, Kd.R_mono RC.out (fun _ _ => trivial), Kd.R_mono RP.out (fun _ _ => trivial), HB.out, Gg4.out, Gg5.out, Ng1g4.out, Ng2g4.out, Ng3g4.out, Ng1g5.out, Ng2g5.out, Ng3g5.out, Ng4g5.out⟩)
    · skip
      refine box_step ?hg (N := 9) ?hd (cs := #[.int .i64 0, .int .i64 0, .int .i64 0, .int .i64 0, .int .i64 0, .int .i64 0, .int .i64 0]) (t := 67) ?hr ?_
      (case hd => rfl)
      (case hg => rfl)
      (case hr => first | (go_simp; done) | (go_simp; rfl))
      intro g5 hgq W5 hbox hb; clear xg20 xg21 xg22 xg23 xg24 xg30 xg31 xg32 xg33 xg34 xg35 xg36; have Ng1g5 := Aside0.mk (by rw [hgq]; exact Nat.ne_of_lt (blk_lt (blk_drew Bg1.out)) : g1 ≠ g5); have Ng2g5 := Aside0.mk (by rw [hgq]; exact Nat.ne_of_lt (blk_lt (blk_drew Bg2.out)) : g2 ≠ g5); have Ng3g5 := Aside0.mk (by rw [hgq]; exact Nat.ne_of_lt (blk_lt (blk_drew Bg3.out)) : g3 ≠ g5); have Gg5 := Aside0.mk (by rw [hgq]; exact below_size (below_drew1 HB.out) : w.heap.size ≤ g5); replace RC := Aside0.mk (Kd.R_below (Kd.R_mono (Kd.R_bound (ok := fun k => (((True) ∧ k ≠ g1) ∧ k ≠ g2) ∧ k ≠ g3) (Kd.R_drew RC.out)) (fun k hk => (⟨hk.1, by have := hk.2.2.1; omega⟩ : ((((True) ∧ k ≠ g1) ∧ k ≠ g2) ∧ k ≠ g3) ∧ k ≠ g5))) hb); replace Bg1 := Aside0.mk (blk_below (blk_drew Bg1.out) hb); replace Bg2 := Aside0.mk (blk_below (blk_drew Bg2.out) hb); replace Bg3 := Aside0.mk (blk_below (blk_drew Bg3.out) hb); replace HB := Aside0.mk (below_step (below_drew1 HB.out) hb); have Bg5 := Aside0.mk hbox; clear hb hbox hgq
      refine hK.out _ _ ((vendmeterlaw_AccountGrants.S Bg3.out Bg2.out)) (fun hHeld => ?_)
      clear hK K
      refine norm_ (a' := ?_) ?_ ?_
      rotate_left
      · show Act.put _ (some 9) _ = _
        simp only [Act.put, List.setIfInBounds_toArray, List.set_cons_zero, List.set_cons_succ, i64_w, i32_w]
        rfl
      refine two_ (i := 2) (j := 9) (Ni := some 19) (Nj := some 8) #[true, true, true, true, false, false, false, false, false, false, true, false, false, false] #[true, true, false, true, false, false, false, false, false, true, true, false, false, false] rfl rfl rfl rfl (by kernel_rfl) (by decide) (by decide) (fun K hK => ?_) (fun K hK => ?_)
      · skip
        refine goes_ Try.func27 (by kernel_rfl) rfl #[.agg #[.slice At t.length ct, .int .i64 a, .int .i64 b, .int .i64 c, .int .i64 d]] (by rfl) rfl rfl (by (try simp only [List.map_toArray, List.map_cons, List.map_nil]); first | done | rfl) ?_
        with_reducible refine (vendmeterlaw_terms.calls At ct t a b c d u1 u2 u3 u4 u5 _ (Kd.C_below HT0.out HB.out) HCT.out HU.out).mono ?_
        rintro e wt ⟨vu, rfl, hr, hb1⟩; refine ⟨_, rfl, ?_⟩; obtain ⟨Au, cu, rfl⟩ := Kd.R_slice hr; have RU_ := Kd.R_lower hr (below_size HB.out); replace RC := Aside0.mk (Kd.R_below RC.out hb1); replace Bg1 := Aside0.mk (blk_below Bg1.out hb1); replace Bg2 := Aside0.mk (blk_below Bg2.out hb1); replace Bg3 := Aside0.mk (blk_below Bg3.out hb1); replace Bg5 := Aside0.mk (blk_below Bg5.out hb1); replace HB := Aside0.mk (below_step HB.out hb1); have RU := Aside0.mk (Kd.R_types (Kd.R_types (Kd.R_types (Kd.R_types (RU_) Bg1.out (by decide)) Bg2.out (by decide)) Bg3.out (by decide)) Bg5.out (by decide)); clear RU_ hr hb1
        refine hK.out _ _ ((vendmeterlaw_AccountGrants.S Bg3.out Bg2.out)) (fun hHeld => ?_)
        clear hK K
        refine norm_ (a' := ?_) ?_ ?_
        rotate_left
        · show Act.put _ (some 19) _ = _
          simp only [Act.put, List.setIfInBounds_toArray, List.set_cons_zero, List.set_cons_succ, i64_w, i32_w]
          rfl
        refine two_ (i := 4) (j := 9) (Ni := some 21) (Nj := some 8) #[true, true, true, true, true, false, false, false, false, false, true, false, false, false] #[true, true, true, true, false, false, false, false, false, true, true, false, false, false] rfl rfl rfl rfl (by kernel_rfl) (by decide) (by decide) (fun K hK => ?_) (fun K hK => ?_)
        · skip
          refine goes_ Try.func35 (by kernel_rfl) rfl #[.agg #[.int .i64 n1, .int .i64 n2, .int .i64 n3, .int .i64 n4, .int .i64 n5, .int .i64 n6, .slice A8 n7.length c8], .agg #[.slice Au u1.length cu, .int .i64 u2, .int .i64 u3, .int .i64 u4, .int .i64 u5], .int .i64 month] (by rfl) rfl rfl (by (try simp only [List.map_toArray, List.map_cons, List.map_nil]); first | done | rfl) ?_
          with_reducible refine (account_Grant.calls k n1 n2 n3 n4 n5 n6 A8 c8 n7 Au cu u1 u2 u3 u4 u5 month p1 p2 p3 p4 p5 p6 p7 p8 p9 p10 p11 p12 p13 p14 p15 _ (Kd.R_reads' RC.out).2.2 (Kd.R_reads' RC.out).2.1 (Kd.R_reads' RU.out).2.2 (Kd.R_reads' RU.out).2.1 HG.out).mono ?_
          rintro e wg ⟨vg, rfl, hr, hb1⟩; refine ⟨_, rfl, ?_⟩; obtain ⟨A9, c9, rfl⟩ := Kd.R_slice hr; have RP_ := Kd.R_lower hr (below_size HB.out); replace RC := Aside0.mk (Kd.R_below RC.out hb1); replace RU := Aside0.mk (Kd.R_below RU.out hb1); replace Bg1 := Aside0.mk (blk_below Bg1.out hb1); replace Bg2 := Aside0.mk (blk_below Bg2.out hb1); replace Bg3 := Aside0.mk (blk_below Bg3.out hb1); replace Bg5 := Aside0.mk (blk_below Bg5.out hb1); replace HB := Aside0.mk (below_step HB.out hb1); have RP := Aside0.mk (Kd.R_types (Kd.R_types (Kd.R_types (Kd.R_types (RP_) Bg1.out (by decide)) Bg2.out (by decide)) Bg3.out (by decide)) Bg5.out (by decide)); clear RP_ hr hb1
          refine hK.out _ _ ((vendmeterlaw_AccountGrants.S Bg3.out Bg2.out)) (fun hHeld => ?_)
          clear hK K
          refine norm_ (a' := ?_) ?_ ?_
          rotate_left
          · show Act.put _ (some 21) _ = _
            simp only [Act.put, List.setIfInBounds_toArray, List.set_cons_zero, List.set_cons_succ, i64_w, i32_w]
            rfl
          refine pure_ (i := 5) (N := some 16) (v := ?_) (a' := ?_) #[true, true, true, true, true, true, false, false, false, false, true, false, false, false] rfl rfl (by kernel_rfl) (fun _ _ _ h => h) (Or.inl ⟨by rfl, ?_⟩) ?_ ?_
          rotate_left
          · intro w'
            go_simp
            with_reducible rfl
          rotate_left
          · simp only [Act.put, List.setIfInBounds_toArray, List.set_cons_zero, List.set_cons_succ, i64_w, i32_w]
            rfl
          refine pure_ (i := 6) (N := some 22) (v := ?_) (a' := ?_) #[true, true, true, true, true, true, true, false, false, false, true, false, false, false] rfl rfl (by kernel_rfl) (fun _ _ _ h => h) (Or.inl ⟨by rfl, ?_⟩) ?_ ?_
          rotate_left
          · intro w'
            go_simp
            with_reducible rfl
          rotate_left
          · simp only [Act.put, List.setIfInBounds_toArray, List.set_cons_zero, List.set_cons_succ, i64_w, i32_w]
            rfl
          refine pure_ (i := 7) (N := some 23) (v := ?_) (a' := ?_) #[true, true, true, true, true, true, true, true, false, false, true, false, false, false] rfl rfl (by kernel_rfl) (fun _ _ _ h => h) (Or.inl ⟨by rfl, ?_⟩) ?_ ?_
          rotate_left
          · intro w'
            go_simp
            with_reducible rfl
          rotate_left
          · simp only [Act.put, List.setIfInBounds_toArray, List.set_cons_zero, List.set_cons_succ, i64_w, i32_w]
            rfl
          refine pure_ (i := 8) (N := some 24) (v := ?_) (a' := ?_) #[true, true, true, true, true, true, true, true, true, false, true, false, false, false] rfl rfl (by kernel_rfl) (fun _ _ _ h => h) (Or.inl ⟨by rfl, ?_⟩) ?_ ?_
          rotate_left
          · intro w'
            go_simp
            with_reducible rfl
          rotate_left
          · simp only [Act.put, List.setIfInBounds_toArray, List.set_cons_zero, List.set_cons_succ, i64_w, i32_w]
            rfl
          refine one_ (i := 9) (N := some 8) #[true, true, true, true, true, true, true, true, true, true, true, false, false, false] rfl rfl (by kernel_rfl) (by decide) (fun K hK => ?_)
          refine box_step ?hg (N := 8) ?hd (cs := #[.int .i64 0, .int .i64 0, .int .i64 0, .int .i64 0, .int .i64 0, .int .i64 0, .slice none 0 0]) (t := 60) ?hr ?_
          (case hd => rfl)
          (case hg => rfl)
          (case hr => first | (go_simp; done) | (go_simp; rfl))
          intro g4 hgq W6 hbox hb; have Ng1g4 := Aside0.mk (by rw [hgq]; exact Nat.ne_of_lt (blk_lt Bg1.out) : g1 ≠ g4); have Ng2g4 := Aside0.mk (by rw [hgq]; exact Nat.ne_of_lt (blk_lt Bg2.out) : g2 ≠ g4); have Ng3g4 := Aside0.mk (by rw [hgq]; exact Nat.ne_of_lt (blk_lt Bg3.out) : g3 ≠ g4); have Ng5g4 := Aside0.mk (by rw [hgq]; exact Nat.ne_of_lt (blk_lt Bg5.out) : g5 ≠ g4); have Gg4 := Aside0.mk (by rw [hgq]; exact below_size HB.out : w.heap.size ≤ g4); replace RC := Aside0.mk (Kd.R_below (Kd.R_mono (Kd.R_bound (ok := fun k => ((((True) ∧ k ≠ g1) ∧ k ≠ g2) ∧ k ≠ g3) ∧ k ≠ g5) RC.out) (fun k hk => (⟨hk.1, by have := hk.2.2.1; omega⟩ : (((((True) ∧ k ≠ g1) ∧ k ≠ g2) ∧ k ≠ g3) ∧ k ≠ g5) ∧ k ≠ g4))) hb); replace RU := Aside0.mk (Kd.R_below (Kd.R_mono (Kd.R_bound (ok := fun k => ((((True) ∧ k ≠ g1) ∧ k ≠ g2) ∧ k ≠ g3) ∧ k ≠ g5) RU.out) (fun k hk => (⟨hk.1, by have := hk.2.2.1; omega⟩ : (((((True) ∧ k ≠ g1) ∧ k ≠ g2) ∧ k ≠ g3) ∧ k ≠ g5) ∧ k ≠ g4))) hb); replace RP := Aside0.mk (Kd.R_below (Kd.R_mono (Kd.R_bound (ok := fun k => ((((True) ∧ k ≠ g1) ∧ k ≠ g2) ∧ k ≠ g3) ∧ k ≠ g5) RP.out) (fun k hk => (⟨hk.1, by have := hk.2.2.1; omega⟩ : (((((True) ∧ k ≠ g1) ∧ k ≠ g2) ∧ k ≠ g3) ∧ k ≠ g5) ∧ k ≠ g4))) hb); replace Bg1 := Aside0.mk (blk_below Bg1.out hb); replace Bg2 := Aside0.mk (blk_below Bg2.out hb); replace Bg3 := Aside0.mk (blk_below Bg3.out hb); replace Bg5 := Aside0.mk (blk_below Bg5.out hb); replace HB := Aside0.mk (below_step HB.out hb); have Bg4 := Aside0.mk hbox; clear hb hbox hgq
          refine hK.out _ _ ((vendmeterlaw_AccountGrants.S Bg3.out Bg2.out)) (fun hHeld => ?_)
          clear hK K
          refine norm_ (a' := ?_) ?_ ?_
          rotate_left
          · show Act.put _ (some 8) _ = _
            simp only [Act.put, List.setIfInBounds_toArray, List.set_cons_zero, List.set_cons_succ, i64_w, i32_w]
            rfl
          exact norm_ (by simp only [putAll, Act.put, List.setIfInBounds_toArray, List.set_cons_zero, List.set_cons_succ]) (hCont (g4, g5, Au, cu, A9, c9) _ ⟨Bg4.out, Bg5.out, Bg1.out, Bg2.out, Bg3.out, Kd.R_mono RC.out (fun _ _ => trivial), Kd.R_mono RP.out (fun _ _ => trivial), HB.out, Gg4.out, Gg5.out, Ng1g4.out, Ng2g4.out, Ng3g4.out, Ng1g5.out, Ng2g5.out, Ng3g5.out, (Ne.symm Ng5g4.out)⟩)
        · skip
          refine box_step ?hg (N := 8) ?hd (cs := #[.int .i64 0, .int .i64 0, .int .i64 0, .int .i64 0, .int .i64 0, .int .i64 0, .slice none 0 0]) (t := 60) ?hr ?_
          (case hd => rfl)
          (case hg => rfl)
          (case hr => first | (go_simp; done) | (go_simp; rfl))
          intro g4 hgq W6 hbox hb; have Ng1g4 := Aside0.mk (by rw [hgq]; exact Nat.ne_of_lt (blk_lt Bg1.out) : g1 ≠ g4); have Ng2g4 := Aside0.mk (by rw [hgq]; exact Nat.ne_of_lt (blk_lt Bg2.out) : g2 ≠ g4); have Ng3g4 := Aside0.mk (by rw [hgq]; exact Nat.ne_of_lt (blk_lt Bg3.out) : g3 ≠ g4); have Ng5g4 := Aside0.mk (by rw [hgq]; exact Nat.ne_of_lt (blk_lt Bg5.out) : g5 ≠ g4); have Gg4 := Aside0.mk (by rw [hgq]; exact below_size HB.out : w.heap.size ≤ g4); replace RC := Aside0.mk (Kd.R_below (Kd.R_mono (Kd.R_bound (ok := fun k => ((((True) ∧ k ≠ g1) ∧ k ≠ g2) ∧ k ≠ g3) ∧ k ≠ g5) RC.out) (fun k hk => (⟨hk.1, by have := hk.2.2.1; omega⟩ : (((((True) ∧ k ≠ g1) ∧ k ≠ g2) ∧ k ≠ g3) ∧ k ≠ g5) ∧ k ≠ g4))) hb); replace RU := Aside0.mk (Kd.R_below (Kd.R_mono (Kd.R_bound (ok := fun k => ((((True) ∧ k ≠ g1) ∧ k ≠ g2) ∧ k ≠ g3) ∧ k ≠ g5) RU.out) (fun k hk => (⟨hk.1, by have := hk.2.2.1; omega⟩ : (((((True) ∧ k ≠ g1) ∧ k ≠ g2) ∧ k ≠ g3) ∧ k ≠ g5) ∧ k ≠ g4))) hb); replace Bg1 := Aside0.mk (blk_below Bg1.out hb); replace Bg2 := Aside0.mk (blk_below Bg2.out hb); replace Bg3 := Aside0.mk (blk_below Bg3.out hb); replace Bg5 := Aside0.mk (blk_below Bg5.out hb); replace HB := Aside0.mk (below_step HB.out hb); have Bg4 := Aside0.mk hbox; clear hb hbox hgq
          refine hK.out _ _ ((vendmeterlaw_AccountGrants.S Bg3.out Bg2.out)) (fun hHeld => ?_)
          clear hK K
          refine norm_ (a' := ?_) ?_ ?_
          rotate_left
          · show Act.put _ (some 8) _ = _
            simp only [Act.put, List.setIfInBounds_toArray, List.set_cons_zero, List.set_cons_succ, i64_w, i32_w]
            rfl
          refine one_ (i := 4) (N := some 21) #[true, true, true, true, true, false, false, false, false, true, true, false, false, false] rfl rfl (by kernel_rfl) (by decide) (fun K hK => ?_)
          refine goes_ Try.func35 (by kernel_rfl) rfl #[.agg #[.int .i64 n1, .int .i64 n2, .int .i64 n3, .int .i64 n4, .int .i64 n5, .int .i64 n6, .slice A8 n7.length c8], .agg #[.slice Au u1.length cu, .int .i64 u2, .int .i64 u3, .int .i64 u4, .int .i64 u5], .int .i64 month] (by rfl) rfl rfl (by (try simp only [List.map_toArray, List.map_cons, List.map_nil]); first | done | rfl) ?_
          with_reducible refine (account_Grant.calls k n1 n2 n3 n4 n5 n6 A8 c8 n7 Au cu u1 u2 u3 u4 u5 month p1 p2 p3 p4 p5 p6 p7 p8 p9 p10 p11 p12 p13 p14 p15 _ (Kd.R_reads' RC.out).2.2 (Kd.R_reads' RC.out).2.1 (Kd.R_reads' RU.out).2.2 (Kd.R_reads' RU.out).2.1 HG.out).mono ?_
          rintro e wg ⟨vg, rfl, hr, hb1⟩; refine ⟨_, rfl, ?_⟩; obtain ⟨A9, c9, rfl⟩ := Kd.R_slice hr; have RP_ := Kd.R_lower hr (below_size HB.out); replace RC := Aside0.mk (Kd.R_below RC.out hb1); replace RU := Aside0.mk (Kd.R_below RU.out hb1); replace Bg1 := Aside0.mk (blk_below Bg1.out hb1); replace Bg2 := Aside0.mk (blk_below Bg2.out hb1); replace Bg3 := Aside0.mk (blk_below Bg3.out hb1); replace Bg5 := Aside0.mk (blk_below Bg5.out hb1); replace Bg4 := Aside0.mk (blk_below Bg4.out hb1); replace HB := Aside0.mk (below_step HB.out hb1); have RP := Aside0.mk (Kd.R_types (Kd.R_types (Kd.R_types (Kd.R_types (Kd.R_types (RP_) Bg1.out (by decide)) Bg2.out (by decide)) Bg3.out (by decide)) Bg5.out (by decide)) Bg4.out (by decide)); clear RP_ hr hb1
          refine hK.out _ _ ((vendmeterlaw_AccountGrants.S Bg3.out Bg2.out)) (fun hHeld => ?_)
          clear hK K
          refine norm_ (a' := ?_) ?_ ?_
          rotate_left
          · show Act.put _ (some 21) _ = _
            simp only [Act.put, List.setIfInBounds_toArray, List.set_cons_zero, List.set_cons_succ, i64_w, i32_w]
            rfl
          refine pure_ (i := 5) (N := some 16) (v := ?_) (a' := ?_) #[true, true, true, true, true, true, false, false, false, true, true, false, false, false] rfl rfl (by kernel_rfl) (fun _ _ _ h => h) (Or.inl ⟨by rfl, ?_⟩) ?_ ?_
          rotate_left
          · intro w'
            go_simp
            with_reducible rfl
          rotate_left
          · simp only [Act.put, List.setIfInBounds_toArray, List.set_cons_zero, List.set_cons_succ, i64_w, i32_w]
            rfl
          refine pure_ (i := 6) (N := some 22) (v := ?_) (a' := ?_) #[true, true, true, true, true, true, true, false, false, true, true, false, false, false] rfl rfl (by kernel_rfl) (fun _ _ _ h => h) (Or.inl ⟨by rfl, ?_⟩) ?_ ?_
          rotate_left
          · intro w'
            go_simp
            with_reducible rfl
          rotate_left
          · simp only [Act.put, List.setIfInBounds_toArray, List.set_cons_zero, List.set_cons_succ, i64_w, i32_w]
            rfl
          refine pure_ (i := 7) (N := some 23) (v := ?_) (a' := ?_) #[true, true, true, true, true, true, true, true, false, true, true, false, false, false] rfl rfl (by kernel_rfl) (fun _ _ _ h => h) (Or.inl ⟨by rfl, ?_⟩) ?_ ?_
          rotate_left
          · intro w'
            go_simp
            with_reducible rfl
          rotate_left
          · simp only [Act.put, List.setIfInBounds_toArray, List.set_cons_zero, List.set_cons_succ, i64_w, i32_w]
            rfl
          refine pure_ (i := 8) (N := some 24) (v := ?_) (a' := ?_) #[true, true, true, true, true, true, true, true, true, true, true, false, false, false] rfl rfl (by kernel_rfl) (fun _ _ _ h => h) (Or.inl ⟨by rfl, ?_⟩) ?_ ?_
          rotate_left
          · intro w'
            go_simp
            with_reducible rfl
          rotate_left
          · simp only [Act.put, List.setIfInBounds_toArray, List.set_cons_zero, List.set_cons_succ, i64_w, i32_w]
            rfl
          exact norm_ (by simp only [putAll, Act.put, List.setIfInBounds_toArray, List.set_cons_zero, List.set_cons_succ]) (hCont (g4, g5, Au, cu, A9, c9) _ ⟨Bg4.out, Bg5.out, Bg1.out, Bg2.out, Bg3.out, Kd.R_mono RC.out (fun _ _ => trivial), Kd.R_mono RP.out (fun _ _ => trivial), HB.out, Gg4.out, Gg5.out, Ng1g4.out, Ng2g4.out, Ng3g4.out, Ng1g5.out, Ng2g5.out, Ng3g5.out, (Ne.symm Ng5g4.out)⟩)
      · skip
        refine box_step ?hg (N := 8) ?hd (cs := #[.int .i64 0, .int .i64 0, .int .i64 0, .int .i64 0, .int .i64 0, .int .i64 0, .slice none 0 0]) (t := 60) ?hr ?_
        (case hd => rfl)
        (case hg => rfl)
        (case hr => first | (go_simp; done) | (go_simp; rfl))
        intro g4 hgq W6 hbox hb; have Ng1g4 := Aside0.mk (by rw [hgq]; exact Nat.ne_of_lt (blk_lt Bg1.out) : g1 ≠ g4); have Ng2g4 := Aside0.mk (by rw [hgq]; exact Nat.ne_of_lt (blk_lt Bg2.out) : g2 ≠ g4); have Ng3g4 := Aside0.mk (by rw [hgq]; exact Nat.ne_of_lt (blk_lt Bg3.out) : g3 ≠ g4); have Ng5g4 := Aside0.mk (by rw [hgq]; exact Nat.ne_of_lt (blk_lt Bg5.out) : g5 ≠ g4); have Gg4 := Aside0.mk (by rw [hgq]; exact below_size HB.out : w.heap.size ≤ g4); replace RC := Aside0.mk (Kd.R_below (Kd.R_mono (Kd.R_bound (ok := fun k => ((((True) ∧ k ≠ g1) ∧ k ≠ g2) ∧ k ≠ g3) ∧ k ≠ g5) RC.out) (fun k hk => (⟨hk.1, by have := hk.2.2.1; omega⟩ : (((((True) ∧ k ≠ g1) ∧ k ≠ g2) ∧ k ≠ g3) ∧ k ≠ g5) ∧ k ≠ g4))) hb); replace Bg1 := Aside0.mk (blk_below Bg1.out hb); replace Bg2 := Aside0.mk (blk_below Bg2.out hb); replace Bg3 := Aside0.mk (blk_below Bg3.out hb); replace Bg5 := Aside0.mk (blk_below Bg5.out hb); replace HB := Aside0.mk (below_step HB.out hb); have Bg4 := Aside0.mk hbox; clear hb hbox hgq
        refine hK.out _ _ ((vendmeterlaw_AccountGrants.S Bg3.out Bg2.out)) (fun hHeld => ?_)
        clear hK K
        refine norm_ (a' := ?_) ?_ ?_
        rotate_left
        · show Act.put _ (some 8) _ = _
          simp only [Act.put, List.setIfInBounds_toArray, List.set_cons_zero, List.set_cons_succ, i64_w, i32_w]
          rfl
        refine one_ (i := 2) (N := some 19) #[true, true, true, true, false, false, false, false, false, true, true, false, false, false] rfl rfl (by kernel_rfl) (by decide) (fun K hK => ?_)
        refine goes_ Try.func27 (by kernel_rfl) rfl #[.agg #[.slice At t.length ct, .int .i64 a, .int .i64 b, .int .i64 c, .int .i64 d]] (by rfl) rfl rfl (by (try simp only [List.map_toArray, List.map_cons, List.map_nil]); first | done | rfl) ?_
        with_reducible refine (vendmeterlaw_terms.calls At ct t a b c d u1 u2 u3 u4 u5 _ (Kd.C_below HT0.out HB.out) HCT.out HU.out).mono ?_
        rintro e wt ⟨vu, rfl, hr, hb1⟩; refine ⟨_, rfl, ?_⟩; obtain ⟨Au, cu, rfl⟩ := Kd.R_slice hr; have RU_ := Kd.R_lower hr (below_size HB.out); replace RC := Aside0.mk (Kd.R_below RC.out hb1); replace Bg1 := Aside0.mk (blk_below Bg1.out hb1); replace Bg2 := Aside0.mk (blk_below Bg2.out hb1); replace Bg3 := Aside0.mk (blk_below Bg3.out hb1); replace Bg5 := Aside0.mk (blk_below Bg5.out hb1); replace Bg4 := Aside0.mk (blk_below Bg4.out hb1); replace HB := Aside0.mk (below_step HB.out hb1); have RU := Aside0.mk (Kd.R_types (Kd.R_types (Kd.R_types (Kd.R_types (Kd.R_types (RU_) Bg1.out (by decide)) Bg2.out (by decide)) Bg3.out (by decide)) Bg5.out (by decide)) Bg4.out (by decide)); clear RU_ hr hb1
        refine hK.out _ _ ((vendmeterlaw_AccountGrants.S Bg3.out Bg2.out)) (fun hHeld => ?_)
        clear hK K
        refine norm_ (a' := ?_) ?_ ?_
        rotate_left
        · show Act.put _ (some 19) _ = _
          simp only [Act.put, List.setIfInBounds_toArray, List.set_cons_zero, List.set_cons_succ, i64_w, i32_w]
          rfl
        refine one_ (i := 4) (N := some 21) #[true, true, true, true, true, false, false, false, false, true, true, false, false, false] rfl rfl (by kernel_rfl) (by decide) (fun K hK => ?_)
        refine goes_ Try.func35 (by kernel_rfl) rfl #[.agg #[.int .i64 n1, .int .i64 n2, .int .i64 n3, .int .i64 n4, .int .i64 n5, .int .i64 n6, .slice A8 n7.length c8], .agg #[.slice Au u1.length cu, .int .i64 u2, .int .i64 u3, .int .i64 u4, .int .i64 u5], .int .i64 month] (by rfl) rfl rfl (by (try simp only [List.map_toArray, List.map_cons, List.map_nil]); first | done | rfl) ?_
        with_reducible refine (account_Grant.calls k n1 n2 n3 n4 n5 n6 A8 c8 n7 Au cu u1 u2 u3 u4 u5 month p1 p2 p3 p4 p5 p6 p7 p8 p9 p10 p11 p12 p13 p14 p15 _ (Kd.R_reads' RC.out).2.2 (Kd.R_reads' RC.out).2.1 (Kd.R_reads' RU.out).2.2 (Kd.R_reads' RU.out).2.1 HG.out).mono ?_
        rintro e wg ⟨vg, rfl, hr, hb1⟩; refine ⟨_, rfl, ?_⟩; obtain ⟨A9, c9, rfl⟩ := Kd.R_slice hr; have RP_ := Kd.R_lower hr (below_size HB.out); replace RC := Aside0.mk (Kd.R_below RC.out hb1); replace RU := Aside0.mk (Kd.R_below RU.out hb1); replace Bg1 := Aside0.mk (blk_below Bg1.out hb1); replace Bg2 := Aside0.mk (blk_below Bg2.out hb1); replace Bg3 := Aside0.mk (blk_below Bg3.out hb1); replace Bg5 := Aside0.mk (blk_below Bg5.out hb1); replace Bg4 := Aside0.mk (blk_below Bg4.out hb1); replace HB := Aside0.mk (below_step HB.out hb1); have RP := Aside0.mk (Kd.R_types (Kd.R_types (Kd.R_types (Kd.R_types (Kd.R_types (RP_) Bg1.out (by decide)) Bg2.out (by decide)) Bg3.out (by decide)) Bg5.out (by decide)) Bg4.out (by decide)); clear RP_ hr hb1
        refine hK.out _ _ ((vendmeterlaw_AccountGrants.S Bg3.out Bg2.out)) (fun hHeld => ?_)
        clear hK K
        refine norm_ (a' := ?_) ?_ ?_
        rotate_left
        · show Act.put _ (some 21) _ = _
          simp only [Act.put, List.setIfInBounds_toArray, List.set_cons_zero, List.set_cons_succ, i64_w, i32_w]
          rfl
        refine pure_ (i := 5) (N := some 16) (v := ?_) (a' := ?_) #[true, true, true, true, true, true, false, false, false, true, true, false, false, false] rfl rfl (by kernel_rfl) (fun _ _ _ h => h) (Or.inl ⟨by rfl, ?_⟩) ?_ ?_
        rotate_left
        · intro w'
          go_simp
          with_reducible rfl
        rotate_left
        · simp only [Act.put, List.setIfInBounds_toArray, List.set_cons_zero, List.set_cons_succ, i64_w, i32_w]
          rfl
        refine pure_ (i := 6) (N := some 22) (v := ?_) (a' := ?_) #[true, true, true, true, true, true, true, false, false, true, true, false, false, false] rfl rfl (by kernel_rfl) (fun _ _ _ h => h) (Or.inl ⟨by rfl, ?_⟩) ?_ ?_
        rotate_left
        · intro w'
          go_simp
          with_reducible rfl
        rotate_left
        · simp only [Act.put, List.setIfInBounds_toArray, List.set_cons_zero, List.set_cons_succ, i64_w, i32_w]
          rfl
        refine pure_ (i := 7) (N := some 23) (v := ?_) (a' := ?_) #[true, true, true, true, true, true, true, true, false, true, true, false, false, false] rfl rfl (by kernel_rfl) (fun _ _ _ h => h) (Or.inl ⟨by rfl, ?_⟩) ?_ ?_
        rotate_left
        · intro w'
          go_simp
          with_reducible rfl
        rotate_left
        · simp only [Act.put, List.setIfInBounds_toArray, List.set_cons_zero, List.set_cons_succ, i64_w, i32_w]
          rfl
        refine pure_ (i := 8) (N := some 24) (v := ?_) (a' := ?_) #[true, true, true, true, true, true, true, true, true, true, true, false, false, false] rfl rfl (by kernel_rfl) (fun _ _ _ h => h) (Or.inl ⟨by rfl, ?_⟩) ?_ ?_
        rotate_left
        · intro w'
          go_simp
          with_reducible rfl
        rotate_left
        · simp only [Act.put, List.setIfInBounds_toArray, List.set_cons_zero, List.set_cons_succ, i64_w, i32_w]
          rfl
        exact norm_ (by simp only [putAll, Act.put, List.setIfInBounds_toArray, List.set_cons_zero, List.set_cons_succ]) (hCont (g4, g5, Au, cu, A9, c9) _ ⟨Bg4.out, Bg5.out, Bg1.out, Bg2.out, Bg3.out, Kd.R_mono RC.out (fun _ _ => trivial), Kd.R_mono RP.out (fun _ _ => trivial), HB.out, Gg4.out, Gg5.out, Ng1g4.out, Ng2g4.out, Ng3g4.out, Ng1g5.out, Ng2g5.out, Ng3g5.out, (Ne.symm Ng5g4.out)⟩)
  rintro ⟨g4, g5, Au, cu, A9, c9⟩ wd ⟨b4, b5, b1, b2, b3, rc, rp, hbd, h4, h5, m14, m24, m34, m15, m25, m35, m45⟩
  clear Bg1 Bg2 Bg3 RC HB xg20 xg21 xg22 xg23 xg24 xg30 xg31 xg32 xg33 xg34 xg35 xg36
  have Bg1 := Aside0.mk b1
  have Bg2 := Aside0.mk b2
  have Bg3 := Aside0.mk b3
  have Bg4 := Aside0.mk b4
  have Bg5 := Aside0.mk b5
  have HB : Aside0 (Below w.heap.size w wd) := ⟨hbd⟩
  have Gg4 : Aside0 (w.heap.size ≤ g4) := ⟨h4⟩
  have Gg5 : Aside0 (w.heap.size ≤ g5) := ⟨h5⟩
  have Ng1g4 : Aside0 (g1 ≠ g4) := ⟨m14⟩
  have Ng2g4 : Aside0 (g2 ≠ g4) := ⟨m24⟩
  have Ng3g4 : Aside0 (g3 ≠ g4) := ⟨m34⟩
  have Ng1g5 : Aside0 (g1 ≠ g5) := ⟨m15⟩
  have Ng2g5 : Aside0 (g2 ≠ g5) := ⟨m25⟩
  have Ng3g5 : Aside0 (g3 ≠ g5) := ⟨m35⟩
  have Ng4g5 : Aside0 (g4 ≠ g5) := ⟨m45⟩
  have RC := Aside0.mk (Kd.R_types (Kd.R_types (Kd.R_types (Kd.R_types (Kd.R_types rc Bg1.out (by decide)) Bg2.out (by decide)) Bg3.out (by decide)) Bg4.out (by decide)) Bg5.out (by decide))
  have RP := Aside0.mk (Kd.R_types (Kd.R_types (Kd.R_types (Kd.R_types (Kd.R_types rp Bg1.out (by decide)) Bg2.out (by decide)) Bg3.out (by decide)) Bg4.out (by decide)) Bg5.out (by decide))
  have hHeld := (vendmeterlaw_AccountGrants.S Bg3.out Bg2.out)
  clear b1 b2 b3 b4 b5 rc rp hbd h4 h5 m14 m24 m34 m15 m25 m35 m45
  refine norm_ (a' := ?_) ?_ ?_
  rotate_left
  · simp only [putAll, Act.put, List.setIfInBounds_toArray, List.set_cons_zero, List.set_cons_succ]
    rfl
  refine one_ (i := 11) (N := none) #[true, true, true, true, true, true, true, true, true, true, true, true, false, false] rfl rfl (by kernel_rfl) (by decide) (fun K hK => ?_)
  refine seg.step (by rfl) rfl 60 (.tmp 8) _ (by rfl) 60 g4 0 #[.int .i64 0, .int .i64 0, .int .i64 0, .int .i64 0, .int .i64 0, .int .i64 0, .slice none 0 0] #[.int .i64 p1, .int .i64 p2, .int .i64 p3, .int .i64 p4, .int .i64 p5, .int .i64 p6, .slice A9 p7.length c9] [.int .i64 p1, .int .i64 p2, .int .i64 p3, .int .i64 p4, .int .i64 p5, .int .i64 p6, .slice A9 p7.length c9] (by rfl) (by rfl) (by kernel_rfl) (by simp [Value.oneCell']) Bg4.out (by simp) rfl ?_
  intro W5 bx hgr
  replace RC := Aside0.mk (seg.R (ok := fun k => (((((True) ∧ k ≠ g1) ∧ k ≠ g2) ∧ k ≠ g3) ∧ k ≠ g4) ∧ k ≠ g5) RC.out hgr (fun k hk => hk.1.2))
  replace RP := Aside0.mk (seg.R (ok := fun k => (((((True) ∧ k ≠ g1) ∧ k ≠ g2) ∧ k ≠ g3) ∧ k ≠ g4) ∧ k ≠ g5) RP.out hgr (fun k hk => hk.1.2))
  replace Bg1 := Aside0.mk (seg.far Bg1.out hgr Ng1g4.out)
  replace Bg2 := Aside0.mk (seg.far Bg2.out hgr Ng2g4.out)
  replace Bg3 := Aside0.mk (seg.far Bg3.out hgr Ng3g4.out)
  replace Bg5 := Aside0.mk (seg.far Bg5.out hgr (Ne.symm Ng4g5.out))
  replace HB := Aside0.mk (seg.below HB.out hgr Gg4.out)
  replace Bg4 := Aside0.mk bx
  clear bx hgr
  refine hK.out _ _ ((vendmeterlaw_AccountGrants.S Bg3.out Bg2.out)) (fun hHeld => ?_)
  clear hK K
  refine last_ (i := 12) (N := none) #[true, true, true, true, true, true, true, true, true, true, true, true, true, false] rfl rfl (by kernel_rfl) (by decide) (fun K hK => ?_)
  refine seg.step (by rfl) rfl 67 (.tmp 9) _ (by rfl) 67 g5 0 #[.int .i64 0, .int .i64 0, .int .i64 0, .int .i64 0, .int .i64 0, .int .i64 0, .int .i64 0] #[.int .i64 p8, .int .i64 p9, .int .i64 p10, .int .i64 p11, .int .i64 p12, .int .i64 p13, .int .i64 p14] [.int .i64 p8, .int .i64 p9, .int .i64 p10, .int .i64 p11, .int .i64 p12, .int .i64 p13, .int .i64 p14] (by rfl) (by rfl) (by kernel_rfl) (by simp [Value.oneCell']) Bg5.out (by simp) rfl ?_
  intro W6 bx hgr
  replace RC := Aside0.mk (seg.R (ok := fun k => (((((True) ∧ k ≠ g1) ∧ k ≠ g2) ∧ k ≠ g3) ∧ k ≠ g4) ∧ k ≠ g5) RC.out hgr (fun k hk => hk.2))
  replace RP := Aside0.mk (seg.R (ok := fun k => (((((True) ∧ k ≠ g1) ∧ k ≠ g2) ∧ k ≠ g3) ∧ k ≠ g4) ∧ k ≠ g5) RP.out hgr (fun k hk => hk.2))
  replace Bg1 := Aside0.mk (seg.far Bg1.out hgr Ng1g5.out)
  replace Bg2 := Aside0.mk (seg.far Bg2.out hgr Ng2g5.out)
  replace Bg3 := Aside0.mk (seg.far Bg3.out hgr Ng3g5.out)
  replace Bg4 := Aside0.mk (seg.far Bg4.out hgr Ng4g5.out)
  replace HB := Aside0.mk (seg.below HB.out hgr Gg5.out)
  replace Bg5 := Aside0.mk bx
  clear bx hgr
  refine hK.out _ _ ?_
  clear hK K
  refine pure_ (i := 13) (N := some 10) (v := ?_) (a' := ?_) #[true, true, true, true, true, true, true, true, true, true, true, true, true, true] rfl rfl (by kernel_rfl) (fun _ _ _ h => h) (Or.inl ⟨by rfl, ?_⟩) ?_ ?_
  rotate_left
  · intro w'
    go_simp
    with_reducible rfl
  rotate_left
  · simp only [Act.put, List.setIfInBounds_toArray, List.set_cons_zero, List.set_cons_succ, i64_w, i32_w]
    rfl
  refine done_ (by kernel_rfl) ?_
  have xg10 : W6.cell? ⟨g1, 0, none⟩ = some (.int .i64 me) := (blk_cell Bg1.out 0).trans rfl
  have xg11 : W6.cell? ⟨g1, 1, none⟩ = some (.int .i64 rev) := (blk_cell Bg1.out 1).trans rfl
  have xg12 : W6.cell? ⟨g1, 2, none⟩ = some (.int .i64 nx) := (blk_cell Bg1.out 2).trans rfl
  have xg13 : W6.cell? ⟨g1, 3, none⟩ = some (.int .i64 mo) := (blk_cell Bg1.out 3).trans rfl
  have xg14 : W6.cell? ⟨g1, 4, none⟩ = some (.int .i64 bo) := (blk_cell Bg1.out 4).trans rfl
  have xg15 : W6.cell? ⟨g1, 5, none⟩ = some (.int .i64 fr) := (blk_cell Bg1.out 5).trans rfl
  have xg16 : W6.cell? ⟨g1, 6, none⟩ = some (.slice A6 l.length c6) := (blk_cell Bg1.out 6).trans rfl
  have xg20 : W6.cell? ⟨g2, 0, none⟩ = some (.slice At t.length ct) := (blk_cell Bg2.out 0).trans rfl
  have xg21 : W6.cell? ⟨g2, 1, none⟩ = some (.int .i64 a) := (blk_cell Bg2.out 1).trans rfl
  have xg22 : W6.cell? ⟨g2, 2, none⟩ = some (.int .i64 b) := (blk_cell Bg2.out 2).trans rfl
  have xg23 : W6.cell? ⟨g2, 3, none⟩ = some (.int .i64 c) := (blk_cell Bg2.out 3).trans rfl
  have xg24 : W6.cell? ⟨g2, 4, none⟩ = some (.int .i64 d) := (blk_cell Bg2.out 4).trans rfl
  go_upto_region 4 with (first | (go_at_call 36; refine (vendmeterref_Granted.calls k me rev nx mo bo fr A6 c6 l At ct t a b c d month q1 q2 q3 q4 q5 q6 q7 q8 q9 q10 q11 q12 q13 q14 q15 _ (Kd.C_below HR0.out HB.out) HC0.out (Kd.C_below HT0.out HB.out) HCT.out HQ.out).mono ?_; rintro e wq ⟨vq, rfl, hr, hb1⟩; obtain ⟨A10, c10, rfl⟩ := Kd.R_slice hr; have RQ_ := Kd.R_lower hr (below_size HB.out); clear xg10 xg11 xg12 xg13 xg14 xg15 xg16 xg20 xg21 xg22 xg23 xg24; replace RC := Aside0.mk (Kd.R_below RC.out hb1); replace RP := Aside0.mk (Kd.R_below RP.out hb1); replace Bg1 := Aside0.mk (blk_below Bg1.out hb1); replace Bg2 := Aside0.mk (blk_below Bg2.out hb1); replace Bg3 := Aside0.mk (blk_below Bg3.out hb1); replace Bg4 := Aside0.mk (blk_below Bg4.out hb1); replace Bg5 := Aside0.mk (blk_below Bg5.out hb1); replace HB := Aside0.mk (below_step HB.out hb1); have RQ := Aside0.mk (Kd.R_types (Kd.R_types (Kd.R_types (Kd.R_types (Kd.R_types (RQ_) Bg1.out (by decide)) Bg2.out (by decide)) Bg3.out (by decide)) Bg4.out (by decide)) Bg5.out (by decide)); clear RQ_ hr hb1) | ((with_reducible refine gate_dst (N := 11) rfl ?_); refine box_event ?hg (N := 11) ?hd (cs := #[.int .i64 0, .int .i64 0, .int .i64 0, .int .i64 0, .int .i64 0, .int .i64 0, .slice none 0 0]) (t := 60) ?hr ?_; (case hd => rfl); (case hg => rfl); (case hr => first | (go_simp; done) | (go_simp; rfl)); intro g6 hgq W7 hbox hb; have Ng1g6 := Aside0.mk (by rw [hgq]; exact Nat.ne_of_lt (blk_lt Bg1.out) : g1 ≠ g6); have Ng2g6 := Aside0.mk (by rw [hgq]; exact Nat.ne_of_lt (blk_lt Bg2.out) : g2 ≠ g6); have Ng3g6 := Aside0.mk (by rw [hgq]; exact Nat.ne_of_lt (blk_lt Bg3.out) : g3 ≠ g6); have Ng4g6 := Aside0.mk (by rw [hgq]; exact Nat.ne_of_lt (blk_lt Bg4.out) : g4 ≠ g6); have Ng5g6 := Aside0.mk (by rw [hgq]; exact Nat.ne_of_lt (blk_lt Bg5.out) : g5 ≠ g6); have Gg6 := Aside0.mk (by rw [hgq]; exact below_size HB.out : w.heap.size ≤ g6); replace RC := Aside0.mk (Kd.R_below (Kd.R_mono (Kd.R_bound (ok := fun k => (((((True) ∧ k ≠ g1) ∧ k ≠ g2) ∧ k ≠ g3) ∧ k ≠ g4) ∧ k ≠ g5) RC.out) (fun k hk => (⟨hk.1, by have := hk.2.2.1; omega⟩ : ((((((True) ∧ k ≠ g1) ∧ k ≠ g2) ∧ k ≠ g3) ∧ k ≠ g4) ∧ k ≠ g5) ∧ k ≠ g6))) hb); replace RP := Aside0.mk (Kd.R_below (Kd.R_mono (Kd.R_bound (ok := fun k => (((((True) ∧ k ≠ g1) ∧ k ≠ g2) ∧ k ≠ g3) ∧ k ≠ g4) ∧ k ≠ g5) RP.out) (fun k hk => (⟨hk.1, by have := hk.2.2.1; omega⟩ : ((((((True) ∧ k ≠ g1) ∧ k ≠ g2) ∧ k ≠ g3) ∧ k ≠ g4) ∧ k ≠ g5) ∧ k ≠ g6))) hb); replace RQ := Aside0.mk (Kd.R_below (Kd.R_mono (Kd.R_bound (ok := fun k => (((((True) ∧ k ≠ g1) ∧ k ≠ g2) ∧ k ≠ g3) ∧ k ≠ g4) ∧ k ≠ g5) RQ.out) (fun k hk => (⟨hk.1, by have := hk.2.2.1; omega⟩ : ((((((True) ∧ k ≠ g1) ∧ k ≠ g2) ∧ k ≠ g3) ∧ k ≠ g4) ∧ k ≠ g5) ∧ k ≠ g6))) hb); replace Bg1 := Aside0.mk (blk_below Bg1.out hb); replace Bg2 := Aside0.mk (blk_below Bg2.out hb); replace Bg3 := Aside0.mk (blk_below Bg3.out hb); replace Bg4 := Aside0.mk (blk_below Bg4.out hb); replace Bg5 := Aside0.mk (blk_below Bg5.out hb); replace HB := Aside0.mk (below_step HB.out hb); have Bg6 := Aside0.mk hbox; clear hb hbox hgq; skip) | ((with_reducible refine gate_dst (N := 12) rfl ?_); refine box_event ?hg (N := 12) ?hd (cs := #[.int .i64 0, .int .i64 0, .int .i64 0, .int .i64 0, .int .i64 0, .int .i64 0, .int .i64 0]) (t := 67) ?hr ?_; (case hd => rfl); (case hg => rfl); (case hr => first | (go_simp; done) | (go_simp; rfl)); intro g7 hgq W8 hbox hb; have Ng1g7 := Aside0.mk (by rw [hgq]; exact Nat.ne_of_lt (blk_lt Bg1.out) : g1 ≠ g7); have Ng2g7 := Aside0.mk (by rw [hgq]; exact Nat.ne_of_lt (blk_lt Bg2.out) : g2 ≠ g7); have Ng3g7 := Aside0.mk (by rw [hgq]; exact Nat.ne_of_lt (blk_lt Bg3.out) : g3 ≠ g7); have Ng4g7 := Aside0.mk (by rw [hgq]; exact Nat.ne_of_lt (blk_lt Bg4.out) : g4 ≠ g7); have Ng5g7 := Aside0.mk (by rw [hgq]; exact Nat.ne_of_lt (blk_lt Bg5.out) : g5 ≠ g7); have Ng6g7 := Aside0.mk (by rw [hgq]; exact Nat.ne_of_lt (blk_lt Bg6.out) : g6 ≠ g7); have Gg7 := Aside0.mk (by rw [hgq]; exact below_size HB.out : w.heap.size ≤ g7); replace RC := Aside0.mk (Kd.R_below (Kd.R_mono (Kd.R_bound (ok := fun k => ((((((True) ∧ k ≠ g1) ∧ k ≠ g2) ∧ k ≠ g3) ∧ k ≠ g4) ∧ k ≠ g5) ∧ k ≠ g6) RC.out) (fun k hk => (⟨hk.1, by have := hk.2.2.1; omega⟩ : (((((((True) ∧ k ≠ g1) ∧ k ≠ g2) ∧ k ≠ g3) ∧ k ≠ g4) ∧ k ≠ g5) ∧ k ≠ g6) ∧ k ≠ g7))) hb); replace RP := Aside0.mk (Kd.R_below (Kd.R_mono (Kd.R_bound (ok := fun k => ((((((True) ∧ k ≠ g1) ∧ k ≠ g2) ∧ k ≠ g3) ∧ k ≠ g4) ∧ k ≠ g5) ∧ k ≠ g6) RP.out) (fun k hk => (⟨hk.1, by have := hk.2.2.1; omega⟩ : (((((((True) ∧ k ≠ g1) ∧ k ≠ g2) ∧ k ≠ g3) ∧ k ≠ g4) ∧ k ≠ g5) ∧ k ≠ g6) ∧ k ≠ g7))) hb); replace RQ := Aside0.mk (Kd.R_below (Kd.R_mono (Kd.R_bound (ok := fun k => ((((((True) ∧ k ≠ g1) ∧ k ≠ g2) ∧ k ≠ g3) ∧ k ≠ g4) ∧ k ≠ g5) ∧ k ≠ g6) RQ.out) (fun k hk => (⟨hk.1, by have := hk.2.2.1; omega⟩ : (((((((True) ∧ k ≠ g1) ∧ k ≠ g2) ∧ k ≠ g3) ∧ k ≠ g4) ∧ k ≠ g5) ∧ k ≠ g6) ∧ k ≠ g7))) hb); replace Bg1 := Aside0.mk (blk_below Bg1.out hb); replace Bg2 := Aside0.mk (blk_below Bg2.out hb); replace Bg3 := Aside0.mk (blk_below Bg3.out hb); replace Bg4 := Aside0.mk (blk_below Bg4.out hb); replace Bg5 := Aside0.mk (blk_below Bg5.out hb); replace Bg6 := Aside0.mk (blk_below Bg6.out hb); replace HB := Aside0.mk (below_step HB.out hb); have Bg7 := Aside0.mk hbox; clear hb hbox hgq; skip) | ((with_reducible refine gate_store (t := 60) (p := 11) rfl ?_); refine seg.list rfl rfl 60 (.tmp 11) _ rfl 60 g6 0 #[.int .i64 0, .int .i64 0, .int .i64 0, .int .i64 0, .int .i64 0, .int .i64 0, .slice none 0 0] #[.int .i64 q1, .int .i64 q2, .int .i64 q3, .int .i64 q4, .int .i64 q5, .int .i64 q6, .slice A10 q7.length c10] [.int .i64 q1, .int .i64 q2, .int .i64 q3, .int .i64 q4, .int .i64 q5, .int .i64 q6, .slice A10 q7.length c10] rfl rfl (by kernel_rfl) (by simp [Value.oneCell']) Bg6.out (by simp) rfl ?_; intro W9 bx hgr; replace RC := Aside0.mk (seg.R (ok := fun k => (((((((True) ∧ k ≠ g1) ∧ k ≠ g2) ∧ k ≠ g3) ∧ k ≠ g4) ∧ k ≠ g5) ∧ k ≠ g6) ∧ k ≠ g7) RC.out hgr (fun k hk => hk.1.2)); replace RP := Aside0.mk (seg.R (ok := fun k => (((((((True) ∧ k ≠ g1) ∧ k ≠ g2) ∧ k ≠ g3) ∧ k ≠ g4) ∧ k ≠ g5) ∧ k ≠ g6) ∧ k ≠ g7) RP.out hgr (fun k hk => hk.1.2)); replace RQ := Aside0.mk (seg.R (ok := fun k => (((((((True) ∧ k ≠ g1) ∧ k ≠ g2) ∧ k ≠ g3) ∧ k ≠ g4) ∧ k ≠ g5) ∧ k ≠ g6) ∧ k ≠ g7) RQ.out hgr (fun k hk => hk.1.2)); replace Bg1 := Aside0.mk (seg.far Bg1.out hgr Ng1g6.out); replace Bg2 := Aside0.mk (seg.far Bg2.out hgr Ng2g6.out); replace Bg3 := Aside0.mk (seg.far Bg3.out hgr Ng3g6.out); replace Bg4 := Aside0.mk (seg.far Bg4.out hgr Ng4g6.out); replace Bg5 := Aside0.mk (seg.far Bg5.out hgr Ng5g6.out); replace Bg7 := Aside0.mk (seg.far Bg7.out hgr (Ne.symm Ng6g7.out)); replace HB := Aside0.mk (seg.below HB.out hgr Gg6.out); replace Bg6 := Aside0.mk bx; clear bx hgr; skip) | ((with_reducible refine gate_store (t := 67) (p := 12) rfl ?_); refine seg.list rfl rfl 67 (.tmp 12) _ rfl 67 g7 0 #[.int .i64 0, .int .i64 0, .int .i64 0, .int .i64 0, .int .i64 0, .int .i64 0, .int .i64 0] #[.int .i64 q8, .int .i64 q9, .int .i64 q10, .int .i64 q11, .int .i64 q12, .int .i64 q13, .int .i64 q14] [.int .i64 q8, .int .i64 q9, .int .i64 q10, .int .i64 q11, .int .i64 q12, .int .i64 q13, .int .i64 q14] rfl rfl (by kernel_rfl) (by simp [Value.oneCell']) Bg7.out (by simp) rfl ?_; intro W10 bx hgr; replace RC := Aside0.mk (seg.R (ok := fun k => (((((((True) ∧ k ≠ g1) ∧ k ≠ g2) ∧ k ≠ g3) ∧ k ≠ g4) ∧ k ≠ g5) ∧ k ≠ g6) ∧ k ≠ g7) RC.out hgr (fun k hk => hk.2)); replace RP := Aside0.mk (seg.R (ok := fun k => (((((((True) ∧ k ≠ g1) ∧ k ≠ g2) ∧ k ≠ g3) ∧ k ≠ g4) ∧ k ≠ g5) ∧ k ≠ g6) ∧ k ≠ g7) RP.out hgr (fun k hk => hk.2)); replace RQ := Aside0.mk (seg.R (ok := fun k => (((((((True) ∧ k ≠ g1) ∧ k ≠ g2) ∧ k ≠ g3) ∧ k ≠ g4) ∧ k ≠ g5) ∧ k ≠ g6) ∧ k ≠ g7) RQ.out hgr (fun k hk => hk.2)); replace Bg1 := Aside0.mk (seg.far Bg1.out hgr Ng1g7.out); replace Bg2 := Aside0.mk (seg.far Bg2.out hgr Ng2g7.out); replace Bg3 := Aside0.mk (seg.far Bg3.out hgr Ng3g7.out); replace Bg4 := Aside0.mk (seg.far Bg4.out hgr Ng4g7.out); replace Bg5 := Aside0.mk (seg.far Bg5.out hgr Ng5g7.out); replace Bg6 := Aside0.mk (seg.far Bg6.out hgr Ng6g7.out); replace HB := Aside0.mk (seg.below HB.out hgr Gg7.out); replace Bg7 := Aside0.mk bx; clear bx hgr; have xg10 : W10.cell? ⟨g1, 0, none⟩ = some (.int .i64 me) := (blk_cell Bg1.out 0).trans rfl; have xg11 : W10.cell? ⟨g1, 1, none⟩ = some (.int .i64 rev) := (blk_cell Bg1.out 1).trans rfl; have xg12 : W10.cell? ⟨g1, 2, none⟩ = some (.int .i64 nx) := (blk_cell Bg1.out 2).trans rfl; have xg13 : W10.cell? ⟨g1, 3, none⟩ = some (.int .i64 mo) := (blk_cell Bg1.out 3).trans rfl; have xg14 : W10.cell? ⟨g1, 4, none⟩ = some (.int .i64 bo) := (blk_cell Bg1.out 4).trans rfl; have xg15 : W10.cell? ⟨g1, 5, none⟩ = some (.int .i64 fr) := (blk_cell Bg1.out 5).trans rfl; have xg16 : W10.cell? ⟨g1, 6, none⟩ = some (.slice A6 l.length c6) := (blk_cell Bg1.out 6).trans rfl; have xg30 : W10.cell? ⟨g3, 0, none⟩ = some (.int .i64 n1) := (blk_cell Bg3.out 0).trans rfl; have xg31 : W10.cell? ⟨g3, 1, none⟩ = some (.int .i64 n2) := (blk_cell Bg3.out 1).trans rfl; have xg32 : W10.cell? ⟨g3, 2, none⟩ = some (.int .i64 n3) := (blk_cell Bg3.out 2).trans rfl; have xg33 : W10.cell? ⟨g3, 3, none⟩ = some (.int .i64 n4) := (blk_cell Bg3.out 3).trans rfl; have xg34 : W10.cell? ⟨g3, 4, none⟩ = some (.int .i64 n5) := (blk_cell Bg3.out 4).trans rfl; have xg35 : W10.cell? ⟨g3, 5, none⟩ = some (.int .i64 n6) := (blk_cell Bg3.out 5).trans rfl; have xg36 : W10.cell? ⟨g3, 6, none⟩ = some (.slice A8 n7.length c8) := (blk_cell Bg3.out 6).trans rfl; have xg40 : W10.cell? ⟨g4, 0, none⟩ = some (.int .i64 p1) := (blk_cell Bg4.out 0).trans rfl; have xg41 : W10.cell? ⟨g4, 1, none⟩ = some (.int .i64 p2) := (blk_cell Bg4.out 1).trans rfl; have xg42 : W10.cell? ⟨g4, 2, none⟩ = some (.int .i64 p3) := (blk_cell Bg4.out 2).trans rfl; have xg43 : W10.cell? ⟨g4, 3, none⟩ = some (.int .i64 p4) := (blk_cell Bg4.out 3).trans rfl; have xg44 : W10.cell? ⟨g4, 4, none⟩ = some (.int .i64 p5) := (blk_cell Bg4.out 4).trans rfl; have xg45 : W10.cell? ⟨g4, 5, none⟩ = some (.int .i64 p6) := (blk_cell Bg4.out 5).trans rfl; have xg46 : W10.cell? ⟨g4, 6, none⟩ = some (.slice A9 p7.length c9) := (blk_cell Bg4.out 6).trans rfl; have xg50 : W10.cell? ⟨g5, 0, none⟩ = some (.int .i64 p8) := (blk_cell Bg5.out 0).trans rfl; have xg51 : W10.cell? ⟨g5, 1, none⟩ = some (.int .i64 p9) := (blk_cell Bg5.out 1).trans rfl; have xg52 : W10.cell? ⟨g5, 2, none⟩ = some (.int .i64 p10) := (blk_cell Bg5.out 2).trans rfl; have xg53 : W10.cell? ⟨g5, 3, none⟩ = some (.int .i64 p11) := (blk_cell Bg5.out 3).trans rfl; have xg54 : W10.cell? ⟨g5, 4, none⟩ = some (.int .i64 p12) := (blk_cell Bg5.out 4).trans rfl; have xg55 : W10.cell? ⟨g5, 5, none⟩ = some (.int .i64 p13) := (blk_cell Bg5.out 5).trans rfl; have xg56 : W10.cell? ⟨g5, 6, none⟩ = some (.int .i64 p14) := (blk_cell Bg5.out 6).trans rfl; have xg60 : W10.cell? ⟨g6, 0, none⟩ = some (.int .i64 q1) := (blk_cell Bg6.out 0).trans rfl; have xg61 : W10.cell? ⟨g6, 1, none⟩ = some (.int .i64 q2) := (blk_cell Bg6.out 1).trans rfl; have xg62 : W10.cell? ⟨g6, 2, none⟩ = some (.int .i64 q3) := (blk_cell Bg6.out 2).trans rfl; have xg63 : W10.cell? ⟨g6, 3, none⟩ = some (.int .i64 q4) := (blk_cell Bg6.out 3).trans rfl; have xg64 : W10.cell? ⟨g6, 4, none⟩ = some (.int .i64 q5) := (blk_cell Bg6.out 4).trans rfl; have xg65 : W10.cell? ⟨g6, 5, none⟩ = some (.int .i64 q6) := (blk_cell Bg6.out 5).trans rfl; have xg66 : W10.cell? ⟨g6, 6, none⟩ = some (.slice A10 q7.length c10) := (blk_cell Bg6.out 6).trans rfl; have xg70 : W10.cell? ⟨g7, 0, none⟩ = some (.int .i64 q8) := (blk_cell Bg7.out 0).trans rfl; have xg71 : W10.cell? ⟨g7, 1, none⟩ = some (.int .i64 q9) := (blk_cell Bg7.out 1).trans rfl; have xg72 : W10.cell? ⟨g7, 2, none⟩ = some (.int .i64 q10) := (blk_cell Bg7.out 2).trans rfl; have xg73 : W10.cell? ⟨g7, 3, none⟩ = some (.int .i64 q11) := (blk_cell Bg7.out 3).trans rfl; have xg74 : W10.cell? ⟨g7, 4, none⟩ = some (.int .i64 q12) := (blk_cell Bg7.out 4).trans rfl; have xg75 : W10.cell? ⟨g7, 5, none⟩ = some (.int .i64 q13) := (blk_cell Bg7.out 5).trans rfl; have xg76 : W10.cell? ⟨g7, 6, none⟩ = some (.int .i64 q14) := (blk_cell Bg7.out 6).trans rfl; skip))
  have h := H.out
  clear H
  unfold vendmeterlaw_AccountGrants.end at h
  dsimp only at h
  by_cases h1 : p15 = q15
  · rw [if_pos h1] at h
    have q1' : (p15 == q15) = true := beq_iff_eq.mpr h1
    clear h1
    obtain ⟨B, hB⟩ : ∃ B, B = (p8 == q8 && (p9 == q9 && (p10 == q10 && (p11 == q11 && (p12 == q12 && (p13 == q13 && (p14 == q14))))))) := ⟨_, rfl⟩
    rw [← hB] at h
    cases B with
    | true =>
      rw [if_pos rfl] at h
      obtain ⟨x, hx, h⟩ := Option.bind_eq_some_iff.mp h
      have HX := Aside0.mk hx
      have hB' := hB.symm
      clear hx hB
      cases x with
      | true =>
        rw [if_pos rfl] at h
        have HY := Aside0.mk h
        clear h
        go_wp2_with (first | (go_at_call 34; refine (vendmeterlaw_sameAccount.calls k p1 p2 p3 p4 p5 p6 A9 c9 p7 q1 q2 q3 q4 q5 q6 A10 c10 q7 true _ (Kd.R_reads' RP.out).2.2 (Kd.R_reads' RP.out).2.1 (Kd.R_reads' RQ.out).2.2 (Kd.R_reads' RQ.out).2.1 HX.out).mono ?_; clear HX; rintro e wx ⟨rfl, hb1⟩; clear xg10 xg11 xg12 xg13 xg14 xg15 xg16 xg30 xg31 xg32 xg33 xg34 xg35 xg36 xg40 xg41 xg42 xg43 xg44 xg45 xg46 xg50 xg51 xg52 xg53 xg54 xg55 xg56 xg60 xg61 xg62 xg63 xg64 xg65 xg66 xg70 xg71 xg72 xg73 xg74 xg75 xg76; replace RC := Aside0.mk (Kd.R_below RC.out hb1); replace RP := Aside0.mk (Kd.R_below RP.out hb1); replace RQ := Aside0.mk (Kd.R_below RQ.out hb1); replace Bg1 := Aside0.mk (blk_below Bg1.out hb1); replace Bg2 := Aside0.mk (blk_below Bg2.out hb1); replace Bg3 := Aside0.mk (blk_below Bg3.out hb1); replace Bg4 := Aside0.mk (blk_below Bg4.out hb1); replace Bg5 := Aside0.mk (blk_below Bg5.out hb1); replace Bg6 := Aside0.mk (blk_below Bg6.out hb1); replace Bg7 := Aside0.mk (blk_below Bg7.out hb1); replace HB := Aside0.mk (below_step HB.out hb1); have xg10 : wx.cell? ⟨g1, 0, none⟩ = some (.int .i64 me) := (blk_cell Bg1.out 0).trans rfl; have xg11 : wx.cell? ⟨g1, 1, none⟩ = some (.int .i64 rev) := (blk_cell Bg1.out 1).trans rfl; have xg12 : wx.cell? ⟨g1, 2, none⟩ = some (.int .i64 nx) := (blk_cell Bg1.out 2).trans rfl; have xg13 : wx.cell? ⟨g1, 3, none⟩ = some (.int .i64 mo) := (blk_cell Bg1.out 3).trans rfl; have xg14 : wx.cell? ⟨g1, 4, none⟩ = some (.int .i64 bo) := (blk_cell Bg1.out 4).trans rfl; have xg15 : wx.cell? ⟨g1, 5, none⟩ = some (.int .i64 fr) := (blk_cell Bg1.out 5).trans rfl; have xg16 : wx.cell? ⟨g1, 6, none⟩ = some (.slice A6 l.length c6) := (blk_cell Bg1.out 6).trans rfl; have xg30 : wx.cell? ⟨g3, 0, none⟩ = some (.int .i64 n1) := (blk_cell Bg3.out 0).trans rfl; have xg31 : wx.cell? ⟨g3, 1, none⟩ = some (.int .i64 n2) := (blk_cell Bg3.out 1).trans rfl; have xg32 : wx.cell? ⟨g3, 2, none⟩ = some (.int .i64 n3) := (blk_cell Bg3.out 2).trans rfl; have xg33 : wx.cell? ⟨g3, 3, none⟩ = some (.int .i64 n4) := (blk_cell Bg3.out 3).trans rfl; have xg34 : wx.cell? ⟨g3, 4, none⟩ = some (.int .i64 n5) := (blk_cell Bg3.out 4).trans rfl; have xg35 : wx.cell? ⟨g3, 5, none⟩ = some (.int .i64 n6) := (blk_cell Bg3.out 5).trans rfl; have xg36 : wx.cell? ⟨g3, 6, none⟩ = some (.slice A8 n7.length c8) := (blk_cell Bg3.out 6).trans rfl; clear hb1) | (go_at_call 34; refine (vendmeterlaw_sameAccount.calls k n1 n2 n3 n4 n5 n6 A8 c8 n7 me rev nx mo bo fr A6 c6 l r _ (Kd.R_reads' RC.out).2.2 (Kd.R_reads' RC.out).2.1 (Kd.C_below HR0.out HB.out) HC0.out HY.out).mono ?_; rintro e wy ⟨rfl, hb1⟩; have HB_ := below_step HB.out hb1; clear HB; have HB := Aside0.mk HB_; clear HB_ hb1))
        go_ret
        exact ⟨rfl, HB.out⟩
      | false =>
        rw [if_neg (by decide)] at h
        obtain rfl := Option.some.inj h
        go_wp2_with (first | (go_at_call 34; refine (vendmeterlaw_sameAccount.calls k p1 p2 p3 p4 p5 p6 A9 c9 p7 q1 q2 q3 q4 q5 q6 A10 c10 q7 false _ (Kd.R_reads' RP.out).2.2 (Kd.R_reads' RP.out).2.1 (Kd.R_reads' RQ.out).2.2 (Kd.R_reads' RQ.out).2.1 HX.out).mono ?_; clear HX; rintro e wx ⟨rfl, hb1⟩; clear xg10 xg11 xg12 xg13 xg14 xg15 xg16 xg30 xg31 xg32 xg33 xg34 xg35 xg36 xg40 xg41 xg42 xg43 xg44 xg45 xg46 xg50 xg51 xg52 xg53 xg54 xg55 xg56 xg60 xg61 xg62 xg63 xg64 xg65 xg66 xg70 xg71 xg72 xg73 xg74 xg75 xg76; replace RC := Aside0.mk (Kd.R_below RC.out hb1); replace RP := Aside0.mk (Kd.R_below RP.out hb1); replace RQ := Aside0.mk (Kd.R_below RQ.out hb1); replace Bg1 := Aside0.mk (blk_below Bg1.out hb1); replace Bg2 := Aside0.mk (blk_below Bg2.out hb1); replace Bg3 := Aside0.mk (blk_below Bg3.out hb1); replace Bg4 := Aside0.mk (blk_below Bg4.out hb1); replace Bg5 := Aside0.mk (blk_below Bg5.out hb1); replace Bg6 := Aside0.mk (blk_below Bg6.out hb1); replace Bg7 := Aside0.mk (blk_below Bg7.out hb1); replace HB := Aside0.mk (below_step HB.out hb1); have xg10 : wx.cell? ⟨g1, 0, none⟩ = some (.int .i64 me) := (blk_cell Bg1.out 0).trans rfl; have xg11 : wx.cell? ⟨g1, 1, none⟩ = some (.int .i64 rev) := (blk_cell Bg1.out 1).trans rfl; have xg12 : wx.cell? ⟨g1, 2, none⟩ = some (.int .i64 nx) := (blk_cell Bg1.out 2).trans rfl; have xg13 : wx.cell? ⟨g1, 3, none⟩ = some (.int .i64 mo) := (blk_cell Bg1.out 3).trans rfl; have xg14 : wx.cell? ⟨g1, 4, none⟩ = some (.int .i64 bo) := (blk_cell Bg1.out 4).trans rfl; have xg15 : wx.cell? ⟨g1, 5, none⟩ = some (.int .i64 fr) := (blk_cell Bg1.out 5).trans rfl; have xg16 : wx.cell? ⟨g1, 6, none⟩ = some (.slice A6 l.length c6) := (blk_cell Bg1.out 6).trans rfl; have xg30 : wx.cell? ⟨g3, 0, none⟩ = some (.int .i64 n1) := (blk_cell Bg3.out 0).trans rfl; have xg31 : wx.cell? ⟨g3, 1, none⟩ = some (.int .i64 n2) := (blk_cell Bg3.out 1).trans rfl; have xg32 : wx.cell? ⟨g3, 2, none⟩ = some (.int .i64 n3) := (blk_cell Bg3.out 2).trans rfl; have xg33 : wx.cell? ⟨g3, 3, none⟩ = some (.int .i64 n4) := (blk_cell Bg3.out 3).trans rfl; have xg34 : wx.cell? ⟨g3, 4, none⟩ = some (.int .i64 n5) := (blk_cell Bg3.out 4).trans rfl; have xg35 : wx.cell? ⟨g3, 5, none⟩ = some (.int .i64 n6) := (blk_cell Bg3.out 5).trans rfl; have xg36 : wx.cell? ⟨g3, 6, none⟩ = some (.slice A8 n7.length c8) := (blk_cell Bg3.out 6).trans rfl; clear hb1))
        go_ret
        exact ⟨rfl, HB.out⟩
    | false =>
      rw [if_neg (by decide)] at h
      obtain rfl := Option.some.inj h
      have hB' := hB.symm
      clear hB
      go_wp2
      go_ret
      exact ⟨rfl, HB.out⟩
  · rw [if_neg h1] at h
    obtain rfl := Option.some.inj h
    have q1' : (p15 == q15) = false := beq_eq_false_iff_ne.mpr h1
    clear h1
    go_wp2
    go_ret
    exact ⟨rfl, HB.out⟩

end Go.Proofs.Ythmmadniaakapaa.PAccountGrants
