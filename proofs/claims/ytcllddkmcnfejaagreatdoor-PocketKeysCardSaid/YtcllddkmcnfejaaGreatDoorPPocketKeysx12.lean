-- written by this session's program wip/xp/xprint.py (it drives the kit's print and adds to it)
import Derived.Test.YtcllddkmcnfejaaGreatDoorPPocketKeysx0
import Derived.Test.YtcllddkmcnfejaaGreatDoorPPocketKeysx2
import Derived.Test.YtcllddkmcnfejaaGreatDoorPPocketKeysx5
import Derived.Test.YtcllddkmcnfejaaGreatDoorPPocketKeysx6
import Derived.Test.YtcllddkmcnfejaaGreatDoorPPocketKeysx9
import Derived.Test.YtcllddkmcnfejaaGreatDoorPPocketKeysx11
namespace Go.Proofs.YtcllddkmcnfejaaGreatDoor.PPocketKeys
open Go.RowKit Go.Proofs.YtcllddkmcnfejaaGreatDoorW.PrintWords Go.Proofs.YtcllddkmcnfejaaGreatDoorW.PrintLast Go.Proofs.YtcllddkmcnfejaaGreatDoorW.PrintMore
attribute [local go_sem] max2_int min2_int max_two min_two max_three min_three max_four min_four
set_option linter.unusedVariables false
set_option linter.unusedSimpArgs false
set_option maxHeartbeats 8000000
set_option maxRecDepth 100000

attribute [local go_sem high] eqA40
/-! ### meter_Words: function 33 -/
def meter_Words.f (k : Nat) (a0_0 : Int) (a0_1 : Int) (a0_2 : Int) (a0_3 : Int) (a0_4 : Int) (a0_5 : Int) (a0_6 : Int) : Option (List Int × Int) := (meter_may.f k a0_0 a0_1 a0_2 a0_3 a0_4 a0_5 a0_6).bind fun t176 => (if t176 = true then (some ((([(a0_2) % 4294967296, Go.bits .or .u32 (Go.bits .or .u32 (Go.bits .or .u32 ((((a0_6) % 4294967296) * 16777216) % 4294967296) ((((a0_5) % 4294967296) * 65536) % 4294967296)) ((((a0_1) % 4294967296) * 256) % 4294967296)) ((a0_0) % 4294967296), (a0_3) % 4294967296, (a0_4) % 4294967296, (a0_4 / 4294967296) % 4294967296] : List Int)), 0)) else (some (([] : List Int), 5)))
theorem meter_Words.mono : ∀ a0 a1 a2 a3 a4 a5 a6 k, LeO (meter_Words.f k a0 a1 a2 a3 a4 a5 a6) (meter_Words.f (k + 1) a0 a1 a2 a3 a4 a5 a6) := by
 intro a0 a1 a2 a3 a4 a5 a6 k
 unfold meter_Words.f
 repeat' first
   | (with_reducible exact meter_may.mono _ _ _ _ _ _ _ _)
   | (with_reducible exact LeO.refl _)
   | (with_reducible exact LeO.none _)
   | (with_reducible refine LeO.ite ?_ ?_)
   | (with_reducible refine LeO.bind ?_ (fun _ => ?_))
theorem meter_Words.calls (k : Nat) (a0_0 : Int) (a0_1 : Int) (a0_2 : Int) (a0_3 : Int) (a0_4 : Int) (a0_5 : Int) (a0_6 : Int) (r1 : List Int) (r2 : Int) (w : World) (h : meter_Words.f k a0_0 a0_1 a0_2 a0_3 a0_4 a0_5 a0_6 = some (r1, r2)) :
  Calls Tryz.prog 33 #[.agg #[.int .i64 a0_0, .int .i64 a0_1, .int .i64 a0_2, .int .i64 a0_3, .int .u64 a0_4, .int .i64 a0_5, .int .i64 a0_6]] w fun e w' => ∃ v0_ : Value, e = .returned (.tuple #[v0_, .int .i64 r2]) ∧ Kd.R (Kd.int .u32) 51 w' w.heap.size (fun _ => True) v0_ r1 ∧ Below w.heap.size w w' := by
 have hu40 := Tryz.underlying40
 have HB := am (Below.refl w.heap.size w)
 have H : ((meter_may.f k a0_0 a0_1 a0_2 a0_3 a0_4 a0_5 a0_6).bind fun t176 => (if t176 = true then (some ((([(a0_2) % 4294967296, Go.bits .or .u32 (Go.bits .or .u32 (Go.bits .or .u32 ((((a0_6) % 4294967296) * 16777216) % 4294967296) ((((a0_5) % 4294967296) * 65536) % 4294967296)) ((((a0_1) % 4294967296) * 256) % 4294967296)) ((a0_0) % 4294967296), (a0_3) % 4294967296, (a0_4) % 4294967296, (a0_4 / 4294967296) % 4294967296] : List Int)), 0)) else (some (([] : List Int), 5)))) = some (r1, r2) := h
 clear h
 replace H := Option.bind_eq_some_iff.mp H
 obtain ⟨t176, A20, H⟩ := H
 (try dsimp only at H)
 have A2 := am A20
 clear A20
 by_cases c3 : t176 = true
 ·
  subst c3
  have H1 : (some ((([(a0_2) % 4294967296, Go.bits .or .u32 (Go.bits .or .u32 (Go.bits .or .u32 ((((a0_6) % 4294967296) * 16777216) % 4294967296) ((((a0_5) % 4294967296) * 65536) % 4294967296)) ((((a0_1) % 4294967296) * 256) % 4294967296)) ((a0_0) % 4294967296), (a0_3) % 4294967296, (a0_4) % 4294967296, (a0_4 / 4294967296) % 4294967296] : List Int)), 0)) = some (r1, r2) := by rw [if_pos rfl] at H; exact H
  clear H
  have H := H1
  clear H1
  obtain ⟨y177, hy177⟩ : ∃ y_ : List Int, y_ = (([(a0_2) % 4294967296, Go.bits .or .u32 (Go.bits .or .u32 (Go.bits .or .u32 ((((a0_6) % 4294967296) * 16777216) % 4294967296) ((((a0_5) % 4294967296) * 65536) % 4294967296)) ((((a0_1) % 4294967296) * 256) % 4294967296)) ((a0_0) % 4294967296), (a0_3) % 4294967296, (a0_4) % 4294967296, (a0_4 / 4294967296) % 4294967296] : List Int)) := ⟨_, rfl⟩
  replace H : (some (y177, 0)) = some (r1, r2) := by first | (rw [hy177]; with_reducible exact H) | (have H2_ := (Option.bind_some _ _).symm.trans H; rw [hy177]; with_reducible exact H2_) | (have H2_ := (Option.bind_some _ _).symm.trans H; with_reducible exact H2_) | with_reducible exact H | (rw [hy177]; exact H) | exact H
  have Ny177 := am hy177
  clear hy177
  simp only [Option.some.injEq, Prod.mk.injEq] at H
  obtain ⟨rfl, rfl⟩ := H
  go_enter Tryz.func33, Tryz.ntmps33
  go_wp2_with (first | ((with_reducible refine gate_dst (N := 1) rfl ?_); refine czbox 1 #[.int .i64 a0_0, .int .i64 a0_1, .int .i64 a0_2, .int .i64 a0_3, .int .u64 a0_4, .int .i64 a0_5, .int .i64 a0_6] 40 ?_; intro gb175 hg w4 hbox hb; have BK175 := am (hbox); have GW175 := czsz hg (czbl HB); have GE175 := czsz hg (czbl HB); replace HB := am (below_step (czbl HB) hb); clear hb hbox hg; obtain ⟨hcz5_0, hcz5_1, hcz5_2, hcz5_3, hcz5_4, hcz5_5, hcz5_6⟩ := czc7 BK175.1) | ((with_reducible refine gate_callee (f := 28) rfl ?_); refine czgo (some 6) Tryz.func28 #[.agg #[.int .i64 a0_0, .int .i64 a0_1, .int .i64 a0_2, .int .i64 a0_3, .int .u64 a0_4, .int .i64 a0_5, .int .i64 a0_6]] ?_; (with_reducible refine (meter_may.calls k a0_0 a0_1 a0_2 a0_3 a0_4 a0_5 a0_6 true _ A2.out).mono ?_); rintro e w6 ⟨rfl, hb⟩; refine ⟨_, rfl, ?_⟩; replace BK175 := czbb BK175 hb; replace HB := am (below_step (czbl1 HB GE175) hb); (try clear hb hb2 hk hi); obtain ⟨hcz7_0, hcz7_1, hcz7_2, hcz7_3, hcz7_4, hcz7_5, hcz7_6⟩ := czc7 BK175.1) | ((with_reducible refine gate_dst (N := 43) rfl ?_); refine Kd.R_lit (Kd.int .u32) _ 51 ?hg (N := 43) ?hd (xs := ([(a0_2) % 4294967296, Go.bits .or .u32 (Go.bits .or .u32 (Go.bits .or .u32 ((((a0_6) % 4294967296) * 16777216) % 4294967296) ((((a0_5) % 4294967296) * 65536) % 4294967296)) ((((a0_1) % 4294967296) * 256) % 4294967296)) ((a0_0) % 4294967296), (a0_3) % 4294967296, (a0_4) % 4294967296, (a0_4 / 4294967296) % 4294967296] : List Int)) (inner := [.int .u32 ((a0_2) % 4294967296), .int .u32 (Go.bits .or .u32 (Go.bits .or .u32 (Go.bits .or .u32 ((((a0_6) % 4294967296) * 16777216) % 4294967296) ((((a0_5) % 4294967296) * 65536) % 4294967296)) ((((a0_1) % 4294967296) * 256) % 4294967296)) ((a0_0) % 4294967296)), .int .u32 ((a0_3) % 4294967296), .int .u32 ((a0_4) % 4294967296), .int .u32 ((a0_4 / 4294967296) % 4294967296)]) (ok := fun _ => True) (okp := fun _ => True) ?hr ?hp (fun _ hk => hk) trivial (Below.refl _ _) (Nat.le_refl _) (by simp) ?_; (case hd => rfl); (case hg => rfl); (case hr => first | (go_simp; done) | (go_simp; rfl)); (case hp => exact (Reps.one (show Kd.M (Kd.int .u32) _ _ _ ((a0_2) % 4294967296) [.int .u32 ((a0_2) % 4294967296)] from rfl) (Reps.one (show Kd.M (Kd.int .u32) _ _ _ (Go.bits .or .u32 (Go.bits .or .u32 (Go.bits .or .u32 ((((a0_6) % 4294967296) * 16777216) % 4294967296) ((((a0_5) % 4294967296) * 65536) % 4294967296)) ((((a0_1) % 4294967296) * 256) % 4294967296)) ((a0_0) % 4294967296)) [.int .u32 (Go.bits .or .u32 (Go.bits .or .u32 (Go.bits .or .u32 ((((a0_6) % 4294967296) * 16777216) % 4294967296) ((((a0_5) % 4294967296) * 65536) % 4294967296)) ((((a0_1) % 4294967296) * 256) % 4294967296)) ((a0_0) % 4294967296))] from rfl) (Reps.one (show Kd.M (Kd.int .u32) _ _ _ ((a0_3) % 4294967296) [.int .u32 ((a0_3) % 4294967296)] from rfl) (Reps.one (show Kd.M (Kd.int .u32) _ _ _ ((a0_4) % 4294967296) [.int .u32 ((a0_4) % 4294967296)] from rfl) (Reps.one (show Kd.M (Kd.int .u32) _ _ _ ((a0_4 / 4294967296) % 4294967296) [.int .u32 ((a0_4 / 4294967296) % 4294967296)] from rfl) (Reps.none _ _))))))); intro v178 w8 ho9 hb hg_ hnew_; clear hg_ hnew_; (first | rw [← Ny177.out] at ho9 | (simp only [Int.reduceToNat] at ho9; rw [← Ny177.out] at ho9)); have HO179 := am (Kd.R_lower ho9 (below_size (czbl1 HB GE175))); replace BK175 := czbb BK175 hb; replace HB := am (below_step (czbl1 HB GE175) hb); clear hb ho9))
  go_ret2
  exact ⟨_, czeq, czR HO179, czbl1 HB GE175⟩
 ·
  replace c3 := Bool.eq_false_iff.mpr c3
  subst c3
  have H1 : (some (([] : List Int), 5)) = some (r1, r2) := by rw [if_neg (show ¬ (false = true) by decide)] at H; exact H
  clear H
  have H := H1
  clear H1
  simp only [Option.some.injEq, Prod.mk.injEq] at H
  obtain ⟨rfl, rfl⟩ := H
  go_enter Tryz.func33, Tryz.ntmps33
  go_wp2_with (first | ((with_reducible refine gate_dst (N := 1) rfl ?_); refine czbox 1 #[.int .i64 a0_0, .int .i64 a0_1, .int .i64 a0_2, .int .i64 a0_3, .int .u64 a0_4, .int .i64 a0_5, .int .i64 a0_6] 40 ?_; intro gb175 hg w10 hbox hb; have BK175 := am (hbox); have GW175 := czsz hg (czbl HB); have GE175 := czsz hg (czbl HB); replace HB := am (below_step (czbl HB) hb); clear hb hbox hg; obtain ⟨hcz11_0, hcz11_1, hcz11_2, hcz11_3, hcz11_4, hcz11_5, hcz11_6⟩ := czc7 BK175.1) | ((with_reducible refine gate_callee (f := 28) rfl ?_); refine czgo (some 6) Tryz.func28 #[.agg #[.int .i64 a0_0, .int .i64 a0_1, .int .i64 a0_2, .int .i64 a0_3, .int .u64 a0_4, .int .i64 a0_5, .int .i64 a0_6]] ?_; (with_reducible refine (meter_may.calls k a0_0 a0_1 a0_2 a0_3 a0_4 a0_5 a0_6 false _ A2.out).mono ?_); rintro e w12 ⟨rfl, hb⟩; refine ⟨_, rfl, ?_⟩; replace BK175 := czbb BK175 hb; replace HB := am (below_step (czbl1 HB GE175) hb); (try clear hb hb2 hk hi)))
  go_ret2
  exact ⟨_, czeq, by first | exact Kd.R_nil _ _ _ _ _ | exact Kd.N_nil _ _ _ _ _ | exact Kd.V_nil _ _ _ _ _ | exact Kd.Q_nil _ _ _ _ _ | exact Kd.S_nil _ _ _ _ _, czbl1 HB GE175⟩

/-! ### slot_Store: function 34 -/
def slot_Store.l0 : Nat → Int → Int → List (S53) → List Int → Int → Int → List Int → Int → Option ((List (S53)) × Int)
 | 0, _, _, _, _, _, _, _, _ => none
 | k + 1, x8, x9, x10, x35, x36, x37, x182000, x182001 => if x37 < x36 then (if 0 ≤ x37 then (if x37 < (x35.length : Int) then (if x10.length < 8796093022208 then (slot_Store.l0 k x8 x9 (x10 ++ [(⟨wrap64 ((wrap64 (x9 + 1)) + x37), rd x35 x37⟩ : S53)]) x35 x36 (wrap64 (x37 + 1)) x182000 x182001) else (none)) else (none)) else (none)) else ((slot_pair_mark.f x182000 x182001 x8).bind fun t190 => ((slot_next.f t190).bind fun t191 => (if x10.length < 8796093022208 then (some ((x10 ++ [(⟨x9, t191⟩ : S53)]), 0)) else (none))))
def slot_Store.f (k : Nat) (l0 : List Int) (l1 : List Int) : Option ((List (S53)) × Int) := (slot_size.f (l0.length : Int) (l1.length : Int)).bind fun t180 => (if t180 = true then ((slot_pair_newer.f k l0 (l1.length : Int)).bind fun t182 => (if t182 < 0 then (some (([] : List (S53)), 17)) else (slot_Store.l0 k t182 (wrap64 ((wrap64 (1 - t182)) * (wrap64 ((l1.length : Int) + 1)))) (([(⟨wrap64 ((wrap64 (1 - t182)) * (wrap64 ((l1.length : Int) + 1))), 0⟩ : S53)] : List (S53))) l1 (l1.length : Int) 0 l0 (l1.length : Int)))) else (some (([] : List (S53)), 1)))
theorem slot_Store.mono_l : ∀ k, (∀ y0 y1 y2 y3 y4 y5 y6 y7, LeO (slot_Store.l0 k y0 y1 y2 y3 y4 y5 y6 y7) (slot_Store.l0 (k + 1) y0 y1 y2 y3 y4 y5 y6 y7))
 | 0 => fun _ _ _ _ _ _ _ _ r h => by simp [slot_Store.l0] at h
 | k + 1 => by
  have ih0 := slot_Store.mono_l k
  ·
   intro y0 y1 y2 y3 y4 y5 y6 y7
   unfold slot_Store.l0
   repeat' first
   | (with_reducible exact ih0 _ _ _ _ _ _ _ _)
   | (with_reducible exact slot_pair_newer.mono _ _ _)
   | (with_reducible exact LeO.refl _)
   | (with_reducible exact LeO.none _)
   | (with_reducible refine LeO.ite ?_ ?_)
   | (with_reducible refine LeO.bind ?_ (fun _ => ?_))
theorem slot_Store.mono : ∀ a0 a1 k, LeO (slot_Store.f k a0 a1) (slot_Store.f (k + 1) a0 a1) := by
 intro a0 a1 k
 have ih0 := slot_Store.mono_l k
 unfold slot_Store.f
 repeat' first
   | (with_reducible exact ih0 _ _ _ _ _ _ _ _)
   | (with_reducible exact slot_pair_newer.mono _ _ _)
   | (with_reducible exact LeO.refl _)
   | (with_reducible exact LeO.none _)
   | (with_reducible refine LeO.ite ?_ ?_)
   | (with_reducible refine LeO.bind ?_ (fun _ => ?_))
theorem slot_Store.calls (k : Nat) (A0 : Option Addr) (c0 : Nat) (l0 : List Int) (A1 : Option Addr) (c1 : Nat) (l1 : List Int) (r1 : List (S53)) (r2 : Int) (w : World) (hr0 : Kd.C (Kd.int .u32) w A0 l0.length l0) (hc0 : l0.length ≤ c0) (hr1 : Kd.C (Kd.int .u32) w A1 l1.length l1) (hc1 : l1.length ≤ c1) (h : slot_Store.f k l0 l1 = some (r1, r2)) :
  Calls Tryz.prog 34 #[.slice A0 l0.length c0, .slice A1 l1.length c1] w fun e w' => ∃ v0_ : Value, e = .returned (.tuple #[v0_, .int .i64 r2]) ∧ Kd.R k53 53 w' w.heap.size (fun _ => True) v0_ r1 ∧ Below w.heap.size w w' := by
 have hu98 := Tryz.underlying98
 have hu53 := Tryz.underlying53
 have HR0 := am hr0
 have HC0 := am hc0
 clear hr0 hc0
 have HR1 := am hr1
 have HC1 := am hc1
 clear hr1 hc1
 have HB := am (Below.refl w.heap.size w)
 have H : ((slot_size.f (l0.length : Int) (l1.length : Int)).bind fun t180 => (if t180 = true then ((slot_pair_newer.f k l0 (l1.length : Int)).bind fun t182 => (if t182 < 0 then (some (([] : List (S53)), 17)) else (slot_Store.l0 k t182 (wrap64 ((wrap64 (1 - t182)) * (wrap64 ((l1.length : Int) + 1)))) (([(⟨wrap64 ((wrap64 (1 - t182)) * (wrap64 ((l1.length : Int) + 1))), 0⟩ : S53)] : List (S53))) l1 (l1.length : Int) 0 l0 (l1.length : Int)))) else (some (([] : List (S53)), 1)))) = some (r1, r2) := h
 clear h
 replace H := Option.bind_eq_some_iff.mp H
 obtain ⟨t180, A30, H⟩ := H
 (try dsimp only at H)
 have A3 := am A30
 clear A30
 by_cases c4 : t180 = true
 ·
  subst c4
  have H1 : ((slot_pair_newer.f k l0 (l1.length : Int)).bind fun t182 => (if t182 < 0 then (some (([] : List (S53)), 17)) else (slot_Store.l0 k t182 (wrap64 ((wrap64 (1 - t182)) * (wrap64 ((l1.length : Int) + 1)))) (([(⟨wrap64 ((wrap64 (1 - t182)) * (wrap64 ((l1.length : Int) + 1))), 0⟩ : S53)] : List (S53))) l1 (l1.length : Int) 0 l0 (l1.length : Int)))) = some (r1, r2) := by rw [if_pos rfl] at H; exact H
  clear H
  have H := H1
  clear H1
  replace H := Option.bind_eq_some_iff.mp H
  obtain ⟨t182, A50, H⟩ := H
  (try dsimp only at H)
  have A5 := am A50
  clear A50
  have HC6 := am H
  clear H
  go_enter Tryz.func34, Tryz.ntmps34
  go_upto_region 6 with (first | ((with_reducible refine gate_callee (f := 55) rfl ?_); refine czgo (some 18) Tryz.func55 #[.int .i64 (l0.length : Int), .int .i64 (l1.length : Int)] ?_; (with_reducible refine (slot_size.calls (l0.length : Int) (l1.length : Int) true _ A3.out).mono ?_); rintro e w' ⟨rfl, ⟨nd, rfl⟩⟩; refine ⟨_, rfl, ?_⟩) | ((with_reducible refine gate_dst (N := 7) rfl ?_); refine czbox 7 #[.slice none 0 0, .int .i64 0] 98 ?_; intro gb181 hg w7 hbox hb; have BK181 := am (hbox); have GW181 := czsz hg (czbl HB); have GE181 := czsz hg (czbl HB); replace HB := am (below_step (czbl HB) hb); clear hb hbox hg; obtain ⟨hcz8_0, hcz8_1⟩ := czc2 BK181.1; obtain ⟨hfz8_0, hfz8_1⟩ := czf2 BK181.1) | ((with_reducible refine gate_callee (f := 56) rfl ?_); refine czgo (some 24) Tryz.func56 #[.agg #[.slice A0 l0.length c0, .int .i64 (l1.length : Int)]] ?_; (with_reducible refine (slot_pair_newer.calls k _ _ l0 (l1.length : Int) t182 _ ?side1 ?side2 A5.out).mono ?_); (case side1 => exact Kd.C_below HR0.out (czbl1 HB GE181)); (case side2 => exact HC0.out); rintro e w9 ⟨rfl, hb⟩; refine ⟨_, rfl, ?_⟩; replace BK181 := am (blk_below (g := gb181) (o := .cells #[.slice A0 l0.length c0, .int .i64 (l1.length : Int)] 98 (0, 0)) (by (with_reducible repeat (first | apply czxn | apply czxd | apply czxa)); refine blk_put (cs := #[.slice A0 l0.length c0, .int .i64 0]) ?_ 1 _ rfl; (with_reducible repeat (first | apply czxn | apply czxd | apply czxa)); refine blk_put (cs := #[.slice none 0 0, .int .i64 0]) ?_ 0 _ rfl; (with_reducible repeat (first | apply czxn | apply czxd | apply czxa)); exact BK181.1) hb); replace HB := am (below_step (czbl1 HB GE181) hb); (try clear hb hb2 hk hi)))
  have H := HC6.out
  clear HC6
  revert H
  refine czif (fun c10b0 H => ?_) (fun c10b0 H => ?_)
  ·
   simp only [Option.some.injEq, Prod.mk.injEq] at H
   obtain ⟨rfl, rfl⟩ := H
   go_wp2
   go_ret2
   exact ⟨_, czeq, by first | exact Kd.R_nil _ _ _ _ _ | exact Kd.N_nil _ _ _ _ _ | exact Kd.V_nil _ _ _ _ _ | exact Kd.Q_nil _ _ _ _ _ | exact Kd.S_nil _ _ _ _ _, czbl1 HB GE181⟩
  ·
   obtain ⟨y183, hy183⟩ : ∃ y_ : List (S53), y_ = (([(⟨wrap64 ((wrap64 (1 - t182)) * (wrap64 ((l1.length : Int) + 1))), 0⟩ : S53)] : List (S53))) := ⟨_, rfl⟩
   replace H : (slot_Store.l0 k t182 (wrap64 ((wrap64 (1 - t182)) * (wrap64 ((l1.length : Int) + 1)))) y183 l1 (l1.length : Int) 0 l0 (l1.length : Int)) = some (r1, r2) := by first | (rw [hy183]; with_reducible exact H) | (have H2_ := (Option.bind_some _ _).symm.trans H; rw [hy183]; with_reducible exact H2_) | (have H2_ := (Option.bind_some _ _).symm.trans H; with_reducible exact H2_) | with_reducible exact H | (rw [hy183]; exact H) | exact H
   have Ny183 := am hy183
   clear hy183
   have H' := am H
   clear H
   go_wp2_with (first | ((with_reducible refine gate_dst (N := 34) rfl ?_); refine Kd.R_lit k53 _ 53 ?hg (N := 34) ?hd (xs := ([(⟨wrap64 ((wrap64 (1 - t182)) * (wrap64 ((l1.length : Int) + 1))), 0⟩ : S53)] : List (S53))) (inner := [.int .i64 (wrap64 ((wrap64 (1 - t182)) * (wrap64 ((l1.length : Int) + 1)))), .int .u32 0]) (ok := fun _ => True) (okp := fun _ => True) ?hr ?hp (fun _ hk => hk) trivial (Below.refl _ _) (Nat.le_refl _) (by simp) ?_; (case hd => rfl); (case hg => rfl); (case hr => first | (go_simp; done) | (go_simp; rfl)); (case hp => exact (Reps.c2 (show Kd.M k53 _ _ _ (⟨wrap64 ((wrap64 (1 - t182)) * (wrap64 ((l1.length : Int) + 1))), 0⟩ : S53) [.int .i64 (wrap64 ((wrap64 (1 - t182)) * (wrap64 ((l1.length : Int) + 1)))), .int .u32 0] from (k53_mkM _ _ _ (⟨wrap64 ((wrap64 (1 - t182)) * (wrap64 ((l1.length : Int) + 1))), 0⟩ : S53) )) (Reps.none _ _))); intro v184 w11 ho12 hb hg_ hnew_; clear hg_ hnew_; (first | rw [← Ny183.out] at ho12 | (simp only [Int.reduceToNat] at ho12; rw [← Ny183.out] at ho12)); have HO185 := am (Kd.R_lower ho12 (below_size (czbl1 HB GE181))); replace BK181 := czbb BK181 hb; replace HB := am (below_step (czbl1 HB GE181) hb); clear hb ho12))
   go_loopg [10, 37] k (fun kq v10 v37 w' => ∃ (x10_1 : List (S53)) (x37_1 : Int), v37 = .int .i64 x37_1 ∧ Aside0 (slot_Store.l0 kq t182 (wrap64 ((wrap64 (1 - t182)) * (wrap64 ((l1.length : Int) + 1)))) x10_1 l1 (l1.length : Int) x37_1 l0 (l1.length : Int) = some (r1, r2)) ∧ Aside0 (kq ≤ k) ∧ Aside0 (Kd.R k53 53 w' w.heap.size (fun _ => True) v10 x10_1) ∧ Aside0 (w'.heap[gb181]? = some (.cells #[(.slice A0 l0.length c0), .int .i64 (l1.length : Int)] 98 (0, 0))) ∧ Aside0 (Below w.heap.size w w'))
   case atStart => exact ⟨(y183), (0), czr, H', ⟨Nat.le_refl _⟩, ⟨czR HO185⟩, ⟨czbk BK181⟩, ⟨czbl1 HB GE181⟩⟩
   case round =>
    clear H'
    try clear c1
    try clear c2
    try clear p2
    try clear c3
    try clear c4
    try clear c5
    try clear p6
    try clear c10
    try clear c10b0
    try clear hcz8_0
    try clear hcz8_1
    try clear hfz8_0
    try clear hfz8_1
    obtain ⟨x10_1, x37_1, rfl, HA, HK1, HO_10, BK181, HB⟩ := hrel
    cases gk with
    | zero => exact absurd HA.out (by simp [slot_Store.l0])
    | succ k1 =>
     have H := HA.out
     clear HA
     simp only [slot_Store.l0] at H
     revert H
     refine czif (fun c13b0 H => ?_) (fun c13b0 H => ?_)
     ·
      by_cases c14 : 0 ≤ x37_1
      ·
       rw [if_pos c14] at H
       have c14b0 : decide (0 ≤ x37_1) = true := decide_eq_true c14
       clear c14
       by_cases c15 : x37_1 < (l1.length : Int)
       ·
        rw [if_pos c15] at H
        have c15b0 : decide (x37_1 < (l1.length : Int)) = true := decide_eq_true c15
        clear c15
        by_cases c16 : x10_1.length < 8796093022208
        ·
         rw [if_pos c16] at H
         have LMc16 := am c16
         clear c16
         obtain ⟨y187, hy187⟩ : ∃ y_ : List (S53), y_ = (x10_1 ++ [(⟨wrap64 ((wrap64 ((wrap64 ((wrap64 (1 - t182)) * (wrap64 ((l1.length : Int) + 1)))) + 1)) + x37_1), rd l1 x37_1⟩ : S53)]) := ⟨_, rfl⟩
         replace H : (slot_Store.l0 k1 t182 (wrap64 ((wrap64 (1 - t182)) * (wrap64 ((l1.length : Int) + 1)))) y187 l1 (l1.length : Int) (wrap64 (x37_1 + 1)) l0 (l1.length : Int)) = some (r1, r2) := by first | (rw [hy187]; with_reducible exact H) | (have H2_ := (Option.bind_some _ _).symm.trans H; rw [hy187]; with_reducible exact H2_) | (have H2_ := (Option.bind_some _ _).symm.trans H; with_reducible exact H2_) | with_reducible exact H | (rw [hy187]; exact H) | exact H
         have Ny187 := am hy187
         clear hy187
         have H' := am H
         clear H
         have p186 : 0 ≤ (x37_1 : Int) := czd
         have q186 : x37_1 < (l1.length : Int) := czd
         obtain ⟨ad186, e186, hx186_0⟩ := Kd.at_int HR1.out x37_1 p186 q186
         cases e186
         replace hx186_0 := (HB.1.cell (World.block_lt_of_cell? w _ hx186_0)).trans hx186_0
         replace p186 := eq_true p186
         replace q186 := eq_true q186
         go_wp2_with (first | ((with_reducible refine gate_builtin (b := .append) (xs := #[.tmp 42, .tmp 49]) rfl ?_); at_builtin; refine Kd.R_append k53 (w0 := w) w.heap.size rfl (.tmp 42) (.tmp 49) 28 53 (.agg #[(.int .i64 0), (.int .u32 0)]) 16 rfl Tryz.underlying28 info53 rfl (by decide) (by omega) u10 x10_1 (⟨wrap64 ((wrap64 ((wrap64 ((wrap64 (1 - t182)) * (wrap64 ((l1.length : Int) + 1)))) + 1)) + x37_1), rd l1 x37_1⟩ : S53) [.int .i64 (wrap64 ((wrap64 ((wrap64 ((wrap64 (1 - t182)) * (wrap64 ((l1.length : Int) + 1)))) + 1)) + x37_1)), .int .u32 (rd l1 x37_1)] (fun _ => True) (fun _ => False) rfl rfl ?aP (fun _ hk => hk.elim) ?aF ?aO ?aB ?aS ?aL ?_; (case aP => exact k53_mkM _ _ _ (⟨wrap64 ((wrap64 ((wrap64 ((wrap64 (1 - t182)) * (wrap64 ((l1.length : Int) + 1)))) + 1)) + x37_1), rd l1 x37_1⟩ : S53)); (case aB => exact (czbl1 HB GE181)); (case aF => exact (fun _ _ => trivial)); (case aO => exact (czR HO_10)); (case aS => exact (below_size (czbl1 HB GE181))); (case aL => have := LMc16.out; omega); intro v188 w17 ho hb hg hat; rw [← Ny187.out] at ho; have HO189 := am (ho); replace BK181 := am (blk_grown (g := gb181) (o := .cells #[.slice A0 l0.length c0, .int .i64 (l1.length : Int)] 98 (0, 0)) (czbk BK181) hg (Kd.R_ne HO_10.out BK181.1 (by decide))); replace HB := am (hb); clear HO_10; clear ho hb hg hat))
         go_roundg k1
         case measure => have := HK1.out; omega
         case rel => exact ⟨(y187), (wrap64 (x37_1 + 1)), czr, H', ⟨by have := HK1.out; omega⟩, ⟨czR HO189⟩, ⟨czbk BK181⟩, ⟨czbl1 HB GE181⟩⟩
        ·
         rw [if_neg c16] at H
         exact absurd H (by simp)
       ·
        rw [if_neg c15] at H
        exact absurd H (by simp)
      ·
       rw [if_neg c14] at H
       exact absurd H (by simp)
     ·
      replace H := Option.bind_eq_some_iff.mp H
      obtain ⟨t190, A180, H⟩ := H
      (try dsimp only at H)
      have A18 := am A180
      clear A180
      replace H := Option.bind_eq_some_iff.mp H
      obtain ⟨t191, A190, H⟩ := H
      (try dsimp only at H)
      have A19 := am A190
      clear A190
      by_cases c20 : x10_1.length < 8796093022208
      ·
       rw [if_pos c20] at H
       have LMc20 := am c20
       clear c20
       obtain ⟨y192, hy192⟩ : ∃ y_ : List (S53), y_ = (x10_1 ++ [(⟨(wrap64 ((wrap64 (1 - t182)) * (wrap64 ((l1.length : Int) + 1)))), t191⟩ : S53)]) := ⟨_, rfl⟩
       replace H : (some (y192, 0)) = some (r1, r2) := by first | (rw [hy192]; with_reducible exact H) | (have H2_ := (Option.bind_some _ _).symm.trans H; rw [hy192]; with_reducible exact H2_) | (have H2_ := (Option.bind_some _ _).symm.trans H; with_reducible exact H2_) | with_reducible exact H | (rw [hy192]; exact H) | exact H
       have Ny192 := am hy192
       clear hy192
       simp only [Option.some.injEq, Prod.mk.injEq] at H
       obtain ⟨rfl, rfl⟩ := H
       obtain ⟨hcz21_0, hcz21_1⟩ := czc2 BK181.1
       obtain ⟨hfz21_0, hfz21_1⟩ := czf2 BK181.1
       go_wp2_with (first | ((with_reducible refine gate_callee (f := 74) rfl ?_); refine czgo (some 56) Tryz.func74 #[.agg #[.slice A0 l0.length c0, .int .i64 (l1.length : Int)], .int .i64 t182] ?_; (with_reducible refine (slot_pair_mark.calls _ _ l0 (l1.length : Int) t182 t190 _ ?side1 ?side2 A18.out).mono ?_); (case side1 => repeat (first | exact (Kd.C_below HR0.out HB.1) | (with_reducible refine Kd.C_alloc ?_ _) | (with_reducible refine Kd.C_drewN ?_ _) | (with_reducible refine Kd.C_drew ?_))); (case side2 => exact HC0.out); rintro e w22 ⟨rfl, hb⟩; refine ⟨_, rfl, ?_⟩; replace HO_10 := am (Kd.R_below (czR HO_10) hb); replace BK181 := czbb BK181 hb; replace HB := am (below_step (czbl1 HB GE181) hb); (try clear hb hb2 hk hi)) | ((with_reducible refine gate_callee (f := 73) rfl ?_); refine czgo (some 57) Tryz.func73 #[.int .u32 t190] ?_; (with_reducible refine (slot_next.calls t190 t191 _ A19.out).mono ?_); rintro e w' ⟨rfl, ⟨nd, rfl⟩⟩; refine ⟨_, rfl, ?_⟩) | ((with_reducible refine gate_builtin (b := .append) (xs := #[.tmp 52, .tmp 59]) rfl ?_); at_builtin; refine Kd.R_append k53 (w0 := w) w.heap.size rfl (.tmp 52) (.tmp 59) 28 53 (.agg #[(.int .i64 0), (.int .u32 0)]) 16 rfl Tryz.underlying28 info53 rfl (by decide) (by omega) u10 x10_1 (⟨(wrap64 ((wrap64 (1 - t182)) * (wrap64 ((l1.length : Int) + 1)))), t191⟩ : S53) [.int .i64 (wrap64 ((wrap64 (1 - t182)) * (wrap64 ((l1.length : Int) + 1)))), .int .u32 t191] (fun _ => True) (fun _ => False) rfl rfl ?aP (fun _ hk => hk.elim) ?aF ?aO ?aB ?aS ?aL ?_; (case aP => exact k53_mkM _ _ _ (⟨(wrap64 ((wrap64 (1 - t182)) * (wrap64 ((l1.length : Int) + 1)))), t191⟩ : S53)); (case aB => exact (czbl1 HB GE181)); (case aF => exact (fun _ _ => trivial)); (case aO => exact (czR HO_10)); (case aS => exact (below_size (czbl1 HB GE181))); (case aL => have := LMc20.out; omega); intro v193 w23 ho hb hg hat; rw [← Ny192.out] at ho; have HO194 := am (ho); replace BK181 := am (blk_grown (g := gb181) (o := .cells #[.slice A0 l0.length c0, .int .i64 (l1.length : Int)] 98 (0, 0)) (czbk BK181) hg (Kd.R_ne HO_10.out BK181.1 (by decide))); replace HB := am (hb); clear HO_10; clear ho hb hg hat))
       go_ret2
       exact ⟨_, czeq, czR HO194, czbl1 HB GE181⟩
      ·
       rw [if_neg c20] at H
       exact absurd H (by simp)
 ·
  replace c4 := Bool.eq_false_iff.mpr c4
  subst c4
  have H1 : (some (([] : List (S53)), 1)) = some (r1, r2) := by rw [if_neg (show ¬ (false = true) by decide)] at H; exact H
  clear H
  have H := H1
  clear H1
  simp only [Option.some.injEq, Prod.mk.injEq] at H
  obtain ⟨rfl, rfl⟩ := H
  go_enter Tryz.func34, Tryz.ntmps34
  go_wp2_with (first | ((with_reducible refine gate_callee (f := 55) rfl ?_); refine czgo (some 18) Tryz.func55 #[.int .i64 (l0.length : Int), .int .i64 (l1.length : Int)] ?_; (with_reducible refine (slot_size.calls (l0.length : Int) (l1.length : Int) false _ A3.out).mono ?_); rintro e w' ⟨rfl, ⟨nd, rfl⟩⟩; refine ⟨_, rfl, ?_⟩))
  go_ret2
  exact ⟨_, czeq, by first | exact Kd.R_nil _ _ _ _ _ | exact Kd.N_nil _ _ _ _ _ | exact Kd.V_nil _ _ _ _ _ | exact Kd.Q_nil _ _ _ _ _ | exact Kd.S_nil _ _ _ _ _, czbl HB⟩

/-! ### pocket_moved: function 14 -/
def pocket_moved.f (k : Nat) (l0 : List Int) (a1_0 : Int) (a1_1 : Int) (a1_2 : Int) (a1_3 : Int) (a1_4 : Int) (a1_5 : Int) (a1_6 : Int) (a2_0 : Int) (a2_1 : Int) (a2_2 : Int) (a2_3 : Int) (a2_4 : Int) (a2_5 : Int) (a2_6 : Int) : Option ((List (S53))) := if (a1_0 == a2_0 && (a1_1 == a2_1 && (a1_2 == a2_2 && ((a1_3 == a2_3 && (a1_4 == a2_4)) && (a1_5 == a2_5 && (a1_6 == a2_6)))))) = true then (some ([] : List (S53))) else ((meter_Words.f k a2_0 a2_1 a2_2 a2_3 a2_4 a2_5 a2_6).bind fun bt197 => (if bt197.2 = 0 then ((slot_Store.f k l0 bt197.1).bind fun bt201 => (some bt201.1)) else (some ([] : List (S53)))))
theorem pocket_moved.mono : ∀ a0 a1 a2 a3 a4 a5 a6 a7 a8 a9 a10 a11 a12 a13 a14 k, LeO (pocket_moved.f k a0 a1 a2 a3 a4 a5 a6 a7 a8 a9 a10 a11 a12 a13 a14) (pocket_moved.f (k + 1) a0 a1 a2 a3 a4 a5 a6 a7 a8 a9 a10 a11 a12 a13 a14) := by
 intro a0 a1 a2 a3 a4 a5 a6 a7 a8 a9 a10 a11 a12 a13 a14 k
 unfold pocket_moved.f
 repeat' first
   | (with_reducible exact meter_Words.mono _ _ _ _ _ _ _ _)
   | (with_reducible exact slot_Store.mono _ _ _)
   | (with_reducible exact LeO.refl _)
   | (with_reducible exact LeO.none _)
   | (with_reducible refine LeO.ite ?_ ?_)
   | (with_reducible refine LeO.bind ?_ (fun _ => ?_))
theorem pocket_moved.calls (k : Nat) (A0 : Option Addr) (c0 : Nat) (l0 : List Int) (a1_0 : Int) (a1_1 : Int) (a1_2 : Int) (a1_3 : Int) (a1_4 : Int) (a1_5 : Int) (a1_6 : Int) (a2_0 : Int) (a2_1 : Int) (a2_2 : Int) (a2_3 : Int) (a2_4 : Int) (a2_5 : Int) (a2_6 : Int) (r : List (S53)) (w : World) (hr0 : Kd.C (Kd.int .u32) w A0 l0.length l0) (hc0 : l0.length ≤ c0) (h : pocket_moved.f k l0 a1_0 a1_1 a1_2 a1_3 a1_4 a1_5 a1_6 a2_0 a2_1 a2_2 a2_3 a2_4 a2_5 a2_6 = some r) :
  Calls Tryz.prog 14 #[.slice A0 l0.length c0, .agg #[.int .i64 a1_0, .int .i64 a1_1, .int .i64 a1_2, .int .i64 a1_3, .int .u64 a1_4, .int .i64 a1_5, .int .i64 a1_6], .agg #[.int .i64 a2_0, .int .i64 a2_1, .int .i64 a2_2, .int .i64 a2_3, .int .u64 a2_4, .int .i64 a2_5, .int .i64 a2_6]] w fun e w' => ∃ v0_ : Value, e = .returned (v0_) ∧ Kd.R k53 53 w' w.heap.size (fun _ => True) v0_ r ∧ Below w.heap.size w w' := by
 have hu40 := Tryz.underlying40
 have HR0 := am hr0
 have HC0 := am hc0
 clear hr0 hc0
 have HB := am (Below.refl w.heap.size w)
 have H : (if (a1_0 == a2_0 && (a1_1 == a2_1 && (a1_2 == a2_2 && ((a1_3 == a2_3 && (a1_4 == a2_4)) && (a1_5 == a2_5 && (a1_6 == a2_6)))))) = true then (some ([] : List (S53))) else ((meter_Words.f k a2_0 a2_1 a2_2 a2_3 a2_4 a2_5 a2_6).bind fun bt197 => (if bt197.2 = 0 then ((slot_Store.f k l0 bt197.1).bind fun bt201 => (some bt201.1)) else (some ([] : List (S53)))))) = some r := h
 clear h
 have HC4 := am H
 clear H
 go_enter Tryz.func14, Tryz.ntmps14
 go_upto_region 1 with (first | ((with_reducible refine gate_dst (N := 4) rfl ?_); refine czbox 4 #[.int .i64 a1_0, .int .i64 a1_1, .int .i64 a1_2, .int .i64 a1_3, .int .u64 a1_4, .int .i64 a1_5, .int .i64 a1_6] 40 ?_; intro gb195 hg w5 hbox hb; have BK195 := am (hbox); have GW195 := czsz hg (czbl HB); have GE195 := czsz hg (czbl HB); replace HB := am (below_step (czbl HB) hb); clear hb hbox hg) | ((with_reducible refine gate_dst (N := 5) rfl ?_); refine czbox 5 #[.int .i64 a2_0, .int .i64 a2_1, .int .i64 a2_2, .int .i64 a2_3, .int .u64 a2_4, .int .i64 a2_5, .int .i64 a2_6] 40 ?_; intro gb196 hg w6 hbox hb; have BK196 := am (hbox); have GW196 := czsz hg (czbl1 HB GE195); have GE196 := czsz hg (czbl1 HB GE195); have NB195_196 := czne BK195 hg; have NB196_195 := czen BK195 hg; replace BK195 := czbb BK195 hb; replace HB := am (below_step (czbl1 HB GE195) hb); clear hb hbox hg))
 have H := HC4.out
 clear HC4
 by_cases c7 : (a1_0 == a2_0 && (a1_1 == a2_1 && (a1_2 == a2_2 && ((a1_3 == a2_3 && (a1_4 == a2_4)) && (a1_5 == a2_5 && (a1_6 == a2_6)))))) = true
 ·
  rw [if_pos c7] at H
  have c7b0 : (a1_0 == a2_0 && (a1_1 == a2_1 && (a1_2 == a2_2 && ((a1_3 == a2_3 && (a1_4 == a2_4)) && (a1_5 == a2_5 && (a1_6 == a2_6)))))) = true := c7
  (try (have c7b1 : decide (a1_0 = a2_0 && (a1_1 == a2_1 && (a1_2 == a2_2 && ((a1_3 == a2_3 && (a1_4 == a2_4)) && (a1_5 == a2_5 && (a1_6 == a2_6)))))) = true := by simpa using c7))
  (try (have c7b2 : (a1_0 == a2_0 && (a1_1 == a2_1 && (a1_2 == a2_2 && ((a1_3 == a2_3 && (a1_4 == a2_4)) && (a1_5 == a2_5 && (a1_6 == a2_6)))))) = true := by simpa using c7))
  clear c7
  obtain rfl := Option.some.inj H
  have hnb8 := NB195_196.1
  have hnc8 := NB196_195.1
  obtain ⟨hcz9_0, hcz9_1, hcz9_2, hcz9_3, hcz9_4, hcz9_5, hcz9_6⟩ := czc7 BK195.1
  obtain ⟨hcz10_0, hcz10_1, hcz10_2, hcz10_3, hcz10_4, hcz10_5, hcz10_6⟩ := czc7 BK196.1
  go_wp2
  go_ret
  exact ⟨_, czeq, by first | exact Kd.R_nil _ _ _ _ _ | exact Kd.N_nil _ _ _ _ _ | exact Kd.V_nil _ _ _ _ _ | exact Kd.Q_nil _ _ _ _ _ | exact Kd.S_nil _ _ _ _ _, czbl2 HB GE195 GE196⟩
 ·
  rw [if_neg c7] at H
  have c7b0 : (a1_0 == a2_0 && (a1_1 == a2_1 && (a1_2 == a2_2 && ((a1_3 == a2_3 && (a1_4 == a2_4)) && (a1_5 == a2_5 && (a1_6 == a2_6)))))) = false := by simpa using c7
  (try (have c7b1 : decide (a1_0 = a2_0 && (a1_1 == a2_1 && (a1_2 == a2_2 && ((a1_3 == a2_3 && (a1_4 == a2_4)) && (a1_5 == a2_5 && (a1_6 == a2_6)))))) = false := by simpa using c7))
  (try (have c7b2 : (a1_0 == a2_0 && (a1_1 == a2_1 && (a1_2 == a2_2 && ((a1_3 == a2_3 && (a1_4 == a2_4)) && (a1_5 == a2_5 && (a1_6 == a2_6)))))) = false := by simpa using c7))
  (try (have c7b3 : ¬ (a1_0 = a2_0 && (a1_1 == a2_1 && (a1_2 == a2_2 && ((a1_3 == a2_3 && (a1_4 == a2_4)) && (a1_5 == a2_5 && (a1_6 == a2_6)))))) := by simpa using c7))
  clear c7
  replace H := Option.bind_eq_some_iff.mp H
  obtain ⟨⟨t197, t200⟩, A110, H⟩ := H
  (try dsimp only at H)
  have A11 := am A110
  clear A110
  have HC12 := am H
  clear H
  have hnb13 := NB195_196.1
  have hnc13 := NB196_195.1
  obtain ⟨hcz14_0, hcz14_1, hcz14_2, hcz14_3, hcz14_4, hcz14_5, hcz14_6⟩ := czc7 BK195.1
  obtain ⟨hcz15_0, hcz15_1, hcz15_2, hcz15_3, hcz15_4, hcz15_5, hcz15_6⟩ := czc7 BK196.1
  go_upto_region 4 with (first | ((with_reducible refine gate_callee (f := 33) rfl ?_); refine czgo (some 16) Tryz.func33 #[.agg #[.int .i64 a2_0, .int .i64 a2_1, .int .i64 a2_2, .int .i64 a2_3, .int .u64 a2_4, .int .i64 a2_5, .int .i64 a2_6]] ?_; (with_reducible refine (meter_Words.calls k a2_0 a2_1 a2_2 a2_3 a2_4 a2_5 a2_6 t197 t200 _ A11.out).mono ?_); rintro e w16 ⟨v198, rfl, ho0, hb⟩; refine ⟨_, rfl, ?_⟩; have HO199 := am (Kd.R_lower ho0 (below_size (czbl2 HB GE195 GE196))); replace BK195 := czbb BK195 hb; replace BK196 := czbb BK196 hb; replace HB := am (below_step (czbl2 HB GE195 GE196) hb); (try clear hb hb2 hk hi ho0)))
  have H := HC12.out
  clear HC12
  revert H
  refine czei (fun c17b0 c17b1 H => ?_) (fun c17 c17b0 c17b1 H => ?_)
  ·
   replace H := Option.bind_eq_some_iff.mp H
   obtain ⟨⟨t201, t202⟩, A180, H⟩ := H
   (try dsimp only at H)
   have A18 := am A180
   clear A180
   obtain rfl := Option.some.inj H
   obtain ⟨Ao19, co19, eo19⟩ := Kd.R_slice HO199.1
   subst eo19
   go_wp2_with (first | ((with_reducible refine gate_callee (f := 34) rfl ?_); refine czgo (some 24) Tryz.func34 #[.slice A0 l0.length c0, .slice Ao19 t197.length co19] ?_; (with_reducible refine (slot_Store.calls k _ _ l0 _ _ t197 t201 t202 _ ?side1 ?side2 (czC HO199) ?side4 A18.out).mono ?_); (case side1 => repeat (first | exact (Kd.C_below HR0.out HB.1) | (with_reducible refine Kd.C_alloc ?_ _) | (with_reducible refine Kd.C_drewN ?_ _) | (with_reducible refine Kd.C_drew ?_))); (case side2 => exact HC0.out); (case side4 => exact (Kd.R_reads' HO199.1).2.1); rintro e w20 ⟨v203, rfl, ho0, hb⟩; refine ⟨_, rfl, ?_⟩; have HO204 := am (Kd.R_lower ho0 (below_size (czbl2 HB GE195 GE196))); replace HO199 := am (Kd.R_below (czR HO199) hb); replace BK195 := czbb BK195 hb; replace BK196 := czbb BK196 hb; replace HB := am (below_step (czbl2 HB GE195 GE196) hb); (try clear hb hb2 hk hi ho0)))
   go_ret
   exact ⟨_, czeq, czR HO204, czbl2 HB GE195 GE196⟩
  ·
   obtain rfl := Option.some.inj H
   go_wp2
   go_ret
   exact ⟨_, czeq, by first | exact Kd.R_nil _ _ _ _ _ | exact Kd.N_nil _ _ _ _ _ | exact Kd.V_nil _ _ _ _ _ | exact Kd.Q_nil _ _ _ _ _ | exact Kd.S_nil _ _ _ _ _, czbl2 HB GE195 GE196⟩

/-! ### pocket_Keyed: function 6 -/
def pocket_Keyed.f (k : Nat) (l0 : List Int) (l1_0 : List (S55)) (a2 : ByteArray) : Option ((List (S53)) × Int × Int) := (pocket_Boot.f k l0).bind fun bt206 => (if bt206.2.2.2.2.2.2.2 = 0 then ((token_Parse.f a2).bind fun bt215 => (if bt215.2.2.2.2 = 0 then ((meter_Key.f k bt206.1 bt206.2.1 bt206.2.2.1 bt206.2.2.2.1 bt206.2.2.2.2.1 bt206.2.2.2.2.2.1 bt206.2.2.2.2.2.2.1 l1_0 bt215.1 bt215.2.1 bt215.2.2.1 bt215.2.2.2.1).bind fun bt221 => (if bt221.2.2.2.2.2.2.2.2 = 5 then (some (([] : List (S53)), 0, bt221.2.2.2.2.2.2.2.2)) else ((pocket_moved.f k l0 bt206.1 bt206.2.1 bt206.2.2.1 bt206.2.2.2.1 bt206.2.2.2.2.1 bt206.2.2.2.2.2.1 bt206.2.2.2.2.2.2.1 bt221.1 bt221.2.1 bt221.2.2.1 bt221.2.2.2.1 bt221.2.2.2.2.1 bt221.2.2.2.2.2.1 bt221.2.2.2.2.2.2.1).bind fun t231 => (some (t231, bt221.2.2.2.2.2.2.2.1, bt221.2.2.2.2.2.2.2.2))))) else (some (([] : List (S53)), 0, bt215.2.2.2.2)))) else (some (([] : List (S53)), 0, bt206.2.2.2.2.2.2.2)))
theorem pocket_Keyed.mono : ∀ a0 a1 a2 k, LeO (pocket_Keyed.f k a0 a1 a2) (pocket_Keyed.f (k + 1) a0 a1 a2) := by
 intro a0 a1 a2 k
 unfold pocket_Keyed.f
 repeat' first
   | (with_reducible exact meter_Key.mono _ _ _ _ _ _ _ _ _ _ _ _ _)
   | (with_reducible exact pocket_Boot.mono _ _)
   | (with_reducible exact pocket_moved.mono _ _ _ _ _ _ _ _ _ _ _ _ _ _ _ _)
   | (with_reducible exact LeO.refl _)
   | (with_reducible exact LeO.none _)
   | (with_reducible refine LeO.ite ?_ ?_)
   | (with_reducible refine LeO.bind ?_ (fun _ => ?_))
theorem pocket_Keyed.calls (k : Nat) (A0 : Option Addr) (c0 : Nat) (l0 : List Int) (A1_0 : Option Addr) (c1_0 : Nat) (l1_0 : List (S55)) (a2 : ByteArray) (r1 : List (S53)) (r2 : Int) (r3 : Int) (w : World) (hr0 : Kd.C (Kd.int .u32) w A0 l0.length l0) (hc0 : l0.length ≤ c0) (hr1_0 : Kd.C k55 w A1_0 l1_0.length l1_0) (hc1_0 : l1_0.length ≤ c1_0) (h : pocket_Keyed.f k l0 l1_0 a2 = some (r1, r2, r3)) :
  Calls Tryz.prog 6 #[.slice A0 l0.length c0, .agg #[.slice A1_0 l1_0.length c1_0], .string a2] w fun e w' => ∃ v0_ : Value, e = .returned (.tuple #[v0_, .int .i64 r2, .int .i64 r3]) ∧ Kd.R k53 53 w' w.heap.size (fun _ => True) v0_ r1 ∧ Below w.heap.size w w' := by
 have hu25 := Tryz.underlying25
 have hu40 := Tryz.underlying40
 have hu44 := Tryz.underlying44
 have HR0 := am hr0
 have HC0 := am hc0
 clear hr0 hc0
 have HR1_0 := am hr1_0
 have HC1_0 := am hc1_0
 clear hr1_0 hc1_0
 have HB := am (Below.refl w.heap.size w)
 have H : ((pocket_Boot.f k l0).bind fun bt206 => (if bt206.2.2.2.2.2.2.2 = 0 then ((token_Parse.f a2).bind fun bt215 => (if bt215.2.2.2.2 = 0 then ((meter_Key.f k bt206.1 bt206.2.1 bt206.2.2.1 bt206.2.2.2.1 bt206.2.2.2.2.1 bt206.2.2.2.2.2.1 bt206.2.2.2.2.2.2.1 l1_0 bt215.1 bt215.2.1 bt215.2.2.1 bt215.2.2.2.1).bind fun bt221 => (if bt221.2.2.2.2.2.2.2.2 = 5 then (some (([] : List (S53)), 0, bt221.2.2.2.2.2.2.2.2)) else ((pocket_moved.f k l0 bt206.1 bt206.2.1 bt206.2.2.1 bt206.2.2.2.1 bt206.2.2.2.2.1 bt206.2.2.2.2.2.1 bt206.2.2.2.2.2.2.1 bt221.1 bt221.2.1 bt221.2.2.1 bt221.2.2.2.1 bt221.2.2.2.2.1 bt221.2.2.2.2.2.1 bt221.2.2.2.2.2.2.1).bind fun t231 => (some (t231, bt221.2.2.2.2.2.2.2.1, bt221.2.2.2.2.2.2.2.2))))) else (some (([] : List (S53)), 0, bt215.2.2.2.2)))) else (some (([] : List (S53)), 0, bt206.2.2.2.2.2.2.2)))) = some (r1, r2, r3) := h
 clear h
 replace H := Option.bind_eq_some_iff.mp H
 obtain ⟨⟨t206, t207, t208, t209, t210, t211, t212, t213⟩, A40, H⟩ := H
 (try dsimp only at H)
 have A4 := am A40
 clear A40
 have HC5 := am H
 clear H
 go_enter Tryz.func6, Tryz.ntmps6
 go_upto_region 2 with (first | ((with_reducible refine gate_dst (N := 4) rfl ?_); refine czbox 4 #[.slice A1_0 l1_0.length c1_0] 25 ?_; intro gb205 hg w6 hbox hb; have BK205 := am (hbox); have GW205 := czsz hg (czbl HB); have GE205 := czsz hg (czbl HB); replace HB := am (below_step (czbl HB) hb); clear hb hbox hg) | ((with_reducible refine gate_callee (f := 11) rfl ?_); refine czgo (some 16) Tryz.func11 #[.slice A0 l0.length c0] ?_; (with_reducible refine (pocket_Boot.calls k _ _ l0 t206 t207 t208 t209 t210 t211 t212 t213 _ ?side1 ?side2 A4.out).mono ?_); (case side1 => repeat (first | exact (Kd.C_below HR0.out HB.1) | (with_reducible refine Kd.C_alloc ?_ _) | (with_reducible refine Kd.C_drewN ?_ _) | (with_reducible refine Kd.C_drew ?_))); (case side2 => exact HC0.out); rintro e w7 ⟨rfl, hb⟩; refine ⟨_, rfl, ?_⟩; replace BK205 := czbb BK205 hb; replace HB := am (below_step (czbl1 HB GE205) hb); (try clear hb hb2 hk hi)) | ((with_reducible refine gate_dst (N := 9) rfl ?_); refine czbox 9 #[.int .i64 0, .int .i64 0, .int .i64 0, .int .i64 0, .int .u64 0, .int .i64 0, .int .i64 0] 40 ?_; intro gb214 hg w8 hbox hb; have BK214 := am (hbox); have GW214 := czsz hg (czbl1 HB GE205); have GE214 := czsz hg (czbl1 HB GE205); have NB205_214 := czne BK205 hg; have NB214_205 := czen BK205 hg; replace BK205 := czbb BK205 hb; replace HB := am (below_step (czbl1 HB GE205) hb); clear hb hbox hg; have hnb9 := NB214_205.1; have hnc9 := NB205_214.1; obtain ⟨hcz10_0, hcz10_1, hcz10_2, hcz10_3, hcz10_4, hcz10_5, hcz10_6⟩ := czc7 BK214.1; obtain ⟨hfz10_0, hfz10_1, hfz10_2, hfz10_3, hfz10_4, hfz10_5, hfz10_6⟩ := czf7 BK214.1))
 have H := HC5.out
 clear HC5
 revert H
 refine czei (fun c11b0 c11b1 H => ?_) (fun c11 c11b0 c11b1 H => ?_)
 ·
  replace H := Option.bind_eq_some_iff.mp H
  obtain ⟨⟨t215, t216, t217, t218, t219⟩, A120, H⟩ := H
  (try dsimp only at H)
  have A12 := am A120
  clear A120
  have HC13 := am H
  clear H
  go_upto_region 5 with (first | ((with_reducible refine gate_callee (f := 12) rfl ?_); refine czgo (some 24) Tryz.func12 #[.string a2] ?_; (with_reducible refine (token_Parse.calls a2 t215 t216 t217 t218 t219 _ A12.out).mono ?_); rintro e w14 ⟨rfl, hb⟩; refine ⟨_, rfl, ?_⟩; replace BK205 := am (blk_below (g := gb205) (o := .cells #[.slice A1_0 l1_0.length c1_0] 25 (0, 0)) (by (with_reducible repeat (first | apply czxn | apply czxd | apply czxa)); refine blk_far ?_ NB205_214.1 _; (with_reducible repeat (first | apply czxn | apply czxd | apply czxa)); refine blk_far ?_ NB205_214.1 _; (with_reducible repeat (first | apply czxn | apply czxd | apply czxa)); refine blk_far ?_ NB205_214.1 _; (with_reducible repeat (first | apply czxn | apply czxd | apply czxa)); refine blk_far ?_ NB205_214.1 _; (with_reducible repeat (first | apply czxn | apply czxd | apply czxa)); refine blk_far ?_ NB205_214.1 _; (with_reducible repeat (first | apply czxn | apply czxd | apply czxa)); refine blk_far ?_ NB205_214.1 _; (with_reducible repeat (first | apply czxn | apply czxd | apply czxa)); refine blk_far ?_ NB205_214.1 _; (with_reducible repeat (first | apply czxn | apply czxd | apply czxa)); exact BK205.1) hb); replace BK214 := am (blk_below (g := gb214) (o := .cells #[.int .i64 t206, .int .i64 t207, .int .i64 t208, .int .i64 t209, .int .u64 t210, .int .i64 t211, .int .i64 t212] 40 (0, 0)) (by (with_reducible repeat (first | apply czxn | apply czxd | apply czxa)); refine blk_put (cs := #[.int .i64 t206, .int .i64 t207, .int .i64 t208, .int .i64 t209, .int .u64 t210, .int .i64 t211, .int .i64 0]) ?_ 6 _ rfl; (with_reducible repeat (first | apply czxn | apply czxd | apply czxa)); refine blk_put (cs := #[.int .i64 t206, .int .i64 t207, .int .i64 t208, .int .i64 t209, .int .u64 t210, .int .i64 0, .int .i64 0]) ?_ 5 _ rfl; (with_reducible repeat (first | apply czxn | apply czxd | apply czxa)); refine blk_put (cs := #[.int .i64 t206, .int .i64 t207, .int .i64 t208, .int .i64 t209, .int .u64 0, .int .i64 0, .int .i64 0]) ?_ 4 _ rfl; (with_reducible repeat (first | apply czxn | apply czxd | apply czxa)); refine blk_put (cs := #[.int .i64 t206, .int .i64 t207, .int .i64 t208, .int .i64 0, .int .u64 0, .int .i64 0, .int .i64 0]) ?_ 3 _ rfl; (with_reducible repeat (first | apply czxn | apply czxd | apply czxa)); refine blk_put (cs := #[.int .i64 t206, .int .i64 t207, .int .i64 0, .int .i64 0, .int .u64 0, .int .i64 0, .int .i64 0]) ?_ 2 _ rfl; (with_reducible repeat (first | apply czxn | apply czxd | apply czxa)); refine blk_put (cs := #[.int .i64 t206, .int .i64 0, .int .i64 0, .int .i64 0, .int .u64 0, .int .i64 0, .int .i64 0]) ?_ 1 _ rfl; (with_reducible repeat (first | apply czxn | apply czxd | apply czxa)); refine blk_put (cs := #[.int .i64 0, .int .i64 0, .int .i64 0, .int .i64 0, .int .u64 0, .int .i64 0, .int .i64 0]) ?_ 0 _ rfl; (with_reducible repeat (first | apply czxn | apply czxd | apply czxa)); exact BK214.1) hb); replace HB := am (below_step (czbl2 HB GE205 GE214) hb); (try clear hb hb2 hk hi)) | ((with_reducible refine gate_dst (N := 11) rfl ?_); refine czbox 11 #[.int .i64 0, .int .i64 0, .int .i64 0, .int .i64 0] 44 ?_; intro gb220 hg w15 hbox hb; have BK220 := am (hbox); have GW220 := czsz hg (czbl2 HB GE205 GE214); have GE220 := czsz hg (czbl2 HB GE205 GE214); have NB205_220 := czne BK205 hg; have NB220_205 := czen BK205 hg; have NB214_220 := czne BK214 hg; have NB220_214 := czen BK214 hg; replace BK205 := czbb BK205 hb; replace BK214 := czbb BK214 hb; replace HB := am (below_step (czbl2 HB GE205 GE214) hb); clear hb hbox hg; have hnb16 := NB220_205.1; have hnc16 := NB205_220.1; have hnb17 := NB220_214.1; have hnc17 := NB214_220.1; obtain ⟨hcz18_0, hcz18_1, hcz18_2, hcz18_3⟩ := czc4 BK220.1; obtain ⟨hfz18_0, hfz18_1, hfz18_2, hfz18_3⟩ := czf4 BK220.1))
  have H := HC13.out
  clear HC13
  revert H
  refine czei (fun c19b0 c19b1 H => ?_) (fun c19 c19b0 c19b1 H => ?_)
  ·
   replace H := Option.bind_eq_some_iff.mp H
   obtain ⟨⟨t221, t222, t223, t224, t225, t226, t227, t228, t229⟩, A200, H⟩ := H
   (try dsimp only at H)
   have A20 := am A200
   clear A200
   have HC21 := am H
   clear H
   have hnb22 := NB214_205.1
   have hnc22 := NB205_214.1
   have hnb23 := NB214_220.1
   have hnc23 := NB220_214.1
   obtain ⟨hcz24_0, hcz24_1, hcz24_2, hcz24_3, hcz24_4, hcz24_5, hcz24_6⟩ := czc7 BK214.1
   obtain ⟨hfz24_0, hfz24_1, hfz24_2, hfz24_3, hfz24_4, hfz24_5, hfz24_6⟩ := czf7 BK214.1
   have hnb25 := NB205_220.1
   have hnc25 := NB220_205.1
   have hcz26_0 : w15.cell? ⟨gb205, 0, none⟩ = some (.slice A1_0 l1_0.length c1_0) := (blk_cell BK205.1 0).trans rfl
   have hfz26_0 := blk_frozen BK205.1 0
   obtain ⟨hcz27_0, hcz27_1, hcz27_2, hcz27_3⟩ := czc4 BK220.1
   obtain ⟨hfz27_0, hfz27_1, hfz27_2, hfz27_3⟩ := czf4 BK220.1
   go_upto_region 8 with (first | ((with_reducible refine gate_callee (f := 13) rfl ?_); refine czgo (some 34) Tryz.func13 #[.agg #[.int .i64 t206, .int .i64 t207, .int .i64 t208, .int .i64 t209, .int .u64 t210, .int .i64 t211, .int .i64 t212], .agg #[.slice A1_0 l1_0.length c1_0], .agg #[.int .i64 t215, .int .i64 t216, .int .i64 t217, .int .i64 t218]] ?_; (with_reducible refine (meter_Key.calls k t206 t207 t208 t209 t210 t211 t212 _ _ l1_0 t215 t216 t217 t218 t221 t222 t223 t224 t225 t226 t227 t228 t229 _ ?side1 ?side2 A20.out).mono ?_); (case side1 => exact Kd.C_below HR1_0.out (czbl3 HB GE205 GE214 GE220)); (case side2 => exact HC1_0.out); rintro e w28 ⟨rfl, hb⟩; refine ⟨_, rfl, ?_⟩; replace BK205 := am (blk_below (g := gb205) (o := .cells #[.slice A1_0 l1_0.length c1_0] 25 (0, 0)) (by (with_reducible repeat (first | apply czxn | apply czxd | apply czxa)); refine blk_far ?_ NB205_220.1 _; (with_reducible repeat (first | apply czxn | apply czxd | apply czxa)); refine blk_far ?_ NB205_220.1 _; (with_reducible repeat (first | apply czxn | apply czxd | apply czxa)); refine blk_far ?_ NB205_220.1 _; (with_reducible repeat (first | apply czxn | apply czxd | apply czxa)); refine blk_far ?_ NB205_220.1 _; (with_reducible repeat (first | apply czxn | apply czxd | apply czxa)); exact BK205.1) hb); replace BK214 := am (blk_below (g := gb214) (o := .cells #[.int .i64 t206, .int .i64 t207, .int .i64 t208, .int .i64 t209, .int .u64 t210, .int .i64 t211, .int .i64 t212] 40 (0, 0)) (by (with_reducible repeat (first | apply czxn | apply czxd | apply czxa)); refine blk_far ?_ NB214_220.1 _; (with_reducible repeat (first | apply czxn | apply czxd | apply czxa)); refine blk_far ?_ NB214_220.1 _; (with_reducible repeat (first | apply czxn | apply czxd | apply czxa)); refine blk_far ?_ NB214_220.1 _; (with_reducible repeat (first | apply czxn | apply czxd | apply czxa)); refine blk_far ?_ NB214_220.1 _; (with_reducible repeat (first | apply czxn | apply czxd | apply czxa)); exact BK214.1) hb); replace BK220 := am (blk_below (g := gb220) (o := .cells #[.int .i64 t215, .int .i64 t216, .int .i64 t217, .int .i64 t218] 44 (0, 0)) (by (with_reducible repeat (first | apply czxn | apply czxd | apply czxa)); refine blk_put (cs := #[.int .i64 t215, .int .i64 t216, .int .i64 t217, .int .i64 0]) ?_ 3 _ rfl; (with_reducible repeat (first | apply czxn | apply czxd | apply czxa)); refine blk_put (cs := #[.int .i64 t215, .int .i64 t216, .int .i64 0, .int .i64 0]) ?_ 2 _ rfl; (with_reducible repeat (first | apply czxn | apply czxd | apply czxa)); refine blk_put (cs := #[.int .i64 t215, .int .i64 0, .int .i64 0, .int .i64 0]) ?_ 1 _ rfl; (with_reducible repeat (first | apply czxn | apply czxd | apply czxa)); refine blk_put (cs := #[.int .i64 0, .int .i64 0, .int .i64 0, .int .i64 0]) ?_ 0 _ rfl; (with_reducible repeat (first | apply czxn | apply czxd | apply czxa)); exact BK220.1) hb); replace HB := am (below_step (czbl3 HB GE205 GE214 GE220) hb); (try clear hb hb2 hk hi)) | ((with_reducible refine gate_dst (N := 12) rfl ?_); refine czbox 12 #[.int .i64 0, .int .i64 0, .int .i64 0, .int .i64 0, .int .u64 0, .int .i64 0, .int .i64 0] 40 ?_; intro gb230 hg w29 hbox hb; have BK230 := am (hbox); have GW230 := czsz hg (czbl3 HB GE205 GE214 GE220); have GE230 := czsz hg (czbl3 HB GE205 GE214 GE220); have NB205_230 := czne BK205 hg; have NB230_205 := czen BK205 hg; have NB214_230 := czne BK214 hg; have NB230_214 := czen BK214 hg; have NB220_230 := czne BK220 hg; have NB230_220 := czen BK220 hg; replace BK205 := czbb BK205 hb; replace BK214 := czbb BK214 hb; replace BK220 := czbb BK220 hb; replace HB := am (below_step (czbl3 HB GE205 GE214 GE220) hb); clear hb hbox hg; have hnb30 := NB230_205.1; have hnc30 := NB205_230.1; have hnb31 := NB230_214.1; have hnc31 := NB214_230.1; have hnb32 := NB230_220.1; have hnc32 := NB220_230.1; obtain ⟨hcz33_0, hcz33_1, hcz33_2, hcz33_3, hcz33_4, hcz33_5, hcz33_6⟩ := czc7 BK230.1; obtain ⟨hfz33_0, hfz33_1, hfz33_2, hfz33_3, hfz33_4, hfz33_5, hfz33_6⟩ := czf7 BK230.1))
   have H := HC21.out
   clear HC21
   revert H
   refine czei (fun c34b0 c34b1 H => ?_) (fun c34 c34b0 c34b1 H => ?_)
   ·
    simp only [Option.some.injEq, Prod.mk.injEq] at H
    obtain ⟨rfl, rfl, rfl⟩ := H
    go_wp2
    go_ret3
    exact ⟨_, czeq, by first | exact Kd.R_nil _ _ _ _ _ | exact Kd.N_nil _ _ _ _ _ | exact Kd.V_nil _ _ _ _ _ | exact Kd.Q_nil _ _ _ _ _ | exact Kd.S_nil _ _ _ _ _, czbl4 HB GE205 GE214 GE220 GE230⟩
   ·
    replace H := Option.bind_eq_some_iff.mp H
    obtain ⟨t231, A350, H⟩ := H
    (try dsimp only at H)
    have A35 := am A350
    clear A350
    simp only [Option.some.injEq, Prod.mk.injEq] at H
    obtain ⟨rfl, rfl, rfl⟩ := H
    have hnb36 := NB214_205.1
    have hnc36 := NB205_214.1
    have hnb37 := NB214_220.1
    have hnc37 := NB220_214.1
    have hnb38 := NB214_230.1
    have hnc38 := NB230_214.1
    obtain ⟨hcz39_0, hcz39_1, hcz39_2, hcz39_3, hcz39_4, hcz39_5, hcz39_6⟩ := czc7 BK214.1
    obtain ⟨hfz39_0, hfz39_1, hfz39_2, hfz39_3, hfz39_4, hfz39_5, hfz39_6⟩ := czf7 BK214.1
    have hnb40 := NB230_205.1
    have hnc40 := NB205_230.1
    have hnb41 := NB230_220.1
    have hnc41 := NB220_230.1
    obtain ⟨hcz42_0, hcz42_1, hcz42_2, hcz42_3, hcz42_4, hcz42_5, hcz42_6⟩ := czc7 BK230.1
    obtain ⟨hfz42_0, hfz42_1, hfz42_2, hfz42_3, hfz42_4, hfz42_5, hfz42_6⟩ := czf7 BK230.1
    go_wp2_with (first | ((with_reducible refine gate_callee (f := 14) rfl ?_); refine czgo (some 44) Tryz.func14 #[.slice A0 l0.length c0, .agg #[.int .i64 t206, .int .i64 t207, .int .i64 t208, .int .i64 t209, .int .u64 t210, .int .i64 t211, .int .i64 t212], .agg #[.int .i64 t221, .int .i64 t222, .int .i64 t223, .int .i64 t224, .int .u64 t225, .int .i64 t226, .int .i64 t227]] ?_; (with_reducible refine (pocket_moved.calls k _ _ l0 t206 t207 t208 t209 t210 t211 t212 t221 t222 t223 t224 t225 t226 t227 t231 _ ?side1 ?side2 A35.out).mono ?_); (case side1 => exact Kd.C_below HR0.out (czbl4 HB GE205 GE214 GE220 GE230)); (case side2 => exact HC0.out); rintro e w43 ⟨v232, rfl, ho0, hb⟩; refine ⟨_, rfl, ?_⟩; have HO233 := am (Kd.R_lower ho0 (below_size (czbl4 HB GE205 GE214 GE220 GE230))); replace BK205 := am (blk_below (g := gb205) (o := .cells #[.slice A1_0 l1_0.length c1_0] 25 (0, 0)) (by (with_reducible repeat (first | apply czxn | apply czxd | apply czxa)); refine blk_far ?_ NB205_230.1 _; (with_reducible repeat (first | apply czxn | apply czxd | apply czxa)); refine blk_far ?_ NB205_230.1 _; (with_reducible repeat (first | apply czxn | apply czxd | apply czxa)); refine blk_far ?_ NB205_230.1 _; (with_reducible repeat (first | apply czxn | apply czxd | apply czxa)); refine blk_far ?_ NB205_230.1 _; (with_reducible repeat (first | apply czxn | apply czxd | apply czxa)); refine blk_far ?_ NB205_230.1 _; (with_reducible repeat (first | apply czxn | apply czxd | apply czxa)); refine blk_far ?_ NB205_230.1 _; (with_reducible repeat (first | apply czxn | apply czxd | apply czxa)); refine blk_far ?_ NB205_230.1 _; (with_reducible repeat (first | apply czxn | apply czxd | apply czxa)); exact BK205.1) hb); replace BK214 := am (blk_below (g := gb214) (o := .cells #[.int .i64 t206, .int .i64 t207, .int .i64 t208, .int .i64 t209, .int .u64 t210, .int .i64 t211, .int .i64 t212] 40 (0, 0)) (by (with_reducible repeat (first | apply czxn | apply czxd | apply czxa)); refine blk_far ?_ NB214_230.1 _; (with_reducible repeat (first | apply czxn | apply czxd | apply czxa)); refine blk_far ?_ NB214_230.1 _; (with_reducible repeat (first | apply czxn | apply czxd | apply czxa)); refine blk_far ?_ NB214_230.1 _; (with_reducible repeat (first | apply czxn | apply czxd | apply czxa)); refine blk_far ?_ NB214_230.1 _; (with_reducible repeat (first | apply czxn | apply czxd | apply czxa)); refine blk_far ?_ NB214_230.1 _; (with_reducible repeat (first | apply czxn | apply czxd | apply czxa)); refine blk_far ?_ NB214_230.1 _; (with_reducible repeat (first | apply czxn | apply czxd | apply czxa)); refine blk_far ?_ NB214_230.1 _; (with_reducible repeat (first | apply czxn | apply czxd | apply czxa)); exact BK214.1) hb); replace BK220 := am (blk_below (g := gb220) (o := .cells #[.int .i64 t215, .int .i64 t216, .int .i64 t217, .int .i64 t218] 44 (0, 0)) (by (with_reducible repeat (first | apply czxn | apply czxd | apply czxa)); refine blk_far ?_ NB220_230.1 _; (with_reducible repeat (first | apply czxn | apply czxd | apply czxa)); refine blk_far ?_ NB220_230.1 _; (with_reducible repeat (first | apply czxn | apply czxd | apply czxa)); refine blk_far ?_ NB220_230.1 _; (with_reducible repeat (first | apply czxn | apply czxd | apply czxa)); refine blk_far ?_ NB220_230.1 _; (with_reducible repeat (first | apply czxn | apply czxd | apply czxa)); refine blk_far ?_ NB220_230.1 _; (with_reducible repeat (first | apply czxn | apply czxd | apply czxa)); refine blk_far ?_ NB220_230.1 _; (with_reducible repeat (first | apply czxn | apply czxd | apply czxa)); refine blk_far ?_ NB220_230.1 _; (with_reducible repeat (first | apply czxn | apply czxd | apply czxa)); exact BK220.1) hb); replace BK230 := am (blk_below (g := gb230) (o := .cells #[.int .i64 t221, .int .i64 t222, .int .i64 t223, .int .i64 t224, .int .u64 t225, .int .i64 t226, .int .i64 t227] 40 (0, 0)) (by (with_reducible repeat (first | apply czxn | apply czxd | apply czxa)); refine blk_put (cs := #[.int .i64 t221, .int .i64 t222, .int .i64 t223, .int .i64 t224, .int .u64 t225, .int .i64 t226, .int .i64 0]) ?_ 6 _ rfl; (with_reducible repeat (first | apply czxn | apply czxd | apply czxa)); refine blk_put (cs := #[.int .i64 t221, .int .i64 t222, .int .i64 t223, .int .i64 t224, .int .u64 t225, .int .i64 0, .int .i64 0]) ?_ 5 _ rfl; (with_reducible repeat (first | apply czxn | apply czxd | apply czxa)); refine blk_put (cs := #[.int .i64 t221, .int .i64 t222, .int .i64 t223, .int .i64 t224, .int .u64 0, .int .i64 0, .int .i64 0]) ?_ 4 _ rfl; (with_reducible repeat (first | apply czxn | apply czxd | apply czxa)); refine blk_put (cs := #[.int .i64 t221, .int .i64 t222, .int .i64 t223, .int .i64 0, .int .u64 0, .int .i64 0, .int .i64 0]) ?_ 3 _ rfl; (with_reducible repeat (first | apply czxn | apply czxd | apply czxa)); refine blk_put (cs := #[.int .i64 t221, .int .i64 t222, .int .i64 0, .int .i64 0, .int .u64 0, .int .i64 0, .int .i64 0]) ?_ 2 _ rfl; (with_reducible repeat (first | apply czxn | apply czxd | apply czxa)); refine blk_put (cs := #[.int .i64 t221, .int .i64 0, .int .i64 0, .int .i64 0, .int .u64 0, .int .i64 0, .int .i64 0]) ?_ 1 _ rfl; (with_reducible repeat (first | apply czxn | apply czxd | apply czxa)); refine blk_put (cs := #[.int .i64 0, .int .i64 0, .int .i64 0, .int .i64 0, .int .u64 0, .int .i64 0, .int .i64 0]) ?_ 0 _ rfl; (with_reducible repeat (first | apply czxn | apply czxd | apply czxa)); exact BK230.1) hb); replace HB := am (below_step (czbl4 HB GE205 GE214 GE220 GE230) hb); (try clear hb hb2 hk hi ho0)))
    go_ret3
    exact ⟨_, czeq, czR HO233, czbl4 HB GE205 GE214 GE220 GE230⟩
  ·
   simp only [Option.some.injEq, Prod.mk.injEq] at H
   obtain ⟨rfl, rfl, rfl⟩ := H
   go_wp2
   go_ret3
   exact ⟨_, czeq, by first | exact Kd.R_nil _ _ _ _ _ | exact Kd.N_nil _ _ _ _ _ | exact Kd.V_nil _ _ _ _ _ | exact Kd.Q_nil _ _ _ _ _ | exact Kd.S_nil _ _ _ _ _, czbl3 HB GE205 GE214 GE220⟩
 ·
  simp only [Option.some.injEq, Prod.mk.injEq] at H
  obtain ⟨rfl, rfl, rfl⟩ := H
  go_wp2
  go_ret3
  exact ⟨_, czeq, by first | exact Kd.R_nil _ _ _ _ _ | exact Kd.N_nil _ _ _ _ _ | exact Kd.V_nil _ _ _ _ _ | exact Kd.Q_nil _ _ _ _ _ | exact Kd.S_nil _ _ _ _ _, czbl2 HB GE205 GE214⟩

/-! ### vendmeterref_In: function 84 -/
def vendmeterref_In.f (a0 : Int) (a1 : Int) (a2 : Int) : Option (Bool) := if a0 ≥ a1 then (some (decide (a0 ≤ a2))) else (some false)
theorem vendmeterref_In.calls (a0 : Int) (a1 : Int) (a2 : Int) (r : Bool) (w : World) (h : vendmeterref_In.f a0 a1 a2 = some r) :
  Calls Tryz.prog 84 #[.int .i64 a0, .int .i64 a1, .int .i64 a2] w fun e w' => e = .returned (.bool r) ∧ Drawn0 w w' := by
 have H : (if a0 ≥ a1 then (some (decide (a0 ≤ a2))) else (some false)) = some r := h
 clear h
 by_cases c4 : a0 ≥ a1
 ·
  rw [if_pos c4] at H
  have c4b0 : decide (a1 ≤ a0) = true := decide_eq_true c4
  clear c4
  obtain rfl := Option.some.inj H
  go_enter Tryz.func84, Tryz.ntmps84
  go_wp2
  go_ret
  exact ⟨by first | rfl | (simp; done) | (simp [*]; done), by repeat (first | exact Drawn0.refl _ | apply Drawn0.step)⟩
 ·
  rw [if_neg c4] at H
  have c4b0 : decide (a1 ≤ a0) = false := decide_eq_false c4
  clear c4
  obtain rfl := Option.some.inj H
  go_enter Tryz.func84, Tryz.ntmps84
  go_wp2
  go_ret
  exact ⟨by first | rfl | (simp; done) | (simp [*]; done), by repeat (first | exact Drawn0.refl _ | apply Drawn0.step)⟩

/-! ### vendmeterref_SlotFits: function 75 -/
def vendmeterref_SlotFits.f (a0 : Int) (a1 : Int) : Option (Bool) := (vendmeterref_In.f a1 1 64).bind fun t234 => (if t234 = true then (some (a0 == (wrap64 ((wrap64 (2 * a1)) + 2)))) else (some false))
theorem vendmeterref_SlotFits.calls (a0 : Int) (a1 : Int) (r : Bool) (w : World) (h : vendmeterref_SlotFits.f a0 a1 = some r) :
  Calls Tryz.prog 75 #[.int .i64 a0, .int .i64 a1] w fun e w' => e = .returned (.bool r) ∧ Drawn0 w w' := by
 have H : ((vendmeterref_In.f a1 1 64).bind fun t234 => (if t234 = true then (some (a0 == (wrap64 ((wrap64 (2 * a1)) + 2)))) else (some false))) = some r := h
 clear h
 replace H := Option.bind_eq_some_iff.mp H
 obtain ⟨t234, A30, H⟩ := H
 (try dsimp only at H)
 have A3 := am A30
 clear A30
 by_cases c4 : t234 = true
 ·
  subst c4
  have H1 : (some (a0 == (wrap64 ((wrap64 (2 * a1)) + 2)))) = some r := by rw [if_pos rfl] at H; exact H
  clear H
  have H := H1
  clear H1
  obtain rfl := Option.some.inj H
  go_enter Tryz.func75, Tryz.ntmps75
  go_wp2_with (first | ((with_reducible refine gate_callee (f := 84) rfl ?_); refine czgo (some 6) Tryz.func84 #[.int .i64 a1, .int .i64 1, .int .i64 64] ?_; (with_reducible refine (vendmeterref_In.calls a1 1 64 true _ A3.out).mono ?_); rintro e w' ⟨rfl, ⟨nd, rfl⟩⟩; refine ⟨_, rfl, ?_⟩))
  go_ret
  exact ⟨by first | rfl | (simp; done) | (simp [*]; done), by repeat (first | exact Drawn0.refl _ | apply Drawn0.step)⟩
 ·
  replace c4 := Bool.eq_false_iff.mpr c4
  subst c4
  have H1 : (some false) = some r := by rw [if_neg (show ¬ (false = true) by decide)] at H; exact H
  clear H
  have H := H1
  clear H1
  obtain rfl := Option.some.inj H
  go_enter Tryz.func75, Tryz.ntmps75
  go_wp2_with (first | ((with_reducible refine gate_callee (f := 84) rfl ?_); refine czgo (some 6) Tryz.func84 #[.int .i64 a1, .int .i64 1, .int .i64 64] ?_; (with_reducible refine (vendmeterref_In.calls a1 1 64 false _ A3.out).mono ?_); rintro e w' ⟨rfl, ⟨nd, rfl⟩⟩; refine ⟨_, rfl, ?_⟩))
  go_ret
  exact ⟨by first | rfl | (simp; done) | (simp [*]; done), by repeat (first | exact Drawn0.refl _ | apply Drawn0.step)⟩

/-! ### vendmeterref_follows: function 102 -/
def vendmeterref_follows.f (a0 : Int) (a1 : Int) : Option (Bool) := if a0 = 1 then (if a1 = 2 then (some true) else (if a0 = 2 then (if a1 = 3 then (some true) else (if a0 = 3 then (some (a1 == 1)) else (some false))) else (if a0 = 3 then (some (a1 == 1)) else (some false)))) else (if a0 = 2 then (if a1 = 3 then (some true) else (if a0 = 3 then (some (a1 == 1)) else (some false))) else (if a0 = 3 then (some (a1 == 1)) else (some false)))
theorem vendmeterref_follows.calls (a0 : Int) (a1 : Int) (r : Bool) (w : World) (h : vendmeterref_follows.f a0 a1 = some r) :
  Calls Tryz.prog 102 #[.int .u32 a0, .int .u32 a1] w fun e w' => e = .returned (.bool r) ∧ Drawn0 w w' := by
 have H : (if a0 = 1 then (if a1 = 2 then (some true) else (if a0 = 2 then (if a1 = 3 then (some true) else (if a0 = 3 then (some (a1 == 1)) else (some false))) else (if a0 = 3 then (some (a1 == 1)) else (some false)))) else (if a0 = 2 then (if a1 = 3 then (some true) else (if a0 = 3 then (some (a1 == 1)) else (some false))) else (if a0 = 3 then (some (a1 == 1)) else (some false)))) = some r := h
 clear h
 revert H
 refine czei (fun c3b0 c3b1 H => ?_) (fun c3 c3b0 c3b1 H => ?_)
 ·
  revert H
  refine czei (fun c4b0 c4b1 H => ?_) (fun c4 c4b0 c4b1 H => ?_)
  ·
   obtain rfl := Option.some.inj H
   go_enter Tryz.func102, Tryz.ntmps102
   go_wp2
   go_ret
   exact ⟨by first | rfl | (simp; done) | (simp [*]; done), by repeat (first | exact Drawn0.refl _ | apply Drawn0.step)⟩
  ·
   revert H
   refine czei (fun c5b0 c5b1 H => ?_) (fun c5 c5b0 c5b1 H => ?_)
   ·
    revert H
    refine czei (fun c6b0 c6b1 H => ?_) (fun c6 c6b0 c6b1 H => ?_)
    ·
     obtain rfl := Option.some.inj H
     go_enter Tryz.func102, Tryz.ntmps102
     go_wp2
     go_ret
     exact ⟨by first | rfl | (simp; done) | (simp [*]; done), by repeat (first | exact Drawn0.refl _ | apply Drawn0.step)⟩
    ·
     revert H
     refine czei (fun c7b0 c7b1 H => ?_) (fun c7 c7b0 c7b1 H => ?_)
     ·
      obtain rfl := Option.some.inj H
      go_enter Tryz.func102, Tryz.ntmps102
      go_wp2
      go_ret
      exact ⟨by first | rfl | (simp; done) | (simp [*]; done), by repeat (first | exact Drawn0.refl _ | apply Drawn0.step)⟩
     ·
      obtain rfl := Option.some.inj H
      go_enter Tryz.func102, Tryz.ntmps102
      go_wp2
      go_ret
      exact ⟨by first | rfl | (simp; done) | (simp [*]; done), by repeat (first | exact Drawn0.refl _ | apply Drawn0.step)⟩
   ·
    revert H
    refine czei (fun c8b0 c8b1 H => ?_) (fun c8 c8b0 c8b1 H => ?_)
    ·
     obtain rfl := Option.some.inj H
     go_enter Tryz.func102, Tryz.ntmps102
     go_wp2
     go_ret
     exact ⟨by first | rfl | (simp; done) | (simp [*]; done), by repeat (first | exact Drawn0.refl _ | apply Drawn0.step)⟩
    ·
     obtain rfl := Option.some.inj H
     go_enter Tryz.func102, Tryz.ntmps102
     go_wp2
     go_ret
     exact ⟨by first | rfl | (simp; done) | (simp [*]; done), by repeat (first | exact Drawn0.refl _ | apply Drawn0.step)⟩
 ·
  revert H
  refine czei (fun c9b0 c9b1 H => ?_) (fun c9 c9b0 c9b1 H => ?_)
  ·
   revert H
   refine czei (fun c10b0 c10b1 H => ?_) (fun c10 c10b0 c10b1 H => ?_)
   ·
    obtain rfl := Option.some.inj H
    go_enter Tryz.func102, Tryz.ntmps102
    go_wp2
    go_ret
    exact ⟨by first | rfl | (simp; done) | (simp [*]; done), by repeat (first | exact Drawn0.refl _ | apply Drawn0.step)⟩
   ·
    revert H
    refine czei (fun c11b0 c11b1 H => ?_) (fun c11 c11b0 c11b1 H => ?_)
    ·
     obtain rfl := Option.some.inj H
     go_enter Tryz.func102, Tryz.ntmps102
     go_wp2
     go_ret
     exact ⟨by first | rfl | (simp; done) | (simp [*]; done), by repeat (first | exact Drawn0.refl _ | apply Drawn0.step)⟩
    ·
     obtain rfl := Option.some.inj H
     go_enter Tryz.func102, Tryz.ntmps102
     go_wp2
     go_ret
     exact ⟨by first | rfl | (simp; done) | (simp [*]; done), by repeat (first | exact Drawn0.refl _ | apply Drawn0.step)⟩
  ·
   revert H
   refine czei (fun c12b0 c12b1 H => ?_) (fun c12 c12b0 c12b1 H => ?_)
   ·
    obtain rfl := Option.some.inj H
    go_enter Tryz.func102, Tryz.ntmps102
    go_wp2
    go_ret
    exact ⟨by first | rfl | (simp; done) | (simp [*]; done), by repeat (first | exact Drawn0.refl _ | apply Drawn0.step)⟩
   ·
    obtain rfl := Option.some.inj H
    go_enter Tryz.func102, Tryz.ntmps102
    go_wp2
    go_ret
    exact ⟨by first | rfl | (simp; done) | (simp [*]; done), by repeat (first | exact Drawn0.refl _ | apply Drawn0.step)⟩

end Go.Proofs.YtcllddkmcnfejaaGreatDoor.PPocketKeys
