-- written by this session's program wip/xp/xprint.py (it drives the kit's print and adds to it)
import Derived.Test.YtcllddkmcnfejaaGreatDoorPPocketKeysx0
import Derived.Test.YtcllddkmcnfejaaGreatDoorPPocketKeysx5
import Derived.Test.YtcllddkmcnfejaaGreatDoorPPocketKeysx8
namespace Go.Proofs.YtcllddkmcnfejaaGreatDoor.PPocketKeys
open Go.RowKit Go.Proofs.YtcllddkmcnfejaaGreatDoorW.PrintWords Go.Proofs.YtcllddkmcnfejaaGreatDoorW.PrintLast Go.Proofs.YtcllddkmcnfejaaGreatDoorW.PrintMore
attribute [local go_sem] max2_int min2_int max_two min_two max_three min_three max_four min_four
set_option linter.unusedVariables false
set_option linter.unusedSimpArgs false
set_option maxHeartbeats 8000000
set_option maxRecDepth 100000

/-! ### oracle_of: function 99 -/
def oracle_of.f (a0_0 : Int) (a0_1 : Int) (a0_2 : Int) (a0_3 : Int) : Option (Int × Int × Int) := some (a0_0, a0_1, a0_2)
theorem oracle_of.calls (a0_0 : Int) (a0_1 : Int) (a0_2 : Int) (a0_3 : Int) (r1 : Int) (r2 : Int) (r3 : Int) (w : World) (h : oracle_of.f a0_0 a0_1 a0_2 a0_3 = some (r1, r2, r3)) :
  Calls Tryz.prog 99 #[.agg #[.int .i64 a0_0, .int .i64 a0_1, .int .i64 a0_2, .int .i64 a0_3]] w fun e w' => e = .returned (.agg #[.int .i64 r1, .int .i64 r2, .int .i64 r3]) ∧ Below w.heap.size w w' := by
 have hu55 := Tryz.underlying55
 have hu146 := Tryz.underlying146
 have HB := am (Below.refl w.heap.size w)
 have H : (some (a0_0, a0_1, a0_2)) = some (r1, r2, r3) := h
 clear h
 simp only [Option.some.injEq, Prod.mk.injEq] at H
 obtain ⟨rfl, rfl, rfl⟩ := H
 go_enter Tryz.func99, Tryz.ntmps99
 go_wp2_with (first | ((with_reducible refine gate_dst (N := 1) rfl ?_); refine czbox 1 #[.int .i64 a0_0, .int .i64 a0_1, .int .i64 a0_2, .int .i64 a0_3] 55 ?_; intro gb158 hg w2 hbox hb; have BK158 := am (hbox); have GW158 := czsz hg (czbl HB); have GE158 := czsz hg (czbl HB); replace HB := am (below_step (czbl HB) hb); clear hb hbox hg) | ((with_reducible refine gate_dst (N := 2) rfl ?_); refine czbox 2 #[.int .i64 0, .int .i64 0, .int .i64 0] 146 ?_; intro gb159 hg w3 hbox hb; have BK159 := am (hbox); have GW159 := czsz hg (czbl1 HB GE158); have GE159 := czsz hg (czbl1 HB GE158); have NB158_159 := czne BK158 hg; have NB159_158 := czen BK158 hg; replace BK158 := czbb BK158 hb; replace HB := am (below_step (czbl1 HB GE158) hb); clear hb hbox hg; have hnb4 := NB158_159.1; have hnc4 := NB159_158.1; obtain ⟨hcz5_0, hcz5_1, hcz5_2, hcz5_3⟩ := czc4 BK158.1; obtain ⟨hfz5_0, hfz5_1, hfz5_2, hfz5_3⟩ := czf4 BK158.1; obtain ⟨hcz6_0, hcz6_1, hcz6_2⟩ := czc3 BK159.1; obtain ⟨hfz6_0, hfz6_1, hfz6_2⟩ := czf3 BK159.1))
 refine bodyPost_ret (results_cell_row rfl _ _ gb159 146 #[.int .i64 a0_0, .int .i64 a0_1, .int .i64 a0_2] (0, 0) _ rfl (by (with_reducible repeat (first | apply czxn | apply czxd | apply czxa)); refine blk_put (cs := #[.int .i64 a0_0, .int .i64 a0_1, .int .i64 0]) ?_ 2 _ rfl; (with_reducible repeat (first | apply czxn | apply czxd | apply czxa)); refine blk_put (cs := #[.int .i64 a0_0, .int .i64 0, .int .i64 0]) ?_ 1 _ rfl; (with_reducible repeat (first | apply czxn | apply czxd | apply czxa)); refine blk_put (cs := #[.int .i64 0, .int .i64 0, .int .i64 0]) ?_ 0 _ rfl; (with_reducible repeat (first | apply czxn | apply czxd | apply czxa)); exact BK159.1) Tryz.underlying146 rfl (by kernel_rfl)) rfl ?_
 exact ⟨czeq, czbl2 HB GE158 GE159⟩

/-! ### oracle_what_may: function 100 -/
def oracle_what_may.f (a0_0 : Int) (a0_1 : Int) (a0_2 : Int) : Option (Bool) := if a0_0 ≥ 0 then (if a0_0 < 50 then (if a0_1 ≥ 0 then (if a0_1 ≤ 15 then (if a0_2 ≥ 0 then (some (decide (a0_2 ≤ 8796093022207))) else (some false)) else (some false)) else (some false)) else (some false)) else (some false)
theorem oracle_what_may.calls (a0_0 : Int) (a0_1 : Int) (a0_2 : Int) (r : Bool) (w : World) (h : oracle_what_may.f a0_0 a0_1 a0_2 = some r) :
  Calls Tryz.prog 100 #[.agg #[.int .i64 a0_0, .int .i64 a0_1, .int .i64 a0_2]] w fun e w' => e = .returned (.bool r) ∧ Below w.heap.size w w' := by
 have hu146 := Tryz.underlying146
 have HB := am (Below.refl w.heap.size w)
 have H : (if a0_0 ≥ 0 then (if a0_0 < 50 then (if a0_1 ≥ 0 then (if a0_1 ≤ 15 then (if a0_2 ≥ 0 then (some (decide (a0_2 ≤ 8796093022207))) else (some false)) else (some false)) else (some false)) else (some false)) else (some false)) = some r := h
 clear h
 have HC2 := am H
 clear H
 go_enter Tryz.func100, Tryz.ntmps100
 go_upto_region 1 with (first | ((with_reducible refine gate_dst (N := 1) rfl ?_); refine czbox 1 #[.int .i64 a0_0, .int .i64 a0_1, .int .i64 a0_2] 146 ?_; intro gb160 hg w3 hbox hb; have BK160 := am (hbox); have GW160 := czsz hg (czbl HB); have GE160 := czsz hg (czbl HB); replace HB := am (below_step (czbl HB) hb); clear hb hbox hg))
 have H := HC2.out
 clear HC2
 by_cases c4 : a0_0 ≥ 0
 ·
  rw [if_pos c4] at H
  have c4b0 : decide (0 ≤ a0_0) = true := decide_eq_true c4
  clear c4
  revert H
  refine czif (fun c5b0 H => ?_) (fun c5b0 H => ?_)
  ·
   by_cases c6 : a0_1 ≥ 0
   ·
    rw [if_pos c6] at H
    have c6b0 : decide (0 ≤ a0_1) = true := decide_eq_true c6
    clear c6
    revert H
    refine czif (fun c7b0 H => ?_) (fun c7b0 H => ?_)
    ·
     by_cases c8 : a0_2 ≥ 0
     ·
      rw [if_pos c8] at H
      have c8b0 : decide (0 ≤ a0_2) = true := decide_eq_true c8
      clear c8
      obtain rfl := Option.some.inj H
      obtain ⟨hcz9_0, hcz9_1, hcz9_2⟩ := czc3 BK160.1
      go_wp2
      go_ret
      exact ⟨czeq, czbl1 HB GE160⟩
     ·
      rw [if_neg c8] at H
      have c8b0 : decide (0 ≤ a0_2) = false := decide_eq_false c8
      clear c8
      obtain rfl := Option.some.inj H
      obtain ⟨hcz10_0, hcz10_1, hcz10_2⟩ := czc3 BK160.1
      go_wp2
      go_ret
      exact ⟨czeq, czbl1 HB GE160⟩
    ·
     obtain rfl := Option.some.inj H
     obtain ⟨hcz11_0, hcz11_1, hcz11_2⟩ := czc3 BK160.1
     go_wp2
     go_ret
     exact ⟨czeq, czbl1 HB GE160⟩
   ·
    rw [if_neg c6] at H
    have c6b0 : decide (0 ≤ a0_1) = false := decide_eq_false c6
    clear c6
    obtain rfl := Option.some.inj H
    obtain ⟨hcz12_0, hcz12_1, hcz12_2⟩ := czc3 BK160.1
    go_wp2
    go_ret
    exact ⟨czeq, czbl1 HB GE160⟩
  ·
   obtain rfl := Option.some.inj H
   obtain ⟨hcz13_0, hcz13_1, hcz13_2⟩ := czc3 BK160.1
   go_wp2
   go_ret
   exact ⟨czeq, czbl1 HB GE160⟩
 ·
  rw [if_neg c4] at H
  have c4b0 : decide (0 ≤ a0_0) = false := decide_eq_false c4
  clear c4
  obtain rfl := Option.some.inj H
  obtain ⟨hcz14_0, hcz14_1, hcz14_2⟩ := czc3 BK160.1
  go_wp2
  go_ret
  exact ⟨czeq, czbl1 HB GE160⟩

-- NOT PRINTED: function 67 (oracle_known)

/-! ### oracle_known -/
theorem oracle_known.eqK (d : Nat) (w : World) (x0 y0 x1 y1 x2 y2 : Int) :
  (Op.equalIn (d + 2) 146 (.agg #[.int .i64 x0, .int .i64 x1, .int .i64 x2]) (.agg #[.int .i64 y0, .int .i64 y1, .int .i64 y2])).run Tryz.prog w = .ok (x0 == y0 && (x1 == y1 && (x2 == y2))) w := by
 refine eqA_of Tryz.underlying146 (by kernel_rfl) ?_
 refine eqf_cons (by rfl) (by go_simp; rfl) (by go_simp; rfl) (by go_simp) ?_
 refine eqf_cons (by rfl) (by go_simp; rfl) (by go_simp; rfl) (by go_simp) ?_
 exact eqf_last (by rfl) (by go_simp; rfl) (by go_simp; rfl) (by go_simp)
def oracle_known.key (p : S55) : Value := .agg #[.int .i64 p.f0, .int .i64 p.f1, .int .i64 p.f2]
def oracle_known.ents : Nat → List S55 → List MapEntry
 | _, [] => []
 | k, p :: ps => { key := oracle_known.key p, val := .int .i64 p.f3, born := k } :: oracle_known.ents (k + 1) ps
def oracle_known.has (a b c : Int) (p : S55) : Bool := a == p.f0 && (b == p.f1 && (c == p.f2))
def oracle_known.find (a b c : Int) : Nat → List S55 → Option (Nat × Int)
 | _, [] => none
 | i, p :: ps => if oracle_known.has a b c p = true then some (i, p.f3) else oracle_known.find a b c (i + 1) ps
theorem oracle_known.asking (a b c : Int) (w : World) : ∀ (ps : List S55) (k i : Nat), (Instr.findAsking 146 (.agg #[.int .i64 a, .int .i64 b, .int .i64 c]) (oracle_known.ents k ps) i).run Tryz.prog w = .ok ((oracle_known.find a b c i ps).map fun x => (x.1, Value.int .i64 x.2)) w
 | [], k, i => rfl
 | p :: ps, k, i => by
  have h : (Op.equal 146 (.agg #[.int .i64 a, .int .i64 b, .int .i64 c]) (.agg #[.int .i64 p.f0, .int .i64 p.f1, .int .i64 p.f2])).run Tryz.prog w = .ok (oracle_known.has a b c p) w := oracle_known.eqK 9998 w a p.f0 b p.f1 c p.f2
  have ih := oracle_known.asking a b c w ps (k + 1) (i + 1)
  simp only [oracle_known.ents, oracle_known.key, Instr.findAsking, oracle_known.find, Sem.run_bind]
  rw [h]
  simp only [Result.andThen]
  by_cases hh : oracle_known.has a b c p = true
  ·
   rw [if_pos hh, if_pos hh]; rfl
  ·
   rw [if_neg hh, if_neg hh]; exact ih
theorem oracle_known.check (a b c : Int) (em : Bool) (w : World) : (Instr.checkKey em 10000 146 (.agg #[.int .i64 a, .int .i64 b, .int .i64 c])).run Tryz.prog w = .ok () w := by
 have hu := Tryz.underlying146
 have hi : ∀ x : Int, (Instr.checkKey em (9998 + 1) 3 (.int .i64 x)).run Tryz.prog w = .ok () w := fun x => by
  rw [Instr.checkKey]
  simp only [Sem.run_bind]
  try go_simp
 rw [show (10000 : Nat) = 9998 + 1 + 1 from rfl, Instr.checkKey]
 simp only [Sem.run_bind]
 go_simp
theorem oracle_known.finds (a b c : Int) (w : World) (k : Nat) (ps : List S55) : (Instr.findKey 146 (.agg #[.int .i64 a, .int .i64 b, .int .i64 c]) (oracle_known.ents k ps)).run Tryz.prog w = .ok ((oracle_known.find a b c 0 ps).map fun x => (x.1, Value.int .i64 x.2)) w := by
 have hu := Tryz.underlying146
 have hz : (underlying 146).run Tryz.prog w = .ok _ w := run_underlying hu w
 unfold Instr.findKey
 simp only [Sem.run_bind]
 rw [hz]
 simp only [Result.andThen]
 cases ps with
 | nil => rfl
 | cons p ps =>
  simp only [oracle_known.ents, oracle_known.key, Instr.findNow, Instr.sameNow]
  exact oracle_known.asking a b c w (p :: ps) k 0
def oracle_known.looked (a b c : Int) (ps : List S55) : Int × Bool := match oracle_known.find a b c 0 ps with | some (_, v) => (v, true) | none => (0, false)
theorem oracle_known.lookup (a b c : Int) (w : World) (g k cl : Nat) (ps : List S55) (hg : w.heap[g]? = some (.map (oracle_known.ents k ps).toArray cl)) :
  (Instr.lookup 116 (.map (some g)) (.agg #[.int .i64 a, .int .i64 b, .int .i64 c]) true).run Tryz.prog w = .ok (.tuple #[.int .i64 (oracle_known.looked a b c ps).1, .bool (oracle_known.looked a b c ps).2]) w := by
 have hu := Tryz.underlying116
 have hz : (underlying 116).run Tryz.prog w = .ok _ w := run_underlying hu w
 unfold Instr.lookup
 simp only [Sem.run_bind]
 rw [hz]
 simp only [Result.andThen]
 go_simp
 rw [show (getObj g).run Tryz.prog w = .ok (.map (oracle_known.ents k ps).toArray cl) w by simp [getObj, Sem.run, hg]]
 simp only [Result.andThen, Sem.run_bind]
 rw [oracle_known.check]
 simp only [Result.andThen]
 rw [oracle_known.finds]
 simp only [Result.andThen]
 unfold oracle_known.looked
 cases h : oracle_known.find a b c 0 ps with
 | none =>
  simp only [Option.map_none]
  have hz : (zeroValue 3).run Tryz.prog w = .ok (.int .i64 0) w := by kernel_rfl
  go_simp
 | some x => obtain ⟨i, v⟩ := x; rfl
theorem oracle_known.update (a b c t : Int) (w : World) (g k cl : Nat) (ps : List S55) (hg : w.heap[g]? = some (.map (oracle_known.ents k ps).toArray cl)) (hn : oracle_known.find a b c 0 ps = none) :
  (Instr.mapUpdate 116 (.map (some g)) (.agg #[.int .i64 a, .int .i64 b, .int .i64 c]) (.int .i64 t)).run Tryz.prog w = .ok () (w.putObj g (.map ((oracle_known.ents k ps).toArray.push { key := .agg #[.int .i64 a, .int .i64 b, .int .i64 c], val := .int .i64 t, born := cl }) (cl + 1))) := by
 have hu := Tryz.underlying116
 have hz : (underlying 116).run Tryz.prog w = .ok _ w := run_underlying hu w
 unfold Instr.mapUpdate
 simp only [Sem.run_bind]
 rw [hz]
 simp only [Result.andThen]
 go_simp
 rw [show (getObj g).run Tryz.prog w = .ok (.map (oracle_known.ents k ps).toArray cl) w by simp [getObj, Sem.run, hg]]
 simp only [Result.andThen, Sem.run_bind]
 rw [oracle_known.check]
 simp only [Result.andThen]
 rw [oracle_known.finds, hn]
 simp only [Result.andThen, Option.map_none]
 simp [setObj, Sem.run, hg, World.putObj]
theorem oracle_known.below_put {B : Nat} {w W : World} (h : Below B w W) {g : Nat} (hg : B ≤ g) (o : Obj) : Below B w (W.putObj g o) :=
 h.trans ⟨rfl, rfl, rfl, by simp [World.putObj], fun k hk => World.putObj_heap_other (by omega)⟩
def oracle_known.pm (p : S55) : Bool := decide ((0 ≤ p.f0 ∧ p.f0 < 50) ∧ (0 ≤ p.f1 ∧ p.f1 ≤ 15) ∧ (0 ≤ p.f2 ∧ p.f2 ≤ 8796093022207))
def oracle_known.tag (p : S55) : Bool := decide (0 ≤ p.f3 ∧ p.f3 ≤ 65535)
def oracle_known.good (l : List S55) : Nat → Nat → Bool
 | 0, _ => true
 | d + 1, i => (oracle_known.find (rd_T55 l (i : Int)).f0 (rd_T55 l (i : Int)).f1 (rd_T55 l (i : Int)).f2 0 (l.take i)).isNone && (oracle_known.pm (rd_T55 l (i : Int)) && (oracle_known.tag (rd_T55 l (i : Int)) && oracle_known.good l d (i + 1)))
def oracle_known.ok (l : List S55) : Bool := decide (l.length ≤ 500) && oracle_known.good l l.length 0
theorem oracle_known.ents_snoc (p : S55) : ∀ (l : List S55) (k : Nat), oracle_known.ents k (l ++ [p]) = oracle_known.ents k l ++ [{ key := oracle_known.key p, val := .int .i64 p.f3, born := k + l.length }]
 | [], k => by simp [oracle_known.ents]
 | a :: l, k => by
  have ih := oracle_known.ents_snoc p l (k + 1)
  simp only [List.cons_append, oracle_known.ents, ih, List.length_cons]
  rw [show k + 1 + l.length = k + (l.length + 1) by omega]
theorem oracle_known.take_snoc (l : List S55) (i : Nat) (h : i < l.length) : l.take (i + 1) = l.take i ++ [rd_T55 l (i : Int)] := by
 rw [List.take_succ_eq_append_getElem h]
 unfold rd_T55
 rw [List.getD_eq_getElem?_getD, Int.toNat_natCast, List.getElem?_eq_getElem h]; rfl
theorem oracle_known.may (p : S55) : oracle_what_may.f p.f0 p.f1 p.f2 = some (oracle_known.pm p) := by
 unfold oracle_what_may.f oracle_known.pm
 repeat' split
 all_goals (simp only [Option.some.injEq]; first | (rw [decide_eq_decide]; omega) | (rw [eq_comm, decide_eq_false_iff_not]; omega))
def oracle_known.Post (w : World) (l : List S55) (b : Bool) (e : Ending) (w' : World) : Prop :=
 (b = false ∧ e = .returned (.tuple #[.map none, .bool false]) ∧ Below w.heap.size w w') ∨ (b = true ∧ ∃ g, e = .returned (.tuple #[.map (some g), .bool true]) ∧ w'.heap[g]? = some (.map (oracle_known.ents 0 l).toArray l.length) ∧ Below w.heap.size w w')
set_option maxHeartbeats 4000000 in
set_option maxRecDepth 100000 in
theorem oracle_known.calls (A0 : Option Addr) (c0 : Nat) (l : List S55) (w : World) (hr0 : Kd.C k55 w A0 l.length l) :
  Calls Tryz.prog 67 #[.agg #[.slice A0 l.length c0]] w (oracle_known.Post w l (oracle_known.ok l)) := by
 have hu24 := Tryz.underlying25
 have hu83 := Tryz.underlying55
 have hu88 := Tryz.underlying146
 have HR0 := am hr0
 clear hr0
 by_cases c1 : l.length ≤ 500
 ·
  have HOK : Aside0 (oracle_known.ok l = oracle_known.good l l.length 0) := ⟨by unfold oracle_known.ok; rw [decide_eq_true c1, Bool.true_and]⟩
  have d1 : decide ((l.length : Int) > 500) = false := decide_eq_false (by omega)
  have hmm := @run_makeMap Tryz.prog
  go_enter Tryz.func67, Tryz.ntmps67
  go_wp2
  go_loopg [2, 3, 18] l.length (fun kq v2 v3 v18 w' => ∃ i : Nat, v18 = .int .i64 (i : Int) ∧ v2 = .map none ∧ v3 = .bool false ∧ i ≤ l.length ∧ kq = l.length - i ∧ Aside0 (oracle_known.ok l = oracle_known.good l (l.length - i) i) ∧ Aside0 (w'.heap[w.heap.size + 1]? = some (.map (oracle_known.ents 0 (l.take i)).toArray i)) ∧ Aside0 (Below w.heap.size w w'))
  case atStart =>
   refine ⟨0, rfl, rfl, rfl, Nat.zero_le _, rfl, HOK, ⟨?_⟩, ⟨?_⟩⟩
   ·
    have := World.alloc_heap_new (w.alloc (.cells #[.slice A0 l.length c0] 25)) (.map #[] 0)
    rw [World.size_alloc] at this
    exact this
   ·
    repeat (first | exact Below.refl _ _ | apply below_alloc)
  case round =>
   obtain ⟨i, rfl, rfl, rfl, hi, rfl, HG, HM, HBW⟩ := hrel
   clear HOK hmm
   by_cases hlt : i < l.length
   ·
    have hltb : decide ((i : Int) < (l.length : Int)) = true := decide_eq_true (by omega)
    obtain ⟨ad, rfl, y0, y1, y2, y3⟩ := at_T55 (Kd.C_below HR0.out HBW.out) (i : Int) (by omega) (by omega)
    rw [Int.toNat_natCast] at y0 y1 y2 y3
    have HS := am (oracle_known.take_snoc l i hlt)
    have HG2 := HG.out
    rw [show l.length - i = (l.length - (i + 1)) + 1 by omega, oracle_known.good] at HG2
    obtain ⟨u, hu⟩ : ∃ u : S55, u = rd_T55 l (i : Int) := ⟨_, rfl⟩
    rw [← hu] at y0 y1 y2 y3 HG2
    rw [← hu] at HS
    clear hu
    have HG3 := am HG2
    clear HG2 HG
    have HLK := am (fun W (h : W.heap[w.heap.size + 1]? = some (.map (oracle_known.ents 0 (l.take i)).toArray i)) => oracle_known.lookup u.f0 u.f1 u.f2 W (w.heap.size + 1) 0 i (l.take i) h)
    cases hf : oracle_known.find u.f0 u.f1 u.f2 0 (l.take i) with
    | some x =>
     have HE : Aside0 (oracle_known.ok l = false) := ⟨by rw [HG3.out, hf]; rfl⟩
     have HLK : Aside0 (∀ W : World, W.heap[w.heap.size + 1]? = some (Obj.map (oracle_known.ents 0 (l.take i)).toArray i) → (Instr.lookup 116 (.map (some (w.heap.size + 1))) (.agg #[.int .i64 u.f0, .int .i64 u.f1, .int .i64 u.f2]) true).run Tryz.prog W = .ok (.tuple #[.int .i64 x.2, .bool true]) W) := ⟨by have := HLK.out; unfold oracle_known.looked at this; rw [hf] at this; exact this⟩
     clear HG3 hf
     go_wp2_with (go_at_call 99; refine (oracle_of.calls _ _ _ _ _ _ _ _ rfl).mono ?_; rintro e w1 ⟨rfl, hb1⟩; have HB1 := am (below_then (B := w.heap.size) (w := w) (by repeat (first | exact HBW.out | apply below_alloc)) (by have := HBW.out.size; simp; omega) hb1); have HM1 : Aside0 (w1.heap[w.heap.size + 1]? = some (.map (oracle_known.ents 0 (l.take i)).toArray i)) := ⟨(hb1.block _ (by have := blk_lt HM.out; simp; omega)).trans ((Below.heap_alloc _ _ _ (blk_lt HM.out)).trans HM.out)⟩; have HP1 : Aside0 (w1.heap[wr.heap.size]? = some (.cells #[.int .i64 u.f0, .int .i64 u.f1, .int .i64 u.f2, .int .i64 u.f3] 55 (0, 0))) := ⟨(hb1.block _ (by simp)).trans (World.alloc_heap_new wr _)⟩; have pc3 : ∀ o, (w1.alloc o).cell? ⟨wr.heap.size, 3, none⟩ = some (.int .i64 u.f3) := fun o => (blk_cell (blk_alloc HP1.out o) 3).trans rfl; have hlk := HLK.out (w1.alloc (.cells #[.int .i64 u.f0, .int .i64 u.f1, .int .i64 u.f2] 146)) (blk_alloc HM1.out _); clear hb1)
     go_ret2
     rw [HE.out]
     exact .inl ⟨rfl, rfl, by repeat (first | exact HB1.out | apply below_alloc)⟩
    | none =>
     have HF := am hf
     have HLK : Aside0 (∀ W : World, W.heap[w.heap.size + 1]? = some (Obj.map (oracle_known.ents 0 (l.take i)).toArray i) → (Instr.lookup 116 (.map (some (w.heap.size + 1))) (.agg #[.int .i64 u.f0, .int .i64 u.f1, .int .i64 u.f2]) true).run Tryz.prog W = .ok (.tuple #[.int .i64 0, .bool false]) W) := ⟨by have := HLK.out; unfold oracle_known.looked at this; rw [hf] at this; exact this⟩
     have HG4 : Aside0 (oracle_known.ok l = (oracle_known.pm u && (oracle_known.tag u && oracle_known.good l (l.length - (i + 1)) (i + 1)))) := ⟨by rw [HG3.out, hf]; rfl⟩
     clear HG3 hf
     cases hpm : oracle_known.pm u with
     | false =>
      have HE : Aside0 (oracle_known.ok l = false) := ⟨by rw [HG4.out, hpm]; rfl⟩
      have HMAY := am ((oracle_known.may u).trans (congrArg some hpm))
      clear HG4 hpm
      go_wp2_with (first | (go_at_call 99; refine (oracle_of.calls _ _ _ _ _ _ _ _ rfl).mono ?_; rintro e w1 ⟨rfl, hb1⟩; have HB1 := am (below_then (B := w.heap.size) (w := w) (by repeat (first | exact HBW.out | apply below_alloc)) (by have := HBW.out.size; simp; omega) hb1); have HM1 : Aside0 (w1.heap[w.heap.size + 1]? = some (.map (oracle_known.ents 0 (l.take i)).toArray i)) := ⟨(hb1.block _ (by have := blk_lt HM.out; simp; omega)).trans ((Below.heap_alloc _ _ _ (blk_lt HM.out)).trans HM.out)⟩; have HP1 : Aside0 (w1.heap[wr.heap.size]? = some (.cells #[.int .i64 u.f0, .int .i64 u.f1, .int .i64 u.f2, .int .i64 u.f3] 55 (0, 0))) := ⟨(hb1.block _ (by simp)).trans (World.alloc_heap_new wr _)⟩; have pc3 : ∀ o, (w1.alloc o).cell? ⟨wr.heap.size, 3, none⟩ = some (.int .i64 u.f3) := fun o => (blk_cell (blk_alloc HP1.out o) 3).trans rfl; have hlk := HLK.out (w1.alloc (.cells #[.int .i64 u.f0, .int .i64 u.f1, .int .i64 u.f2] 146)) (blk_alloc HM1.out _); clear hb1) | (go_at_call 100; refine (oracle_what_may.calls _ _ _ _ _ HMAY.out).mono ?_; rintro e w2 ⟨rfl, hb2⟩; have HB2 := am (below_then (B := w.heap.size) (w := w) (by repeat (first | exact HB1.out | apply below_alloc)) (by have := HB1.out.size; simp; omega) hb2); have HM2 : Aside0 (w2.heap[w.heap.size + 1]? = some (.map (oracle_known.ents 0 (l.take i)).toArray i)) := ⟨(hb2.block _ (by have := blk_lt HM1.out; simp; omega)).trans ((Below.heap_alloc _ _ _ (blk_lt HM1.out)).trans HM1.out)⟩; have HP2 : Aside0 (w2.heap[wr.heap.size]? = some (.cells #[.int .i64 u.f0, .int .i64 u.f1, .int .i64 u.f2, .int .i64 u.f3] 55 (0, 0))) := ⟨(hb2.block _ (by have := blk_lt HP1.out; simp; omega)).trans ((Below.heap_alloc _ _ _ (blk_lt HP1.out)).trans HP1.out)⟩; have HK2 : Aside0 (w2.heap[w1.heap.size]? = some (.cells #[.int .i64 u.f0, .int .i64 u.f1, .int .i64 u.f2] 146 (0, 0))) := ⟨(hb2.block _ (by simp)).trans (World.alloc_heap_new w1 _)⟩; have pc3 := (blk_cell HP2.out 3).trans rfl; have kc0 := (blk_cell HK2.out 0).trans rfl; have kc1 := (blk_cell HK2.out 1).trans rfl; have kc2 := (blk_cell HK2.out 2).trans rfl; clear hb2))
      go_ret2
      rw [HE.out]
      exact .inl ⟨rfl, rfl, HB2.out⟩
     | true =>
      have HMAY := am ((oracle_known.may u).trans (congrArg some hpm))
      have HG5 : Aside0 (oracle_known.ok l = (oracle_known.tag u && oracle_known.good l (l.length - (i + 1)) (i + 1))) := ⟨by rw [HG4.out, hpm]; rfl⟩
      clear HG4 hpm
      by_cases h0 : u.f3 < 0
      ·
       have HE : Aside0 (oracle_known.ok l = false) := ⟨by rw [HG5.out, show oracle_known.tag u = false from decide_eq_false (by omega)]; rfl⟩
       have q0 : decide (u.f3 < 0) = true := decide_eq_true h0
       clear HG5 h0
       go_wp2_with (first | (go_at_call 99; refine (oracle_of.calls _ _ _ _ _ _ _ _ rfl).mono ?_; rintro e w1 ⟨rfl, hb1⟩; have HB1 := am (below_then (B := w.heap.size) (w := w) (by repeat (first | exact HBW.out | apply below_alloc)) (by have := HBW.out.size; simp; omega) hb1); have HM1 : Aside0 (w1.heap[w.heap.size + 1]? = some (.map (oracle_known.ents 0 (l.take i)).toArray i)) := ⟨(hb1.block _ (by have := blk_lt HM.out; simp; omega)).trans ((Below.heap_alloc _ _ _ (blk_lt HM.out)).trans HM.out)⟩; have HP1 : Aside0 (w1.heap[wr.heap.size]? = some (.cells #[.int .i64 u.f0, .int .i64 u.f1, .int .i64 u.f2, .int .i64 u.f3] 55 (0, 0))) := ⟨(hb1.block _ (by simp)).trans (World.alloc_heap_new wr _)⟩; have pc3 : ∀ o, (w1.alloc o).cell? ⟨wr.heap.size, 3, none⟩ = some (.int .i64 u.f3) := fun o => (blk_cell (blk_alloc HP1.out o) 3).trans rfl; have hlk := HLK.out (w1.alloc (.cells #[.int .i64 u.f0, .int .i64 u.f1, .int .i64 u.f2] 146)) (blk_alloc HM1.out _); clear hb1) | (go_at_call 100; refine (oracle_what_may.calls _ _ _ _ _ HMAY.out).mono ?_; rintro e w2 ⟨rfl, hb2⟩; have HB2 := am (below_then (B := w.heap.size) (w := w) (by repeat (first | exact HB1.out | apply below_alloc)) (by have := HB1.out.size; simp; omega) hb2); have HM2 : Aside0 (w2.heap[w.heap.size + 1]? = some (.map (oracle_known.ents 0 (l.take i)).toArray i)) := ⟨(hb2.block _ (by have := blk_lt HM1.out; simp; omega)).trans ((Below.heap_alloc _ _ _ (blk_lt HM1.out)).trans HM1.out)⟩; have HP2 : Aside0 (w2.heap[wr.heap.size]? = some (.cells #[.int .i64 u.f0, .int .i64 u.f1, .int .i64 u.f2, .int .i64 u.f3] 55 (0, 0))) := ⟨(hb2.block _ (by have := blk_lt HP1.out; simp; omega)).trans ((Below.heap_alloc _ _ _ (blk_lt HP1.out)).trans HP1.out)⟩; have HK2 : Aside0 (w2.heap[w1.heap.size]? = some (.cells #[.int .i64 u.f0, .int .i64 u.f1, .int .i64 u.f2] 146 (0, 0))) := ⟨(hb2.block _ (by simp)).trans (World.alloc_heap_new w1 _)⟩; have pc3 := (blk_cell HP2.out 3).trans rfl; have kc0 := (blk_cell HK2.out 0).trans rfl; have kc1 := (blk_cell HK2.out 1).trans rfl; have kc2 := (blk_cell HK2.out 2).trans rfl; clear hb2))
       go_ret2
       rw [HE.out]
       exact .inl ⟨rfl, rfl, HB2.out⟩
      ·
       have q0 : decide (u.f3 < 0) = false := decide_eq_false h0
       by_cases h1 : u.f3 > 65535
       ·
        have HE : Aside0 (oracle_known.ok l = false) := ⟨by rw [HG5.out, show oracle_known.tag u = false from decide_eq_false (by omega)]; rfl⟩
        have q1 : decide (u.f3 > 65535) = true := decide_eq_true h1
        clear HG5 h0 h1
        go_wp2_with (first | (go_at_call 99; refine (oracle_of.calls _ _ _ _ _ _ _ _ rfl).mono ?_; rintro e w1 ⟨rfl, hb1⟩; have HB1 := am (below_then (B := w.heap.size) (w := w) (by repeat (first | exact HBW.out | apply below_alloc)) (by have := HBW.out.size; simp; omega) hb1); have HM1 : Aside0 (w1.heap[w.heap.size + 1]? = some (.map (oracle_known.ents 0 (l.take i)).toArray i)) := ⟨(hb1.block _ (by have := blk_lt HM.out; simp; omega)).trans ((Below.heap_alloc _ _ _ (blk_lt HM.out)).trans HM.out)⟩; have HP1 : Aside0 (w1.heap[wr.heap.size]? = some (.cells #[.int .i64 u.f0, .int .i64 u.f1, .int .i64 u.f2, .int .i64 u.f3] 55 (0, 0))) := ⟨(hb1.block _ (by simp)).trans (World.alloc_heap_new wr _)⟩; have pc3 : ∀ o, (w1.alloc o).cell? ⟨wr.heap.size, 3, none⟩ = some (.int .i64 u.f3) := fun o => (blk_cell (blk_alloc HP1.out o) 3).trans rfl; have hlk := HLK.out (w1.alloc (.cells #[.int .i64 u.f0, .int .i64 u.f1, .int .i64 u.f2] 146)) (blk_alloc HM1.out _); clear hb1) | (go_at_call 100; refine (oracle_what_may.calls _ _ _ _ _ HMAY.out).mono ?_; rintro e w2 ⟨rfl, hb2⟩; have HB2 := am (below_then (B := w.heap.size) (w := w) (by repeat (first | exact HB1.out | apply below_alloc)) (by have := HB1.out.size; simp; omega) hb2); have HM2 : Aside0 (w2.heap[w.heap.size + 1]? = some (.map (oracle_known.ents 0 (l.take i)).toArray i)) := ⟨(hb2.block _ (by have := blk_lt HM1.out; simp; omega)).trans ((Below.heap_alloc _ _ _ (blk_lt HM1.out)).trans HM1.out)⟩; have HP2 : Aside0 (w2.heap[wr.heap.size]? = some (.cells #[.int .i64 u.f0, .int .i64 u.f1, .int .i64 u.f2, .int .i64 u.f3] 55 (0, 0))) := ⟨(hb2.block _ (by have := blk_lt HP1.out; simp; omega)).trans ((Below.heap_alloc _ _ _ (blk_lt HP1.out)).trans HP1.out)⟩; have HK2 : Aside0 (w2.heap[w1.heap.size]? = some (.cells #[.int .i64 u.f0, .int .i64 u.f1, .int .i64 u.f2] 146 (0, 0))) := ⟨(hb2.block _ (by simp)).trans (World.alloc_heap_new w1 _)⟩; have pc3 := (blk_cell HP2.out 3).trans rfl; have kc0 := (blk_cell HK2.out 0).trans rfl; have kc1 := (blk_cell HK2.out 1).trans rfl; have kc2 := (blk_cell HK2.out 2).trans rfl; clear hb2))
        go_ret2
        rw [HE.out]
        exact .inl ⟨rfl, rfl, HB2.out⟩
       ·
        have q1 : decide (u.f3 > 65535) = false := decide_eq_false h1
        have HE : Aside0 (oracle_known.ok l = oracle_known.good l (l.length - (i + 1)) (i + 1)) := ⟨by rw [HG5.out, show oracle_known.tag u = true from decide_eq_true (by omega)]; rfl⟩
        clear HG5 h0 h1
        go_wp2_with (first | (go_at_call 99; refine (oracle_of.calls _ _ _ _ _ _ _ _ rfl).mono ?_; rintro e w1 ⟨rfl, hb1⟩; have HB1 := am (below_then (B := w.heap.size) (w := w) (by repeat (first | exact HBW.out | apply below_alloc)) (by have := HBW.out.size; simp; omega) hb1); have HM1 : Aside0 (w1.heap[w.heap.size + 1]? = some (.map (oracle_known.ents 0 (l.take i)).toArray i)) := ⟨(hb1.block _ (by have := blk_lt HM.out; simp; omega)).trans ((Below.heap_alloc _ _ _ (blk_lt HM.out)).trans HM.out)⟩; have HP1 : Aside0 (w1.heap[wr.heap.size]? = some (.cells #[.int .i64 u.f0, .int .i64 u.f1, .int .i64 u.f2, .int .i64 u.f3] 55 (0, 0))) := ⟨(hb1.block _ (by simp)).trans (World.alloc_heap_new wr _)⟩; have pc3 : ∀ o, (w1.alloc o).cell? ⟨wr.heap.size, 3, none⟩ = some (.int .i64 u.f3) := fun o => (blk_cell (blk_alloc HP1.out o) 3).trans rfl; have hlk := HLK.out (w1.alloc (.cells #[.int .i64 u.f0, .int .i64 u.f1, .int .i64 u.f2] 146)) (blk_alloc HM1.out _); clear hb1) | (go_at_call 100; refine (oracle_what_may.calls _ _ _ _ _ HMAY.out).mono ?_; rintro e w2 ⟨rfl, hb2⟩; have HB2 := am (below_then (B := w.heap.size) (w := w) (by repeat (first | exact HB1.out | apply below_alloc)) (by have := HB1.out.size; simp; omega) hb2); have HM2 : Aside0 (w2.heap[w.heap.size + 1]? = some (.map (oracle_known.ents 0 (l.take i)).toArray i)) := ⟨(hb2.block _ (by have := blk_lt HM1.out; simp; omega)).trans ((Below.heap_alloc _ _ _ (blk_lt HM1.out)).trans HM1.out)⟩; have HP2 : Aside0 (w2.heap[wr.heap.size]? = some (.cells #[.int .i64 u.f0, .int .i64 u.f1, .int .i64 u.f2, .int .i64 u.f3] 55 (0, 0))) := ⟨(hb2.block _ (by have := blk_lt HP1.out; simp; omega)).trans ((Below.heap_alloc _ _ _ (blk_lt HP1.out)).trans HP1.out)⟩; have HK2 : Aside0 (w2.heap[w1.heap.size]? = some (.cells #[.int .i64 u.f0, .int .i64 u.f1, .int .i64 u.f2] 146 (0, 0))) := ⟨(hb2.block _ (by simp)).trans (World.alloc_heap_new w1 _)⟩; have pc3 := (blk_cell HP2.out 3).trans rfl; have kc0 := (blk_cell HK2.out 0).trans rfl; have kc1 := (blk_cell HK2.out 1).trans rfl; have kc2 := (blk_cell HK2.out 2).trans rfl; have hup := oracle_known.update u.f0 u.f1 u.f2 u.f3 w2 (w.heap.size + 1) 0 i (l.take i) HM2.out HF.out; clear hb2))
        go_roundg (l.length - (i + 1))
        case measure => omega
        case rel =>
         refine ⟨i + 1, by first | rfl | go_num, rfl, rfl, hlt, rfl, HE, ⟨?_⟩, ⟨oracle_known.below_put HB2.out (Nat.le_succ _) _⟩⟩
         rw [World.putObj_heap_same (blk_lt HM2.out), HS.out, oracle_known.ents_snoc, Nat.zero_add, List.length_take, Nat.min_eq_left hi]
         rfl
   ·
    have hltb : decide ((i : Int) < (l.length : Int)) = false := decide_eq_false (by omega)
    have HE : Aside0 (oracle_known.ok l = true) := ⟨by rw [HG.out, show l.length - i = 0 by omega]; rfl⟩
    have HM2 : Aside0 (wr.heap[w.heap.size + 1]? = some (.map (oracle_known.ents 0 l).toArray l.length)) := ⟨by have := HM.out; rw [List.take_of_length_le (by omega), show i = l.length by omega] at this; exact this⟩
    go_wp2
    go_ret2
    rw [HE.out]
    exact .inr ⟨rfl, _, rfl, HM2.out, HBW.out⟩
 ·
  have HE : Aside0 (oracle_known.ok l = false) := ⟨by unfold oracle_known.ok; rw [decide_eq_false c1, Bool.false_and]⟩
  have d1 : decide ((l.length : Int) > 500) = true := decide_eq_true (by omega)
  go_enter Tryz.func67, Tryz.ntmps67
  go_wp2
  go_ret2
  rw [HE.out]
  exact .inl ⟨rfl, rfl, below_alloc (Below.refl _ _) _⟩
theorem oracle_known.no {l : List S55} (hok : oracle_known.ok l = false) (A0 : Option Addr) (c0 : Nat) (w : World) (hr0 : Kd.C k55 w A0 l.length l) :
  Calls Tryz.prog 67 #[.agg #[.slice A0 l.length c0]] w fun e w' => e = .returned (.tuple #[.map none, .bool false]) ∧ Below w.heap.size w w' :=
 (oracle_known.calls A0 c0 l w hr0).mono fun e w' h => by
  rcases h with ⟨_, h1, h2⟩ | ⟨h1, _⟩
  ·
   exact ⟨h1, h2⟩
  ·
   rw [hok] at h1; cases h1
theorem oracle_known.yes {l : List S55} (hok : oracle_known.ok l = true) (A0 : Option Addr) (c0 : Nat) (w : World) (hr0 : Kd.C k55 w A0 l.length l) :
  Calls Tryz.prog 67 #[.agg #[.slice A0 l.length c0]] w fun e w' => ∃ g, e = .returned (.tuple #[.map (some g), .bool true]) ∧ w'.heap[g]? = some (.map (oracle_known.ents 0 l).toArray l.length) ∧ Below w.heap.size w w' :=
 (oracle_known.calls A0 c0 l w hr0).mono fun e w' h => by
  rcases h with ⟨h1, _⟩ | ⟨_, g, h1, h2, h3⟩
  ·
   rw [hok] at h1; cases h1
  ·
   exact ⟨g, h1, h2, h3⟩

/-! ### oracle_May -/
def oracle_May.f (l : List S55) : Option Bool := some (oracle_known.ok l)
set_option maxHeartbeats 2000000 in
set_option maxRecDepth 100000 in
theorem oracle_May.calls (A0_0 : Option Addr) (c0_0 : Nat) (l0_0 : List (S55)) (r : Bool) (w : World) (hr0_0 : Kd.C k55 w A0_0 l0_0.length l0_0) (hc0_0 : l0_0.length ≤ c0_0) (h : oracle_May.f l0_0 = some r) :
  Calls Tryz.prog 29 #[.agg #[.slice A0_0 l0_0.length c0_0]] w fun e w' => e = .returned (.bool r) ∧ Below w.heap.size w w' := by
 have hu24 := Tryz.underlying25
 obtain rfl := Option.some.inj h
 have HR0 := am hr0_0
 clear hr0_0 h
 go_enter Tryz.func29, Tryz.ntmps29
 go_wp2_with (go_at_call 67; refine (oracle_known.calls _ _ l0_0 _ (Kd.C_below HR0.out (below_alloc (Below.refl _ _) _))).mono ?_; rintro e w1 hpost; have HB0 := am (below_alloc (Below.refl w.heap.size w) (.cells #[.slice A0_0 l0_0.length c0_0] 25)); rcases hpost with ⟨hb, rfl, hb1⟩ | ⟨hb, g, rfl, _, hb1⟩ <;> (have HB1 := am (below_then HB0.out HB0.out.size hb1); have HOK := am hb; clear hb1 hb))
 all_goals go_ret
 all_goals exact ⟨congrArg (fun b => Ending.returned (.bool b)) HOK.out.symm, HB1.out⟩

/-! ### token_Body: function 30 -/
def token_Body.f (a0_0 : Int) (a0_1 : Int) (a0_2 : Int) (a0_3 : Int) : Option (Int × Int) := (token_fault.f a0_0 a0_1 a0_2 a0_3).bind fun t162 => (if t162 = 0 then (some (Go.bits .or .i64 (wrap64 ((Go.bits .or .i64 (wrap64 (a0_0 * 1048576)) a0_1) * 2097152)) a0_2, 0)) else (some (0, t162)))
theorem token_Body.calls (a0_0 : Int) (a0_1 : Int) (a0_2 : Int) (a0_3 : Int) (r1 : Int) (r2 : Int) (w : World) (h : token_Body.f a0_0 a0_1 a0_2 a0_3 = some (r1, r2)) :
  Calls Tryz.prog 30 #[.agg #[.int .i64 a0_0, .int .i64 a0_1, .int .i64 a0_2, .int .i64 a0_3]] w fun e w' => e = .returned (.tuple #[.int .i64 r1, .int .i64 r2]) ∧ Below w.heap.size w w' := by
 have hu44 := Tryz.underlying44
 have HB := am (Below.refl w.heap.size w)
 have H : ((token_fault.f a0_0 a0_1 a0_2 a0_3).bind fun t162 => (if t162 = 0 then (some (Go.bits .or .i64 (wrap64 ((Go.bits .or .i64 (wrap64 (a0_0 * 1048576)) a0_1) * 2097152)) a0_2, 0)) else (some (0, t162)))) = some (r1, r2) := h
 clear h
 replace H := Option.bind_eq_some_iff.mp H
 obtain ⟨t162, A20, H⟩ := H
 (try dsimp only at H)
 have A2 := am A20
 clear A20
 have HC3 := am H
 clear H
 go_enter Tryz.func30, Tryz.ntmps30
 go_upto_region 2 with (first | ((with_reducible refine gate_dst (N := 1) rfl ?_); refine czbox 1 #[.int .i64 a0_0, .int .i64 a0_1, .int .i64 a0_2, .int .i64 a0_3] 44 ?_; intro gb161 hg w4 hbox hb; have BK161 := am (hbox); have GW161 := czsz hg (czbl HB); have GE161 := czsz hg (czbl HB); replace HB := am (below_step (czbl HB) hb); clear hb hbox hg; obtain ⟨hcz5_0, hcz5_1, hcz5_2, hcz5_3⟩ := czc4 BK161.1) | ((with_reducible refine gate_callee (f := 27) rfl ?_); refine czgo (some 6) Tryz.func27 #[.agg #[.int .i64 a0_0, .int .i64 a0_1, .int .i64 a0_2, .int .i64 a0_3]] ?_; (with_reducible refine (token_fault.calls a0_0 a0_1 a0_2 a0_3 t162 _ A2.out).mono ?_); rintro e w6 ⟨rfl, hb⟩; refine ⟨_, rfl, ?_⟩; replace BK161 := czbb BK161 hb; replace HB := am (below_step (czbl1 HB GE161) hb); (try clear hb hb2 hk hi)))
 have H := HC3.out
 clear HC3
 revert H
 refine czei (fun c7b0 c7b1 H => ?_) (fun c7 c7b0 c7b1 H => ?_)
 ·
  simp only [Option.some.injEq, Prod.mk.injEq] at H
  obtain ⟨rfl, rfl⟩ := H
  obtain ⟨hcz8_0, hcz8_1, hcz8_2, hcz8_3⟩ := czc4 BK161.1
  go_wp2
  go_ret2
  exact ⟨czeq, czbl1 HB GE161⟩
 ·
  simp only [Option.some.injEq, Prod.mk.injEq] at H
  obtain ⟨rfl, rfl⟩ := H
  go_wp2
  go_ret2
  exact ⟨czeq, czbl1 HB GE161⟩

/-! ### oracle_Verify -/
def oracle_Verify.f (l : List S55) (a b c t : Int) : Option Bool := some (oracle_known.ok l && match oracle_known.find a b c 0 l with | some (_, v) => v == t | none => false)
set_option maxHeartbeats 2000000 in
set_option maxRecDepth 100000 in
theorem oracle_Verify.calls (A0_0 : Option Addr) (c0_0 : Nat) (l0_0 : List (S55)) (a1 a2 a3 a4 : Int) (r : Bool) (w : World) (hr0_0 : Kd.C k55 w A0_0 l0_0.length l0_0) (hc0_0 : l0_0.length ≤ c0_0) (h : oracle_Verify.f l0_0 a1 a2 a3 a4 = some r) :
  Calls Tryz.prog 68 #[.agg #[.slice A0_0 l0_0.length c0_0], .int .i64 a1, .int .i64 a2, .int .i64 a3, .int .i64 a4] w fun e w' => e = .returned (.bool r) ∧ Below w.heap.size w w' := by
 have hu24 := Tryz.underlying25
 have hu88 := Tryz.underlying146
 have hr := Option.some.inj h
 have HR0 := am (Kd.C_below hr0_0 (below_alloc (Below.refl _ _) (.cells #[.slice A0_0 l0_0.length c0_0] 25)))
 clear hr0_0 h
 have HB0 := am (below_alloc (Below.refl w.heap.size w) (.cells #[.slice A0_0 l0_0.length c0_0] 25))
 cases hok : oracle_known.ok l0_0 with
 | false =>
  have HR2 : Aside0 (r = false) := ⟨by rw [← hr, hok]; rfl⟩
  have HOK := am hok
  clear hok hr
  go_enter Tryz.func68, Tryz.ntmps68
  go_wp2_with (go_at_call 67; refine (oracle_known.no HOK.out _ _ _ HR0.out).mono ?_; rintro e w1 ⟨rfl, hb1⟩; have HB1 := am (below_then HB0.out HB0.out.size hb1); clear hb1)
  go_ret
  exact ⟨congrArg (fun b => Ending.returned (.bool b)) HR2.out.symm, HB1.out⟩
 | true =>
  rw [hok] at hr
  have HOK := am hok
  clear hok
  cases hf : oracle_known.find a1 a2 a3 0 l0_0 with
  | none =>
   have HR2 : Aside0 (r = false) := ⟨by rw [← hr, hf]; rfl⟩
   have HF := am hf
   clear hf hr
   go_enter Tryz.func68, Tryz.ntmps68
   go_wp2_with (go_at_call 67; refine (oracle_known.yes HOK.out _ _ _ HR0.out).mono ?_; rintro e w1 ⟨g, rfl, hg1, hb1⟩; have HB1 := am (below_then HB0.out HB0.out.size hb1); have hlk := oracle_known.lookup a1 a2 a3 w1 g 0 _ l0_0 hg1; unfold oracle_known.looked at hlk; rw [HF.out] at hlk; clear hb1 hg1)
   go_ret
   exact ⟨congrArg (fun b => Ending.returned (.bool b)) HR2.out.symm, HB1.out⟩
  | some x =>
   obtain ⟨m, v⟩ := x
   have HR2 : Aside0 (r = (v == a4)) := ⟨by rw [← hr, hf]; rfl⟩
   have HF := am hf
   clear hf hr
   go_enter Tryz.func68, Tryz.ntmps68
   go_wp2_with (go_at_call 67; refine (oracle_known.yes HOK.out _ _ _ HR0.out).mono ?_; rintro e w1 ⟨g, rfl, hg1, hb1⟩; have HB1 := am (below_then HB0.out HB0.out.size hb1); have hlk := oracle_known.lookup a1 a2 a3 w1 g 0 _ l0_0 hg1; unfold oracle_known.looked at hlk; rw [HF.out] at hlk; clear hb1 hg1)
   go_ret
   exact ⟨congrArg (fun b => Ending.returned (.bool b)) HR2.out.symm, HB1.out⟩

-- NOT PRINTED: function 31 (meter_state_sold)

/-! ### window_Judge: function 101 -/
def window_Judge.j0 : Nat → Int → Bool → Int → Int → Option (Int)
 | 0, _, _, _, _ => none
 | k + 1, x5, x13, x166000, x166001 => if x13 = true then (some 2) else (if x5 ≥ 64 then (some 13) else (if x5 ≥ 0 then (if 0 ≤ x5 then (if (Go.bits .and .u64 (shr .u64 x166001 x5) 1) = 1 then (some 14) else (some 0)) else (none)) else (some 0)))
def window_Judge.f (k : Nat) (a0_0 : Int) (a0_1 : Int) (a1 : Int) : Option (Int) := (window_may.f k a0_0 a0_1).bind fun t166 => (if t166 = true then (if a1 < 1 then (window_Judge.j0 k (wrap64 (a0_0 - a1)) true a0_0 a0_1) else (window_Judge.j0 k (wrap64 (a0_0 - a1)) (decide (a1 > 1048575)) a0_0 a0_1)) else (some 5))
theorem window_Judge.mono_l : ∀ k, (∀ y0 y1 y2 y3, LeO (window_Judge.j0 k y0 y1 y2 y3) (window_Judge.j0 (k + 1) y0 y1 y2 y3))
 | 0 => fun _ _ _ _ r h => by simp [window_Judge.j0] at h
 | k + 1 => by
  have ih0 := window_Judge.mono_l k
  ·
   intro y0 y1 y2 y3
   unfold window_Judge.j0
   repeat' first
   | (with_reducible exact ih0 _ _ _ _)
   | (with_reducible exact window_may.mono _ _ _)
   | (with_reducible exact LeO.refl _)
   | (with_reducible exact LeO.none _)
   | (with_reducible refine LeO.ite ?_ ?_)
   | (with_reducible refine LeO.bind ?_ (fun _ => ?_))
theorem window_Judge.mono : ∀ a0 a1 a2 k, LeO (window_Judge.f k a0 a1 a2) (window_Judge.f (k + 1) a0 a1 a2) := by
 intro a0 a1 a2 k
 have ih0 := window_Judge.mono_l k
 unfold window_Judge.f
 repeat' first
   | (with_reducible exact ih0 _ _ _ _)
   | (with_reducible exact window_may.mono _ _ _)
   | (with_reducible exact LeO.refl _)
   | (with_reducible exact LeO.none _)
   | (with_reducible refine LeO.ite ?_ ?_)
   | (with_reducible refine LeO.bind ?_ (fun _ => ?_))
theorem window_Judge.calls (k : Nat) (a0_0 : Int) (a0_1 : Int) (a1 : Int) (r : Int) (w : World) (h : window_Judge.f k a0_0 a0_1 a1 = some r) :
  Calls Tryz.prog 101 #[.agg #[.int .i64 a0_0, .int .u64 a0_1], .int .i64 a1] w fun e w' => e = .returned (.int .i64 r) ∧ Below w.heap.size w w' := by
 have hu38 := Tryz.underlying38
 have HB := am (Below.refl w.heap.size w)
 have H : ((window_may.f k a0_0 a0_1).bind fun t166 => (if t166 = true then (if a1 < 1 then (window_Judge.j0 k (wrap64 (a0_0 - a1)) true a0_0 a0_1) else (window_Judge.j0 k (wrap64 (a0_0 - a1)) (decide (a1 > 1048575)) a0_0 a0_1)) else (some 5))) = some r := h
 clear h
 replace H := Option.bind_eq_some_iff.mp H
 obtain ⟨t166, A30, H⟩ := H
 (try dsimp only at H)
 have A3 := am A30
 clear A30
 by_cases c4 : t166 = true
 ·
  subst c4
  have H1 : (if a1 < 1 then (window_Judge.j0 k (wrap64 (a0_0 - a1)) true a0_0 a0_1) else (window_Judge.j0 k (wrap64 (a0_0 - a1)) (decide (a1 > 1048575)) a0_0 a0_1)) = some r := by rw [if_pos rfl] at H; exact H
  clear H
  have H := H1
  clear H1
  have HC5 := am H
  clear H
  go_enter Tryz.func101, Tryz.ntmps101
  go_upto_region 4 with (first | ((with_reducible refine gate_dst (N := 2) rfl ?_); refine czbox 2 #[.int .i64 a0_0, .int .u64 a0_1] 38 ?_; intro gb165 hg w6 hbox hb; have BK165 := am (hbox); have GW165 := czsz hg (czbl HB); have GE165 := czsz hg (czbl HB); replace HB := am (below_step (czbl HB) hb); clear hb hbox hg; obtain ⟨hcz7_0, hcz7_1⟩ := czc2 BK165.1) | ((with_reducible refine gate_callee (f := 97) rfl ?_); refine czgo (some 7) Tryz.func97 #[.agg #[.int .i64 a0_0, .int .u64 a0_1]] ?_; (with_reducible refine (window_may.calls k a0_0 a0_1 true _ A3.out).mono ?_); rintro e w8 ⟨rfl, hb⟩; refine ⟨_, rfl, ?_⟩; replace BK165 := czbb BK165 hb; replace HB := am (below_step (czbl1 HB GE165) hb); (try clear hb hb2 hk hi); obtain ⟨hcz9_0, hcz9_1⟩ := czc2 BK165.1))
  (try simp only [Act.put, List.setIfInBounds_toArray, List.set_cons_zero, List.set_cons_succ])
  go_cut [13] (fun v13 wc => ∃ (kq : Nat) (x13_4 : Bool), v13 = .bool x13_4 ∧ Aside0 (window_Judge.j0 kq (wrap64 (a0_0 - a1)) x13_4 a0_0 a0_1 = some r) ∧ Aside0 (kq ≤ k) ∧ Aside0 (wc.heap[gb165]? = some (.cells #[.int .i64 a0_0, .int .u64 a0_1] 38 (0, 0))) ∧ Aside0 (Below w.heap.size w wc))
  case first =>
   have H := HC5.out
   clear HC5
   revert H
   refine czif (fun c10b0 H => ?_) (fun c10b0 H => ?_)
   ·
    (first | rw [c10b0] | (simp only [i64_w, i32_w]; rw [c10b0]) | skip)
    have H' := am H
    clear H
    go_wp2
    go_meet
    case rel => exact ⟨_, (true), czr, H', ⟨by first | omega | exact Nat.le_refl _⟩, ⟨czbk BK165⟩, ⟨czbl1 HB GE165⟩⟩
   ·
    (first | rw [c10b0] | (simp only [i64_w, i32_w]; rw [c10b0]) | skip)
    have H' := am H
    clear H
    go_wp2
    go_meet
    case rel => exact ⟨_, (decide (a1 > 1048575)), czr, H', ⟨by first | omega | exact Nat.le_refl _⟩, ⟨czbk BK165⟩, ⟨czbl1 HB GE165⟩⟩
  case rest =>
   clear HC5
   try clear c1
   try clear p2
   try clear c4
   try clear p6
   try clear c9
   try clear c10
   try clear c10b0
   try clear hcz7_0
   try clear hcz7_1
   try clear hcz9_0
   try clear hcz9_1
   try clear hfz7_0
   try clear hfz7_1
   try clear hfz9_0
   try clear hfz9_1
   obtain ⟨kq, x13_4, rfl, HA, HJ4, BK165, HB⟩ := hcut
   cases kq with
   | zero => exact absurd HA.out (by simp [window_Judge.j0])
   | succ kj4 =>
    have H := HA.out
    clear HA
    simp only [window_Judge.j0] at H
    by_cases c11 : x13_4 = true
    ·
     subst c11
     have H1 : (some 2) = some r := by rw [if_pos rfl] at H; exact H
     clear H
     have H := H1
     clear H1
     obtain rfl := Option.some.inj H
     go_wp2
     go_ret
     exact ⟨czeq, czbl1 HB GE165⟩
    ·
     replace c11 := Bool.eq_false_iff.mpr c11
     subst c11
     have H1 : (if (wrap64 (a0_0 - a1)) ≥ 64 then (some 13) else (if (wrap64 (a0_0 - a1)) ≥ 0 then (if 0 ≤ (wrap64 (a0_0 - a1)) then (if (Go.bits .and .u64 (shr .u64 a0_1 (wrap64 (a0_0 - a1))) 1) = 1 then (some 14) else (some 0)) else (none)) else (some 0))) = some r := by rw [if_neg (show ¬ (false = true) by decide)] at H; exact H
     clear H
     have H := H1
     clear H1
     by_cases c12 : (wrap64 (a0_0 - a1)) ≥ 64
     ·
      rw [if_pos c12] at H
      have c12b0 : decide (64 ≤ (wrap64 (a0_0 - a1))) = true := decide_eq_true c12
      clear c12
      obtain rfl := Option.some.inj H
      go_wp2
      go_ret
      exact ⟨czeq, czbl1 HB GE165⟩
     ·
      rw [if_neg c12] at H
      have c12b0 : decide (64 ≤ (wrap64 (a0_0 - a1))) = false := decide_eq_false c12
      clear c12
      by_cases c13 : (wrap64 (a0_0 - a1)) ≥ 0
      ·
       rw [if_pos c13] at H
       have c13b0 : decide (0 ≤ (wrap64 (a0_0 - a1))) = true := decide_eq_true c13
       clear c13
       obtain ⟨ji14, hji14⟩ : ∃ j_ : Int, (wrap64 (a0_0 - a1)) = j_ := ⟨_, rfl⟩
       replace H : (if 0 ≤ (ji14) then (if (Go.bits .and .u64 (shr .u64 a0_1 (ji14)) 1) = 1 then (some 14) else (some 0)) else (none)) = some r := by first | (rw [hji14] at H; exact H) | (simp only [hji14] at H ⊢; exact H)
       (try rw [hji14] at c12b0)
       (try rw [hji14] at c13b0)
       have hji14w : (IntKind.i64.wrap (a0_0 - a1)) = ji14 := (i64_w _).trans hji14
       by_cases c15 : 0 ≤ (ji14)
       ·
        rw [if_pos c15] at H
        have c15b0 := eq_true c15
        have c15b1 : decide (0 ≤ (ji14)) = true := decide_eq_true c15
        clear c15
        obtain ⟨ji16, hji16⟩ : ∃ j_ : Int, (shr .u64 a0_1 (ji14)) = j_ := ⟨_, rfl⟩
        replace H : (if (Go.bits .and .u64 (ji16) 1) = 1 then (some 14) else (some 0)) = some r := by first | (rw [hji16] at H; exact H) | (simp only [hji16] at H ⊢; exact H)
        have hji16_ : (a0_1 / 2 ^ min (ji14).toNat 64) = ji16 := hji16
        have hji16z : (ji14) ≤ 64 → (a0_1 / 2 ^ (ji14).toNat) = ji16 := shr_small hji16
        revert H
        refine czei (fun c17b0 c17b1 H => ?_) (fun c17 c17b0 c17b1 H => ?_)
        ·
         obtain rfl := Option.some.inj H
         obtain ⟨hcz18_0, hcz18_1⟩ := czc2 BK165.1
         go_wp2
         go_ret
         exact ⟨by first | rfl | (simp [errW_none, errW_some] <;> rfl) | (simp only [← hji14, ← hji16]; first | rfl | (simp [errW_none, errW_some] <;> rfl)) | (simp [*, errW_none, errW_some] <;> rfl), czbl1 HB GE165⟩
        ·
         obtain rfl := Option.some.inj H
         obtain ⟨hcz19_0, hcz19_1⟩ := czc2 BK165.1
         go_wp2
         go_ret
         exact ⟨by first | rfl | (simp [errW_none, errW_some] <;> rfl) | (simp only [← hji14, ← hji16]; first | rfl | (simp [errW_none, errW_some] <;> rfl)) | (simp [*, errW_none, errW_some] <;> rfl), czbl1 HB GE165⟩
       ·
        rw [if_neg c15] at H
        exact absurd H (by simp)
      ·
       rw [if_neg c13] at H
       have c13b0 : decide (0 ≤ (wrap64 (a0_0 - a1))) = false := decide_eq_false c13
       clear c13
       obtain rfl := Option.some.inj H
       go_wp2
       go_ret
       exact ⟨czeq, czbl1 HB GE165⟩
 ·
  replace c4 := Bool.eq_false_iff.mpr c4
  subst c4
  have H1 : (some 5) = some r := by rw [if_neg (show ¬ (false = true) by decide)] at H; exact H
  clear H
  have H := H1
  clear H1
  obtain rfl := Option.some.inj H
  go_enter Tryz.func101, Tryz.ntmps101
  go_wp2_with (first | ((with_reducible refine gate_dst (N := 2) rfl ?_); refine czbox 2 #[.int .i64 a0_0, .int .u64 a0_1] 38 ?_; intro gb165 hg w20 hbox hb; have BK165 := am (hbox); have GW165 := czsz hg (czbl HB); have GE165 := czsz hg (czbl HB); replace HB := am (below_step (czbl HB) hb); clear hb hbox hg; obtain ⟨hcz21_0, hcz21_1⟩ := czc2 BK165.1) | ((with_reducible refine gate_callee (f := 97) rfl ?_); refine czgo (some 7) Tryz.func97 #[.agg #[.int .i64 a0_0, .int .u64 a0_1]] ?_; (with_reducible refine (window_may.calls k a0_0 a0_1 false _ A3.out).mono ?_); rintro e w22 ⟨rfl, hb⟩; refine ⟨_, rfl, ?_⟩; replace BK165 := czbb BK165 hb; replace HB := am (below_step (czbl1 HB GE165) hb); (try clear hb hb2 hk hi)))
  go_ret
  exact ⟨czeq, czbl1 HB GE165⟩

/-! ### window_Take: function 69 -/
def window_Take.f (k : Nat) (a0_0 : Int) (a0_1 : Int) (a1 : Int) : Option (Int × Int × Int) := (window_Judge.f k a0_0 a0_1 a1).bind fun t169 => (if t169 = 0 then (if a1 > a0_0 then (if 0 ≤ (wrap64 (a1 - a0_0)) then (some (a1, Go.bits .or .u64 (shl .u64 a0_1 (wrap64 (a1 - a0_0))) 1, 0)) else (none)) else (if 0 ≤ (wrap64 (a0_0 - a1)) then (some (a0_0, Go.bits .or .u64 a0_1 (shl .u64 1 (wrap64 (a0_0 - a1))), 0)) else (none))) else (some (0, 0, t169)))
theorem window_Take.mono : ∀ a0 a1 a2 k, LeO (window_Take.f k a0 a1 a2) (window_Take.f (k + 1) a0 a1 a2) := by
 intro a0 a1 a2 k
 unfold window_Take.f
 repeat' first
   | (with_reducible exact window_Judge.mono _ _ _ _)
   | (with_reducible exact LeO.refl _)
   | (with_reducible exact LeO.none _)
   | (with_reducible refine LeO.ite ?_ ?_)
   | (with_reducible refine LeO.bind ?_ (fun _ => ?_))
def window_Take.T7 : Bool × List (List Nat × List Nat) := (true, [([], []), ([0], [0]), ([], []), ([2], [2]), ([], []), ([3, 4], [3, 4]), ([5], [5]), ([1, 6], [1, 6]), ([0, 1, 2, 3, 4, 5, 6, 7], []), ([8, 7, 0, 1, 2, 3, 4, 5, 6, 7], [7, 8])])
def window_Take.B7 : List Nat := [0, 1, 0, 4, 0, 28, 60, 127, 255, 511]
theorem window_Take.tab7 : rtab .any (opsOf Tryz.f69 7) = window_Take.T7 := by kernel_rfl
theorem window_Take.bits7 : waitsOk window_Take.T7.2 window_Take.B7 = true := by kernel_rfl
theorem window_Take.calls (k : Nat) (a0_0 : Int) (a0_1 : Int) (a1 : Int) (r1 : Int) (r2 : Int) (r3 : Int) (w : World) (h : window_Take.f k a0_0 a0_1 a1 = some (r1, r2, r3)) :
  Calls Tryz.prog 69 #[.agg #[.int .i64 a0_0, .int .u64 a0_1], .int .i64 a1] w fun e w' => e = .returned (.tuple #[.agg #[.int .i64 r1, .int .u64 r2], .int .i64 r3]) ∧ Below w.heap.size w w' := by
 have hu38 := Tryz.underlying38
 have HB := am (Below.refl w.heap.size w)
 have H : ((window_Judge.f k a0_0 a0_1 a1).bind fun t169 => (if t169 = 0 then (if a1 > a0_0 then (if 0 ≤ (wrap64 (a1 - a0_0)) then (some (a1, Go.bits .or .u64 (shl .u64 a0_1 (wrap64 (a1 - a0_0))) 1, 0)) else (none)) else (if 0 ≤ (wrap64 (a0_0 - a1)) then (some (a0_0, Go.bits .or .u64 a0_1 (shl .u64 1 (wrap64 (a0_0 - a1))), 0)) else (none))) else (some (0, 0, t169)))) = some (r1, r2, r3) := h
 clear h
 replace H := Option.bind_eq_some_iff.mp H
 obtain ⟨t169, A30, H⟩ := H
 (try dsimp only at H)
 have A3 := am A30
 clear A30
 revert H
 refine czei (fun c4b0 c4b1 H => ?_) (fun c4 c4b0 c4b1 H => ?_)
 ·
  by_cases c5 : a1 > a0_0
  ·
   rw [if_pos c5] at H
   have c5b0 : decide (a0_0 < a1) = true := decide_eq_true c5
   clear c5
   obtain ⟨ji6, hji6⟩ : ∃ j_ : Int, (wrap64 (a1 - a0_0)) = j_ := ⟨_, rfl⟩
   replace H : (if 0 ≤ (ji6) then (some (a1, Go.bits .or .u64 (shl .u64 a0_1 (ji6)) 1, 0)) else (none)) = some (r1, r2, r3) := by first | (rw [hji6] at H; exact H) | (simp only [hji6] at H ⊢; exact H)
   (try rw [hji6] at A3)
   have hji6w : (IntKind.i64.wrap (a1 - a0_0)) = ji6 := (i64_w _).trans hji6
   by_cases c7 : 0 ≤ (ji6)
   ·
    rw [if_pos c7] at H
    have c7b0 := eq_true c7
    have c7b1 : decide (0 ≤ (ji6)) = true := decide_eq_true c7
    clear c7
    obtain ⟨ji8, hji8⟩ : ∃ j_ : Int, (shl .u64 a0_1 (ji6)) = j_ := ⟨_, rfl⟩
    replace H : (some (a1, Go.bits .or .u64 (ji8) 1, 0)) = some (r1, r2, r3) := by first | (rw [hji8] at H; exact H) | (simp only [hji8] at H ⊢; exact H)
    (try rw [hji8] at A3)
    have hji8_ : (IntKind.u64.wrap (a0_1 * 2 ^ min (ji6).toNat 64)) = ji8 := hji8
    have hji8z : (ji6) ≤ 64 → (IntKind.u64.wrap (a0_1 * 2 ^ (ji6).toNat)) = ji8 := shl_small hji8
    simp only [Option.some.injEq, Prod.mk.injEq] at H
    obtain ⟨rfl, rfl, rfl⟩ := H
    go_enter Tryz.func69, Tryz.ntmps69
    go_wp2_with (first | ((with_reducible refine gate_dst (N := 2) rfl ?_); refine czbox 2 #[.int .i64 a0_0, .int .u64 a0_1] 38 ?_; intro gb167 hg w9 hbox hb; have BK167 := am (hbox); have GW167 := czsz hg (czbl HB); have GE167 := czsz hg (czbl HB); replace HB := am (below_step (czbl HB) hb); clear hb hbox hg) | ((with_reducible refine gate_dst (N := 4) rfl ?_); refine czbox 4 #[.int .i64 0, .int .u64 0] 38 ?_; intro gb168 hg w10 hbox hb; have BK168 := am (hbox); have GW168 := czsz hg (czbl1 HB GE167); have GE168 := czsz hg (czbl1 HB GE167); have NB167_168 := czne BK167 hg; have NB168_167 := czen BK167 hg; replace BK167 := czbb BK167 hb; replace HB := am (below_step (czbl1 HB GE167) hb); clear hb hbox hg; have hnb11 := NB167_168.1; have hnc11 := NB168_167.1; obtain ⟨hcz12_0, hcz12_1⟩ := czc2 BK167.1; obtain ⟨hfz12_0, hfz12_1⟩ := czf2 BK167.1) | ((with_reducible refine gate_callee (f := 101) rfl ?_); refine czgo (some 9) Tryz.func101 #[.agg #[.int .i64 a0_0, .int .u64 a0_1], .int .i64 a1] ?_; (with_reducible refine (window_Judge.calls k a0_0 a0_1 a1 t169 _ A3.out).mono ?_); rintro e w13 ⟨rfl, hb⟩; refine ⟨_, rfl, ?_⟩; replace BK167 := czbb BK167 hb; replace BK168 := czbb BK168 hb; replace HB := am (below_step (czbl2 HB GE167 GE168) hb); (try clear hb hb2 hk hi); obtain ⟨hcz14_0, hcz14_1⟩ := czc2 BK167.1; obtain ⟨hfz14_0, hfz14_1⟩ := czf2 BK167.1; obtain ⟨hcz15_0, hcz15_1⟩ := czc2 BK168.1; obtain ⟨hfz15_0, hfz15_1⟩ := czf2 BK168.1))
    refine bodyPost_ret (results_ct rfl _ _ gb168 38 #[.int .i64 a1, .int .u64 (Go.bits .or .u64 (ji8) 1)] (0, 0) _ rfl (by (with_reducible repeat (first | apply czxn | apply czxd | apply czxa)); refine blk_put (cs := #[.int .i64 a1, .int .u64 0]) ?_ 1 _ rfl; (with_reducible repeat (first | apply czxn | apply czxd | apply czxa)); refine blk_put (cs := #[.int .i64 0, .int .u64 0]) ?_ 0 _ rfl; (with_reducible repeat (first | apply czxn | apply czxd | apply czxa)); refine blk_far ?_ NB168_167.1 _; (with_reducible repeat (first | apply czxn | apply czxd | apply czxa)); refine blk_far ?_ NB168_167.1 _; (with_reducible repeat (first | apply czxn | apply czxd | apply czxa)); exact BK168.1) Tryz.underlying38 rfl (by kernel_rfl)) rfl ?_
    exact ⟨by first | rfl | (simp [errW_none, errW_some] <;> rfl) | (simp only [← hji6, ← hji8]; first | rfl | (simp [errW_none, errW_some] <;> rfl)) | (simp [*, errW_none, errW_some] <;> rfl), czbl2 HB GE167 GE168⟩
   ·
    rw [if_neg c7] at H
    exact absurd H (by simp)
  ·
   rw [if_neg c5] at H
   have c5b0 : decide (a0_0 < a1) = false := decide_eq_false c5
   clear c5
   obtain ⟨ji16, hji16⟩ : ∃ j_ : Int, (wrap64 (a0_0 - a1)) = j_ := ⟨_, rfl⟩
   replace H : (if 0 ≤ (ji16) then (some (a0_0, Go.bits .or .u64 a0_1 (shl .u64 1 (ji16)), 0)) else (none)) = some (r1, r2, r3) := by first | (rw [hji16] at H; exact H) | (simp only [hji16] at H ⊢; exact H)
   (try rw [hji16] at A3)
   have hji16w : (IntKind.i64.wrap (a0_0 - a1)) = ji16 := (i64_w _).trans hji16
   by_cases c17 : 0 ≤ (ji16)
   ·
    rw [if_pos c17] at H
    have c17b0 := eq_true c17
    have c17b1 : decide (0 ≤ (ji16)) = true := decide_eq_true c17
    clear c17
    obtain ⟨ji18, hji18⟩ : ∃ j_ : Int, (shl .u64 1 (ji16)) = j_ := ⟨_, rfl⟩
    replace H : (some (a0_0, Go.bits .or .u64 a0_1 (ji18), 0)) = some (r1, r2, r3) := by first | (rw [hji18] at H; exact H) | (simp only [hji18] at H ⊢; exact H)
    (try rw [hji18] at A3)
    have hji18_ : (IntKind.u64.wrap (1 * 2 ^ min (ji16).toNat 64)) = ji18 := hji18
    have hji18z : (ji16) ≤ 64 → (IntKind.u64.wrap (1 * 2 ^ (ji16).toNat)) = ji18 := shl_small hji18
    have hji18u : (IntKind.u64.wrap (2 ^ min (ji16).toNat 64)) = ji18 := by have h_ := hji18_; rw [Int.one_mul] at h_; exact h_
    have hji18v : (ji16) ≤ 64 → (IntKind.u64.wrap (2 ^ (ji16).toNat)) = ji18 := fun hle_ => by have h_ := hji18z hle_; rw [Int.one_mul] at h_; exact h_
    simp only [Option.some.injEq, Prod.mk.injEq] at H
    obtain ⟨rfl, rfl, rfl⟩ := H
    go_enter Tryz.func69, Tryz.ntmps69
    try go_wp2_with (first | ((with_reducible refine gate_dst (N := 2) rfl ?_); refine czbox 2 #[.int .i64 a0_0, .int .u64 a0_1] 38 ?_; intro gb167 hg w19 hbox hb; have BK167 := am (hbox); have GW167 := czsz hg (czbl HB); have GE167 := czsz hg (czbl HB); replace HB := am (below_step (czbl HB) hb); clear hb hbox hg) | ((with_reducible refine gate_dst (N := 4) rfl ?_); refine czbox 4 #[.int .i64 0, .int .u64 0] 38 ?_; intro gb168 hg w20 hbox hb; have BK168 := am (hbox); have GW168 := czsz hg (czbl1 HB GE167); have GE168 := czsz hg (czbl1 HB GE167); have NB167_168 := czne BK167 hg; have NB168_167 := czen BK167 hg; replace BK167 := czbb BK167 hb; replace HB := am (below_step (czbl1 HB GE167) hb); clear hb hbox hg; have hnb21 := NB167_168.1; have hnc21 := NB168_167.1; obtain ⟨hcz22_0, hcz22_1⟩ := czc2 BK167.1; obtain ⟨hfz22_0, hfz22_1⟩ := czf2 BK167.1) | ((with_reducible refine gate_callee (f := 101) rfl ?_); refine czgo (some 9) Tryz.func101 #[.agg #[.int .i64 a0_0, .int .u64 a0_1], .int .i64 a1] ?_; (with_reducible refine (window_Judge.calls k a0_0 a0_1 a1 t169 _ A3.out).mono ?_); rintro e w23 ⟨rfl, hb⟩; refine ⟨_, rfl, ?_⟩; replace BK167 := czbb BK167 hb; replace BK168 := czbb BK168 hb; replace HB := am (below_step (czbl2 HB GE167 GE168) hb); (try clear hb hb2 hk hi); obtain ⟨hcz24_0, hcz24_1⟩ := czc2 BK167.1; obtain ⟨hfz24_0, hfz24_1⟩ := czf2 BK167.1))
    have n0_ := am (blk_drew BK167.1)
    have n1_ := am (blk_drew BK168.1)
    have n2_ := am (below_drew1 HB.1)
    clear BK167
    clear BK168
    clear HB
    have BK167 := n0_
    have BK168 := n1_
    have HB := n2_
    clear n0_ n1_ n2_
    refine start_ (n := 10) (S := fun w' => w'.cell? ⟨gb167, 0, none⟩ = some (.int .i64 a0_0) ∧ w'.cell? ⟨gb167, 1, none⟩ = some (.int .u64 a0_1)) (ds := [9]) #[false, false, false, false, false, false, false, false, false, false] (by kernel_rfl) rfl rfl ⟨(blk_cell BK167.1 0).trans rfl, (blk_cell BK167.1 1).trans rfl⟩ (fun hHeld => ?_); refine with_tabW window_Take.tab7 window_Take.bits7 (fun HT_ HW_ => ?_)
    generalize w23.drew = w25 at BK167 BK168 HB hHeld ⊢
    refine pure_ (i := 0) (N := some 29) (v := ?_) (a' := ?_) #[true, false, false, false, false, false, false, false, false, false] rfl rfl (any_of HT_.out (by kernel_rfl)) (fun _ _ _ h => h) (Or.inl ⟨by rfl, ?_⟩) ?_ ?_
    rotate_left
    ·
     intro w'
     go_simp
     with_reducible rfl
    rotate_left
    ·
     simp only [Act.put, List.setIfInBounds_toArray, List.set_cons_zero, List.set_cons_succ, i64_w, i32_w]
     rfl
    refine pure_ (i := 2) (N := some 31) (v := ?_) (a' := ?_) #[true, false, true, false, false, false, false, false, false, false] rfl rfl (any_of HT_.out (by kernel_rfl)) (fun _ _ _ h => h) (Or.inl ⟨by rfl, ?_⟩) ?_ ?_
    rotate_left
    ·
     intro w'
     go_simp
     with_reducible rfl
    rotate_left
    ·
     simp only [Act.put, List.setIfInBounds_toArray, List.set_cons_zero, List.set_cons_succ, i64_w, i32_w]
     rfl
    refine pure_ (i := 4) (N := some 33) (v := ?_) (a' := ?_) #[true, false, true, false, true, false, false, false, false, false] rfl rfl (any_of HT_.out (by kernel_rfl)) (fun _ _ _ h => h) (Or.inl ⟨by rfl, ?_⟩) ?_ ?_
    rotate_left
    ·
     intro w'
     go_simp
     with_reducible rfl
    rotate_left
    ·
     simp only [Act.put, List.setIfInBounds_toArray, List.set_cons_zero, List.set_cons_succ, i64_w, i32_w]
     rfl
    refine take_ (i := 1) (N := some 30) (v := ?_) (a' := ?_) #[true, true, true, false, true, false, false, false, false, false] rfl rfl (take_ofW HT_.out HW_.out (by kernel_rfl)) (fun _ _ _ h => h) (Or.inl ⟨by rfl, ?_⟩) hHeld ?_ ?_
    rotate_left
    ·
     rintro w' ⟨s0, s1⟩
     go_simp
     with_reducible rfl
    rotate_left
    ·
     simp only [Act.put, List.setIfInBounds_toArray, List.set_cons_zero, List.set_cons_succ, i64_w, i32_w]
     rfl
    refine take_ (i := 3) (N := some 32) (v := ?_) (a' := ?_) #[true, true, true, true, true, false, false, false, false, false] rfl rfl (take_ofW HT_.out HW_.out (by kernel_rfl)) (fun _ _ _ h => h) (Or.inl ⟨by rfl, ?_⟩) hHeld ?_ ?_
    rotate_left
    ·
     rintro w' ⟨s0, s1⟩
     go_simp
     with_reducible rfl
    rotate_left
    ·
     simp only [Act.put, List.setIfInBounds_toArray, List.set_cons_zero, List.set_cons_succ, i64_w, i32_w]
     rfl
    refine pure_ (i := 5) (N := some 34) (v := ?_) (a' := ?_) #[true, true, true, true, true, true, false, false, false, false] rfl rfl (any_of HT_.out (by kernel_rfl)) (fun _ _ _ h => h) (Or.inl ⟨by rfl, ?_⟩) ?_ ?_
    rotate_left
    ·
     intro w'
     go_simp
     with_reducible rfl
    rotate_left
    ·
     simp only [Act.put, List.setIfInBounds_toArray, List.set_cons_zero, List.set_cons_succ, i64_w, i32_w]
     rfl
    refine pure_ (i := 6) (N := some 35) (v := ?_) (a' := ?_) #[true, true, true, true, true, true, true, false, false, false] rfl rfl (any_of HT_.out (by kernel_rfl)) (fun _ _ _ h => h) (Or.inl ⟨by rfl, ?_⟩) ?_ ?_
    rotate_left
    ·
     intro w'
     go_simp
     with_reducible rfl
    rotate_left
    ·
     simp only [Act.put, List.setIfInBounds_toArray, List.set_cons_zero, List.set_cons_succ, i64_w, i32_w]
     rfl
    refine pure_ (i := 7) (N := some 36) (v := ?_) (a' := ?_) #[true, true, true, true, true, true, true, true, false, false] rfl rfl (any_of HT_.out (by kernel_rfl)) (fun _ _ _ h => h) (Or.inl ⟨by rfl, ?_⟩) ?_ ?_
    rotate_left
    ·
     intro w'
     go_simp
     with_reducible rfl
    rotate_left
    ·
     simp only [Act.put, List.setIfInBounds_toArray, List.set_cons_zero, List.set_cons_succ, i64_w, i32_w]
     rfl
    refine pure_ (i := 8) (N := some 37) (v := ?_) (a' := ?_) #[true, true, true, true, true, true, true, true, true, false] rfl rfl (any_of HT_.out (by kernel_rfl)) (fun _ _ _ h => h) (Or.inl ⟨by rfl, ?_⟩) ?_ ?_
    rotate_left
    ·
     intro w'
     go_simp
     with_reducible rfl
    rotate_left
    ·
     simp only [Act.put, List.setIfInBounds_toArray, List.set_cons_zero, List.set_cons_succ, i64_w, i32_w]
     rfl
    refine last_ (i := 9) (N := none) #[true, true, true, true, true, true, true, true, true, true] rfl rfl (one_of HT_.out (by kernel_rfl)) (by decide) (fun K hK => ?_)
    have hs26 : w25.cell? ⟨gb167, 1, none⟩ = some (.int .u64 a0_1) := (blk_cell BK167.1 1).trans rfl
    have hfs26 := blk_frozen BK167.1 1
    have hns26_1 := NB168_167.1
    have hms26_1 := NB167_168.1
    refine skip_ (w1 := ?_) (by rfl) rfl ?_ ?_
    rotate_left
    ·
     go_simp
     rfl
    refine hK.out _ _ ?_
    clear hK K
    refine done_ (done_of HT_.out (by kernel_rfl)) ?_
    obtain ⟨hcz27_0, hcz27_1⟩ := czc2 BK167.1
    obtain ⟨hfz27_0, hfz27_1⟩ := czf2 BK167.1
    obtain ⟨hcz28_0, hcz28_1⟩ := czc2 BK168.1
    obtain ⟨hfz28_0, hfz28_1⟩ := czf2 BK168.1
    try go_wp2
    refine bodyPost_ret (results_ct rfl _ _ gb168 38 #[.int .i64 a0_0, .int .u64 (Go.bits .or .u64 a0_1 (ji18))] (0, 0) _ rfl (by (with_reducible repeat (first | apply czxn | apply czxd | apply czxa)); refine blk_put (cs := #[.int .i64 a0_0, .int .u64 0]) ?_ 1 _ rfl; (with_reducible repeat (first | apply czxn | apply czxd | apply czxa)); refine blk_put (cs := #[.int .i64 0, .int .u64 0]) ?_ 0 _ rfl; (with_reducible repeat (first | apply czxn | apply czxd | apply czxa)); refine blk_far ?_ NB168_167.1 _; (with_reducible repeat (first | apply czxn | apply czxd | apply czxa)); exact BK168.1) Tryz.underlying38 rfl (by kernel_rfl)) rfl ?_
    exact ⟨by first | rfl | (simp [errW_none, errW_some] <;> rfl) | (simp only [← hji16, ← hji18]; first | rfl | (simp [errW_none, errW_some] <;> rfl)) | (simp [*, errW_none, errW_some] <;> rfl), czbl2 HB GE167 GE168⟩
   ·
    rw [if_neg c17] at H
    exact absurd H (by simp)
 ·
  simp only [Option.some.injEq, Prod.mk.injEq] at H
  obtain ⟨rfl, rfl, rfl⟩ := H
  go_enter Tryz.func69, Tryz.ntmps69
  go_wp2_with (first | ((with_reducible refine gate_dst (N := 2) rfl ?_); refine czbox 2 #[.int .i64 a0_0, .int .u64 a0_1] 38 ?_; intro gb167 hg w29 hbox hb; have BK167 := am (hbox); have GW167 := czsz hg (czbl HB); have GE167 := czsz hg (czbl HB); replace HB := am (below_step (czbl HB) hb); clear hb hbox hg) | ((with_reducible refine gate_dst (N := 4) rfl ?_); refine czbox 4 #[.int .i64 0, .int .u64 0] 38 ?_; intro gb168 hg w30 hbox hb; have BK168 := am (hbox); have GW168 := czsz hg (czbl1 HB GE167); have GE168 := czsz hg (czbl1 HB GE167); have NB167_168 := czne BK167 hg; have NB168_167 := czen BK167 hg; replace BK167 := czbb BK167 hb; replace HB := am (below_step (czbl1 HB GE167) hb); clear hb hbox hg; have hnb31 := NB167_168.1; have hnc31 := NB168_167.1; obtain ⟨hcz32_0, hcz32_1⟩ := czc2 BK167.1; obtain ⟨hfz32_0, hfz32_1⟩ := czf2 BK167.1) | ((with_reducible refine gate_callee (f := 101) rfl ?_); refine czgo (some 9) Tryz.func101 #[.agg #[.int .i64 a0_0, .int .u64 a0_1], .int .i64 a1] ?_; (with_reducible refine (window_Judge.calls k a0_0 a0_1 a1 t169 _ A3.out).mono ?_); rintro e w33 ⟨rfl, hb⟩; refine ⟨_, rfl, ?_⟩; replace BK167 := czbb BK167 hb; replace BK168 := czbb BK168 hb; replace HB := am (below_step (czbl2 HB GE167 GE168) hb); (try clear hb hb2 hk hi); obtain ⟨hcz34_0, hcz34_1⟩ := czc2 BK168.1; obtain ⟨hfz34_0, hfz34_1⟩ := czf2 BK168.1))
  refine bodyPost_ret (results_ct rfl _ _ gb168 38 #[.int .i64 0, .int .u64 0] (0, 0) _ rfl (by (with_reducible repeat (first | apply czxn | apply czxd | apply czxa)); refine blk_put (cs := #[.int .i64 0, .int .u64 0]) ?_ 1 _ rfl; (with_reducible repeat (first | apply czxn | apply czxd | apply czxa)); refine blk_put (cs := #[.int .i64 0, .int .u64 0]) ?_ 0 _ rfl; (with_reducible repeat (first | apply czxn | apply czxd | apply czxa)); exact BK168.1) Tryz.underlying38 rfl (by kernel_rfl)) rfl ?_
  exact ⟨czeq, czbl2 HB GE167 GE168⟩

-- NOT PRINTED: function 32 (meter_state_take)

end Go.Proofs.YtcllddkmcnfejaaGreatDoor.PPocketKeys
