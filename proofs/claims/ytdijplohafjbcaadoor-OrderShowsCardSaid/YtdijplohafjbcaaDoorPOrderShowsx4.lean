-- written by this session's program wip/xp/xprint.py (it drives the kit's print and adds to it)
import Derived.Test.YtdijplohafjbcaaDoorPOrderShowsx0
import Derived.Test.YtdijplohafjbcaaDoorPOrderShowsx1
import Derived.Test.YtdijplohafjbcaaDoorPOrderShowsx2
import Derived.Test.YtdijplohafjbcaaDoorPOrderShowsx3
namespace Go.Proofs.YtdijplohafjbcaaDoor.POrderShows
open Go.RowKit Go.Proofs.YtdijplohafjbcaaDoorW.PrintWords Go.Proofs.YtdijplohafjbcaaDoorW.PrintLast Go.Proofs.YtdijplohafjbcaaDoorW.PrintMore
attribute [local go_sem] max2_int min2_int max_two min_two max_three min_three max_four min_four   -- for this text's walks alone
set_option linter.unusedVariables false
set_option linter.unusedSimpArgs false

section
variable {P : Program} {ops : Array Oper} {Q : Exit → Act → World → Prop} {md : Region.Mode} {S : World → Prop} {ds : List Nat}
/-- One operation of a region that draws its order, taken first wherever it may come up: it yields in every world. -/
theorem pp {oi : Oper} {v : Value} {fuel : Nat} {l l' : Array Bool} {a a' : Act} {w : World} (i n : Nat) (h : wpAnyLast P md ops Q S ds fuel l' a' w) (hi : ops[i]? = some oi := by rfl) (hN : oi.dst = some n := by rfl) (hl : l.setIfInBounds i true = l' := by (conv => lhs; simp only [List.setIfInBounds_toArray, List.set_cons_zero, List.set_cons_succ])) (hc : anyB md ops l l' i = true := by kernel_rfl) (hQ : ∀ c a w, Q (.panic c) (a.put oi.dst v) w → Q (.panic c) a w := by exact fun _ _ _ h => h) (hw : Region.wanted oi (yielded ops a.tmps) = true := by rfl)
    (hy : ∀ w', (execOp a.eval oi).run P w' = .ok (.value v) w' := by intro w'; go_simp; with_reducible rfl) (ha : a.put (some n) v = a' := by (conv => lhs; simp only [Act.put, List.setIfInBounds_toArray, List.set_cons_zero, List.set_cons_succ, i64_w, i32_w])) : wpAnyLast P md ops Q S ds (fuel + 1) l a w :=
  pure_ l' hi hN hc hQ (.inl ⟨hw, hy⟩) ha h
/-- The same for a load that is held: it yields in every world that meets S. -/
theorem tk {oi : Oper} {v : Value} {fuel : Nat} {l l' : Array Bool} {a a' : Act} {w : World} (i n : Nat) (h : wpAnyLast P md ops Q S ds fuel l' a' w) (hS : S w := by assumption) (hi : ops[i]? = some oi := by rfl) (hN : oi.dst = some n := by rfl) (hl : l.setIfInBounds i true = l' := by (conv => lhs; simp only [List.setIfInBounds_toArray, List.set_cons_zero, List.set_cons_succ])) (hc : takeB md ops ds l l' i = true := by kernel_rfl) (hQ : ∀ c a w, Q (.panic c) (a.put oi.dst v) w → Q (.panic c) a w := by exact fun _ _ _ h => h) (hw : Region.wanted oi (yielded ops a.tmps) = true := by rfl)
    (hy : ∀ w', S w' → (execOp a.eval oi).run P w' = .ok (.value v) w' := by intro w' hS; (repeat obtain ⟨_, hS⟩ := hS); go_simp; with_reducible rfl) (ha : a.put (some n) v = a' := by (conv => lhs; simp only [Act.put, List.setIfInBounds_toArray, List.set_cons_zero, List.set_cons_succ, i64_w, i32_w])) : wpAnyLast P md ops Q S ds (fuel + 1) l a w :=
  take_ l' hi hN hc hQ (.inl ⟨hw, hy⟩) hS ha h
end
theorem below_drawn {w W : World} (h : Drawn0 w W) : Below w.heap.size w W := by
  obtain ⟨n, rfl⟩ := h
  exact pw_below_drewN (Below.refl _ _) n

theorem in_f (v lo hi : Int) : vendmeterref_In.f v lo hi = some (decide (lo ≤ v ∧ v ≤ hi)) := by
  unfold vendmeterref_In.f
  by_cases h : v ≥ lo
  · rw [if_pos h]; congr 1; by_cases h2 : v ≤ hi <;> simp [h2] <;> omega
  · rw [if_neg h]; congr 1; exact (decide_eq_false (by omega)).symm
def decOk (k : Nat) (v : Int) : Bool := !(decide (okV v)) || decide (vendmeterref_Dec.f k v = some (itoaB v))
theorem decOk_mono {k : Nat} {v : Int} (h : decOk k v = true) : decOk (k + 1) v = true := by
  unfold decOk at *
  rcases Bool.or_eq_true_iff.mp h with h | h
  · rw [h]; rfl
  · rw [decide_eq_true (vendmeterref_Dec.mono v k _ (of_decide_eq_true h)), Bool.or_true]
theorem decOk_get {k : Nat} {v : Int} (h : decOk k v = true) (hv : okV v) : vendmeterref_Dec.f k v = some (itoaB v) := by
  unfold decOk at h
  rw [decide_eq_true hv] at h
  exact of_decide_eq_true h
def decsOk (k : Nat) (ct me A B C : Int) : Bool := decOk k ct && decOk k me && decOk k A && decOk k B && decOk k C
def npB (a : Bool) (v : Int) : ByteArray := if a then (⟨#[32]⟩ : ByteArray) ++ itoaB v else ⟨#[]⟩
theorem dg_len : ∀ (d u : Nat), u < 10 ^ (d + 1) → (Lib.decDigits u).length ≤ d + 1
  | 0, u, h => by rw [Lib.decDigits_one (by simpa using h)]; simp
  | d + 1, u, h => by
    by_cases h10 : u < 10
    · rw [Lib.decDigits_one h10]; simp
    · rw [Lib.decDigits, dif_neg h10]
      have := dg_len d (u / 10) (by rw [Nat.div_lt_iff_lt_mul (by decide)]; rw [Nat.pow_succ] at h; omega)
      simp
      omega
theorem itoaB_size {v : Int} (h : okV v) : (itoaB v).size ≤ 21 := by
  obtain ⟨u, rfl⟩ := Int.eq_ofNat_of_zero_le h.1
  unfold itoaB
  rw [Lib.itoa_nonneg]
  exact dg_len 20 u (by unfold okV at h; omega)
theorem npB_size {a : Bool} {v : Int} (h : a = true → okV v) : (npB a v).size ≤ 22 := by
  cases a
  · exact Nat.zero_le _
  · have := itoaB_size (h rfl)
    show ((⟨#[32]⟩ : ByteArray) ++ itoaB v).size ≤ 22
    rw [ByteArray.size_append]
    have : (⟨#[32]⟩ : ByteArray).size = 1 := rfl
    omega
theorem np_get {k : Nat} {a : Bool} {v : Int} (h : decOk k v = true) (hv : a = true → okV v) : vendmeterref_numberPart.f k a v = some (npB a v) := by
  unfold vendmeterref_numberPart.f
  cases a
  · rfl
  · rw [if_pos rfl, decOk_get h (hv rfl)]
    have := itoaB_size (hv rfl)
    show (if 1 + (itoaB v).size ≤ 9223372036854775807 then _ else _) = _
    rw [if_pos (by omega)]
    rfl
def okAll (a b c : Bool) (me A B C : Int) : Prop := okV me ∧ (a = true → okV A) ∧ (b = true → okV B) ∧ (c = true → okV C)
instance okAll_dec (a b c : Bool) (me A B C : Int) : Decidable (okAll a b c me A B C) := by unfold okAll; infer_instance
def zAll (a b c kk : Bool) (A B C : Int) (tx : ByteArray) : Prop := (a = true ∨ A = 0) ∧ (b = true ∨ B = 0) ∧ (c = true ∨ C = 0) ∧ (kk = true ∨ tx.size = 0)
instance zAll_dec (a b c kk : Bool) (A B C : Int) (tx : ByteArray) : Decidable (zAll a b c kk A B C tx) := by unfold zAll; infer_instance
def actL (wd : ByteArray) (a b c kk : Bool) (me A B C : Int) (tx : ByteArray) (ct : Int) : List ByteArray := preL ct ++ [wd] ++ ([itoaB me] ++ (if a then [itoaB A] else []) ++ (if b then [itoaB B] else []) ++ (if c then [itoaB C] else [])) ++ (if kk then [tx] else [])
/-- The reference's answer, where the document's numbers are had in k rounds: the same as the program's. -/
def vendmeterref_ActShown.g (wd : ByteArray) (a b c kk : Bool) (me A B C : Int) (tx : ByteArray) (ct : Int) : Option (ByteArray × Int) :=
  if okAll a b c me A B C then
    (if zAll a b c kk A B C tx then
      (if hasNl tx = false then showEnd (actL wd a b c kk me A B C tx ct) else some (⟨#[]⟩, 3)) else some (⟨#[]⟩, 3)) else some (⟨#[]⟩, 2)
theorem show_g (i : Nat) (hi : i < 7) (me A B C : Int) (tx : ByteArray) (ct : Int) : order_Show.g i me A B C tx ct = vendmeterref_ActShown.g (fw i) (fa i) (fb i) (fc i) (i == 5) me A B C tx ct := by
  have hc : i = 0 ∨ i = 1 ∨ i = 2 ∨ i = 3 ∨ i = 4 ∨ i = 5 ∨ i = 6 := by omega
  rcases hc with rfl | rfl | rfl | rfl | rfl | rfl | rfl
  · unfold order_Show.g vendmeterref_ActShown.g okAll zAll actL
    rw [show placeL (fa 0) (fb 0) (fc 0) = [1] from rfl]
    simp only [show fa 0 = false from rfl, show fb 0 = false from rfl, show fc 0 = false from rfl]
    simp [hit, actV, and_assoc]
    try (split <;> (try split) <;> (try split) <;> simp_all)
  · unfold order_Show.g vendmeterref_ActShown.g okAll zAll actL
    rw [show placeL (fa 1) (fb 1) (fc 1) = [1, 2, 3, 4] from rfl]
    simp only [show fa 1 = true from rfl, show fb 1 = true from rfl, show fc 1 = true from rfl]
    simp [hit, actV, and_assoc]
    try (split <;> (try split) <;> (try split) <;> simp_all)
  · unfold order_Show.g vendmeterref_ActShown.g okAll zAll actL
    rw [show placeL (fa 2) (fb 2) (fc 2) = [1, 2, 4] from rfl]
    simp only [show fa 2 = true from rfl, show fb 2 = false from rfl, show fc 2 = true from rfl]
    simp [hit, actV, and_assoc]
    try (split <;> (try split) <;> (try split) <;> simp_all)
  · unfold order_Show.g vendmeterref_ActShown.g okAll zAll actL
    rw [show placeL (fa 3) (fb 3) (fc 3) = [1, 4] from rfl]
    simp only [show fa 3 = false from rfl, show fb 3 = false from rfl, show fc 3 = true from rfl]
    simp [hit, actV, and_assoc]
    try (split <;> (try split) <;> (try split) <;> simp_all)
  · unfold order_Show.g vendmeterref_ActShown.g okAll zAll actL
    rw [show placeL (fa 4) (fb 4) (fc 4) = [1, 2, 3] from rfl]
    simp only [show fa 4 = true from rfl, show fb 4 = true from rfl, show fc 4 = false from rfl]
    simp [hit, actV, and_assoc]
    try (split <;> (try split) <;> (try split) <;> simp_all)
  · unfold order_Show.g vendmeterref_ActShown.g okAll zAll actL
    rw [show placeL (fa 5) (fb 5) (fc 5) = [1] from rfl]
    simp only [show fa 5 = false from rfl, show fb 5 = false from rfl, show fc 5 = false from rfl]
    simp [hit, actV, and_assoc]
    try (split <;> (try split) <;> (try split) <;> simp_all)
  · unfold order_Show.g vendmeterref_ActShown.g okAll zAll actL
    rw [show placeL (fa 6) (fb 6) (fc 6) = [1, 2] from rfl]
    simp only [show fa 6 = true from rfl, show fb 6 = false from rfl, show fc 6 = false from rfl]
    simp [hit, actV, and_assoc]
    try (split <;> (try split) <;> (try split) <;> simp_all)

def s0B (wd : ByteArray) (a b c : Bool) (me A B C : Int) : ByteArray := ((((wd ++ (⟨#[32]⟩ : ByteArray)) ++ itoaB me) ++ npB a A) ++ npB b B) ++ npB c C
def s1B (ct : Int) (s : ByteArray) : ByteArray := if 0 ≤ ct then (((⟨#[99, 117, 116, 32]⟩ : ByteArray) ++ itoaB ct) ++ (⟨#[32]⟩ : ByteArray)) ++ s else s
def s2B (kk : Bool) (tx s : ByteArray) : ByteArray := if kk then (s ++ (⟨#[32]⟩ : ByteArray)) ++ tx else s
theorem catB (a b : ByteArray) : (a ++ b).data.toList = a.data.toList ++ b.data.toList := by rw [ByteArray.data_append, Array.toList_append]
theorem join_cat (wd : ByteArray) (a b c kk : Bool) (me A B C : Int) (tx : ByteArray) (ct : Int) :
    Lib.join ((actL wd a b c kk me A B C tx ct).map (·.data.toList)) (⟨#[32]⟩ : ByteArray).data.toList = (s2B kk tx (s1B ct (s0B wd a b c me A B C))).data.toList := by
  unfold actL s2B s1B s0B npB preL
  by_cases hc : 0 ≤ ct
  · rw [if_pos hc, if_pos hc]
    cases a <;> cases b <;> cases c <;> cases kk <;> simp [Lib.join, catB]
  · rw [if_neg hc, if_neg hc]
    cases a <;> cases b <;> cases c <;> cases kk <;> simp [Lib.join, catB]
theorem show_cat {L : List ByteArray} {s r : ByteArray} {e : Int} (hj : Lib.join (L.map (·.data.toList)) (⟨#[32]⟩ : ByteArray).data.toList = s.data.toList) (h : showEnd L = some (r, e)) :
    s.size ≤ 140737488355328 ∧ (if s.size > 120 then ((⟨#[]⟩ : ByteArray), (1 : Int)) else (s, 0)) = (r, e) := by
  unfold showEnd strings_Join.f at h
  rw [hj] at h
  split at h
  · rename_i hc
    have hl : s.data.toList.length = s.size := Array.length_toList
    rw [Array.toArray_toList] at h
    refine ⟨hl ▸ hc.2, ?_⟩
    have h2 : (if s.size > 120 then some ((⟨#[]⟩ : ByteArray), (1 : Int)) else some (s, 0)) = some (r, e) := h
    by_cases g : s.size > 120
    · rw [if_pos g] at h2 ⊢; exact Option.some.inj h2
    · rw [if_neg g] at h2 ⊢; exact Option.some.inj h2
  · simp at h
theorem nl_get (tx : ByteArray) (j : Nat) (hj : j < tx.size) : tx.data.toList[j]? = some (UInt8.ofNat (bt tx j).toNat) := by
  rw [← bt_at tx (j : Int) hj]
  have h1 : j < tx.data.toList.length := by rw [Array.length_toList]; exact hj
  rw [List.getElem?_eq_getElem h1]
  congr 1
  show _ = UInt8.ofNat (Int.toNat ((tx[j]'hj).toNat : Int))
  rw [Int.toNat_natCast, UInt8.ofNat_toNat]
  rfl
theorem nl_free {tx : ByteArray} (h : hasNl tx = false) (j : Nat) (hj : j < tx.size) : bt tx j ≠ 10 := by
  intro g
  have h1 := of_decide_eq_false h
  have h2 := nl_get tx j hj
  rw [g] at h2
  have h3 := Lib.indexByte_ge tx.data.toList 10
  exact Lib.indexByte_none (show Lib.indexByte tx.data.toList 10 = -1 by omega) j h2
theorem nl_there {tx : ByteArray} (h : hasNl tx = true) : ∃ j : Nat, j < tx.size ∧ bt tx j = 10 ∧ ∀ i : Nat, i < j → bt tx i ≠ 10 := by
  have h1 := of_decide_eq_true h
  obtain ⟨o, ho⟩ := Int.eq_ofNat_of_zero_le h1
  obtain ⟨h2, h3⟩ := Lib.indexByte_some ho
  have hlt : o < tx.size := by
    rcases Nat.lt_or_ge o tx.data.toList.length with g | g
    · rw [Array.length_toList] at g; exact g
    · rw [List.getElem?_eq_none g] at h2; cases h2
  have e10 : ∀ i : Nat, i < tx.size → (tx.data.toList[i]? = some 10 ↔ bt tx i = 10) := fun i hi => by
    rw [nl_get tx i hi]
    have hb := bt_range tx i
    constructor
    · intro g
      have g2 := congrArg UInt8.toNat (Option.some.inj g)
      rw [UInt8.toNat_ofNat'] at g2
      have : (10 : UInt8).toNat = 10 := rfl
      omega
    · intro g; rw [g]; rfl
  exact ⟨o, hlt, (e10 o hlt).1 h2, fun i hi g => h3 i hi ((e10 i (by omega)).2 g)⟩
theorem actc {W : World} {g : Nat} {a b c d e f h : Value} {t : TypeId} (H : W.heap[g]? = some (.cells #[a, b, c, d, e, f, h] t (0, 0))) :
    W.cell? ⟨g, 0, none⟩ = some a ∧ W.cell? ⟨g, 1, none⟩ = some b ∧ W.cell? ⟨g, 2, none⟩ = some c ∧ W.cell? ⟨g, 3, none⟩ = some d ∧ W.cell? ⟨g, 4, none⟩ = some e ∧ W.cell? ⟨g, 5, none⟩ = some f ∧ W.cell? ⟨g, 6, none⟩ = some h :=
  ⟨(blk_cell H 0).trans rfl, (blk_cell H 1).trans rfl, (blk_cell H 2).trans rfl, (blk_cell H 3).trans rfl, (blk_cell H 4).trans rfl, (blk_cell H 5).trans rfl, (blk_cell H 6).trans rfl⟩
set_option maxHeartbeats 8000000 in
set_option maxRecDepth 100000 in
theorem vendmeterref_ActShown.early (kn me A B C : Int) (tx : ByteArray) (ct : Int) (wd : ByteArray) (a b c : Bool) (w : World) (hA : vendmeterref_ActWord.f kn = some (wd, a, b, c)) (h : wd.toList = [] ∨ ¬ (-1 ≤ ct ∧ ct ≤ 4096)) :
    Calls Tryd.prog 10 #[.agg #[.int .i64 kn, .int .i64 me, .int .i64 A, .int .i64 B, .int .i64 C, .string tx, .int .i64 ct]] w fun e' w' => e' = .returned (.tuple #[.string ⟨#[]⟩, .int .i64 2]) ∧ Below w.heap.size w w' := by
  have HA := Aside0.mk hA
  clear hA
  have hu31 := Tryd.underlying31
  have S1 := Aside0.mk (blk_new w (.cells #[.int .i64 kn, .int .i64 me, .int .i64 A, .int .i64 B, .int .i64 C, .string tx, .int .i64 ct] 31))
  have SB := Aside0.mk (below_alloc (Below.refl w.heap.size w) (.cells #[.int .i64 kn, .int .i64 me, .int .i64 A, .int .i64 B, .int .i64 C, .string tx, .int .i64 ct] 31))
  obtain ⟨x0, x1, x2, x3, x4, x5, x6⟩ := actc S1.out
  by_cases hw : wd.toList = []
  · have q0 : (wd.toList == ([] : List UInt8)) = true := beq_iff_eq.mpr hw
    clear hw h
    go_enter Tryd.func10, Tryd.ntmps10
    go_wp2_with (go_at_call 23; refine (vendmeterref_ActWord.calls kn _ _ _ _ _ HA.out).mono ?_; rintro e' wa ⟨rfl, hdr⟩; have hb1 := below_drawn hdr; replace S1 := Aside0.mk (blk_below S1.out hb1); replace SB := Aside0.mk (below_then SB.out SB.out.size hb1); clear hb1 hdr; try clear x0 x1 x2 x3 x4 x5 x6; obtain ⟨x0, x1, x2, x3, x4, x5, x6⟩ := actc S1.out)
    go_ret2
    exact ⟨rfl, SB.out⟩
  · have q0 : (wd.toList == ([] : List UInt8)) = false := beq_eq_false_iff_ne.mpr hw
    have q1 : decide (-1 ≤ ct ∧ ct ≤ 4096) = false := decide_eq_false (h.resolve_left hw)
    clear hw h
    go_enter Tryd.func10, Tryd.ntmps10
    go_wp2_with (first | (go_at_call 23; refine (vendmeterref_ActWord.calls kn _ _ _ _ _ HA.out).mono ?_; rintro e' wa ⟨rfl, hdr⟩; have hb1 := below_drawn hdr; replace S1 := Aside0.mk (blk_below S1.out hb1); replace SB := Aside0.mk (below_then SB.out SB.out.size hb1); clear hb1 hdr; try clear x0 x1 x2 x3 x4 x5 x6; obtain ⟨x0, x1, x2, x3, x4, x5, x6⟩ := actc S1.out) | (go_at_call 24; refine (vendmeterref_In.calls _ _ _ _ _ (in_f _ _ _)).mono ?_; rintro e' wa ⟨rfl, hdr⟩; have hb1 := below_drawn hdr; replace S1 := Aside0.mk (blk_below S1.out hb1); replace SB := Aside0.mk (below_then SB.out SB.out.size hb1); clear hb1 hdr; try clear x0 x1 x2 x3 x4 x5 x6; obtain ⟨x0, x1, x2, x3, x4, x5, x6⟩ := actc S1.out))
    go_ret2
    exact ⟨rfl, SB.out⟩
set_option maxHeartbeats 8000000 in
set_option maxRecDepth 100000 in
theorem vendmeterref_ActShown.main0 (k : Nat) (kn me A B C : Int) (tx : ByteArray) (ct : Int) (wd : ByteArray) (w : World) (hA : vendmeterref_ActWord.f kn = some (wd, false, false, false)) (hw : (wd.toList == ([] : List UInt8)) = false) (hws : wd.size ≤ 20) (qk : (kn == 6) = false) (htx : tx.size ≤ 140737488355328) (hct : -1 ≤ ct ∧ ct ≤ 4096) (hD : decsOk k ct me A B C = true) (r : ByteArray) (e : Int) (h : vendmeterref_ActShown.g wd false false false false me A B C tx ct = some (r, e)) :
    Calls Tryd.prog 10 #[.agg #[.int .i64 kn, .int .i64 me, .int .i64 A, .int .i64 B, .int .i64 C, .string tx, .int .i64 ct]] w fun e' w' => e' = .returned (.tuple #[.string r, .int .i64 e]) ∧ Below w.heap.size w w' := by
  have HA := Aside0.mk hA
  have HD : Aside0 (decOk k ct = true ∧ decOk k me = true ∧ decOk k A = true ∧ decOk k B = true ∧ decOk k C = true) := ⟨by simp only [decsOk, Bool.and_eq_true] at hD; exact ⟨hD.1.1.1.1, hD.1.1.1.2, hD.1.1.2, hD.1.2, hD.2⟩⟩
  have HH := Aside0.mk h
  have HWS := Aside0.mk hws
  have HTX := Aside0.mk htx
  have HCT := Aside0.mk hct
  have qk2 : (kn != 6) = true := by show (!(kn == 6)) = _; rw [qk]; rfl
  have q1 : decide (-1 ≤ ct ∧ ct ≤ 4096) = true := decide_eq_true hct
  clear hA hD h hws hct htx
  have hu31 := Tryd.underlying31
  have S1 := Aside0.mk (blk_new w (.cells #[.int .i64 kn, .int .i64 me, .int .i64 A, .int .i64 B, .int .i64 C, .string tx, .int .i64 ct] 31))
  have SB := Aside0.mk (below_alloc (Below.refl w.heap.size w) (.cells #[.int .i64 kn, .int .i64 me, .int .i64 A, .int .i64 B, .int .i64 C, .string tx, .int .i64 ct] 31))
  obtain ⟨x0, x1, x2, x3, x4, x5, x6⟩ := actc S1.out
  go_enter Tryd.func10, Tryd.ntmps10
  by_cases hme : okV me
  rotate_left
  · have q2 : decide (0 ≤ me ∧ me ≤ 1000000000000) = false := decide_eq_false hme
    have HR := Aside0.mk (show (⟨#[]⟩ : ByteArray) = r ∧ (2 : Int) = e by
      have hg := HH.out
      unfold vendmeterref_ActShown.g at hg
      rw [if_neg (fun g => hme g.1)] at hg
      simpa using hg)
    clear hme
    go_wp2_with (first | (go_at_call 23; refine (vendmeterref_ActWord.calls kn _ _ _ _ _ HA.out).mono ?_; rintro e' wa ⟨rfl, hdr⟩; have hb1 := below_drawn hdr; replace S1 := Aside0.mk (blk_below S1.out hb1); replace SB := Aside0.mk (below_then SB.out SB.out.size hb1); clear hb1 hdr; try clear x0 x1 x2 x3 x4 x5 x6; obtain ⟨x0, x1, x2, x3, x4, x5, x6⟩ := actc S1.out) | (go_at_call 24; refine (vendmeterref_In.calls _ _ _ _ _ (in_f _ _ _)).mono ?_; rintro e' wa ⟨rfl, hdr⟩; have hb1 := below_drawn hdr; replace S1 := Aside0.mk (blk_below S1.out hb1); replace SB := Aside0.mk (below_then SB.out SB.out.size hb1); clear hb1 hdr; try clear x0 x1 x2 x3 x4 x5 x6; obtain ⟨x0, x1, x2, x3, x4, x5, x6⟩ := actc S1.out))
    obtain ⟨rfl, rfl⟩ := HR.out
    go_ret2
    exact ⟨rfl, SB.out⟩
  have q2 : decide (0 ≤ me ∧ me ≤ 1000000000000) = true := decide_eq_true hme
  go_upto_region 4 with (first | (go_at_call 23; refine (vendmeterref_ActWord.calls kn _ _ _ _ _ HA.out).mono ?_; rintro e' wa ⟨rfl, hdr⟩; have hb1 := below_drawn hdr; replace S1 := Aside0.mk (blk_below S1.out hb1); replace SB := Aside0.mk (below_then SB.out SB.out.size hb1); clear hb1 hdr; try clear x0 x1 x2 x3 x4 x5 x6; obtain ⟨x0, x1, x2, x3, x4, x5, x6⟩ := actc S1.out) | (go_at_call 24; refine (vendmeterref_In.calls _ _ _ _ _ (in_f _ _ _)).mono ?_; rintro e' wa ⟨rfl, hdr⟩; have hb1 := below_drawn hdr; replace S1 := Aside0.mk (blk_below S1.out hb1); replace SB := Aside0.mk (below_then SB.out SB.out.size hb1); clear hb1 hdr; try clear x0 x1 x2 x3 x4 x5 x6; obtain ⟨x0, x1, x2, x3, x4, x5, x6⟩ := actc S1.out))
  clear q1 q2
  have HOK : Aside0 (okAll false false false me A B C) := ⟨⟨hme, fun g => absurd g (by decide), fun g => absurd g (by decide), fun g => absurd g (by decide)⟩⟩
  clear hme 
  go_upto_region 6 with (first | (go_at_call 24; refine (vendmeterref_In.calls _ _ _ _ _ (in_f _ _ _)).mono ?_; rintro e' wa ⟨rfl, hdr⟩; have hb1 := below_drawn hdr; replace S1 := Aside0.mk (blk_below S1.out hb1); replace SB := Aside0.mk (below_then SB.out SB.out.size hb1); clear hb1 hdr; try clear x0 x1 x2 x3 x4 x5 x6; obtain ⟨x0, x1, x2, x3, x4, x5, x6⟩ := actc S1.out))
  by_cases hA : A = 0
  rotate_left
  · have q3A : (A != 0) = true := bne_iff_ne.mpr hA
    have HR := Aside0.mk (show (⟨#[]⟩ : ByteArray) = r ∧ (3 : Int) = e by
      have hg := HH.out
      unfold vendmeterref_ActShown.g at hg
      rw [if_pos HOK.out, if_neg (fun g => (g.1).elim (by decide) hA)] at hg
      simpa using hg)
    clear hA 
    go_wp2
    obtain ⟨rfl, rfl⟩ := HR.out
    go_ret2
    exact ⟨rfl, SB.out⟩
  have q3A : (A != 0) = false := bne_eq_false_iff_eq.mpr hA
  by_cases hB : B = 0
  rotate_left
  · have q3B : (B != 0) = true := bne_iff_ne.mpr hB
    have HR := Aside0.mk (show (⟨#[]⟩ : ByteArray) = r ∧ (3 : Int) = e by
      have hg := HH.out
      unfold vendmeterref_ActShown.g at hg
      rw [if_pos HOK.out, if_neg (fun g => (g.2.1).elim (by decide) hB)] at hg
      simpa using hg)
    clear hB hA
    go_wp2
    obtain ⟨rfl, rfl⟩ := HR.out
    go_ret2
    exact ⟨rfl, SB.out⟩
  have q3B : (B != 0) = false := bne_eq_false_iff_eq.mpr hB
  by_cases hC : C = 0
  rotate_left
  · have q3C : (C != 0) = true := bne_iff_ne.mpr hC
    have HR := Aside0.mk (show (⟨#[]⟩ : ByteArray) = r ∧ (3 : Int) = e by
      have hg := HH.out
      unfold vendmeterref_ActShown.g at hg
      rw [if_pos HOK.out, if_neg (fun g => (g.2.2.1).elim (by decide) hC)] at hg
      simpa using hg)
    clear hC hA hB
    go_wp2
    obtain ⟨rfl, rfl⟩ := HR.out
    go_ret2
    exact ⟨rfl, SB.out⟩
  have q3C : (C != 0) = false := bne_eq_false_iff_eq.mpr hC
  by_cases hT : tx.size = 0
  rotate_left
  · have q4 : (tx.toList != ([] : List UInt8)) = true := bne_iff_ne.mpr (fun g => hT (by rw [ByteArray.toList_eq] at g; show tx.data.size = 0; rw [← Array.length_toList, g]; rfl))
    have q5 : (tx.toList == ([] : List UInt8)) = false := by have h5 := q4; rw [bne, Bool.not_eq_true'] at h5; exact h5
    have HR := Aside0.mk (show (⟨#[]⟩ : ByteArray) = r ∧ (3 : Int) = e by
      have hg := HH.out
      unfold vendmeterref_ActShown.g at hg
      rw [if_pos HOK.out, if_neg (fun g => g.2.2.2.elim (by decide) hT)] at hg
      simpa using hg)
    clear hT hA hB hC
    go_wp2
    obtain ⟨rfl, rfl⟩ := HR.out
    go_ret2
    exact ⟨rfl, SB.out⟩
  have q5 : (tx.toList == ([] : List UInt8)) = true := beq_iff_eq.mpr (by rw [ByteArray.toList_eq]; exact List.eq_nil_of_length_eq_zero (by rw [Array.length_toList]; exact hT))
  have q4 : (tx.toList != ([] : List UInt8)) = false := by rw [bne, q5]; rfl
  have HZ : Aside0 (zAll false false false false A B C tx) := ⟨⟨.inr hA, .inr hB, .inr hC, .inr hT⟩⟩
  clear hA hB hC hT
  have HG : Aside0 ((if hasNl tx = false then showEnd (actL wd false false false false me A B C tx ct) else some (⟨#[]⟩, 3)) = some (r, e)) := ⟨by have hg := HH.out; unfold vendmeterref_ActShown.g at hg; rw [if_pos HOK.out, if_pos HZ.out] at hg; exact hg⟩
  clear HH HZ
  go_upto_region 8 with (fail)
  clear q3A q3B q3C q4 q5
  go_wp2
  go_loopg [8] tx.size (fun kq v8 w' => ∃ j : Nat, v8 = .int .i64 (j : Int) ∧ Aside0 (j ≤ tx.size ∧ kq = tx.size - j) ∧ Aside0 (∀ i : Nat, i < j → bt tx i ≠ 10) ∧ Aside0 (w'.heap[w.heap.size]? = some (.cells #[.int .i64 kn, .int .i64 me, .int .i64 A, .int .i64 B, .int .i64 C, .string tx, .int .i64 ct] 31 (0, 0))) ∧ Aside0 (Below w.heap.size w w'))
  case atStart => exact ⟨0, rfl, ⟨Nat.zero_le _, rfl⟩, ⟨fun i hi => absurd hi (Nat.not_lt_zero i)⟩, S1, SB⟩
  case round =>
    clear S1 SB x0 x1 x2 x3 x4 x5 x6
    obtain ⟨j, rfl, HJ, HN, S1, SB⟩ := hrel
    obtain ⟨x0, x1, x2, x3, x4, x5, x6⟩ := actc S1.out
    by_cases hlt : j < tx.size
    · have t1 : decide ((j : Int) < (tx.size : Int)) = true := decide_eq_true (by omega)
      have t1n : decide (j < tx.size) = true := decide_eq_true hlt
      have t2 := eq_true (show 0 ≤ (j : Int) by omega)
      have t3 := eq_true (show (j : Int) < (tx.size : Int) by omega)
      have hx := bt_at tx (j : Int)
      have hx2 : ∀ h : j < tx.size, ((tx[j]'h).toNat : Int) = bt tx j := fun h => bt_at tx (j : Int) h
      by_cases h10 : bt tx j = 10
      · have t4 : (bt tx (j : Int) == 10) = true := beq_iff_eq.mpr h10
        have HR := Aside0.mk (show (⟨#[]⟩ : ByteArray) = r ∧ (3 : Int) = e by
          have hg := HG.out
          rw [if_neg (fun g => nl_free g j hlt h10)] at hg
          simpa using hg)
        clear hlt h10
        go_wp2
        obtain ⟨rfl, rfl⟩ := HR.out
        go_ret2
        exact ⟨rfl, SB.out⟩
      · have t4 : (bt tx (j : Int) == 10) = false := beq_eq_false_iff_ne.mpr h10
        have H10 := Aside0.mk h10
        have HLT := Aside0.mk hlt
        have HW64 := Aside0.mk (show wrap64 ((j : Int) + 1) = ((j + 1 : Nat) : Int) from w64 ⟨by omega, by have := HTX.out; omega⟩)
        clear hlt h10
        go_wp2
        go_roundg (tx.size - (j + 1))
        case measure => have := HJ.out; have := HLT.out; omega
        case rel => exact ⟨j + 1, by rw [HW64.out], ⟨HLT.out, rfl⟩, ⟨fun i hi => (Nat.lt_succ_iff_lt_or_eq.mp hi).elim (HN.out i) (fun g => g ▸ H10.out)⟩, S1, SB⟩
    · have t1 : decide ((j : Int) < (tx.size : Int)) = false := decide_eq_false (by omega)
      have t1n : decide (j < tx.size) = false := decide_eq_false hlt
      have hnl : hasNl tx = false := by
        cases hq : hasNl tx with
        | false => rfl
        | true => obtain ⟨i, hi, h2, _⟩ := nl_there hq; exact absurd h2 (HN.out i (by omega))
      have hg := HG.out
      rw [if_pos hnl] at hg
      obtain ⟨hsz, hre⟩ := show_cat (join_cat wd false false false false me A B C tx ct) hg
      have HS := Aside0.mk hsz
      have HE := Aside0.mk hre
      clear hg hnl hsz hre hlt HG HN HJ
      go_upto_region 13 with (fail)
      obtain ⟨dm, hdm⟩ : ∃ d, itoaB me = d := ⟨_, rfl⟩
      obtain ⟨nA, hnA⟩ : ∃ d, npB false A = d := ⟨_, rfl⟩
      obtain ⟨nB, hnB⟩ : ∃ d, npB false B = d := ⟨_, rfl⟩
      obtain ⟨nC, hnC⟩ : ∃ d, npB false C = d := ⟨_, rfl⟩
      obtain ⟨s, hs⟩ : ∃ s, ((((wd ++ (⟨#[32]⟩ : ByteArray)) ++ dm) ++ nA) ++ nB) ++ nC = s := ⟨_, rfl⟩
      have HS0 := Aside0.mk (show s0B wd false false false me A B C = s by unfold s0B; rw [hdm, hnA, hnB, hnC, hs])
      have HDm := Aside0.mk (show vendmeterref_Dec.f k me = some dm by rw [← hdm]; exact decOk_get HD.out.2.1 HOK.out.1)
      have HNA := Aside0.mk (show vendmeterref_numberPart.f k false A = some nA by rw [← hnA]; exact np_get HD.out.2.2.1 HOK.out.2.1)
      have HNB := Aside0.mk (show vendmeterref_numberPart.f k false B = some nB by rw [← hnB]; exact np_get HD.out.2.2.2.1 HOK.out.2.2.1)
      have HNC := Aside0.mk (show vendmeterref_numberPart.f k false C = some nC by rw [← hnC]; exact np_get HD.out.2.2.2.2 HOK.out.2.2.2)
      have b1 := HWS.out
      have b2 : dm.size ≤ 21 := by rw [← hdm]; exact itoaB_size HOK.out.1
      have b3 : nA.size ≤ 22 := by rw [← hnA]; exact npB_size HOK.out.2.1
      have b4 : nB.size ≤ 22 := by rw [← hnB]; exact npB_size HOK.out.2.2.1
      have b5 : nC.size ≤ 22 := by rw [← hnC]; exact npB_size HOK.out.2.2.2
      have z1 : (9223372036854775807 < wd.size + 1) = False := eq_false (by omega)
      have y1 : (wd.size + 1 ≤ 9223372036854775807) = True := eq_true (by omega)
      have z2 : (9223372036854775807 < wd.size + 1 + dm.size) = False := eq_false (by omega)
      have y2 : (wd.size + 1 + dm.size ≤ 9223372036854775807) = True := eq_true (by omega)
      have z3 : (9223372036854775807 < wd.size + 1 + dm.size + nA.size) = False := eq_false (by omega)
      have y3 : (wd.size + 1 + dm.size + nA.size ≤ 9223372036854775807) = True := eq_true (by omega)
      have z4 : (9223372036854775807 < wd.size + 1 + dm.size + nA.size + nB.size) = False := eq_false (by omega)
      have y4 : (wd.size + 1 + dm.size + nA.size + nB.size ≤ 9223372036854775807) = True := eq_true (by omega)
      have z5 : (9223372036854775807 < wd.size + 1 + dm.size + nA.size + nB.size + nC.size) = False := eq_false (by omega)
      have y5 : (wd.size + 1 + dm.size + nA.size + nB.size + nC.size ≤ 9223372036854775807) = True := eq_true (by omega)
      have b6 : s.size ≤ 110 := by rw [← hs]; simp only [ByteArray.size_append]; have : (⟨#[32]⟩ : ByteArray).size = 1 := rfl; omega
      clear hdm hnA hnB hnC b1 b2 b3 b4 b5
      refine start_ (n := 22) (S := fun w' => w'.cell? ⟨w.heap.size, 1, none⟩ = some (.int .i64 me) ∧ w'.cell? ⟨w.heap.size, 2, none⟩ = some (.int .i64 A) ∧ w'.cell? ⟨w.heap.size, 3, none⟩ = some (.int .i64 B) ∧ w'.cell? ⟨w.heap.size, 4, none⟩ = some (.int .i64 C)) (ds := []) #[false, false, false, false, false, false, false, false, false, false, false, false, false, false, false, false, false, false, false, false, false, false] (by kernel_rfl) rfl rfl ⟨x1, x2, x3, x4⟩ (fun hHeld => ?_)
      refine pp 0 104 ?_
      refine pp 1 105 ?_
      refine pp 2 106 ?_
      refine pp 6 110 ?_
      refine pp 7 111 ?_
      refine pp 11 115 ?_
      refine pp 12 116 ?_
      refine pp 16 120 ?_
      refine pp 17 121 ?_
      refine tk 3 107 ?_
      refine tk 8 112 ?_
      refine tk 13 117 ?_
      refine tk 18 122 ?_
      refine one_ (i := 4) (N := some 108) #[true, true, true, true, true, false, true, true, true, false, false, true, true, true, false, false, true, true, true, false, false, false] rfl rfl (by kernel_rfl) (by decide) (fun K hK => ?_)
      refine goes_ Tryd.func25 (by kernel_rfl) rfl #[.int .i64 me] (by rfl) rfl rfl (by (try simp only [List.map_toArray, List.map_cons, List.map_nil]); first | done | rfl) ?_
      with_reducible refine (vendmeterref_Dec.calls k me dm _ HDm.out).mono ?_
      rintro e' w1 ⟨rfl, hb1⟩
      refine ⟨_, rfl, ?_⟩
      replace S1 := Aside0.mk (blk_below (blk_drew S1.out) hb1)
      replace SB := Aside0.mk (below_then (below_drew1 SB.out) SB.out.size hb1)
      clear hb1 x0 x1 x2 x3 x4 x5 x6
      obtain ⟨x0, x1, x2, x3, x4, x5, x6⟩ := actc S1.out
      refine hK.out _ _ ⟨x1, x2, x3, x4⟩ (fun hHeld => ?_)
      clear hK K
      refine norm_ (a' := ?_) ?_ ?_
      rotate_left
      · show Act.put _ (some 108) _ = _
        simp only [Act.put, List.setIfInBounds_toArray, List.set_cons_zero, List.set_cons_succ, i64_w, i32_w]
        rfl
      refine pp 5 109 ?_
      refine one_ (i := 9) (N := some 113) #[true, true, true, true, true, true, true, true, true, true, false, true, true, true, false, false, true, true, true, false, false, false] rfl rfl (by kernel_rfl) (by decide) (fun K hK => ?_)
      refine goes_ Tryd.func26 (by kernel_rfl) rfl #[.bool false, .int .i64 A] (by rfl) rfl rfl (by (try simp only [List.map_toArray, List.map_cons, List.map_nil]); first | done | rfl) ?_
      with_reducible refine (vendmeterref_numberPart.calls k false A nA _ HNA.out).mono ?_
      rintro e' w1 ⟨rfl, hb1⟩
      refine ⟨_, rfl, ?_⟩
      replace S1 := Aside0.mk (blk_below S1.out hb1)
      replace SB := Aside0.mk (below_then SB.out SB.out.size hb1)
      clear hb1 x0 x1 x2 x3 x4 x5 x6
      obtain ⟨x0, x1, x2, x3, x4, x5, x6⟩ := actc S1.out
      refine hK.out _ _ ⟨x1, x2, x3, x4⟩ (fun hHeld => ?_)
      clear hK K
      refine norm_ (a' := ?_) ?_ ?_
      rotate_left
      · show Act.put _ (some 113) _ = _
        simp only [Act.put, List.setIfInBounds_toArray, List.set_cons_zero, List.set_cons_succ, i64_w, i32_w]
        rfl
      refine pp 10 114 ?_
      refine one_ (i := 14) (N := some 118) #[true, true, true, true, true, true, true, true, true, true, true, true, true, true, true, false, true, true, true, false, false, false] rfl rfl (by kernel_rfl) (by decide) (fun K hK => ?_)
      refine goes_ Tryd.func26 (by kernel_rfl) rfl #[.bool false, .int .i64 B] (by rfl) rfl rfl (by (try simp only [List.map_toArray, List.map_cons, List.map_nil]); first | done | rfl) ?_
      with_reducible refine (vendmeterref_numberPart.calls k false B nB _ HNB.out).mono ?_
      rintro e' w1 ⟨rfl, hb1⟩
      refine ⟨_, rfl, ?_⟩
      replace S1 := Aside0.mk (blk_below S1.out hb1)
      replace SB := Aside0.mk (below_then SB.out SB.out.size hb1)
      clear hb1 x0 x1 x2 x3 x4 x5 x6
      obtain ⟨x0, x1, x2, x3, x4, x5, x6⟩ := actc S1.out
      refine hK.out _ _ ⟨x1, x2, x3, x4⟩ (fun hHeld => ?_)
      clear hK K
      refine norm_ (a' := ?_) ?_ ?_
      rotate_left
      · show Act.put _ (some 118) _ = _
        simp only [Act.put, List.setIfInBounds_toArray, List.set_cons_zero, List.set_cons_succ, i64_w, i32_w]
        rfl
      refine pp 15 119 ?_
      refine one_ (i := 19) (N := some 123) #[true, true, true, true, true, true, true, true, true, true, true, true, true, true, true, true, true, true, true, true, false, false] rfl rfl (by kernel_rfl) (by decide) (fun K hK => ?_)
      refine goes_ Tryd.func26 (by kernel_rfl) rfl #[.bool false, .int .i64 C] (by rfl) rfl rfl (by (try simp only [List.map_toArray, List.map_cons, List.map_nil]); first | done | rfl) ?_
      with_reducible refine (vendmeterref_numberPart.calls k false C nC _ HNC.out).mono ?_
      rintro e' w1 ⟨rfl, hb1⟩
      refine ⟨_, rfl, ?_⟩
      replace S1 := Aside0.mk (blk_below S1.out hb1)
      replace SB := Aside0.mk (below_then SB.out SB.out.size hb1)
      clear hb1 x0 x1 x2 x3 x4 x5 x6
      obtain ⟨x0, x1, x2, x3, x4, x5, x6⟩ := actc S1.out
      refine hK.out _ _ ⟨x1, x2, x3, x4⟩ (fun hHeld => ?_)
      clear hK K
      refine norm_ (a' := ?_) ?_ ?_
      rotate_left
      · show Act.put _ (some 123) _ = _
        simp only [Act.put, List.setIfInBounds_toArray, List.set_cons_zero, List.set_cons_succ, i64_w, i32_w]
        rfl
      refine pp 20 124 ?_
      refine pp 21 9 ?_
      refine done_ (by kernel_rfl) ?_
      try simp only [hs]
      clear hs z1 z2 z3 z4 z5 y1 y2 y3 y4 y5
      rw [HS0.out] at HE
      by_cases hc0 : 0 ≤ ct
      · have q6 : decide (ct ≥ 0) = true := decide_eq_true hc0
        have q6n : decide (0 ≤ ct) = true := decide_eq_true hc0
        obtain ⟨dc, hdc⟩ : ∃ d, itoaB ct = d := ⟨_, rfl⟩
        have hv : okV ct := ⟨hc0, by have := HCT.out; omega⟩
        have HDc := Aside0.mk (show vendmeterref_Dec.f k ct = some dc by rw [← hdc]; exact decOk_get HD.out.1 hv)
        have b7 : dc.size ≤ 21 := by rw [← hdc]; exact itoaB_size hv
        have z5 : (9223372036854775807 < 4 + dc.size) = False := eq_false (by omega)
        have y5 : (4 + dc.size ≤ 9223372036854775807) = True := eq_true (by omega)
        have z6 : (9223372036854775807 < 4 + dc.size + 1) = False := eq_false (by omega)
        have y6 : (4 + dc.size + 1 ≤ 9223372036854775807) = True := eq_true (by omega)
        have z7 : (9223372036854775807 < 4 + dc.size + 1 + s.size) = False := eq_false (by omega)
        have y7 : (4 + dc.size + 1 + s.size ≤ 9223372036854775807) = True := eq_true (by omega)
        obtain ⟨s1, hs1⟩ : ∃ s_, (((⟨#[99, 117, 116, 32]⟩ : ByteArray) ++ dc) ++ (⟨#[32]⟩ : ByteArray)) ++ s = s_ := ⟨_, rfl⟩
        have b9 : s1.size ≤ 140 := by rw [← hs1]; simp only [ByteArray.size_append]; have : (⟨#[32]⟩ : ByteArray).size = 1 := rfl; have : (⟨#[99, 117, 116, 32]⟩ : ByteArray).size = 4 := rfl; omega
        rw [show s1B ct s = s1 by unfold s1B; rw [if_pos hc0, hdc, hs1]] at HE
        clear hc0 hdc hv b7
        go_upto_region 16 with (first | (go_at_call 25; refine (vendmeterref_Dec.calls k ct dc _ HDc.out).mono ?_; rintro e' wa ⟨rfl, hb1⟩; have hb1 := hb1; replace S1 := Aside0.mk (blk_below S1.out hb1); replace SB := Aside0.mk (below_then SB.out SB.out.size hb1); clear hb1; try clear x0 x1 x2 x3 x4 x5 x6; obtain ⟨x0, x1, x2, x3, x4, x5, x6⟩ := actc S1.out))
        try simp only [hs1]
        clear hs1 z5 z6 z7 y5 y6 y7 b6 q6 q6n
        go_upto_region 18 with (fail)
        rw [show s2B false tx s1 = s1 from rfl] at HE
        by_cases hl : s1.size > 120
        · have l1 : decide ((s1.size : Int) > 120) = true := decide_eq_true (by omega)
          have l2 : decide (120 < s1.size) = true := decide_eq_true hl
          have he := HE.out
          rw [if_pos hl] at he
          obtain ⟨rfl, rfl⟩ := Prod.mk.inj he
          clear he hl HE
          go_wp2
          go_ret2
          exact ⟨rfl, SB.out⟩
        · have l1 : decide ((s1.size : Int) > 120) = false := decide_eq_false (by omega)
          have l2 : decide (120 < s1.size) = false := decide_eq_false hl
          have he := HE.out
          rw [if_neg hl] at he
          obtain ⟨rfl, rfl⟩ := Prod.mk.inj he
          clear he hl HE
          go_wp2
          go_ret2
          exact ⟨rfl, SB.out⟩
      · have q6 : decide (ct ≥ 0) = false := decide_eq_false (by omega)
        have q6n : decide (0 ≤ ct) = false := decide_eq_false hc0
        rw [show s1B ct s = s by unfold s1B; rw [if_neg hc0]] at HE
        clear hc0
        go_upto_region 16 with (fail)
        clear q6 q6n
        go_upto_region 18 with (fail)
        rw [show s2B false tx s = s from rfl] at HE
        by_cases hl : s.size > 120
        · have l1 : decide ((s.size : Int) > 120) = true := decide_eq_true (by omega)
          have l2 : decide (120 < s.size) = true := decide_eq_true hl
          have he := HE.out
          rw [if_pos hl] at he
          obtain ⟨rfl, rfl⟩ := Prod.mk.inj he
          clear he hl HE
          go_wp2
          go_ret2
          exact ⟨rfl, SB.out⟩
        · have l1 : decide ((s.size : Int) > 120) = false := decide_eq_false (by omega)
          have l2 : decide (120 < s.size) = false := decide_eq_false hl
          have he := HE.out
          rw [if_neg hl] at he
          obtain ⟨rfl, rfl⟩ := Prod.mk.inj he
          clear he hl HE
          go_wp2
          go_ret2
          exact ⟨rfl, SB.out⟩
set_option maxHeartbeats 8000000 in
set_option maxRecDepth 100000 in
theorem vendmeterref_ActShown.main1 (k : Nat) (kn me A B C : Int) (tx : ByteArray) (ct : Int) (wd : ByteArray) (w : World) (hA : vendmeterref_ActWord.f kn = some (wd, true, true, true)) (hw : (wd.toList == ([] : List UInt8)) = false) (hws : wd.size ≤ 20) (qk : (kn == 6) = false) (htx : tx.size ≤ 140737488355328) (hct : -1 ≤ ct ∧ ct ≤ 4096) (hD : decsOk k ct me A B C = true) (r : ByteArray) (e : Int) (h : vendmeterref_ActShown.g wd true true true false me A B C tx ct = some (r, e)) :
    Calls Tryd.prog 10 #[.agg #[.int .i64 kn, .int .i64 me, .int .i64 A, .int .i64 B, .int .i64 C, .string tx, .int .i64 ct]] w fun e' w' => e' = .returned (.tuple #[.string r, .int .i64 e]) ∧ Below w.heap.size w w' := by
  have HA := Aside0.mk hA
  have HD : Aside0 (decOk k ct = true ∧ decOk k me = true ∧ decOk k A = true ∧ decOk k B = true ∧ decOk k C = true) := ⟨by simp only [decsOk, Bool.and_eq_true] at hD; exact ⟨hD.1.1.1.1, hD.1.1.1.2, hD.1.1.2, hD.1.2, hD.2⟩⟩
  have HH := Aside0.mk h
  have HWS := Aside0.mk hws
  have HTX := Aside0.mk htx
  have HCT := Aside0.mk hct
  have qk2 : (kn != 6) = true := by show (!(kn == 6)) = _; rw [qk]; rfl
  have q1 : decide (-1 ≤ ct ∧ ct ≤ 4096) = true := decide_eq_true hct
  clear hA hD h hws hct htx
  have hu31 := Tryd.underlying31
  have S1 := Aside0.mk (blk_new w (.cells #[.int .i64 kn, .int .i64 me, .int .i64 A, .int .i64 B, .int .i64 C, .string tx, .int .i64 ct] 31))
  have SB := Aside0.mk (below_alloc (Below.refl w.heap.size w) (.cells #[.int .i64 kn, .int .i64 me, .int .i64 A, .int .i64 B, .int .i64 C, .string tx, .int .i64 ct] 31))
  obtain ⟨x0, x1, x2, x3, x4, x5, x6⟩ := actc S1.out
  go_enter Tryd.func10, Tryd.ntmps10
  by_cases hme : okV me
  rotate_left
  · have q2 : decide (0 ≤ me ∧ me ≤ 1000000000000) = false := decide_eq_false hme
    have HR := Aside0.mk (show (⟨#[]⟩ : ByteArray) = r ∧ (2 : Int) = e by
      have hg := HH.out
      unfold vendmeterref_ActShown.g at hg
      rw [if_neg (fun g => hme g.1)] at hg
      simpa using hg)
    clear hme
    go_wp2_with (first | (go_at_call 23; refine (vendmeterref_ActWord.calls kn _ _ _ _ _ HA.out).mono ?_; rintro e' wa ⟨rfl, hdr⟩; have hb1 := below_drawn hdr; replace S1 := Aside0.mk (blk_below S1.out hb1); replace SB := Aside0.mk (below_then SB.out SB.out.size hb1); clear hb1 hdr; try clear x0 x1 x2 x3 x4 x5 x6; obtain ⟨x0, x1, x2, x3, x4, x5, x6⟩ := actc S1.out) | (go_at_call 24; refine (vendmeterref_In.calls _ _ _ _ _ (in_f _ _ _)).mono ?_; rintro e' wa ⟨rfl, hdr⟩; have hb1 := below_drawn hdr; replace S1 := Aside0.mk (blk_below S1.out hb1); replace SB := Aside0.mk (below_then SB.out SB.out.size hb1); clear hb1 hdr; try clear x0 x1 x2 x3 x4 x5 x6; obtain ⟨x0, x1, x2, x3, x4, x5, x6⟩ := actc S1.out))
    obtain ⟨rfl, rfl⟩ := HR.out
    go_ret2
    exact ⟨rfl, SB.out⟩
  have q2 : decide (0 ≤ me ∧ me ≤ 1000000000000) = true := decide_eq_true hme
  go_upto_region 4 with (first | (go_at_call 23; refine (vendmeterref_ActWord.calls kn _ _ _ _ _ HA.out).mono ?_; rintro e' wa ⟨rfl, hdr⟩; have hb1 := below_drawn hdr; replace S1 := Aside0.mk (blk_below S1.out hb1); replace SB := Aside0.mk (below_then SB.out SB.out.size hb1); clear hb1 hdr; try clear x0 x1 x2 x3 x4 x5 x6; obtain ⟨x0, x1, x2, x3, x4, x5, x6⟩ := actc S1.out) | (go_at_call 24; refine (vendmeterref_In.calls _ _ _ _ _ (in_f _ _ _)).mono ?_; rintro e' wa ⟨rfl, hdr⟩; have hb1 := below_drawn hdr; replace S1 := Aside0.mk (blk_below S1.out hb1); replace SB := Aside0.mk (below_then SB.out SB.out.size hb1); clear hb1 hdr; try clear x0 x1 x2 x3 x4 x5 x6; obtain ⟨x0, x1, x2, x3, x4, x5, x6⟩ := actc S1.out))
  clear q1 q2
  by_cases hA : okV A
  rotate_left
  · have q3A : decide (0 ≤ A ∧ A ≤ 1000000000000) = false := decide_eq_false hA
    have HR := Aside0.mk (show (⟨#[]⟩ : ByteArray) = r ∧ (2 : Int) = e by
      have hg := HH.out
      unfold vendmeterref_ActShown.g at hg
      rw [if_neg (fun g => hA (g.2.1 rfl))] at hg
      simpa using hg)
    clear hA hme 
    go_wp2_with (first | (go_at_call 24; refine (vendmeterref_In.calls _ _ _ _ _ (in_f _ _ _)).mono ?_; rintro e' wa ⟨rfl, hdr⟩; have hb1 := below_drawn hdr; replace S1 := Aside0.mk (blk_below S1.out hb1); replace SB := Aside0.mk (below_then SB.out SB.out.size hb1); clear hb1 hdr; try clear x0 x1 x2 x3 x4 x5 x6; obtain ⟨x0, x1, x2, x3, x4, x5, x6⟩ := actc S1.out))
    obtain ⟨rfl, rfl⟩ := HR.out
    go_ret2
    exact ⟨rfl, SB.out⟩
  have q3A : decide (0 ≤ A ∧ A ≤ 1000000000000) = true := decide_eq_true hA
  by_cases hB : okV B
  rotate_left
  · have q3B : decide (0 ≤ B ∧ B ≤ 1000000000000) = false := decide_eq_false hB
    have HR := Aside0.mk (show (⟨#[]⟩ : ByteArray) = r ∧ (2 : Int) = e by
      have hg := HH.out
      unfold vendmeterref_ActShown.g at hg
      rw [if_neg (fun g => hB (g.2.2.1 rfl))] at hg
      simpa using hg)
    clear hB hme hA
    go_wp2_with (first | (go_at_call 24; refine (vendmeterref_In.calls _ _ _ _ _ (in_f _ _ _)).mono ?_; rintro e' wa ⟨rfl, hdr⟩; have hb1 := below_drawn hdr; replace S1 := Aside0.mk (blk_below S1.out hb1); replace SB := Aside0.mk (below_then SB.out SB.out.size hb1); clear hb1 hdr; try clear x0 x1 x2 x3 x4 x5 x6; obtain ⟨x0, x1, x2, x3, x4, x5, x6⟩ := actc S1.out))
    obtain ⟨rfl, rfl⟩ := HR.out
    go_ret2
    exact ⟨rfl, SB.out⟩
  have q3B : decide (0 ≤ B ∧ B ≤ 1000000000000) = true := decide_eq_true hB
  by_cases hC : okV C
  rotate_left
  · have q3C : decide (0 ≤ C ∧ C ≤ 1000000000000) = false := decide_eq_false hC
    have HR := Aside0.mk (show (⟨#[]⟩ : ByteArray) = r ∧ (2 : Int) = e by
      have hg := HH.out
      unfold vendmeterref_ActShown.g at hg
      rw [if_neg (fun g => hC (g.2.2.2 rfl))] at hg
      simpa using hg)
    clear hC hme hA hB
    go_wp2_with (first | (go_at_call 24; refine (vendmeterref_In.calls _ _ _ _ _ (in_f _ _ _)).mono ?_; rintro e' wa ⟨rfl, hdr⟩; have hb1 := below_drawn hdr; replace S1 := Aside0.mk (blk_below S1.out hb1); replace SB := Aside0.mk (below_then SB.out SB.out.size hb1); clear hb1 hdr; try clear x0 x1 x2 x3 x4 x5 x6; obtain ⟨x0, x1, x2, x3, x4, x5, x6⟩ := actc S1.out))
    obtain ⟨rfl, rfl⟩ := HR.out
    go_ret2
    exact ⟨rfl, SB.out⟩
  have q3C : decide (0 ≤ C ∧ C ≤ 1000000000000) = true := decide_eq_true hC
  have HOK : Aside0 (okAll true true true me A B C) := ⟨⟨hme, fun _ => hA, fun _ => hB, fun _ => hC⟩⟩
  clear hme hA hB hC
  go_upto_region 6 with (first | (go_at_call 24; refine (vendmeterref_In.calls _ _ _ _ _ (in_f _ _ _)).mono ?_; rintro e' wa ⟨rfl, hdr⟩; have hb1 := below_drawn hdr; replace S1 := Aside0.mk (blk_below S1.out hb1); replace SB := Aside0.mk (below_then SB.out SB.out.size hb1); clear hb1 hdr; try clear x0 x1 x2 x3 x4 x5 x6; obtain ⟨x0, x1, x2, x3, x4, x5, x6⟩ := actc S1.out))
  clear q3A q3B q3C
  by_cases hT : tx.size = 0
  rotate_left
  · have q4 : (tx.toList != ([] : List UInt8)) = true := bne_iff_ne.mpr (fun g => hT (by rw [ByteArray.toList_eq] at g; show tx.data.size = 0; rw [← Array.length_toList, g]; rfl))
    have q5 : (tx.toList == ([] : List UInt8)) = false := by have h5 := q4; rw [bne, Bool.not_eq_true'] at h5; exact h5
    have HR := Aside0.mk (show (⟨#[]⟩ : ByteArray) = r ∧ (3 : Int) = e by
      have hg := HH.out
      unfold vendmeterref_ActShown.g at hg
      rw [if_pos HOK.out, if_neg (fun g => g.2.2.2.elim (by decide) hT)] at hg
      simpa using hg)
    clear hT 
    go_wp2
    obtain ⟨rfl, rfl⟩ := HR.out
    go_ret2
    exact ⟨rfl, SB.out⟩
  have q5 : (tx.toList == ([] : List UInt8)) = true := beq_iff_eq.mpr (by rw [ByteArray.toList_eq]; exact List.eq_nil_of_length_eq_zero (by rw [Array.length_toList]; exact hT))
  have q4 : (tx.toList != ([] : List UInt8)) = false := by rw [bne, q5]; rfl
  have HZ : Aside0 (zAll true true true false A B C tx) := ⟨⟨.inl rfl, .inl rfl, .inl rfl, .inr hT⟩⟩
  clear  hT
  have HG : Aside0 ((if hasNl tx = false then showEnd (actL wd true true true false me A B C tx ct) else some (⟨#[]⟩, 3)) = some (r, e)) := ⟨by have hg := HH.out; unfold vendmeterref_ActShown.g at hg; rw [if_pos HOK.out, if_pos HZ.out] at hg; exact hg⟩
  clear HH HZ
  go_upto_region 8 with (fail)
  clear q4 q5
  go_wp2
  go_loopg [8] tx.size (fun kq v8 w' => ∃ j : Nat, v8 = .int .i64 (j : Int) ∧ Aside0 (j ≤ tx.size ∧ kq = tx.size - j) ∧ Aside0 (∀ i : Nat, i < j → bt tx i ≠ 10) ∧ Aside0 (w'.heap[w.heap.size]? = some (.cells #[.int .i64 kn, .int .i64 me, .int .i64 A, .int .i64 B, .int .i64 C, .string tx, .int .i64 ct] 31 (0, 0))) ∧ Aside0 (Below w.heap.size w w'))
  case atStart => exact ⟨0, rfl, ⟨Nat.zero_le _, rfl⟩, ⟨fun i hi => absurd hi (Nat.not_lt_zero i)⟩, S1, SB⟩
  case round =>
    clear S1 SB x0 x1 x2 x3 x4 x5 x6
    obtain ⟨j, rfl, HJ, HN, S1, SB⟩ := hrel
    obtain ⟨x0, x1, x2, x3, x4, x5, x6⟩ := actc S1.out
    by_cases hlt : j < tx.size
    · have t1 : decide ((j : Int) < (tx.size : Int)) = true := decide_eq_true (by omega)
      have t1n : decide (j < tx.size) = true := decide_eq_true hlt
      have t2 := eq_true (show 0 ≤ (j : Int) by omega)
      have t3 := eq_true (show (j : Int) < (tx.size : Int) by omega)
      have hx := bt_at tx (j : Int)
      have hx2 : ∀ h : j < tx.size, ((tx[j]'h).toNat : Int) = bt tx j := fun h => bt_at tx (j : Int) h
      by_cases h10 : bt tx j = 10
      · have t4 : (bt tx (j : Int) == 10) = true := beq_iff_eq.mpr h10
        have HR := Aside0.mk (show (⟨#[]⟩ : ByteArray) = r ∧ (3 : Int) = e by
          have hg := HG.out
          rw [if_neg (fun g => nl_free g j hlt h10)] at hg
          simpa using hg)
        clear hlt h10
        go_wp2
        obtain ⟨rfl, rfl⟩ := HR.out
        go_ret2
        exact ⟨rfl, SB.out⟩
      · have t4 : (bt tx (j : Int) == 10) = false := beq_eq_false_iff_ne.mpr h10
        have H10 := Aside0.mk h10
        have HLT := Aside0.mk hlt
        have HW64 := Aside0.mk (show wrap64 ((j : Int) + 1) = ((j + 1 : Nat) : Int) from w64 ⟨by omega, by have := HTX.out; omega⟩)
        clear hlt h10
        go_wp2
        go_roundg (tx.size - (j + 1))
        case measure => have := HJ.out; have := HLT.out; omega
        case rel => exact ⟨j + 1, by rw [HW64.out], ⟨HLT.out, rfl⟩, ⟨fun i hi => (Nat.lt_succ_iff_lt_or_eq.mp hi).elim (HN.out i) (fun g => g ▸ H10.out)⟩, S1, SB⟩
    · have t1 : decide ((j : Int) < (tx.size : Int)) = false := decide_eq_false (by omega)
      have t1n : decide (j < tx.size) = false := decide_eq_false hlt
      have hnl : hasNl tx = false := by
        cases hq : hasNl tx with
        | false => rfl
        | true => obtain ⟨i, hi, h2, _⟩ := nl_there hq; exact absurd h2 (HN.out i (by omega))
      have hg := HG.out
      rw [if_pos hnl] at hg
      obtain ⟨hsz, hre⟩ := show_cat (join_cat wd true true true false me A B C tx ct) hg
      have HS := Aside0.mk hsz
      have HE := Aside0.mk hre
      clear hg hnl hsz hre hlt HG HN HJ
      go_upto_region 13 with (fail)
      obtain ⟨dm, hdm⟩ : ∃ d, itoaB me = d := ⟨_, rfl⟩
      obtain ⟨nA, hnA⟩ : ∃ d, npB true A = d := ⟨_, rfl⟩
      obtain ⟨nB, hnB⟩ : ∃ d, npB true B = d := ⟨_, rfl⟩
      obtain ⟨nC, hnC⟩ : ∃ d, npB true C = d := ⟨_, rfl⟩
      obtain ⟨s, hs⟩ : ∃ s, ((((wd ++ (⟨#[32]⟩ : ByteArray)) ++ dm) ++ nA) ++ nB) ++ nC = s := ⟨_, rfl⟩
      have HS0 := Aside0.mk (show s0B wd true true true me A B C = s by unfold s0B; rw [hdm, hnA, hnB, hnC, hs])
      have HDm := Aside0.mk (show vendmeterref_Dec.f k me = some dm by rw [← hdm]; exact decOk_get HD.out.2.1 HOK.out.1)
      have HNA := Aside0.mk (show vendmeterref_numberPart.f k true A = some nA by rw [← hnA]; exact np_get HD.out.2.2.1 HOK.out.2.1)
      have HNB := Aside0.mk (show vendmeterref_numberPart.f k true B = some nB by rw [← hnB]; exact np_get HD.out.2.2.2.1 HOK.out.2.2.1)
      have HNC := Aside0.mk (show vendmeterref_numberPart.f k true C = some nC by rw [← hnC]; exact np_get HD.out.2.2.2.2 HOK.out.2.2.2)
      have b1 := HWS.out
      have b2 : dm.size ≤ 21 := by rw [← hdm]; exact itoaB_size HOK.out.1
      have b3 : nA.size ≤ 22 := by rw [← hnA]; exact npB_size HOK.out.2.1
      have b4 : nB.size ≤ 22 := by rw [← hnB]; exact npB_size HOK.out.2.2.1
      have b5 : nC.size ≤ 22 := by rw [← hnC]; exact npB_size HOK.out.2.2.2
      have z1 : (9223372036854775807 < wd.size + 1) = False := eq_false (by omega)
      have y1 : (wd.size + 1 ≤ 9223372036854775807) = True := eq_true (by omega)
      have z2 : (9223372036854775807 < wd.size + 1 + dm.size) = False := eq_false (by omega)
      have y2 : (wd.size + 1 + dm.size ≤ 9223372036854775807) = True := eq_true (by omega)
      have z3 : (9223372036854775807 < wd.size + 1 + dm.size + nA.size) = False := eq_false (by omega)
      have y3 : (wd.size + 1 + dm.size + nA.size ≤ 9223372036854775807) = True := eq_true (by omega)
      have z4 : (9223372036854775807 < wd.size + 1 + dm.size + nA.size + nB.size) = False := eq_false (by omega)
      have y4 : (wd.size + 1 + dm.size + nA.size + nB.size ≤ 9223372036854775807) = True := eq_true (by omega)
      have z5 : (9223372036854775807 < wd.size + 1 + dm.size + nA.size + nB.size + nC.size) = False := eq_false (by omega)
      have y5 : (wd.size + 1 + dm.size + nA.size + nB.size + nC.size ≤ 9223372036854775807) = True := eq_true (by omega)
      have b6 : s.size ≤ 110 := by rw [← hs]; simp only [ByteArray.size_append]; have : (⟨#[32]⟩ : ByteArray).size = 1 := rfl; omega
      clear hdm hnA hnB hnC b1 b2 b3 b4 b5
      refine start_ (n := 22) (S := fun w' => w'.cell? ⟨w.heap.size, 1, none⟩ = some (.int .i64 me) ∧ w'.cell? ⟨w.heap.size, 2, none⟩ = some (.int .i64 A) ∧ w'.cell? ⟨w.heap.size, 3, none⟩ = some (.int .i64 B) ∧ w'.cell? ⟨w.heap.size, 4, none⟩ = some (.int .i64 C)) (ds := []) #[false, false, false, false, false, false, false, false, false, false, false, false, false, false, false, false, false, false, false, false, false, false] (by kernel_rfl) rfl rfl ⟨x1, x2, x3, x4⟩ (fun hHeld => ?_)
      refine pp 0 104 ?_
      refine pp 1 105 ?_
      refine pp 2 106 ?_
      refine pp 6 110 ?_
      refine pp 7 111 ?_
      refine pp 11 115 ?_
      refine pp 12 116 ?_
      refine pp 16 120 ?_
      refine pp 17 121 ?_
      refine tk 3 107 ?_
      refine tk 8 112 ?_
      refine tk 13 117 ?_
      refine tk 18 122 ?_
      refine one_ (i := 4) (N := some 108) #[true, true, true, true, true, false, true, true, true, false, false, true, true, true, false, false, true, true, true, false, false, false] rfl rfl (by kernel_rfl) (by decide) (fun K hK => ?_)
      refine goes_ Tryd.func25 (by kernel_rfl) rfl #[.int .i64 me] (by rfl) rfl rfl (by (try simp only [List.map_toArray, List.map_cons, List.map_nil]); first | done | rfl) ?_
      with_reducible refine (vendmeterref_Dec.calls k me dm _ HDm.out).mono ?_
      rintro e' w1 ⟨rfl, hb1⟩
      refine ⟨_, rfl, ?_⟩
      replace S1 := Aside0.mk (blk_below (blk_drew S1.out) hb1)
      replace SB := Aside0.mk (below_then (below_drew1 SB.out) SB.out.size hb1)
      clear hb1 x0 x1 x2 x3 x4 x5 x6
      obtain ⟨x0, x1, x2, x3, x4, x5, x6⟩ := actc S1.out
      refine hK.out _ _ ⟨x1, x2, x3, x4⟩ (fun hHeld => ?_)
      clear hK K
      refine norm_ (a' := ?_) ?_ ?_
      rotate_left
      · show Act.put _ (some 108) _ = _
        simp only [Act.put, List.setIfInBounds_toArray, List.set_cons_zero, List.set_cons_succ, i64_w, i32_w]
        rfl
      refine pp 5 109 ?_
      refine one_ (i := 9) (N := some 113) #[true, true, true, true, true, true, true, true, true, true, false, true, true, true, false, false, true, true, true, false, false, false] rfl rfl (by kernel_rfl) (by decide) (fun K hK => ?_)
      refine goes_ Tryd.func26 (by kernel_rfl) rfl #[.bool true, .int .i64 A] (by rfl) rfl rfl (by (try simp only [List.map_toArray, List.map_cons, List.map_nil]); first | done | rfl) ?_
      with_reducible refine (vendmeterref_numberPart.calls k true A nA _ HNA.out).mono ?_
      rintro e' w1 ⟨rfl, hb1⟩
      refine ⟨_, rfl, ?_⟩
      replace S1 := Aside0.mk (blk_below S1.out hb1)
      replace SB := Aside0.mk (below_then SB.out SB.out.size hb1)
      clear hb1 x0 x1 x2 x3 x4 x5 x6
      obtain ⟨x0, x1, x2, x3, x4, x5, x6⟩ := actc S1.out
      refine hK.out _ _ ⟨x1, x2, x3, x4⟩ (fun hHeld => ?_)
      clear hK K
      refine norm_ (a' := ?_) ?_ ?_
      rotate_left
      · show Act.put _ (some 113) _ = _
        simp only [Act.put, List.setIfInBounds_toArray, List.set_cons_zero, List.set_cons_succ, i64_w, i32_w]
        rfl
      refine pp 10 114 ?_
      refine one_ (i := 14) (N := some 118) #[true, true, true, true, true, true, true, true, true, true, true, true, true, true, true, false, true, true, true, false, false, false] rfl rfl (by kernel_rfl) (by decide) (fun K hK => ?_)
      refine goes_ Tryd.func26 (by kernel_rfl) rfl #[.bool true, .int .i64 B] (by rfl) rfl rfl (by (try simp only [List.map_toArray, List.map_cons, List.map_nil]); first | done | rfl) ?_
      with_reducible refine (vendmeterref_numberPart.calls k true B nB _ HNB.out).mono ?_
      rintro e' w1 ⟨rfl, hb1⟩
      refine ⟨_, rfl, ?_⟩
      replace S1 := Aside0.mk (blk_below S1.out hb1)
      replace SB := Aside0.mk (below_then SB.out SB.out.size hb1)
      clear hb1 x0 x1 x2 x3 x4 x5 x6
      obtain ⟨x0, x1, x2, x3, x4, x5, x6⟩ := actc S1.out
      refine hK.out _ _ ⟨x1, x2, x3, x4⟩ (fun hHeld => ?_)
      clear hK K
      refine norm_ (a' := ?_) ?_ ?_
      rotate_left
      · show Act.put _ (some 118) _ = _
        simp only [Act.put, List.setIfInBounds_toArray, List.set_cons_zero, List.set_cons_succ, i64_w, i32_w]
        rfl
      refine pp 15 119 ?_
      refine one_ (i := 19) (N := some 123) #[true, true, true, true, true, true, true, true, true, true, true, true, true, true, true, true, true, true, true, true, false, false] rfl rfl (by kernel_rfl) (by decide) (fun K hK => ?_)
      refine goes_ Tryd.func26 (by kernel_rfl) rfl #[.bool true, .int .i64 C] (by rfl) rfl rfl (by (try simp only [List.map_toArray, List.map_cons, List.map_nil]); first | done | rfl) ?_
      with_reducible refine (vendmeterref_numberPart.calls k true C nC _ HNC.out).mono ?_
      rintro e' w1 ⟨rfl, hb1⟩
      refine ⟨_, rfl, ?_⟩
      replace S1 := Aside0.mk (blk_below S1.out hb1)
      replace SB := Aside0.mk (below_then SB.out SB.out.size hb1)
      clear hb1 x0 x1 x2 x3 x4 x5 x6
      obtain ⟨x0, x1, x2, x3, x4, x5, x6⟩ := actc S1.out
      refine hK.out _ _ ⟨x1, x2, x3, x4⟩ (fun hHeld => ?_)
      clear hK K
      refine norm_ (a' := ?_) ?_ ?_
      rotate_left
      · show Act.put _ (some 123) _ = _
        simp only [Act.put, List.setIfInBounds_toArray, List.set_cons_zero, List.set_cons_succ, i64_w, i32_w]
        rfl
      refine pp 20 124 ?_
      refine pp 21 9 ?_
      refine done_ (by kernel_rfl) ?_
      try simp only [hs]
      clear hs z1 z2 z3 z4 z5 y1 y2 y3 y4 y5
      rw [HS0.out] at HE
      by_cases hc0 : 0 ≤ ct
      · have q6 : decide (ct ≥ 0) = true := decide_eq_true hc0
        have q6n : decide (0 ≤ ct) = true := decide_eq_true hc0
        obtain ⟨dc, hdc⟩ : ∃ d, itoaB ct = d := ⟨_, rfl⟩
        have hv : okV ct := ⟨hc0, by have := HCT.out; omega⟩
        have HDc := Aside0.mk (show vendmeterref_Dec.f k ct = some dc by rw [← hdc]; exact decOk_get HD.out.1 hv)
        have b7 : dc.size ≤ 21 := by rw [← hdc]; exact itoaB_size hv
        have z5 : (9223372036854775807 < 4 + dc.size) = False := eq_false (by omega)
        have y5 : (4 + dc.size ≤ 9223372036854775807) = True := eq_true (by omega)
        have z6 : (9223372036854775807 < 4 + dc.size + 1) = False := eq_false (by omega)
        have y6 : (4 + dc.size + 1 ≤ 9223372036854775807) = True := eq_true (by omega)
        have z7 : (9223372036854775807 < 4 + dc.size + 1 + s.size) = False := eq_false (by omega)
        have y7 : (4 + dc.size + 1 + s.size ≤ 9223372036854775807) = True := eq_true (by omega)
        obtain ⟨s1, hs1⟩ : ∃ s_, (((⟨#[99, 117, 116, 32]⟩ : ByteArray) ++ dc) ++ (⟨#[32]⟩ : ByteArray)) ++ s = s_ := ⟨_, rfl⟩
        have b9 : s1.size ≤ 140 := by rw [← hs1]; simp only [ByteArray.size_append]; have : (⟨#[32]⟩ : ByteArray).size = 1 := rfl; have : (⟨#[99, 117, 116, 32]⟩ : ByteArray).size = 4 := rfl; omega
        rw [show s1B ct s = s1 by unfold s1B; rw [if_pos hc0, hdc, hs1]] at HE
        clear hc0 hdc hv b7
        go_upto_region 16 with (first | (go_at_call 25; refine (vendmeterref_Dec.calls k ct dc _ HDc.out).mono ?_; rintro e' wa ⟨rfl, hb1⟩; have hb1 := hb1; replace S1 := Aside0.mk (blk_below S1.out hb1); replace SB := Aside0.mk (below_then SB.out SB.out.size hb1); clear hb1; try clear x0 x1 x2 x3 x4 x5 x6; obtain ⟨x0, x1, x2, x3, x4, x5, x6⟩ := actc S1.out))
        try simp only [hs1]
        clear hs1 z5 z6 z7 y5 y6 y7 b6 q6 q6n
        go_upto_region 18 with (fail)
        rw [show s2B false tx s1 = s1 from rfl] at HE
        by_cases hl : s1.size > 120
        · have l1 : decide ((s1.size : Int) > 120) = true := decide_eq_true (by omega)
          have l2 : decide (120 < s1.size) = true := decide_eq_true hl
          have he := HE.out
          rw [if_pos hl] at he
          obtain ⟨rfl, rfl⟩ := Prod.mk.inj he
          clear he hl HE
          go_wp2
          go_ret2
          exact ⟨rfl, SB.out⟩
        · have l1 : decide ((s1.size : Int) > 120) = false := decide_eq_false (by omega)
          have l2 : decide (120 < s1.size) = false := decide_eq_false hl
          have he := HE.out
          rw [if_neg hl] at he
          obtain ⟨rfl, rfl⟩ := Prod.mk.inj he
          clear he hl HE
          go_wp2
          go_ret2
          exact ⟨rfl, SB.out⟩
      · have q6 : decide (ct ≥ 0) = false := decide_eq_false (by omega)
        have q6n : decide (0 ≤ ct) = false := decide_eq_false hc0
        rw [show s1B ct s = s by unfold s1B; rw [if_neg hc0]] at HE
        clear hc0
        go_upto_region 16 with (fail)
        clear q6 q6n
        go_upto_region 18 with (fail)
        rw [show s2B false tx s = s from rfl] at HE
        by_cases hl : s.size > 120
        · have l1 : decide ((s.size : Int) > 120) = true := decide_eq_true (by omega)
          have l2 : decide (120 < s.size) = true := decide_eq_true hl
          have he := HE.out
          rw [if_pos hl] at he
          obtain ⟨rfl, rfl⟩ := Prod.mk.inj he
          clear he hl HE
          go_wp2
          go_ret2
          exact ⟨rfl, SB.out⟩
        · have l1 : decide ((s.size : Int) > 120) = false := decide_eq_false (by omega)
          have l2 : decide (120 < s.size) = false := decide_eq_false hl
          have he := HE.out
          rw [if_neg hl] at he
          obtain ⟨rfl, rfl⟩ := Prod.mk.inj he
          clear he hl HE
          go_wp2
          go_ret2
          exact ⟨rfl, SB.out⟩
set_option maxHeartbeats 8000000 in
set_option maxRecDepth 100000 in
theorem vendmeterref_ActShown.main2 (k : Nat) (kn me A B C : Int) (tx : ByteArray) (ct : Int) (wd : ByteArray) (w : World) (hA : vendmeterref_ActWord.f kn = some (wd, true, false, true)) (hw : (wd.toList == ([] : List UInt8)) = false) (hws : wd.size ≤ 20) (qk : (kn == 6) = false) (htx : tx.size ≤ 140737488355328) (hct : -1 ≤ ct ∧ ct ≤ 4096) (hD : decsOk k ct me A B C = true) (r : ByteArray) (e : Int) (h : vendmeterref_ActShown.g wd true false true false me A B C tx ct = some (r, e)) :
    Calls Tryd.prog 10 #[.agg #[.int .i64 kn, .int .i64 me, .int .i64 A, .int .i64 B, .int .i64 C, .string tx, .int .i64 ct]] w fun e' w' => e' = .returned (.tuple #[.string r, .int .i64 e]) ∧ Below w.heap.size w w' := by
  have HA := Aside0.mk hA
  have HD : Aside0 (decOk k ct = true ∧ decOk k me = true ∧ decOk k A = true ∧ decOk k B = true ∧ decOk k C = true) := ⟨by simp only [decsOk, Bool.and_eq_true] at hD; exact ⟨hD.1.1.1.1, hD.1.1.1.2, hD.1.1.2, hD.1.2, hD.2⟩⟩
  have HH := Aside0.mk h
  have HWS := Aside0.mk hws
  have HTX := Aside0.mk htx
  have HCT := Aside0.mk hct
  have qk2 : (kn != 6) = true := by show (!(kn == 6)) = _; rw [qk]; rfl
  have q1 : decide (-1 ≤ ct ∧ ct ≤ 4096) = true := decide_eq_true hct
  clear hA hD h hws hct htx
  have hu31 := Tryd.underlying31
  have S1 := Aside0.mk (blk_new w (.cells #[.int .i64 kn, .int .i64 me, .int .i64 A, .int .i64 B, .int .i64 C, .string tx, .int .i64 ct] 31))
  have SB := Aside0.mk (below_alloc (Below.refl w.heap.size w) (.cells #[.int .i64 kn, .int .i64 me, .int .i64 A, .int .i64 B, .int .i64 C, .string tx, .int .i64 ct] 31))
  obtain ⟨x0, x1, x2, x3, x4, x5, x6⟩ := actc S1.out
  go_enter Tryd.func10, Tryd.ntmps10
  by_cases hme : okV me
  rotate_left
  · have q2 : decide (0 ≤ me ∧ me ≤ 1000000000000) = false := decide_eq_false hme
    have HR := Aside0.mk (show (⟨#[]⟩ : ByteArray) = r ∧ (2 : Int) = e by
      have hg := HH.out
      unfold vendmeterref_ActShown.g at hg
      rw [if_neg (fun g => hme g.1)] at hg
      simpa using hg)
    clear hme
    go_wp2_with (first | (go_at_call 23; refine (vendmeterref_ActWord.calls kn _ _ _ _ _ HA.out).mono ?_; rintro e' wa ⟨rfl, hdr⟩; have hb1 := below_drawn hdr; replace S1 := Aside0.mk (blk_below S1.out hb1); replace SB := Aside0.mk (below_then SB.out SB.out.size hb1); clear hb1 hdr; try clear x0 x1 x2 x3 x4 x5 x6; obtain ⟨x0, x1, x2, x3, x4, x5, x6⟩ := actc S1.out) | (go_at_call 24; refine (vendmeterref_In.calls _ _ _ _ _ (in_f _ _ _)).mono ?_; rintro e' wa ⟨rfl, hdr⟩; have hb1 := below_drawn hdr; replace S1 := Aside0.mk (blk_below S1.out hb1); replace SB := Aside0.mk (below_then SB.out SB.out.size hb1); clear hb1 hdr; try clear x0 x1 x2 x3 x4 x5 x6; obtain ⟨x0, x1, x2, x3, x4, x5, x6⟩ := actc S1.out))
    obtain ⟨rfl, rfl⟩ := HR.out
    go_ret2
    exact ⟨rfl, SB.out⟩
  have q2 : decide (0 ≤ me ∧ me ≤ 1000000000000) = true := decide_eq_true hme
  go_upto_region 4 with (first | (go_at_call 23; refine (vendmeterref_ActWord.calls kn _ _ _ _ _ HA.out).mono ?_; rintro e' wa ⟨rfl, hdr⟩; have hb1 := below_drawn hdr; replace S1 := Aside0.mk (blk_below S1.out hb1); replace SB := Aside0.mk (below_then SB.out SB.out.size hb1); clear hb1 hdr; try clear x0 x1 x2 x3 x4 x5 x6; obtain ⟨x0, x1, x2, x3, x4, x5, x6⟩ := actc S1.out) | (go_at_call 24; refine (vendmeterref_In.calls _ _ _ _ _ (in_f _ _ _)).mono ?_; rintro e' wa ⟨rfl, hdr⟩; have hb1 := below_drawn hdr; replace S1 := Aside0.mk (blk_below S1.out hb1); replace SB := Aside0.mk (below_then SB.out SB.out.size hb1); clear hb1 hdr; try clear x0 x1 x2 x3 x4 x5 x6; obtain ⟨x0, x1, x2, x3, x4, x5, x6⟩ := actc S1.out))
  clear q1 q2
  by_cases hA : okV A
  rotate_left
  · have q3A : decide (0 ≤ A ∧ A ≤ 1000000000000) = false := decide_eq_false hA
    have HR := Aside0.mk (show (⟨#[]⟩ : ByteArray) = r ∧ (2 : Int) = e by
      have hg := HH.out
      unfold vendmeterref_ActShown.g at hg
      rw [if_neg (fun g => hA (g.2.1 rfl))] at hg
      simpa using hg)
    clear hA hme 
    go_wp2_with (first | (go_at_call 24; refine (vendmeterref_In.calls _ _ _ _ _ (in_f _ _ _)).mono ?_; rintro e' wa ⟨rfl, hdr⟩; have hb1 := below_drawn hdr; replace S1 := Aside0.mk (blk_below S1.out hb1); replace SB := Aside0.mk (below_then SB.out SB.out.size hb1); clear hb1 hdr; try clear x0 x1 x2 x3 x4 x5 x6; obtain ⟨x0, x1, x2, x3, x4, x5, x6⟩ := actc S1.out))
    obtain ⟨rfl, rfl⟩ := HR.out
    go_ret2
    exact ⟨rfl, SB.out⟩
  have q3A : decide (0 ≤ A ∧ A ≤ 1000000000000) = true := decide_eq_true hA
  by_cases hC : okV C
  rotate_left
  · have q3C : decide (0 ≤ C ∧ C ≤ 1000000000000) = false := decide_eq_false hC
    have HR := Aside0.mk (show (⟨#[]⟩ : ByteArray) = r ∧ (2 : Int) = e by
      have hg := HH.out
      unfold vendmeterref_ActShown.g at hg
      rw [if_neg (fun g => hC (g.2.2.2 rfl))] at hg
      simpa using hg)
    clear hC hme hA
    go_wp2_with (first | (go_at_call 24; refine (vendmeterref_In.calls _ _ _ _ _ (in_f _ _ _)).mono ?_; rintro e' wa ⟨rfl, hdr⟩; have hb1 := below_drawn hdr; replace S1 := Aside0.mk (blk_below S1.out hb1); replace SB := Aside0.mk (below_then SB.out SB.out.size hb1); clear hb1 hdr; try clear x0 x1 x2 x3 x4 x5 x6; obtain ⟨x0, x1, x2, x3, x4, x5, x6⟩ := actc S1.out))
    obtain ⟨rfl, rfl⟩ := HR.out
    go_ret2
    exact ⟨rfl, SB.out⟩
  have q3C : decide (0 ≤ C ∧ C ≤ 1000000000000) = true := decide_eq_true hC
  have HOK : Aside0 (okAll true false true me A B C) := ⟨⟨hme, fun _ => hA, fun g => absurd g (by decide), fun _ => hC⟩⟩
  clear hme hA hC
  go_upto_region 6 with (first | (go_at_call 24; refine (vendmeterref_In.calls _ _ _ _ _ (in_f _ _ _)).mono ?_; rintro e' wa ⟨rfl, hdr⟩; have hb1 := below_drawn hdr; replace S1 := Aside0.mk (blk_below S1.out hb1); replace SB := Aside0.mk (below_then SB.out SB.out.size hb1); clear hb1 hdr; try clear x0 x1 x2 x3 x4 x5 x6; obtain ⟨x0, x1, x2, x3, x4, x5, x6⟩ := actc S1.out))
  clear q3A q3C
  by_cases hB : B = 0
  rotate_left
  · have q3B : (B != 0) = true := bne_iff_ne.mpr hB
    have HR := Aside0.mk (show (⟨#[]⟩ : ByteArray) = r ∧ (3 : Int) = e by
      have hg := HH.out
      unfold vendmeterref_ActShown.g at hg
      rw [if_pos HOK.out, if_neg (fun g => (g.2.1).elim (by decide) hB)] at hg
      simpa using hg)
    clear hB 
    go_wp2
    obtain ⟨rfl, rfl⟩ := HR.out
    go_ret2
    exact ⟨rfl, SB.out⟩
  have q3B : (B != 0) = false := bne_eq_false_iff_eq.mpr hB
  by_cases hT : tx.size = 0
  rotate_left
  · have q4 : (tx.toList != ([] : List UInt8)) = true := bne_iff_ne.mpr (fun g => hT (by rw [ByteArray.toList_eq] at g; show tx.data.size = 0; rw [← Array.length_toList, g]; rfl))
    have q5 : (tx.toList == ([] : List UInt8)) = false := by have h5 := q4; rw [bne, Bool.not_eq_true'] at h5; exact h5
    have HR := Aside0.mk (show (⟨#[]⟩ : ByteArray) = r ∧ (3 : Int) = e by
      have hg := HH.out
      unfold vendmeterref_ActShown.g at hg
      rw [if_pos HOK.out, if_neg (fun g => g.2.2.2.elim (by decide) hT)] at hg
      simpa using hg)
    clear hT hB
    go_wp2
    obtain ⟨rfl, rfl⟩ := HR.out
    go_ret2
    exact ⟨rfl, SB.out⟩
  have q5 : (tx.toList == ([] : List UInt8)) = true := beq_iff_eq.mpr (by rw [ByteArray.toList_eq]; exact List.eq_nil_of_length_eq_zero (by rw [Array.length_toList]; exact hT))
  have q4 : (tx.toList != ([] : List UInt8)) = false := by rw [bne, q5]; rfl
  have HZ : Aside0 (zAll true false true false A B C tx) := ⟨⟨.inl rfl, .inr hB, .inl rfl, .inr hT⟩⟩
  clear hB hT
  have HG : Aside0 ((if hasNl tx = false then showEnd (actL wd true false true false me A B C tx ct) else some (⟨#[]⟩, 3)) = some (r, e)) := ⟨by have hg := HH.out; unfold vendmeterref_ActShown.g at hg; rw [if_pos HOK.out, if_pos HZ.out] at hg; exact hg⟩
  clear HH HZ
  go_upto_region 8 with (fail)
  clear q3B q4 q5
  go_wp2
  go_loopg [8] tx.size (fun kq v8 w' => ∃ j : Nat, v8 = .int .i64 (j : Int) ∧ Aside0 (j ≤ tx.size ∧ kq = tx.size - j) ∧ Aside0 (∀ i : Nat, i < j → bt tx i ≠ 10) ∧ Aside0 (w'.heap[w.heap.size]? = some (.cells #[.int .i64 kn, .int .i64 me, .int .i64 A, .int .i64 B, .int .i64 C, .string tx, .int .i64 ct] 31 (0, 0))) ∧ Aside0 (Below w.heap.size w w'))
  case atStart => exact ⟨0, rfl, ⟨Nat.zero_le _, rfl⟩, ⟨fun i hi => absurd hi (Nat.not_lt_zero i)⟩, S1, SB⟩
  case round =>
    clear S1 SB x0 x1 x2 x3 x4 x5 x6
    obtain ⟨j, rfl, HJ, HN, S1, SB⟩ := hrel
    obtain ⟨x0, x1, x2, x3, x4, x5, x6⟩ := actc S1.out
    by_cases hlt : j < tx.size
    · have t1 : decide ((j : Int) < (tx.size : Int)) = true := decide_eq_true (by omega)
      have t1n : decide (j < tx.size) = true := decide_eq_true hlt
      have t2 := eq_true (show 0 ≤ (j : Int) by omega)
      have t3 := eq_true (show (j : Int) < (tx.size : Int) by omega)
      have hx := bt_at tx (j : Int)
      have hx2 : ∀ h : j < tx.size, ((tx[j]'h).toNat : Int) = bt tx j := fun h => bt_at tx (j : Int) h
      by_cases h10 : bt tx j = 10
      · have t4 : (bt tx (j : Int) == 10) = true := beq_iff_eq.mpr h10
        have HR := Aside0.mk (show (⟨#[]⟩ : ByteArray) = r ∧ (3 : Int) = e by
          have hg := HG.out
          rw [if_neg (fun g => nl_free g j hlt h10)] at hg
          simpa using hg)
        clear hlt h10
        go_wp2
        obtain ⟨rfl, rfl⟩ := HR.out
        go_ret2
        exact ⟨rfl, SB.out⟩
      · have t4 : (bt tx (j : Int) == 10) = false := beq_eq_false_iff_ne.mpr h10
        have H10 := Aside0.mk h10
        have HLT := Aside0.mk hlt
        have HW64 := Aside0.mk (show wrap64 ((j : Int) + 1) = ((j + 1 : Nat) : Int) from w64 ⟨by omega, by have := HTX.out; omega⟩)
        clear hlt h10
        go_wp2
        go_roundg (tx.size - (j + 1))
        case measure => have := HJ.out; have := HLT.out; omega
        case rel => exact ⟨j + 1, by rw [HW64.out], ⟨HLT.out, rfl⟩, ⟨fun i hi => (Nat.lt_succ_iff_lt_or_eq.mp hi).elim (HN.out i) (fun g => g ▸ H10.out)⟩, S1, SB⟩
    · have t1 : decide ((j : Int) < (tx.size : Int)) = false := decide_eq_false (by omega)
      have t1n : decide (j < tx.size) = false := decide_eq_false hlt
      have hnl : hasNl tx = false := by
        cases hq : hasNl tx with
        | false => rfl
        | true => obtain ⟨i, hi, h2, _⟩ := nl_there hq; exact absurd h2 (HN.out i (by omega))
      have hg := HG.out
      rw [if_pos hnl] at hg
      obtain ⟨hsz, hre⟩ := show_cat (join_cat wd true false true false me A B C tx ct) hg
      have HS := Aside0.mk hsz
      have HE := Aside0.mk hre
      clear hg hnl hsz hre hlt HG HN HJ
      go_upto_region 13 with (fail)
      obtain ⟨dm, hdm⟩ : ∃ d, itoaB me = d := ⟨_, rfl⟩
      obtain ⟨nA, hnA⟩ : ∃ d, npB true A = d := ⟨_, rfl⟩
      obtain ⟨nB, hnB⟩ : ∃ d, npB false B = d := ⟨_, rfl⟩
      obtain ⟨nC, hnC⟩ : ∃ d, npB true C = d := ⟨_, rfl⟩
      obtain ⟨s, hs⟩ : ∃ s, ((((wd ++ (⟨#[32]⟩ : ByteArray)) ++ dm) ++ nA) ++ nB) ++ nC = s := ⟨_, rfl⟩
      have HS0 := Aside0.mk (show s0B wd true false true me A B C = s by unfold s0B; rw [hdm, hnA, hnB, hnC, hs])
      have HDm := Aside0.mk (show vendmeterref_Dec.f k me = some dm by rw [← hdm]; exact decOk_get HD.out.2.1 HOK.out.1)
      have HNA := Aside0.mk (show vendmeterref_numberPart.f k true A = some nA by rw [← hnA]; exact np_get HD.out.2.2.1 HOK.out.2.1)
      have HNB := Aside0.mk (show vendmeterref_numberPart.f k false B = some nB by rw [← hnB]; exact np_get HD.out.2.2.2.1 HOK.out.2.2.1)
      have HNC := Aside0.mk (show vendmeterref_numberPart.f k true C = some nC by rw [← hnC]; exact np_get HD.out.2.2.2.2 HOK.out.2.2.2)
      have b1 := HWS.out
      have b2 : dm.size ≤ 21 := by rw [← hdm]; exact itoaB_size HOK.out.1
      have b3 : nA.size ≤ 22 := by rw [← hnA]; exact npB_size HOK.out.2.1
      have b4 : nB.size ≤ 22 := by rw [← hnB]; exact npB_size HOK.out.2.2.1
      have b5 : nC.size ≤ 22 := by rw [← hnC]; exact npB_size HOK.out.2.2.2
      have z1 : (9223372036854775807 < wd.size + 1) = False := eq_false (by omega)
      have y1 : (wd.size + 1 ≤ 9223372036854775807) = True := eq_true (by omega)
      have z2 : (9223372036854775807 < wd.size + 1 + dm.size) = False := eq_false (by omega)
      have y2 : (wd.size + 1 + dm.size ≤ 9223372036854775807) = True := eq_true (by omega)
      have z3 : (9223372036854775807 < wd.size + 1 + dm.size + nA.size) = False := eq_false (by omega)
      have y3 : (wd.size + 1 + dm.size + nA.size ≤ 9223372036854775807) = True := eq_true (by omega)
      have z4 : (9223372036854775807 < wd.size + 1 + dm.size + nA.size + nB.size) = False := eq_false (by omega)
      have y4 : (wd.size + 1 + dm.size + nA.size + nB.size ≤ 9223372036854775807) = True := eq_true (by omega)
      have z5 : (9223372036854775807 < wd.size + 1 + dm.size + nA.size + nB.size + nC.size) = False := eq_false (by omega)
      have y5 : (wd.size + 1 + dm.size + nA.size + nB.size + nC.size ≤ 9223372036854775807) = True := eq_true (by omega)
      have b6 : s.size ≤ 110 := by rw [← hs]; simp only [ByteArray.size_append]; have : (⟨#[32]⟩ : ByteArray).size = 1 := rfl; omega
      clear hdm hnA hnB hnC b1 b2 b3 b4 b5
      refine start_ (n := 22) (S := fun w' => w'.cell? ⟨w.heap.size, 1, none⟩ = some (.int .i64 me) ∧ w'.cell? ⟨w.heap.size, 2, none⟩ = some (.int .i64 A) ∧ w'.cell? ⟨w.heap.size, 3, none⟩ = some (.int .i64 B) ∧ w'.cell? ⟨w.heap.size, 4, none⟩ = some (.int .i64 C)) (ds := []) #[false, false, false, false, false, false, false, false, false, false, false, false, false, false, false, false, false, false, false, false, false, false] (by kernel_rfl) rfl rfl ⟨x1, x2, x3, x4⟩ (fun hHeld => ?_)
      refine pp 0 104 ?_
      refine pp 1 105 ?_
      refine pp 2 106 ?_
      refine pp 6 110 ?_
      refine pp 7 111 ?_
      refine pp 11 115 ?_
      refine pp 12 116 ?_
      refine pp 16 120 ?_
      refine pp 17 121 ?_
      refine tk 3 107 ?_
      refine tk 8 112 ?_
      refine tk 13 117 ?_
      refine tk 18 122 ?_
      refine one_ (i := 4) (N := some 108) #[true, true, true, true, true, false, true, true, true, false, false, true, true, true, false, false, true, true, true, false, false, false] rfl rfl (by kernel_rfl) (by decide) (fun K hK => ?_)
      refine goes_ Tryd.func25 (by kernel_rfl) rfl #[.int .i64 me] (by rfl) rfl rfl (by (try simp only [List.map_toArray, List.map_cons, List.map_nil]); first | done | rfl) ?_
      with_reducible refine (vendmeterref_Dec.calls k me dm _ HDm.out).mono ?_
      rintro e' w1 ⟨rfl, hb1⟩
      refine ⟨_, rfl, ?_⟩
      replace S1 := Aside0.mk (blk_below (blk_drew S1.out) hb1)
      replace SB := Aside0.mk (below_then (below_drew1 SB.out) SB.out.size hb1)
      clear hb1 x0 x1 x2 x3 x4 x5 x6
      obtain ⟨x0, x1, x2, x3, x4, x5, x6⟩ := actc S1.out
      refine hK.out _ _ ⟨x1, x2, x3, x4⟩ (fun hHeld => ?_)
      clear hK K
      refine norm_ (a' := ?_) ?_ ?_
      rotate_left
      · show Act.put _ (some 108) _ = _
        simp only [Act.put, List.setIfInBounds_toArray, List.set_cons_zero, List.set_cons_succ, i64_w, i32_w]
        rfl
      refine pp 5 109 ?_
      refine one_ (i := 9) (N := some 113) #[true, true, true, true, true, true, true, true, true, true, false, true, true, true, false, false, true, true, true, false, false, false] rfl rfl (by kernel_rfl) (by decide) (fun K hK => ?_)
      refine goes_ Tryd.func26 (by kernel_rfl) rfl #[.bool true, .int .i64 A] (by rfl) rfl rfl (by (try simp only [List.map_toArray, List.map_cons, List.map_nil]); first | done | rfl) ?_
      with_reducible refine (vendmeterref_numberPart.calls k true A nA _ HNA.out).mono ?_
      rintro e' w1 ⟨rfl, hb1⟩
      refine ⟨_, rfl, ?_⟩
      replace S1 := Aside0.mk (blk_below S1.out hb1)
      replace SB := Aside0.mk (below_then SB.out SB.out.size hb1)
      clear hb1 x0 x1 x2 x3 x4 x5 x6
      obtain ⟨x0, x1, x2, x3, x4, x5, x6⟩ := actc S1.out
      refine hK.out _ _ ⟨x1, x2, x3, x4⟩ (fun hHeld => ?_)
      clear hK K
      refine norm_ (a' := ?_) ?_ ?_
      rotate_left
      · show Act.put _ (some 113) _ = _
        simp only [Act.put, List.setIfInBounds_toArray, List.set_cons_zero, List.set_cons_succ, i64_w, i32_w]
        rfl
      refine pp 10 114 ?_
      refine one_ (i := 14) (N := some 118) #[true, true, true, true, true, true, true, true, true, true, true, true, true, true, true, false, true, true, true, false, false, false] rfl rfl (by kernel_rfl) (by decide) (fun K hK => ?_)
      refine goes_ Tryd.func26 (by kernel_rfl) rfl #[.bool false, .int .i64 B] (by rfl) rfl rfl (by (try simp only [List.map_toArray, List.map_cons, List.map_nil]); first | done | rfl) ?_
      with_reducible refine (vendmeterref_numberPart.calls k false B nB _ HNB.out).mono ?_
      rintro e' w1 ⟨rfl, hb1⟩
      refine ⟨_, rfl, ?_⟩
      replace S1 := Aside0.mk (blk_below S1.out hb1)
      replace SB := Aside0.mk (below_then SB.out SB.out.size hb1)
      clear hb1 x0 x1 x2 x3 x4 x5 x6
      obtain ⟨x0, x1, x2, x3, x4, x5, x6⟩ := actc S1.out
      refine hK.out _ _ ⟨x1, x2, x3, x4⟩ (fun hHeld => ?_)
      clear hK K
      refine norm_ (a' := ?_) ?_ ?_
      rotate_left
      · show Act.put _ (some 118) _ = _
        simp only [Act.put, List.setIfInBounds_toArray, List.set_cons_zero, List.set_cons_succ, i64_w, i32_w]
        rfl
      refine pp 15 119 ?_
      refine one_ (i := 19) (N := some 123) #[true, true, true, true, true, true, true, true, true, true, true, true, true, true, true, true, true, true, true, true, false, false] rfl rfl (by kernel_rfl) (by decide) (fun K hK => ?_)
      refine goes_ Tryd.func26 (by kernel_rfl) rfl #[.bool true, .int .i64 C] (by rfl) rfl rfl (by (try simp only [List.map_toArray, List.map_cons, List.map_nil]); first | done | rfl) ?_
      with_reducible refine (vendmeterref_numberPart.calls k true C nC _ HNC.out).mono ?_
      rintro e' w1 ⟨rfl, hb1⟩
      refine ⟨_, rfl, ?_⟩
      replace S1 := Aside0.mk (blk_below S1.out hb1)
      replace SB := Aside0.mk (below_then SB.out SB.out.size hb1)
      clear hb1 x0 x1 x2 x3 x4 x5 x6
      obtain ⟨x0, x1, x2, x3, x4, x5, x6⟩ := actc S1.out
      refine hK.out _ _ ⟨x1, x2, x3, x4⟩ (fun hHeld => ?_)
      clear hK K
      refine norm_ (a' := ?_) ?_ ?_
      rotate_left
      · show Act.put _ (some 123) _ = _
        simp only [Act.put, List.setIfInBounds_toArray, List.set_cons_zero, List.set_cons_succ, i64_w, i32_w]
        rfl
      refine pp 20 124 ?_
      refine pp 21 9 ?_
      refine done_ (by kernel_rfl) ?_
      try simp only [hs]
      clear hs z1 z2 z3 z4 z5 y1 y2 y3 y4 y5
      rw [HS0.out] at HE
      by_cases hc0 : 0 ≤ ct
      · have q6 : decide (ct ≥ 0) = true := decide_eq_true hc0
        have q6n : decide (0 ≤ ct) = true := decide_eq_true hc0
        obtain ⟨dc, hdc⟩ : ∃ d, itoaB ct = d := ⟨_, rfl⟩
        have hv : okV ct := ⟨hc0, by have := HCT.out; omega⟩
        have HDc := Aside0.mk (show vendmeterref_Dec.f k ct = some dc by rw [← hdc]; exact decOk_get HD.out.1 hv)
        have b7 : dc.size ≤ 21 := by rw [← hdc]; exact itoaB_size hv
        have z5 : (9223372036854775807 < 4 + dc.size) = False := eq_false (by omega)
        have y5 : (4 + dc.size ≤ 9223372036854775807) = True := eq_true (by omega)
        have z6 : (9223372036854775807 < 4 + dc.size + 1) = False := eq_false (by omega)
        have y6 : (4 + dc.size + 1 ≤ 9223372036854775807) = True := eq_true (by omega)
        have z7 : (9223372036854775807 < 4 + dc.size + 1 + s.size) = False := eq_false (by omega)
        have y7 : (4 + dc.size + 1 + s.size ≤ 9223372036854775807) = True := eq_true (by omega)
        obtain ⟨s1, hs1⟩ : ∃ s_, (((⟨#[99, 117, 116, 32]⟩ : ByteArray) ++ dc) ++ (⟨#[32]⟩ : ByteArray)) ++ s = s_ := ⟨_, rfl⟩
        have b9 : s1.size ≤ 140 := by rw [← hs1]; simp only [ByteArray.size_append]; have : (⟨#[32]⟩ : ByteArray).size = 1 := rfl; have : (⟨#[99, 117, 116, 32]⟩ : ByteArray).size = 4 := rfl; omega
        rw [show s1B ct s = s1 by unfold s1B; rw [if_pos hc0, hdc, hs1]] at HE
        clear hc0 hdc hv b7
        go_upto_region 16 with (first | (go_at_call 25; refine (vendmeterref_Dec.calls k ct dc _ HDc.out).mono ?_; rintro e' wa ⟨rfl, hb1⟩; have hb1 := hb1; replace S1 := Aside0.mk (blk_below S1.out hb1); replace SB := Aside0.mk (below_then SB.out SB.out.size hb1); clear hb1; try clear x0 x1 x2 x3 x4 x5 x6; obtain ⟨x0, x1, x2, x3, x4, x5, x6⟩ := actc S1.out))
        try simp only [hs1]
        clear hs1 z5 z6 z7 y5 y6 y7 b6 q6 q6n
        go_upto_region 18 with (fail)
        rw [show s2B false tx s1 = s1 from rfl] at HE
        by_cases hl : s1.size > 120
        · have l1 : decide ((s1.size : Int) > 120) = true := decide_eq_true (by omega)
          have l2 : decide (120 < s1.size) = true := decide_eq_true hl
          have he := HE.out
          rw [if_pos hl] at he
          obtain ⟨rfl, rfl⟩ := Prod.mk.inj he
          clear he hl HE
          go_wp2
          go_ret2
          exact ⟨rfl, SB.out⟩
        · have l1 : decide ((s1.size : Int) > 120) = false := decide_eq_false (by omega)
          have l2 : decide (120 < s1.size) = false := decide_eq_false hl
          have he := HE.out
          rw [if_neg hl] at he
          obtain ⟨rfl, rfl⟩ := Prod.mk.inj he
          clear he hl HE
          go_wp2
          go_ret2
          exact ⟨rfl, SB.out⟩
      · have q6 : decide (ct ≥ 0) = false := decide_eq_false (by omega)
        have q6n : decide (0 ≤ ct) = false := decide_eq_false hc0
        rw [show s1B ct s = s by unfold s1B; rw [if_neg hc0]] at HE
        clear hc0
        go_upto_region 16 with (fail)
        clear q6 q6n
        go_upto_region 18 with (fail)
        rw [show s2B false tx s = s from rfl] at HE
        by_cases hl : s.size > 120
        · have l1 : decide ((s.size : Int) > 120) = true := decide_eq_true (by omega)
          have l2 : decide (120 < s.size) = true := decide_eq_true hl
          have he := HE.out
          rw [if_pos hl] at he
          obtain ⟨rfl, rfl⟩ := Prod.mk.inj he
          clear he hl HE
          go_wp2
          go_ret2
          exact ⟨rfl, SB.out⟩
        · have l1 : decide ((s.size : Int) > 120) = false := decide_eq_false (by omega)
          have l2 : decide (120 < s.size) = false := decide_eq_false hl
          have he := HE.out
          rw [if_neg hl] at he
          obtain ⟨rfl, rfl⟩ := Prod.mk.inj he
          clear he hl HE
          go_wp2
          go_ret2
          exact ⟨rfl, SB.out⟩
set_option maxHeartbeats 8000000 in
set_option maxRecDepth 100000 in
theorem vendmeterref_ActShown.main3 (k : Nat) (kn me A B C : Int) (tx : ByteArray) (ct : Int) (wd : ByteArray) (w : World) (hA : vendmeterref_ActWord.f kn = some (wd, false, false, true)) (hw : (wd.toList == ([] : List UInt8)) = false) (hws : wd.size ≤ 20) (qk : (kn == 6) = false) (htx : tx.size ≤ 140737488355328) (hct : -1 ≤ ct ∧ ct ≤ 4096) (hD : decsOk k ct me A B C = true) (r : ByteArray) (e : Int) (h : vendmeterref_ActShown.g wd false false true false me A B C tx ct = some (r, e)) :
    Calls Tryd.prog 10 #[.agg #[.int .i64 kn, .int .i64 me, .int .i64 A, .int .i64 B, .int .i64 C, .string tx, .int .i64 ct]] w fun e' w' => e' = .returned (.tuple #[.string r, .int .i64 e]) ∧ Below w.heap.size w w' := by
  have HA := Aside0.mk hA
  have HD : Aside0 (decOk k ct = true ∧ decOk k me = true ∧ decOk k A = true ∧ decOk k B = true ∧ decOk k C = true) := ⟨by simp only [decsOk, Bool.and_eq_true] at hD; exact ⟨hD.1.1.1.1, hD.1.1.1.2, hD.1.1.2, hD.1.2, hD.2⟩⟩
  have HH := Aside0.mk h
  have HWS := Aside0.mk hws
  have HTX := Aside0.mk htx
  have HCT := Aside0.mk hct
  have qk2 : (kn != 6) = true := by show (!(kn == 6)) = _; rw [qk]; rfl
  have q1 : decide (-1 ≤ ct ∧ ct ≤ 4096) = true := decide_eq_true hct
  clear hA hD h hws hct htx
  have hu31 := Tryd.underlying31
  have S1 := Aside0.mk (blk_new w (.cells #[.int .i64 kn, .int .i64 me, .int .i64 A, .int .i64 B, .int .i64 C, .string tx, .int .i64 ct] 31))
  have SB := Aside0.mk (below_alloc (Below.refl w.heap.size w) (.cells #[.int .i64 kn, .int .i64 me, .int .i64 A, .int .i64 B, .int .i64 C, .string tx, .int .i64 ct] 31))
  obtain ⟨x0, x1, x2, x3, x4, x5, x6⟩ := actc S1.out
  go_enter Tryd.func10, Tryd.ntmps10
  by_cases hme : okV me
  rotate_left
  · have q2 : decide (0 ≤ me ∧ me ≤ 1000000000000) = false := decide_eq_false hme
    have HR := Aside0.mk (show (⟨#[]⟩ : ByteArray) = r ∧ (2 : Int) = e by
      have hg := HH.out
      unfold vendmeterref_ActShown.g at hg
      rw [if_neg (fun g => hme g.1)] at hg
      simpa using hg)
    clear hme
    go_wp2_with (first | (go_at_call 23; refine (vendmeterref_ActWord.calls kn _ _ _ _ _ HA.out).mono ?_; rintro e' wa ⟨rfl, hdr⟩; have hb1 := below_drawn hdr; replace S1 := Aside0.mk (blk_below S1.out hb1); replace SB := Aside0.mk (below_then SB.out SB.out.size hb1); clear hb1 hdr; try clear x0 x1 x2 x3 x4 x5 x6; obtain ⟨x0, x1, x2, x3, x4, x5, x6⟩ := actc S1.out) | (go_at_call 24; refine (vendmeterref_In.calls _ _ _ _ _ (in_f _ _ _)).mono ?_; rintro e' wa ⟨rfl, hdr⟩; have hb1 := below_drawn hdr; replace S1 := Aside0.mk (blk_below S1.out hb1); replace SB := Aside0.mk (below_then SB.out SB.out.size hb1); clear hb1 hdr; try clear x0 x1 x2 x3 x4 x5 x6; obtain ⟨x0, x1, x2, x3, x4, x5, x6⟩ := actc S1.out))
    obtain ⟨rfl, rfl⟩ := HR.out
    go_ret2
    exact ⟨rfl, SB.out⟩
  have q2 : decide (0 ≤ me ∧ me ≤ 1000000000000) = true := decide_eq_true hme
  go_upto_region 4 with (first | (go_at_call 23; refine (vendmeterref_ActWord.calls kn _ _ _ _ _ HA.out).mono ?_; rintro e' wa ⟨rfl, hdr⟩; have hb1 := below_drawn hdr; replace S1 := Aside0.mk (blk_below S1.out hb1); replace SB := Aside0.mk (below_then SB.out SB.out.size hb1); clear hb1 hdr; try clear x0 x1 x2 x3 x4 x5 x6; obtain ⟨x0, x1, x2, x3, x4, x5, x6⟩ := actc S1.out) | (go_at_call 24; refine (vendmeterref_In.calls _ _ _ _ _ (in_f _ _ _)).mono ?_; rintro e' wa ⟨rfl, hdr⟩; have hb1 := below_drawn hdr; replace S1 := Aside0.mk (blk_below S1.out hb1); replace SB := Aside0.mk (below_then SB.out SB.out.size hb1); clear hb1 hdr; try clear x0 x1 x2 x3 x4 x5 x6; obtain ⟨x0, x1, x2, x3, x4, x5, x6⟩ := actc S1.out))
  clear q1 q2
  by_cases hC : okV C
  rotate_left
  · have q3C : decide (0 ≤ C ∧ C ≤ 1000000000000) = false := decide_eq_false hC
    have HR := Aside0.mk (show (⟨#[]⟩ : ByteArray) = r ∧ (2 : Int) = e by
      have hg := HH.out
      unfold vendmeterref_ActShown.g at hg
      rw [if_neg (fun g => hC (g.2.2.2 rfl))] at hg
      simpa using hg)
    clear hC hme 
    go_wp2_with (first | (go_at_call 24; refine (vendmeterref_In.calls _ _ _ _ _ (in_f _ _ _)).mono ?_; rintro e' wa ⟨rfl, hdr⟩; have hb1 := below_drawn hdr; replace S1 := Aside0.mk (blk_below S1.out hb1); replace SB := Aside0.mk (below_then SB.out SB.out.size hb1); clear hb1 hdr; try clear x0 x1 x2 x3 x4 x5 x6; obtain ⟨x0, x1, x2, x3, x4, x5, x6⟩ := actc S1.out))
    obtain ⟨rfl, rfl⟩ := HR.out
    go_ret2
    exact ⟨rfl, SB.out⟩
  have q3C : decide (0 ≤ C ∧ C ≤ 1000000000000) = true := decide_eq_true hC
  have HOK : Aside0 (okAll false false true me A B C) := ⟨⟨hme, fun g => absurd g (by decide), fun g => absurd g (by decide), fun _ => hC⟩⟩
  clear hme hC
  go_upto_region 6 with (first | (go_at_call 24; refine (vendmeterref_In.calls _ _ _ _ _ (in_f _ _ _)).mono ?_; rintro e' wa ⟨rfl, hdr⟩; have hb1 := below_drawn hdr; replace S1 := Aside0.mk (blk_below S1.out hb1); replace SB := Aside0.mk (below_then SB.out SB.out.size hb1); clear hb1 hdr; try clear x0 x1 x2 x3 x4 x5 x6; obtain ⟨x0, x1, x2, x3, x4, x5, x6⟩ := actc S1.out))
  clear q3C
  by_cases hA : A = 0
  rotate_left
  · have q3A : (A != 0) = true := bne_iff_ne.mpr hA
    have HR := Aside0.mk (show (⟨#[]⟩ : ByteArray) = r ∧ (3 : Int) = e by
      have hg := HH.out
      unfold vendmeterref_ActShown.g at hg
      rw [if_pos HOK.out, if_neg (fun g => (g.1).elim (by decide) hA)] at hg
      simpa using hg)
    clear hA 
    go_wp2
    obtain ⟨rfl, rfl⟩ := HR.out
    go_ret2
    exact ⟨rfl, SB.out⟩
  have q3A : (A != 0) = false := bne_eq_false_iff_eq.mpr hA
  by_cases hB : B = 0
  rotate_left
  · have q3B : (B != 0) = true := bne_iff_ne.mpr hB
    have HR := Aside0.mk (show (⟨#[]⟩ : ByteArray) = r ∧ (3 : Int) = e by
      have hg := HH.out
      unfold vendmeterref_ActShown.g at hg
      rw [if_pos HOK.out, if_neg (fun g => (g.2.1).elim (by decide) hB)] at hg
      simpa using hg)
    clear hB hA
    go_wp2
    obtain ⟨rfl, rfl⟩ := HR.out
    go_ret2
    exact ⟨rfl, SB.out⟩
  have q3B : (B != 0) = false := bne_eq_false_iff_eq.mpr hB
  by_cases hT : tx.size = 0
  rotate_left
  · have q4 : (tx.toList != ([] : List UInt8)) = true := bne_iff_ne.mpr (fun g => hT (by rw [ByteArray.toList_eq] at g; show tx.data.size = 0; rw [← Array.length_toList, g]; rfl))
    have q5 : (tx.toList == ([] : List UInt8)) = false := by have h5 := q4; rw [bne, Bool.not_eq_true'] at h5; exact h5
    have HR := Aside0.mk (show (⟨#[]⟩ : ByteArray) = r ∧ (3 : Int) = e by
      have hg := HH.out
      unfold vendmeterref_ActShown.g at hg
      rw [if_pos HOK.out, if_neg (fun g => g.2.2.2.elim (by decide) hT)] at hg
      simpa using hg)
    clear hT hA hB
    go_wp2
    obtain ⟨rfl, rfl⟩ := HR.out
    go_ret2
    exact ⟨rfl, SB.out⟩
  have q5 : (tx.toList == ([] : List UInt8)) = true := beq_iff_eq.mpr (by rw [ByteArray.toList_eq]; exact List.eq_nil_of_length_eq_zero (by rw [Array.length_toList]; exact hT))
  have q4 : (tx.toList != ([] : List UInt8)) = false := by rw [bne, q5]; rfl
  have HZ : Aside0 (zAll false false true false A B C tx) := ⟨⟨.inr hA, .inr hB, .inl rfl, .inr hT⟩⟩
  clear hA hB hT
  have HG : Aside0 ((if hasNl tx = false then showEnd (actL wd false false true false me A B C tx ct) else some (⟨#[]⟩, 3)) = some (r, e)) := ⟨by have hg := HH.out; unfold vendmeterref_ActShown.g at hg; rw [if_pos HOK.out, if_pos HZ.out] at hg; exact hg⟩
  clear HH HZ
  go_upto_region 8 with (fail)
  clear q3A q3B q4 q5
  go_wp2
  go_loopg [8] tx.size (fun kq v8 w' => ∃ j : Nat, v8 = .int .i64 (j : Int) ∧ Aside0 (j ≤ tx.size ∧ kq = tx.size - j) ∧ Aside0 (∀ i : Nat, i < j → bt tx i ≠ 10) ∧ Aside0 (w'.heap[w.heap.size]? = some (.cells #[.int .i64 kn, .int .i64 me, .int .i64 A, .int .i64 B, .int .i64 C, .string tx, .int .i64 ct] 31 (0, 0))) ∧ Aside0 (Below w.heap.size w w'))
  case atStart => exact ⟨0, rfl, ⟨Nat.zero_le _, rfl⟩, ⟨fun i hi => absurd hi (Nat.not_lt_zero i)⟩, S1, SB⟩
  case round =>
    clear S1 SB x0 x1 x2 x3 x4 x5 x6
    obtain ⟨j, rfl, HJ, HN, S1, SB⟩ := hrel
    obtain ⟨x0, x1, x2, x3, x4, x5, x6⟩ := actc S1.out
    by_cases hlt : j < tx.size
    · have t1 : decide ((j : Int) < (tx.size : Int)) = true := decide_eq_true (by omega)
      have t1n : decide (j < tx.size) = true := decide_eq_true hlt
      have t2 := eq_true (show 0 ≤ (j : Int) by omega)
      have t3 := eq_true (show (j : Int) < (tx.size : Int) by omega)
      have hx := bt_at tx (j : Int)
      have hx2 : ∀ h : j < tx.size, ((tx[j]'h).toNat : Int) = bt tx j := fun h => bt_at tx (j : Int) h
      by_cases h10 : bt tx j = 10
      · have t4 : (bt tx (j : Int) == 10) = true := beq_iff_eq.mpr h10
        have HR := Aside0.mk (show (⟨#[]⟩ : ByteArray) = r ∧ (3 : Int) = e by
          have hg := HG.out
          rw [if_neg (fun g => nl_free g j hlt h10)] at hg
          simpa using hg)
        clear hlt h10
        go_wp2
        obtain ⟨rfl, rfl⟩ := HR.out
        go_ret2
        exact ⟨rfl, SB.out⟩
      · have t4 : (bt tx (j : Int) == 10) = false := beq_eq_false_iff_ne.mpr h10
        have H10 := Aside0.mk h10
        have HLT := Aside0.mk hlt
        have HW64 := Aside0.mk (show wrap64 ((j : Int) + 1) = ((j + 1 : Nat) : Int) from w64 ⟨by omega, by have := HTX.out; omega⟩)
        clear hlt h10
        go_wp2
        go_roundg (tx.size - (j + 1))
        case measure => have := HJ.out; have := HLT.out; omega
        case rel => exact ⟨j + 1, by rw [HW64.out], ⟨HLT.out, rfl⟩, ⟨fun i hi => (Nat.lt_succ_iff_lt_or_eq.mp hi).elim (HN.out i) (fun g => g ▸ H10.out)⟩, S1, SB⟩
    · have t1 : decide ((j : Int) < (tx.size : Int)) = false := decide_eq_false (by omega)
      have t1n : decide (j < tx.size) = false := decide_eq_false hlt
      have hnl : hasNl tx = false := by
        cases hq : hasNl tx with
        | false => rfl
        | true => obtain ⟨i, hi, h2, _⟩ := nl_there hq; exact absurd h2 (HN.out i (by omega))
      have hg := HG.out
      rw [if_pos hnl] at hg
      obtain ⟨hsz, hre⟩ := show_cat (join_cat wd false false true false me A B C tx ct) hg
      have HS := Aside0.mk hsz
      have HE := Aside0.mk hre
      clear hg hnl hsz hre hlt HG HN HJ
      go_upto_region 13 with (fail)
      obtain ⟨dm, hdm⟩ : ∃ d, itoaB me = d := ⟨_, rfl⟩
      obtain ⟨nA, hnA⟩ : ∃ d, npB false A = d := ⟨_, rfl⟩
      obtain ⟨nB, hnB⟩ : ∃ d, npB false B = d := ⟨_, rfl⟩
      obtain ⟨nC, hnC⟩ : ∃ d, npB true C = d := ⟨_, rfl⟩
      obtain ⟨s, hs⟩ : ∃ s, ((((wd ++ (⟨#[32]⟩ : ByteArray)) ++ dm) ++ nA) ++ nB) ++ nC = s := ⟨_, rfl⟩
      have HS0 := Aside0.mk (show s0B wd false false true me A B C = s by unfold s0B; rw [hdm, hnA, hnB, hnC, hs])
      have HDm := Aside0.mk (show vendmeterref_Dec.f k me = some dm by rw [← hdm]; exact decOk_get HD.out.2.1 HOK.out.1)
      have HNA := Aside0.mk (show vendmeterref_numberPart.f k false A = some nA by rw [← hnA]; exact np_get HD.out.2.2.1 HOK.out.2.1)
      have HNB := Aside0.mk (show vendmeterref_numberPart.f k false B = some nB by rw [← hnB]; exact np_get HD.out.2.2.2.1 HOK.out.2.2.1)
      have HNC := Aside0.mk (show vendmeterref_numberPart.f k true C = some nC by rw [← hnC]; exact np_get HD.out.2.2.2.2 HOK.out.2.2.2)
      have b1 := HWS.out
      have b2 : dm.size ≤ 21 := by rw [← hdm]; exact itoaB_size HOK.out.1
      have b3 : nA.size ≤ 22 := by rw [← hnA]; exact npB_size HOK.out.2.1
      have b4 : nB.size ≤ 22 := by rw [← hnB]; exact npB_size HOK.out.2.2.1
      have b5 : nC.size ≤ 22 := by rw [← hnC]; exact npB_size HOK.out.2.2.2
      have z1 : (9223372036854775807 < wd.size + 1) = False := eq_false (by omega)
      have y1 : (wd.size + 1 ≤ 9223372036854775807) = True := eq_true (by omega)
      have z2 : (9223372036854775807 < wd.size + 1 + dm.size) = False := eq_false (by omega)
      have y2 : (wd.size + 1 + dm.size ≤ 9223372036854775807) = True := eq_true (by omega)
      have z3 : (9223372036854775807 < wd.size + 1 + dm.size + nA.size) = False := eq_false (by omega)
      have y3 : (wd.size + 1 + dm.size + nA.size ≤ 9223372036854775807) = True := eq_true (by omega)
      have z4 : (9223372036854775807 < wd.size + 1 + dm.size + nA.size + nB.size) = False := eq_false (by omega)
      have y4 : (wd.size + 1 + dm.size + nA.size + nB.size ≤ 9223372036854775807) = True := eq_true (by omega)
      have z5 : (9223372036854775807 < wd.size + 1 + dm.size + nA.size + nB.size + nC.size) = False := eq_false (by omega)
      have y5 : (wd.size + 1 + dm.size + nA.size + nB.size + nC.size ≤ 9223372036854775807) = True := eq_true (by omega)
      have b6 : s.size ≤ 110 := by rw [← hs]; simp only [ByteArray.size_append]; have : (⟨#[32]⟩ : ByteArray).size = 1 := rfl; omega
      clear hdm hnA hnB hnC b1 b2 b3 b4 b5
      refine start_ (n := 22) (S := fun w' => w'.cell? ⟨w.heap.size, 1, none⟩ = some (.int .i64 me) ∧ w'.cell? ⟨w.heap.size, 2, none⟩ = some (.int .i64 A) ∧ w'.cell? ⟨w.heap.size, 3, none⟩ = some (.int .i64 B) ∧ w'.cell? ⟨w.heap.size, 4, none⟩ = some (.int .i64 C)) (ds := []) #[false, false, false, false, false, false, false, false, false, false, false, false, false, false, false, false, false, false, false, false, false, false] (by kernel_rfl) rfl rfl ⟨x1, x2, x3, x4⟩ (fun hHeld => ?_)
      refine pp 0 104 ?_
      refine pp 1 105 ?_
      refine pp 2 106 ?_
      refine pp 6 110 ?_
      refine pp 7 111 ?_
      refine pp 11 115 ?_
      refine pp 12 116 ?_
      refine pp 16 120 ?_
      refine pp 17 121 ?_
      refine tk 3 107 ?_
      refine tk 8 112 ?_
      refine tk 13 117 ?_
      refine tk 18 122 ?_
      refine one_ (i := 4) (N := some 108) #[true, true, true, true, true, false, true, true, true, false, false, true, true, true, false, false, true, true, true, false, false, false] rfl rfl (by kernel_rfl) (by decide) (fun K hK => ?_)
      refine goes_ Tryd.func25 (by kernel_rfl) rfl #[.int .i64 me] (by rfl) rfl rfl (by (try simp only [List.map_toArray, List.map_cons, List.map_nil]); first | done | rfl) ?_
      with_reducible refine (vendmeterref_Dec.calls k me dm _ HDm.out).mono ?_
      rintro e' w1 ⟨rfl, hb1⟩
      refine ⟨_, rfl, ?_⟩
      replace S1 := Aside0.mk (blk_below (blk_drew S1.out) hb1)
      replace SB := Aside0.mk (below_then (below_drew1 SB.out) SB.out.size hb1)
      clear hb1 x0 x1 x2 x3 x4 x5 x6
      obtain ⟨x0, x1, x2, x3, x4, x5, x6⟩ := actc S1.out
      refine hK.out _ _ ⟨x1, x2, x3, x4⟩ (fun hHeld => ?_)
      clear hK K
      refine norm_ (a' := ?_) ?_ ?_
      rotate_left
      · show Act.put _ (some 108) _ = _
        simp only [Act.put, List.setIfInBounds_toArray, List.set_cons_zero, List.set_cons_succ, i64_w, i32_w]
        rfl
      refine pp 5 109 ?_
      refine one_ (i := 9) (N := some 113) #[true, true, true, true, true, true, true, true, true, true, false, true, true, true, false, false, true, true, true, false, false, false] rfl rfl (by kernel_rfl) (by decide) (fun K hK => ?_)
      refine goes_ Tryd.func26 (by kernel_rfl) rfl #[.bool false, .int .i64 A] (by rfl) rfl rfl (by (try simp only [List.map_toArray, List.map_cons, List.map_nil]); first | done | rfl) ?_
      with_reducible refine (vendmeterref_numberPart.calls k false A nA _ HNA.out).mono ?_
      rintro e' w1 ⟨rfl, hb1⟩
      refine ⟨_, rfl, ?_⟩
      replace S1 := Aside0.mk (blk_below S1.out hb1)
      replace SB := Aside0.mk (below_then SB.out SB.out.size hb1)
      clear hb1 x0 x1 x2 x3 x4 x5 x6
      obtain ⟨x0, x1, x2, x3, x4, x5, x6⟩ := actc S1.out
      refine hK.out _ _ ⟨x1, x2, x3, x4⟩ (fun hHeld => ?_)
      clear hK K
      refine norm_ (a' := ?_) ?_ ?_
      rotate_left
      · show Act.put _ (some 113) _ = _
        simp only [Act.put, List.setIfInBounds_toArray, List.set_cons_zero, List.set_cons_succ, i64_w, i32_w]
        rfl
      refine pp 10 114 ?_
      refine one_ (i := 14) (N := some 118) #[true, true, true, true, true, true, true, true, true, true, true, true, true, true, true, false, true, true, true, false, false, false] rfl rfl (by kernel_rfl) (by decide) (fun K hK => ?_)
      refine goes_ Tryd.func26 (by kernel_rfl) rfl #[.bool false, .int .i64 B] (by rfl) rfl rfl (by (try simp only [List.map_toArray, List.map_cons, List.map_nil]); first | done | rfl) ?_
      with_reducible refine (vendmeterref_numberPart.calls k false B nB _ HNB.out).mono ?_
      rintro e' w1 ⟨rfl, hb1⟩
      refine ⟨_, rfl, ?_⟩
      replace S1 := Aside0.mk (blk_below S1.out hb1)
      replace SB := Aside0.mk (below_then SB.out SB.out.size hb1)
      clear hb1 x0 x1 x2 x3 x4 x5 x6
      obtain ⟨x0, x1, x2, x3, x4, x5, x6⟩ := actc S1.out
      refine hK.out _ _ ⟨x1, x2, x3, x4⟩ (fun hHeld => ?_)
      clear hK K
      refine norm_ (a' := ?_) ?_ ?_
      rotate_left
      · show Act.put _ (some 118) _ = _
        simp only [Act.put, List.setIfInBounds_toArray, List.set_cons_zero, List.set_cons_succ, i64_w, i32_w]
        rfl
      refine pp 15 119 ?_
      refine one_ (i := 19) (N := some 123) #[true, true, true, true, true, true, true, true, true, true, true, true, true, true, true, true, true, true, true, true, false, false] rfl rfl (by kernel_rfl) (by decide) (fun K hK => ?_)
      refine goes_ Tryd.func26 (by kernel_rfl) rfl #[.bool true, .int .i64 C] (by rfl) rfl rfl (by (try simp only [List.map_toArray, List.map_cons, List.map_nil]); first | done | rfl) ?_
      with_reducible refine (vendmeterref_numberPart.calls k true C nC _ HNC.out).mono ?_
      rintro e' w1 ⟨rfl, hb1⟩
      refine ⟨_, rfl, ?_⟩
      replace S1 := Aside0.mk (blk_below S1.out hb1)
      replace SB := Aside0.mk (below_then SB.out SB.out.size hb1)
      clear hb1 x0 x1 x2 x3 x4 x5 x6
      obtain ⟨x0, x1, x2, x3, x4, x5, x6⟩ := actc S1.out
      refine hK.out _ _ ⟨x1, x2, x3, x4⟩ (fun hHeld => ?_)
      clear hK K
      refine norm_ (a' := ?_) ?_ ?_
      rotate_left
      · show Act.put _ (some 123) _ = _
        simp only [Act.put, List.setIfInBounds_toArray, List.set_cons_zero, List.set_cons_succ, i64_w, i32_w]
        rfl
      refine pp 20 124 ?_
      refine pp 21 9 ?_
      refine done_ (by kernel_rfl) ?_
      try simp only [hs]
      clear hs z1 z2 z3 z4 z5 y1 y2 y3 y4 y5
      rw [HS0.out] at HE
      by_cases hc0 : 0 ≤ ct
      · have q6 : decide (ct ≥ 0) = true := decide_eq_true hc0
        have q6n : decide (0 ≤ ct) = true := decide_eq_true hc0
        obtain ⟨dc, hdc⟩ : ∃ d, itoaB ct = d := ⟨_, rfl⟩
        have hv : okV ct := ⟨hc0, by have := HCT.out; omega⟩
        have HDc := Aside0.mk (show vendmeterref_Dec.f k ct = some dc by rw [← hdc]; exact decOk_get HD.out.1 hv)
        have b7 : dc.size ≤ 21 := by rw [← hdc]; exact itoaB_size hv
        have z5 : (9223372036854775807 < 4 + dc.size) = False := eq_false (by omega)
        have y5 : (4 + dc.size ≤ 9223372036854775807) = True := eq_true (by omega)
        have z6 : (9223372036854775807 < 4 + dc.size + 1) = False := eq_false (by omega)
        have y6 : (4 + dc.size + 1 ≤ 9223372036854775807) = True := eq_true (by omega)
        have z7 : (9223372036854775807 < 4 + dc.size + 1 + s.size) = False := eq_false (by omega)
        have y7 : (4 + dc.size + 1 + s.size ≤ 9223372036854775807) = True := eq_true (by omega)
        obtain ⟨s1, hs1⟩ : ∃ s_, (((⟨#[99, 117, 116, 32]⟩ : ByteArray) ++ dc) ++ (⟨#[32]⟩ : ByteArray)) ++ s = s_ := ⟨_, rfl⟩
        have b9 : s1.size ≤ 140 := by rw [← hs1]; simp only [ByteArray.size_append]; have : (⟨#[32]⟩ : ByteArray).size = 1 := rfl; have : (⟨#[99, 117, 116, 32]⟩ : ByteArray).size = 4 := rfl; omega
        rw [show s1B ct s = s1 by unfold s1B; rw [if_pos hc0, hdc, hs1]] at HE
        clear hc0 hdc hv b7
        go_upto_region 16 with (first | (go_at_call 25; refine (vendmeterref_Dec.calls k ct dc _ HDc.out).mono ?_; rintro e' wa ⟨rfl, hb1⟩; have hb1 := hb1; replace S1 := Aside0.mk (blk_below S1.out hb1); replace SB := Aside0.mk (below_then SB.out SB.out.size hb1); clear hb1; try clear x0 x1 x2 x3 x4 x5 x6; obtain ⟨x0, x1, x2, x3, x4, x5, x6⟩ := actc S1.out))
        try simp only [hs1]
        clear hs1 z5 z6 z7 y5 y6 y7 b6 q6 q6n
        go_upto_region 18 with (fail)
        rw [show s2B false tx s1 = s1 from rfl] at HE
        by_cases hl : s1.size > 120
        · have l1 : decide ((s1.size : Int) > 120) = true := decide_eq_true (by omega)
          have l2 : decide (120 < s1.size) = true := decide_eq_true hl
          have he := HE.out
          rw [if_pos hl] at he
          obtain ⟨rfl, rfl⟩ := Prod.mk.inj he
          clear he hl HE
          go_wp2
          go_ret2
          exact ⟨rfl, SB.out⟩
        · have l1 : decide ((s1.size : Int) > 120) = false := decide_eq_false (by omega)
          have l2 : decide (120 < s1.size) = false := decide_eq_false hl
          have he := HE.out
          rw [if_neg hl] at he
          obtain ⟨rfl, rfl⟩ := Prod.mk.inj he
          clear he hl HE
          go_wp2
          go_ret2
          exact ⟨rfl, SB.out⟩
      · have q6 : decide (ct ≥ 0) = false := decide_eq_false (by omega)
        have q6n : decide (0 ≤ ct) = false := decide_eq_false hc0
        rw [show s1B ct s = s by unfold s1B; rw [if_neg hc0]] at HE
        clear hc0
        go_upto_region 16 with (fail)
        clear q6 q6n
        go_upto_region 18 with (fail)
        rw [show s2B false tx s = s from rfl] at HE
        by_cases hl : s.size > 120
        · have l1 : decide ((s.size : Int) > 120) = true := decide_eq_true (by omega)
          have l2 : decide (120 < s.size) = true := decide_eq_true hl
          have he := HE.out
          rw [if_pos hl] at he
          obtain ⟨rfl, rfl⟩ := Prod.mk.inj he
          clear he hl HE
          go_wp2
          go_ret2
          exact ⟨rfl, SB.out⟩
        · have l1 : decide ((s.size : Int) > 120) = false := decide_eq_false (by omega)
          have l2 : decide (120 < s.size) = false := decide_eq_false hl
          have he := HE.out
          rw [if_neg hl] at he
          obtain ⟨rfl, rfl⟩ := Prod.mk.inj he
          clear he hl HE
          go_wp2
          go_ret2
          exact ⟨rfl, SB.out⟩
set_option maxHeartbeats 8000000 in
set_option maxRecDepth 100000 in
theorem vendmeterref_ActShown.main4 (k : Nat) (kn me A B C : Int) (tx : ByteArray) (ct : Int) (wd : ByteArray) (w : World) (hA : vendmeterref_ActWord.f kn = some (wd, true, true, false)) (hw : (wd.toList == ([] : List UInt8)) = false) (hws : wd.size ≤ 20) (qk : (kn == 6) = false) (htx : tx.size ≤ 140737488355328) (hct : -1 ≤ ct ∧ ct ≤ 4096) (hD : decsOk k ct me A B C = true) (r : ByteArray) (e : Int) (h : vendmeterref_ActShown.g wd true true false false me A B C tx ct = some (r, e)) :
    Calls Tryd.prog 10 #[.agg #[.int .i64 kn, .int .i64 me, .int .i64 A, .int .i64 B, .int .i64 C, .string tx, .int .i64 ct]] w fun e' w' => e' = .returned (.tuple #[.string r, .int .i64 e]) ∧ Below w.heap.size w w' := by
  have HA := Aside0.mk hA
  have HD : Aside0 (decOk k ct = true ∧ decOk k me = true ∧ decOk k A = true ∧ decOk k B = true ∧ decOk k C = true) := ⟨by simp only [decsOk, Bool.and_eq_true] at hD; exact ⟨hD.1.1.1.1, hD.1.1.1.2, hD.1.1.2, hD.1.2, hD.2⟩⟩
  have HH := Aside0.mk h
  have HWS := Aside0.mk hws
  have HTX := Aside0.mk htx
  have HCT := Aside0.mk hct
  have qk2 : (kn != 6) = true := by show (!(kn == 6)) = _; rw [qk]; rfl
  have q1 : decide (-1 ≤ ct ∧ ct ≤ 4096) = true := decide_eq_true hct
  clear hA hD h hws hct htx
  have hu31 := Tryd.underlying31
  have S1 := Aside0.mk (blk_new w (.cells #[.int .i64 kn, .int .i64 me, .int .i64 A, .int .i64 B, .int .i64 C, .string tx, .int .i64 ct] 31))
  have SB := Aside0.mk (below_alloc (Below.refl w.heap.size w) (.cells #[.int .i64 kn, .int .i64 me, .int .i64 A, .int .i64 B, .int .i64 C, .string tx, .int .i64 ct] 31))
  obtain ⟨x0, x1, x2, x3, x4, x5, x6⟩ := actc S1.out
  go_enter Tryd.func10, Tryd.ntmps10
  by_cases hme : okV me
  rotate_left
  · have q2 : decide (0 ≤ me ∧ me ≤ 1000000000000) = false := decide_eq_false hme
    have HR := Aside0.mk (show (⟨#[]⟩ : ByteArray) = r ∧ (2 : Int) = e by
      have hg := HH.out
      unfold vendmeterref_ActShown.g at hg
      rw [if_neg (fun g => hme g.1)] at hg
      simpa using hg)
    clear hme
    go_wp2_with (first | (go_at_call 23; refine (vendmeterref_ActWord.calls kn _ _ _ _ _ HA.out).mono ?_; rintro e' wa ⟨rfl, hdr⟩; have hb1 := below_drawn hdr; replace S1 := Aside0.mk (blk_below S1.out hb1); replace SB := Aside0.mk (below_then SB.out SB.out.size hb1); clear hb1 hdr; try clear x0 x1 x2 x3 x4 x5 x6; obtain ⟨x0, x1, x2, x3, x4, x5, x6⟩ := actc S1.out) | (go_at_call 24; refine (vendmeterref_In.calls _ _ _ _ _ (in_f _ _ _)).mono ?_; rintro e' wa ⟨rfl, hdr⟩; have hb1 := below_drawn hdr; replace S1 := Aside0.mk (blk_below S1.out hb1); replace SB := Aside0.mk (below_then SB.out SB.out.size hb1); clear hb1 hdr; try clear x0 x1 x2 x3 x4 x5 x6; obtain ⟨x0, x1, x2, x3, x4, x5, x6⟩ := actc S1.out))
    obtain ⟨rfl, rfl⟩ := HR.out
    go_ret2
    exact ⟨rfl, SB.out⟩
  have q2 : decide (0 ≤ me ∧ me ≤ 1000000000000) = true := decide_eq_true hme
  go_upto_region 4 with (first | (go_at_call 23; refine (vendmeterref_ActWord.calls kn _ _ _ _ _ HA.out).mono ?_; rintro e' wa ⟨rfl, hdr⟩; have hb1 := below_drawn hdr; replace S1 := Aside0.mk (blk_below S1.out hb1); replace SB := Aside0.mk (below_then SB.out SB.out.size hb1); clear hb1 hdr; try clear x0 x1 x2 x3 x4 x5 x6; obtain ⟨x0, x1, x2, x3, x4, x5, x6⟩ := actc S1.out) | (go_at_call 24; refine (vendmeterref_In.calls _ _ _ _ _ (in_f _ _ _)).mono ?_; rintro e' wa ⟨rfl, hdr⟩; have hb1 := below_drawn hdr; replace S1 := Aside0.mk (blk_below S1.out hb1); replace SB := Aside0.mk (below_then SB.out SB.out.size hb1); clear hb1 hdr; try clear x0 x1 x2 x3 x4 x5 x6; obtain ⟨x0, x1, x2, x3, x4, x5, x6⟩ := actc S1.out))
  clear q1 q2
  by_cases hA : okV A
  rotate_left
  · have q3A : decide (0 ≤ A ∧ A ≤ 1000000000000) = false := decide_eq_false hA
    have HR := Aside0.mk (show (⟨#[]⟩ : ByteArray) = r ∧ (2 : Int) = e by
      have hg := HH.out
      unfold vendmeterref_ActShown.g at hg
      rw [if_neg (fun g => hA (g.2.1 rfl))] at hg
      simpa using hg)
    clear hA hme 
    go_wp2_with (first | (go_at_call 24; refine (vendmeterref_In.calls _ _ _ _ _ (in_f _ _ _)).mono ?_; rintro e' wa ⟨rfl, hdr⟩; have hb1 := below_drawn hdr; replace S1 := Aside0.mk (blk_below S1.out hb1); replace SB := Aside0.mk (below_then SB.out SB.out.size hb1); clear hb1 hdr; try clear x0 x1 x2 x3 x4 x5 x6; obtain ⟨x0, x1, x2, x3, x4, x5, x6⟩ := actc S1.out))
    obtain ⟨rfl, rfl⟩ := HR.out
    go_ret2
    exact ⟨rfl, SB.out⟩
  have q3A : decide (0 ≤ A ∧ A ≤ 1000000000000) = true := decide_eq_true hA
  by_cases hB : okV B
  rotate_left
  · have q3B : decide (0 ≤ B ∧ B ≤ 1000000000000) = false := decide_eq_false hB
    have HR := Aside0.mk (show (⟨#[]⟩ : ByteArray) = r ∧ (2 : Int) = e by
      have hg := HH.out
      unfold vendmeterref_ActShown.g at hg
      rw [if_neg (fun g => hB (g.2.2.1 rfl))] at hg
      simpa using hg)
    clear hB hme hA
    go_wp2_with (first | (go_at_call 24; refine (vendmeterref_In.calls _ _ _ _ _ (in_f _ _ _)).mono ?_; rintro e' wa ⟨rfl, hdr⟩; have hb1 := below_drawn hdr; replace S1 := Aside0.mk (blk_below S1.out hb1); replace SB := Aside0.mk (below_then SB.out SB.out.size hb1); clear hb1 hdr; try clear x0 x1 x2 x3 x4 x5 x6; obtain ⟨x0, x1, x2, x3, x4, x5, x6⟩ := actc S1.out))
    obtain ⟨rfl, rfl⟩ := HR.out
    go_ret2
    exact ⟨rfl, SB.out⟩
  have q3B : decide (0 ≤ B ∧ B ≤ 1000000000000) = true := decide_eq_true hB
  have HOK : Aside0 (okAll true true false me A B C) := ⟨⟨hme, fun _ => hA, fun _ => hB, fun g => absurd g (by decide)⟩⟩
  clear hme hA hB
  go_upto_region 6 with (first | (go_at_call 24; refine (vendmeterref_In.calls _ _ _ _ _ (in_f _ _ _)).mono ?_; rintro e' wa ⟨rfl, hdr⟩; have hb1 := below_drawn hdr; replace S1 := Aside0.mk (blk_below S1.out hb1); replace SB := Aside0.mk (below_then SB.out SB.out.size hb1); clear hb1 hdr; try clear x0 x1 x2 x3 x4 x5 x6; obtain ⟨x0, x1, x2, x3, x4, x5, x6⟩ := actc S1.out))
  clear q3A q3B
  by_cases hC : C = 0
  rotate_left
  · have q3C : (C != 0) = true := bne_iff_ne.mpr hC
    have HR := Aside0.mk (show (⟨#[]⟩ : ByteArray) = r ∧ (3 : Int) = e by
      have hg := HH.out
      unfold vendmeterref_ActShown.g at hg
      rw [if_pos HOK.out, if_neg (fun g => (g.2.2.1).elim (by decide) hC)] at hg
      simpa using hg)
    clear hC 
    go_wp2
    obtain ⟨rfl, rfl⟩ := HR.out
    go_ret2
    exact ⟨rfl, SB.out⟩
  have q3C : (C != 0) = false := bne_eq_false_iff_eq.mpr hC
  by_cases hT : tx.size = 0
  rotate_left
  · have q4 : (tx.toList != ([] : List UInt8)) = true := bne_iff_ne.mpr (fun g => hT (by rw [ByteArray.toList_eq] at g; show tx.data.size = 0; rw [← Array.length_toList, g]; rfl))
    have q5 : (tx.toList == ([] : List UInt8)) = false := by have h5 := q4; rw [bne, Bool.not_eq_true'] at h5; exact h5
    have HR := Aside0.mk (show (⟨#[]⟩ : ByteArray) = r ∧ (3 : Int) = e by
      have hg := HH.out
      unfold vendmeterref_ActShown.g at hg
      rw [if_pos HOK.out, if_neg (fun g => g.2.2.2.elim (by decide) hT)] at hg
      simpa using hg)
    clear hT hC
    go_wp2
    obtain ⟨rfl, rfl⟩ := HR.out
    go_ret2
    exact ⟨rfl, SB.out⟩
  have q5 : (tx.toList == ([] : List UInt8)) = true := beq_iff_eq.mpr (by rw [ByteArray.toList_eq]; exact List.eq_nil_of_length_eq_zero (by rw [Array.length_toList]; exact hT))
  have q4 : (tx.toList != ([] : List UInt8)) = false := by rw [bne, q5]; rfl
  have HZ : Aside0 (zAll true true false false A B C tx) := ⟨⟨.inl rfl, .inl rfl, .inr hC, .inr hT⟩⟩
  clear hC hT
  have HG : Aside0 ((if hasNl tx = false then showEnd (actL wd true true false false me A B C tx ct) else some (⟨#[]⟩, 3)) = some (r, e)) := ⟨by have hg := HH.out; unfold vendmeterref_ActShown.g at hg; rw [if_pos HOK.out, if_pos HZ.out] at hg; exact hg⟩
  clear HH HZ
  go_upto_region 8 with (fail)
  clear q3C q4 q5
  go_wp2
  go_loopg [8] tx.size (fun kq v8 w' => ∃ j : Nat, v8 = .int .i64 (j : Int) ∧ Aside0 (j ≤ tx.size ∧ kq = tx.size - j) ∧ Aside0 (∀ i : Nat, i < j → bt tx i ≠ 10) ∧ Aside0 (w'.heap[w.heap.size]? = some (.cells #[.int .i64 kn, .int .i64 me, .int .i64 A, .int .i64 B, .int .i64 C, .string tx, .int .i64 ct] 31 (0, 0))) ∧ Aside0 (Below w.heap.size w w'))
  case atStart => exact ⟨0, rfl, ⟨Nat.zero_le _, rfl⟩, ⟨fun i hi => absurd hi (Nat.not_lt_zero i)⟩, S1, SB⟩
  case round =>
    clear S1 SB x0 x1 x2 x3 x4 x5 x6
    obtain ⟨j, rfl, HJ, HN, S1, SB⟩ := hrel
    obtain ⟨x0, x1, x2, x3, x4, x5, x6⟩ := actc S1.out
    by_cases hlt : j < tx.size
    · have t1 : decide ((j : Int) < (tx.size : Int)) = true := decide_eq_true (by omega)
      have t1n : decide (j < tx.size) = true := decide_eq_true hlt
      have t2 := eq_true (show 0 ≤ (j : Int) by omega)
      have t3 := eq_true (show (j : Int) < (tx.size : Int) by omega)
      have hx := bt_at tx (j : Int)
      have hx2 : ∀ h : j < tx.size, ((tx[j]'h).toNat : Int) = bt tx j := fun h => bt_at tx (j : Int) h
      by_cases h10 : bt tx j = 10
      · have t4 : (bt tx (j : Int) == 10) = true := beq_iff_eq.mpr h10
        have HR := Aside0.mk (show (⟨#[]⟩ : ByteArray) = r ∧ (3 : Int) = e by
          have hg := HG.out
          rw [if_neg (fun g => nl_free g j hlt h10)] at hg
          simpa using hg)
        clear hlt h10
        go_wp2
        obtain ⟨rfl, rfl⟩ := HR.out
        go_ret2
        exact ⟨rfl, SB.out⟩
      · have t4 : (bt tx (j : Int) == 10) = false := beq_eq_false_iff_ne.mpr h10
        have H10 := Aside0.mk h10
        have HLT := Aside0.mk hlt
        have HW64 := Aside0.mk (show wrap64 ((j : Int) + 1) = ((j + 1 : Nat) : Int) from w64 ⟨by omega, by have := HTX.out; omega⟩)
        clear hlt h10
        go_wp2
        go_roundg (tx.size - (j + 1))
        case measure => have := HJ.out; have := HLT.out; omega
        case rel => exact ⟨j + 1, by rw [HW64.out], ⟨HLT.out, rfl⟩, ⟨fun i hi => (Nat.lt_succ_iff_lt_or_eq.mp hi).elim (HN.out i) (fun g => g ▸ H10.out)⟩, S1, SB⟩
    · have t1 : decide ((j : Int) < (tx.size : Int)) = false := decide_eq_false (by omega)
      have t1n : decide (j < tx.size) = false := decide_eq_false hlt
      have hnl : hasNl tx = false := by
        cases hq : hasNl tx with
        | false => rfl
        | true => obtain ⟨i, hi, h2, _⟩ := nl_there hq; exact absurd h2 (HN.out i (by omega))
      have hg := HG.out
      rw [if_pos hnl] at hg
      obtain ⟨hsz, hre⟩ := show_cat (join_cat wd true true false false me A B C tx ct) hg
      have HS := Aside0.mk hsz
      have HE := Aside0.mk hre
      clear hg hnl hsz hre hlt HG HN HJ
      go_upto_region 13 with (fail)
      obtain ⟨dm, hdm⟩ : ∃ d, itoaB me = d := ⟨_, rfl⟩
      obtain ⟨nA, hnA⟩ : ∃ d, npB true A = d := ⟨_, rfl⟩
      obtain ⟨nB, hnB⟩ : ∃ d, npB true B = d := ⟨_, rfl⟩
      obtain ⟨nC, hnC⟩ : ∃ d, npB false C = d := ⟨_, rfl⟩
      obtain ⟨s, hs⟩ : ∃ s, ((((wd ++ (⟨#[32]⟩ : ByteArray)) ++ dm) ++ nA) ++ nB) ++ nC = s := ⟨_, rfl⟩
      have HS0 := Aside0.mk (show s0B wd true true false me A B C = s by unfold s0B; rw [hdm, hnA, hnB, hnC, hs])
      have HDm := Aside0.mk (show vendmeterref_Dec.f k me = some dm by rw [← hdm]; exact decOk_get HD.out.2.1 HOK.out.1)
      have HNA := Aside0.mk (show vendmeterref_numberPart.f k true A = some nA by rw [← hnA]; exact np_get HD.out.2.2.1 HOK.out.2.1)
      have HNB := Aside0.mk (show vendmeterref_numberPart.f k true B = some nB by rw [← hnB]; exact np_get HD.out.2.2.2.1 HOK.out.2.2.1)
      have HNC := Aside0.mk (show vendmeterref_numberPart.f k false C = some nC by rw [← hnC]; exact np_get HD.out.2.2.2.2 HOK.out.2.2.2)
      have b1 := HWS.out
      have b2 : dm.size ≤ 21 := by rw [← hdm]; exact itoaB_size HOK.out.1
      have b3 : nA.size ≤ 22 := by rw [← hnA]; exact npB_size HOK.out.2.1
      have b4 : nB.size ≤ 22 := by rw [← hnB]; exact npB_size HOK.out.2.2.1
      have b5 : nC.size ≤ 22 := by rw [← hnC]; exact npB_size HOK.out.2.2.2
      have z1 : (9223372036854775807 < wd.size + 1) = False := eq_false (by omega)
      have y1 : (wd.size + 1 ≤ 9223372036854775807) = True := eq_true (by omega)
      have z2 : (9223372036854775807 < wd.size + 1 + dm.size) = False := eq_false (by omega)
      have y2 : (wd.size + 1 + dm.size ≤ 9223372036854775807) = True := eq_true (by omega)
      have z3 : (9223372036854775807 < wd.size + 1 + dm.size + nA.size) = False := eq_false (by omega)
      have y3 : (wd.size + 1 + dm.size + nA.size ≤ 9223372036854775807) = True := eq_true (by omega)
      have z4 : (9223372036854775807 < wd.size + 1 + dm.size + nA.size + nB.size) = False := eq_false (by omega)
      have y4 : (wd.size + 1 + dm.size + nA.size + nB.size ≤ 9223372036854775807) = True := eq_true (by omega)
      have z5 : (9223372036854775807 < wd.size + 1 + dm.size + nA.size + nB.size + nC.size) = False := eq_false (by omega)
      have y5 : (wd.size + 1 + dm.size + nA.size + nB.size + nC.size ≤ 9223372036854775807) = True := eq_true (by omega)
      have b6 : s.size ≤ 110 := by rw [← hs]; simp only [ByteArray.size_append]; have : (⟨#[32]⟩ : ByteArray).size = 1 := rfl; omega
      clear hdm hnA hnB hnC b1 b2 b3 b4 b5
      refine start_ (n := 22) (S := fun w' => w'.cell? ⟨w.heap.size, 1, none⟩ = some (.int .i64 me) ∧ w'.cell? ⟨w.heap.size, 2, none⟩ = some (.int .i64 A) ∧ w'.cell? ⟨w.heap.size, 3, none⟩ = some (.int .i64 B) ∧ w'.cell? ⟨w.heap.size, 4, none⟩ = some (.int .i64 C)) (ds := []) #[false, false, false, false, false, false, false, false, false, false, false, false, false, false, false, false, false, false, false, false, false, false] (by kernel_rfl) rfl rfl ⟨x1, x2, x3, x4⟩ (fun hHeld => ?_)
      refine pp 0 104 ?_
      refine pp 1 105 ?_
      refine pp 2 106 ?_
      refine pp 6 110 ?_
      refine pp 7 111 ?_
      refine pp 11 115 ?_
      refine pp 12 116 ?_
      refine pp 16 120 ?_
      refine pp 17 121 ?_
      refine tk 3 107 ?_
      refine tk 8 112 ?_
      refine tk 13 117 ?_
      refine tk 18 122 ?_
      refine one_ (i := 4) (N := some 108) #[true, true, true, true, true, false, true, true, true, false, false, true, true, true, false, false, true, true, true, false, false, false] rfl rfl (by kernel_rfl) (by decide) (fun K hK => ?_)
      refine goes_ Tryd.func25 (by kernel_rfl) rfl #[.int .i64 me] (by rfl) rfl rfl (by (try simp only [List.map_toArray, List.map_cons, List.map_nil]); first | done | rfl) ?_
      with_reducible refine (vendmeterref_Dec.calls k me dm _ HDm.out).mono ?_
      rintro e' w1 ⟨rfl, hb1⟩
      refine ⟨_, rfl, ?_⟩
      replace S1 := Aside0.mk (blk_below (blk_drew S1.out) hb1)
      replace SB := Aside0.mk (below_then (below_drew1 SB.out) SB.out.size hb1)
      clear hb1 x0 x1 x2 x3 x4 x5 x6
      obtain ⟨x0, x1, x2, x3, x4, x5, x6⟩ := actc S1.out
      refine hK.out _ _ ⟨x1, x2, x3, x4⟩ (fun hHeld => ?_)
      clear hK K
      refine norm_ (a' := ?_) ?_ ?_
      rotate_left
      · show Act.put _ (some 108) _ = _
        simp only [Act.put, List.setIfInBounds_toArray, List.set_cons_zero, List.set_cons_succ, i64_w, i32_w]
        rfl
      refine pp 5 109 ?_
      refine one_ (i := 9) (N := some 113) #[true, true, true, true, true, true, true, true, true, true, false, true, true, true, false, false, true, true, true, false, false, false] rfl rfl (by kernel_rfl) (by decide) (fun K hK => ?_)
      refine goes_ Tryd.func26 (by kernel_rfl) rfl #[.bool true, .int .i64 A] (by rfl) rfl rfl (by (try simp only [List.map_toArray, List.map_cons, List.map_nil]); first | done | rfl) ?_
      with_reducible refine (vendmeterref_numberPart.calls k true A nA _ HNA.out).mono ?_
      rintro e' w1 ⟨rfl, hb1⟩
      refine ⟨_, rfl, ?_⟩
      replace S1 := Aside0.mk (blk_below S1.out hb1)
      replace SB := Aside0.mk (below_then SB.out SB.out.size hb1)
      clear hb1 x0 x1 x2 x3 x4 x5 x6
      obtain ⟨x0, x1, x2, x3, x4, x5, x6⟩ := actc S1.out
      refine hK.out _ _ ⟨x1, x2, x3, x4⟩ (fun hHeld => ?_)
      clear hK K
      refine norm_ (a' := ?_) ?_ ?_
      rotate_left
      · show Act.put _ (some 113) _ = _
        simp only [Act.put, List.setIfInBounds_toArray, List.set_cons_zero, List.set_cons_succ, i64_w, i32_w]
        rfl
      refine pp 10 114 ?_
      refine one_ (i := 14) (N := some 118) #[true, true, true, true, true, true, true, true, true, true, true, true, true, true, true, false, true, true, true, false, false, false] rfl rfl (by kernel_rfl) (by decide) (fun K hK => ?_)
      refine goes_ Tryd.func26 (by kernel_rfl) rfl #[.bool true, .int .i64 B] (by rfl) rfl rfl (by (try simp only [List.map_toArray, List.map_cons, List.map_nil]); first | done | rfl) ?_
      with_reducible refine (vendmeterref_numberPart.calls k true B nB _ HNB.out).mono ?_
      rintro e' w1 ⟨rfl, hb1⟩
      refine ⟨_, rfl, ?_⟩
      replace S1 := Aside0.mk (blk_below S1.out hb1)
      replace SB := Aside0.mk (below_then SB.out SB.out.size hb1)
      clear hb1 x0 x1 x2 x3 x4 x5 x6
      obtain ⟨x0, x1, x2, x3, x4, x5, x6⟩ := actc S1.out
      refine hK.out _ _ ⟨x1, x2, x3, x4⟩ (fun hHeld => ?_)
      clear hK K
      refine norm_ (a' := ?_) ?_ ?_
      rotate_left
      · show Act.put _ (some 118) _ = _
        simp only [Act.put, List.setIfInBounds_toArray, List.set_cons_zero, List.set_cons_succ, i64_w, i32_w]
        rfl
      refine pp 15 119 ?_
      refine one_ (i := 19) (N := some 123) #[true, true, true, true, true, true, true, true, true, true, true, true, true, true, true, true, true, true, true, true, false, false] rfl rfl (by kernel_rfl) (by decide) (fun K hK => ?_)
      refine goes_ Tryd.func26 (by kernel_rfl) rfl #[.bool false, .int .i64 C] (by rfl) rfl rfl (by (try simp only [List.map_toArray, List.map_cons, List.map_nil]); first | done | rfl) ?_
      with_reducible refine (vendmeterref_numberPart.calls k false C nC _ HNC.out).mono ?_
      rintro e' w1 ⟨rfl, hb1⟩
      refine ⟨_, rfl, ?_⟩
      replace S1 := Aside0.mk (blk_below S1.out hb1)
      replace SB := Aside0.mk (below_then SB.out SB.out.size hb1)
      clear hb1 x0 x1 x2 x3 x4 x5 x6
      obtain ⟨x0, x1, x2, x3, x4, x5, x6⟩ := actc S1.out
      refine hK.out _ _ ⟨x1, x2, x3, x4⟩ (fun hHeld => ?_)
      clear hK K
      refine norm_ (a' := ?_) ?_ ?_
      rotate_left
      · show Act.put _ (some 123) _ = _
        simp only [Act.put, List.setIfInBounds_toArray, List.set_cons_zero, List.set_cons_succ, i64_w, i32_w]
        rfl
      refine pp 20 124 ?_
      refine pp 21 9 ?_
      refine done_ (by kernel_rfl) ?_
      try simp only [hs]
      clear hs z1 z2 z3 z4 z5 y1 y2 y3 y4 y5
      rw [HS0.out] at HE
      by_cases hc0 : 0 ≤ ct
      · have q6 : decide (ct ≥ 0) = true := decide_eq_true hc0
        have q6n : decide (0 ≤ ct) = true := decide_eq_true hc0
        obtain ⟨dc, hdc⟩ : ∃ d, itoaB ct = d := ⟨_, rfl⟩
        have hv : okV ct := ⟨hc0, by have := HCT.out; omega⟩
        have HDc := Aside0.mk (show vendmeterref_Dec.f k ct = some dc by rw [← hdc]; exact decOk_get HD.out.1 hv)
        have b7 : dc.size ≤ 21 := by rw [← hdc]; exact itoaB_size hv
        have z5 : (9223372036854775807 < 4 + dc.size) = False := eq_false (by omega)
        have y5 : (4 + dc.size ≤ 9223372036854775807) = True := eq_true (by omega)
        have z6 : (9223372036854775807 < 4 + dc.size + 1) = False := eq_false (by omega)
        have y6 : (4 + dc.size + 1 ≤ 9223372036854775807) = True := eq_true (by omega)
        have z7 : (9223372036854775807 < 4 + dc.size + 1 + s.size) = False := eq_false (by omega)
        have y7 : (4 + dc.size + 1 + s.size ≤ 9223372036854775807) = True := eq_true (by omega)
        obtain ⟨s1, hs1⟩ : ∃ s_, (((⟨#[99, 117, 116, 32]⟩ : ByteArray) ++ dc) ++ (⟨#[32]⟩ : ByteArray)) ++ s = s_ := ⟨_, rfl⟩
        have b9 : s1.size ≤ 140 := by rw [← hs1]; simp only [ByteArray.size_append]; have : (⟨#[32]⟩ : ByteArray).size = 1 := rfl; have : (⟨#[99, 117, 116, 32]⟩ : ByteArray).size = 4 := rfl; omega
        rw [show s1B ct s = s1 by unfold s1B; rw [if_pos hc0, hdc, hs1]] at HE
        clear hc0 hdc hv b7
        go_upto_region 16 with (first | (go_at_call 25; refine (vendmeterref_Dec.calls k ct dc _ HDc.out).mono ?_; rintro e' wa ⟨rfl, hb1⟩; have hb1 := hb1; replace S1 := Aside0.mk (blk_below S1.out hb1); replace SB := Aside0.mk (below_then SB.out SB.out.size hb1); clear hb1; try clear x0 x1 x2 x3 x4 x5 x6; obtain ⟨x0, x1, x2, x3, x4, x5, x6⟩ := actc S1.out))
        try simp only [hs1]
        clear hs1 z5 z6 z7 y5 y6 y7 b6 q6 q6n
        go_upto_region 18 with (fail)
        rw [show s2B false tx s1 = s1 from rfl] at HE
        by_cases hl : s1.size > 120
        · have l1 : decide ((s1.size : Int) > 120) = true := decide_eq_true (by omega)
          have l2 : decide (120 < s1.size) = true := decide_eq_true hl
          have he := HE.out
          rw [if_pos hl] at he
          obtain ⟨rfl, rfl⟩ := Prod.mk.inj he
          clear he hl HE
          go_wp2
          go_ret2
          exact ⟨rfl, SB.out⟩
        · have l1 : decide ((s1.size : Int) > 120) = false := decide_eq_false (by omega)
          have l2 : decide (120 < s1.size) = false := decide_eq_false hl
          have he := HE.out
          rw [if_neg hl] at he
          obtain ⟨rfl, rfl⟩ := Prod.mk.inj he
          clear he hl HE
          go_wp2
          go_ret2
          exact ⟨rfl, SB.out⟩
      · have q6 : decide (ct ≥ 0) = false := decide_eq_false (by omega)
        have q6n : decide (0 ≤ ct) = false := decide_eq_false hc0
        rw [show s1B ct s = s by unfold s1B; rw [if_neg hc0]] at HE
        clear hc0
        go_upto_region 16 with (fail)
        clear q6 q6n
        go_upto_region 18 with (fail)
        rw [show s2B false tx s = s from rfl] at HE
        by_cases hl : s.size > 120
        · have l1 : decide ((s.size : Int) > 120) = true := decide_eq_true (by omega)
          have l2 : decide (120 < s.size) = true := decide_eq_true hl
          have he := HE.out
          rw [if_pos hl] at he
          obtain ⟨rfl, rfl⟩ := Prod.mk.inj he
          clear he hl HE
          go_wp2
          go_ret2
          exact ⟨rfl, SB.out⟩
        · have l1 : decide ((s.size : Int) > 120) = false := decide_eq_false (by omega)
          have l2 : decide (120 < s.size) = false := decide_eq_false hl
          have he := HE.out
          rw [if_neg hl] at he
          obtain ⟨rfl, rfl⟩ := Prod.mk.inj he
          clear he hl HE
          go_wp2
          go_ret2
          exact ⟨rfl, SB.out⟩
set_option maxHeartbeats 8000000 in
set_option maxRecDepth 100000 in
theorem vendmeterref_ActShown.main5 (k : Nat) (kn me A B C : Int) (tx : ByteArray) (ct : Int) (wd : ByteArray) (w : World) (hA : vendmeterref_ActWord.f kn = some (wd, false, false, false)) (hw : (wd.toList == ([] : List UInt8)) = false) (hws : wd.size ≤ 20) (qk : (kn == 6) = true) (htx : tx.size ≤ 140737488355328) (hct : -1 ≤ ct ∧ ct ≤ 4096) (hD : decsOk k ct me A B C = true) (r : ByteArray) (e : Int) (h : vendmeterref_ActShown.g wd false false false true me A B C tx ct = some (r, e)) :
    Calls Tryd.prog 10 #[.agg #[.int .i64 kn, .int .i64 me, .int .i64 A, .int .i64 B, .int .i64 C, .string tx, .int .i64 ct]] w fun e' w' => e' = .returned (.tuple #[.string r, .int .i64 e]) ∧ Below w.heap.size w w' := by
  have HA := Aside0.mk hA
  have HD : Aside0 (decOk k ct = true ∧ decOk k me = true ∧ decOk k A = true ∧ decOk k B = true ∧ decOk k C = true) := ⟨by simp only [decsOk, Bool.and_eq_true] at hD; exact ⟨hD.1.1.1.1, hD.1.1.1.2, hD.1.1.2, hD.1.2, hD.2⟩⟩
  have HH := Aside0.mk h
  have HWS := Aside0.mk hws
  have HTX := Aside0.mk htx
  have HCT := Aside0.mk hct
  have qk2 : (kn != 6) = false := by show (!(kn == 6)) = _; rw [qk]; rfl
  have q1 : decide (-1 ≤ ct ∧ ct ≤ 4096) = true := decide_eq_true hct
  clear hA hD h hws hct htx
  have hu31 := Tryd.underlying31
  have S1 := Aside0.mk (blk_new w (.cells #[.int .i64 kn, .int .i64 me, .int .i64 A, .int .i64 B, .int .i64 C, .string tx, .int .i64 ct] 31))
  have SB := Aside0.mk (below_alloc (Below.refl w.heap.size w) (.cells #[.int .i64 kn, .int .i64 me, .int .i64 A, .int .i64 B, .int .i64 C, .string tx, .int .i64 ct] 31))
  obtain ⟨x0, x1, x2, x3, x4, x5, x6⟩ := actc S1.out
  go_enter Tryd.func10, Tryd.ntmps10
  by_cases hme : okV me
  rotate_left
  · have q2 : decide (0 ≤ me ∧ me ≤ 1000000000000) = false := decide_eq_false hme
    have HR := Aside0.mk (show (⟨#[]⟩ : ByteArray) = r ∧ (2 : Int) = e by
      have hg := HH.out
      unfold vendmeterref_ActShown.g at hg
      rw [if_neg (fun g => hme g.1)] at hg
      simpa using hg)
    clear hme
    go_wp2_with (first | (go_at_call 23; refine (vendmeterref_ActWord.calls kn _ _ _ _ _ HA.out).mono ?_; rintro e' wa ⟨rfl, hdr⟩; have hb1 := below_drawn hdr; replace S1 := Aside0.mk (blk_below S1.out hb1); replace SB := Aside0.mk (below_then SB.out SB.out.size hb1); clear hb1 hdr; try clear x0 x1 x2 x3 x4 x5 x6; obtain ⟨x0, x1, x2, x3, x4, x5, x6⟩ := actc S1.out) | (go_at_call 24; refine (vendmeterref_In.calls _ _ _ _ _ (in_f _ _ _)).mono ?_; rintro e' wa ⟨rfl, hdr⟩; have hb1 := below_drawn hdr; replace S1 := Aside0.mk (blk_below S1.out hb1); replace SB := Aside0.mk (below_then SB.out SB.out.size hb1); clear hb1 hdr; try clear x0 x1 x2 x3 x4 x5 x6; obtain ⟨x0, x1, x2, x3, x4, x5, x6⟩ := actc S1.out))
    obtain ⟨rfl, rfl⟩ := HR.out
    go_ret2
    exact ⟨rfl, SB.out⟩
  have q2 : decide (0 ≤ me ∧ me ≤ 1000000000000) = true := decide_eq_true hme
  go_upto_region 4 with (first | (go_at_call 23; refine (vendmeterref_ActWord.calls kn _ _ _ _ _ HA.out).mono ?_; rintro e' wa ⟨rfl, hdr⟩; have hb1 := below_drawn hdr; replace S1 := Aside0.mk (blk_below S1.out hb1); replace SB := Aside0.mk (below_then SB.out SB.out.size hb1); clear hb1 hdr; try clear x0 x1 x2 x3 x4 x5 x6; obtain ⟨x0, x1, x2, x3, x4, x5, x6⟩ := actc S1.out) | (go_at_call 24; refine (vendmeterref_In.calls _ _ _ _ _ (in_f _ _ _)).mono ?_; rintro e' wa ⟨rfl, hdr⟩; have hb1 := below_drawn hdr; replace S1 := Aside0.mk (blk_below S1.out hb1); replace SB := Aside0.mk (below_then SB.out SB.out.size hb1); clear hb1 hdr; try clear x0 x1 x2 x3 x4 x5 x6; obtain ⟨x0, x1, x2, x3, x4, x5, x6⟩ := actc S1.out))
  clear q1 q2
  have HOK : Aside0 (okAll false false false me A B C) := ⟨⟨hme, fun g => absurd g (by decide), fun g => absurd g (by decide), fun g => absurd g (by decide)⟩⟩
  clear hme 
  go_upto_region 6 with (first | (go_at_call 24; refine (vendmeterref_In.calls _ _ _ _ _ (in_f _ _ _)).mono ?_; rintro e' wa ⟨rfl, hdr⟩; have hb1 := below_drawn hdr; replace S1 := Aside0.mk (blk_below S1.out hb1); replace SB := Aside0.mk (below_then SB.out SB.out.size hb1); clear hb1 hdr; try clear x0 x1 x2 x3 x4 x5 x6; obtain ⟨x0, x1, x2, x3, x4, x5, x6⟩ := actc S1.out))
  by_cases hA : A = 0
  rotate_left
  · have q3A : (A != 0) = true := bne_iff_ne.mpr hA
    have HR := Aside0.mk (show (⟨#[]⟩ : ByteArray) = r ∧ (3 : Int) = e by
      have hg := HH.out
      unfold vendmeterref_ActShown.g at hg
      rw [if_pos HOK.out, if_neg (fun g => (g.1).elim (by decide) hA)] at hg
      simpa using hg)
    clear hA 
    go_wp2
    obtain ⟨rfl, rfl⟩ := HR.out
    go_ret2
    exact ⟨rfl, SB.out⟩
  have q3A : (A != 0) = false := bne_eq_false_iff_eq.mpr hA
  by_cases hB : B = 0
  rotate_left
  · have q3B : (B != 0) = true := bne_iff_ne.mpr hB
    have HR := Aside0.mk (show (⟨#[]⟩ : ByteArray) = r ∧ (3 : Int) = e by
      have hg := HH.out
      unfold vendmeterref_ActShown.g at hg
      rw [if_pos HOK.out, if_neg (fun g => (g.2.1).elim (by decide) hB)] at hg
      simpa using hg)
    clear hB hA
    go_wp2
    obtain ⟨rfl, rfl⟩ := HR.out
    go_ret2
    exact ⟨rfl, SB.out⟩
  have q3B : (B != 0) = false := bne_eq_false_iff_eq.mpr hB
  by_cases hC : C = 0
  rotate_left
  · have q3C : (C != 0) = true := bne_iff_ne.mpr hC
    have HR := Aside0.mk (show (⟨#[]⟩ : ByteArray) = r ∧ (3 : Int) = e by
      have hg := HH.out
      unfold vendmeterref_ActShown.g at hg
      rw [if_pos HOK.out, if_neg (fun g => (g.2.2.1).elim (by decide) hC)] at hg
      simpa using hg)
    clear hC hA hB
    go_wp2
    obtain ⟨rfl, rfl⟩ := HR.out
    go_ret2
    exact ⟨rfl, SB.out⟩
  have q3C : (C != 0) = false := bne_eq_false_iff_eq.mpr hC
  have HZ : Aside0 (zAll false false false true A B C tx) := ⟨⟨.inr hA, .inr hB, .inr hC, .inl rfl⟩⟩
  clear hA hB hC 
  have HG : Aside0 ((if hasNl tx = false then showEnd (actL wd false false false true me A B C tx ct) else some (⟨#[]⟩, 3)) = some (r, e)) := ⟨by have hg := HH.out; unfold vendmeterref_ActShown.g at hg; rw [if_pos HOK.out, if_pos HZ.out] at hg; exact hg⟩
  clear HH HZ
  go_upto_region 8 with (fail)
  clear q3A q3B q3C
  go_wp2
  go_loopg [8] tx.size (fun kq v8 w' => ∃ j : Nat, v8 = .int .i64 (j : Int) ∧ Aside0 (j ≤ tx.size ∧ kq = tx.size - j) ∧ Aside0 (∀ i : Nat, i < j → bt tx i ≠ 10) ∧ Aside0 (w'.heap[w.heap.size]? = some (.cells #[.int .i64 kn, .int .i64 me, .int .i64 A, .int .i64 B, .int .i64 C, .string tx, .int .i64 ct] 31 (0, 0))) ∧ Aside0 (Below w.heap.size w w'))
  case atStart => exact ⟨0, rfl, ⟨Nat.zero_le _, rfl⟩, ⟨fun i hi => absurd hi (Nat.not_lt_zero i)⟩, S1, SB⟩
  case round =>
    clear S1 SB x0 x1 x2 x3 x4 x5 x6
    obtain ⟨j, rfl, HJ, HN, S1, SB⟩ := hrel
    obtain ⟨x0, x1, x2, x3, x4, x5, x6⟩ := actc S1.out
    by_cases hlt : j < tx.size
    · have t1 : decide ((j : Int) < (tx.size : Int)) = true := decide_eq_true (by omega)
      have t1n : decide (j < tx.size) = true := decide_eq_true hlt
      have t2 := eq_true (show 0 ≤ (j : Int) by omega)
      have t3 := eq_true (show (j : Int) < (tx.size : Int) by omega)
      have hx := bt_at tx (j : Int)
      have hx2 : ∀ h : j < tx.size, ((tx[j]'h).toNat : Int) = bt tx j := fun h => bt_at tx (j : Int) h
      by_cases h10 : bt tx j = 10
      · have t4 : (bt tx (j : Int) == 10) = true := beq_iff_eq.mpr h10
        have HR := Aside0.mk (show (⟨#[]⟩ : ByteArray) = r ∧ (3 : Int) = e by
          have hg := HG.out
          rw [if_neg (fun g => nl_free g j hlt h10)] at hg
          simpa using hg)
        clear hlt h10
        go_wp2
        obtain ⟨rfl, rfl⟩ := HR.out
        go_ret2
        exact ⟨rfl, SB.out⟩
      · have t4 : (bt tx (j : Int) == 10) = false := beq_eq_false_iff_ne.mpr h10
        have H10 := Aside0.mk h10
        have HLT := Aside0.mk hlt
        have HW64 := Aside0.mk (show wrap64 ((j : Int) + 1) = ((j + 1 : Nat) : Int) from w64 ⟨by omega, by have := HTX.out; omega⟩)
        clear hlt h10
        go_wp2
        go_roundg (tx.size - (j + 1))
        case measure => have := HJ.out; have := HLT.out; omega
        case rel => exact ⟨j + 1, by rw [HW64.out], ⟨HLT.out, rfl⟩, ⟨fun i hi => (Nat.lt_succ_iff_lt_or_eq.mp hi).elim (HN.out i) (fun g => g ▸ H10.out)⟩, S1, SB⟩
    · have t1 : decide ((j : Int) < (tx.size : Int)) = false := decide_eq_false (by omega)
      have t1n : decide (j < tx.size) = false := decide_eq_false hlt
      have hnl : hasNl tx = false := by
        cases hq : hasNl tx with
        | false => rfl
        | true => obtain ⟨i, hi, h2, _⟩ := nl_there hq; exact absurd h2 (HN.out i (by omega))
      have hg := HG.out
      rw [if_pos hnl] at hg
      obtain ⟨hsz, hre⟩ := show_cat (join_cat wd false false false true me A B C tx ct) hg
      have HS := Aside0.mk hsz
      have HE := Aside0.mk hre
      clear hg hnl hsz hre hlt HG HN HJ
      go_upto_region 13 with (fail)
      obtain ⟨dm, hdm⟩ : ∃ d, itoaB me = d := ⟨_, rfl⟩
      obtain ⟨nA, hnA⟩ : ∃ d, npB false A = d := ⟨_, rfl⟩
      obtain ⟨nB, hnB⟩ : ∃ d, npB false B = d := ⟨_, rfl⟩
      obtain ⟨nC, hnC⟩ : ∃ d, npB false C = d := ⟨_, rfl⟩
      obtain ⟨s, hs⟩ : ∃ s, ((((wd ++ (⟨#[32]⟩ : ByteArray)) ++ dm) ++ nA) ++ nB) ++ nC = s := ⟨_, rfl⟩
      have HS0 := Aside0.mk (show s0B wd false false false me A B C = s by unfold s0B; rw [hdm, hnA, hnB, hnC, hs])
      have HDm := Aside0.mk (show vendmeterref_Dec.f k me = some dm by rw [← hdm]; exact decOk_get HD.out.2.1 HOK.out.1)
      have HNA := Aside0.mk (show vendmeterref_numberPart.f k false A = some nA by rw [← hnA]; exact np_get HD.out.2.2.1 HOK.out.2.1)
      have HNB := Aside0.mk (show vendmeterref_numberPart.f k false B = some nB by rw [← hnB]; exact np_get HD.out.2.2.2.1 HOK.out.2.2.1)
      have HNC := Aside0.mk (show vendmeterref_numberPart.f k false C = some nC by rw [← hnC]; exact np_get HD.out.2.2.2.2 HOK.out.2.2.2)
      have b1 := HWS.out
      have b2 : dm.size ≤ 21 := by rw [← hdm]; exact itoaB_size HOK.out.1
      have b3 : nA.size ≤ 22 := by rw [← hnA]; exact npB_size HOK.out.2.1
      have b4 : nB.size ≤ 22 := by rw [← hnB]; exact npB_size HOK.out.2.2.1
      have b5 : nC.size ≤ 22 := by rw [← hnC]; exact npB_size HOK.out.2.2.2
      have z1 : (9223372036854775807 < wd.size + 1) = False := eq_false (by omega)
      have y1 : (wd.size + 1 ≤ 9223372036854775807) = True := eq_true (by omega)
      have z2 : (9223372036854775807 < wd.size + 1 + dm.size) = False := eq_false (by omega)
      have y2 : (wd.size + 1 + dm.size ≤ 9223372036854775807) = True := eq_true (by omega)
      have z3 : (9223372036854775807 < wd.size + 1 + dm.size + nA.size) = False := eq_false (by omega)
      have y3 : (wd.size + 1 + dm.size + nA.size ≤ 9223372036854775807) = True := eq_true (by omega)
      have z4 : (9223372036854775807 < wd.size + 1 + dm.size + nA.size + nB.size) = False := eq_false (by omega)
      have y4 : (wd.size + 1 + dm.size + nA.size + nB.size ≤ 9223372036854775807) = True := eq_true (by omega)
      have z5 : (9223372036854775807 < wd.size + 1 + dm.size + nA.size + nB.size + nC.size) = False := eq_false (by omega)
      have y5 : (wd.size + 1 + dm.size + nA.size + nB.size + nC.size ≤ 9223372036854775807) = True := eq_true (by omega)
      have b6 : s.size ≤ 110 := by rw [← hs]; simp only [ByteArray.size_append]; have : (⟨#[32]⟩ : ByteArray).size = 1 := rfl; omega
      clear hdm hnA hnB hnC b1 b2 b3 b4 b5
      refine start_ (n := 22) (S := fun w' => w'.cell? ⟨w.heap.size, 1, none⟩ = some (.int .i64 me) ∧ w'.cell? ⟨w.heap.size, 2, none⟩ = some (.int .i64 A) ∧ w'.cell? ⟨w.heap.size, 3, none⟩ = some (.int .i64 B) ∧ w'.cell? ⟨w.heap.size, 4, none⟩ = some (.int .i64 C)) (ds := []) #[false, false, false, false, false, false, false, false, false, false, false, false, false, false, false, false, false, false, false, false, false, false] (by kernel_rfl) rfl rfl ⟨x1, x2, x3, x4⟩ (fun hHeld => ?_)
      refine pp 0 104 ?_
      refine pp 1 105 ?_
      refine pp 2 106 ?_
      refine pp 6 110 ?_
      refine pp 7 111 ?_
      refine pp 11 115 ?_
      refine pp 12 116 ?_
      refine pp 16 120 ?_
      refine pp 17 121 ?_
      refine tk 3 107 ?_
      refine tk 8 112 ?_
      refine tk 13 117 ?_
      refine tk 18 122 ?_
      refine one_ (i := 4) (N := some 108) #[true, true, true, true, true, false, true, true, true, false, false, true, true, true, false, false, true, true, true, false, false, false] rfl rfl (by kernel_rfl) (by decide) (fun K hK => ?_)
      refine goes_ Tryd.func25 (by kernel_rfl) rfl #[.int .i64 me] (by rfl) rfl rfl (by (try simp only [List.map_toArray, List.map_cons, List.map_nil]); first | done | rfl) ?_
      with_reducible refine (vendmeterref_Dec.calls k me dm _ HDm.out).mono ?_
      rintro e' w1 ⟨rfl, hb1⟩
      refine ⟨_, rfl, ?_⟩
      replace S1 := Aside0.mk (blk_below (blk_drew S1.out) hb1)
      replace SB := Aside0.mk (below_then (below_drew1 SB.out) SB.out.size hb1)
      clear hb1 x0 x1 x2 x3 x4 x5 x6
      obtain ⟨x0, x1, x2, x3, x4, x5, x6⟩ := actc S1.out
      refine hK.out _ _ ⟨x1, x2, x3, x4⟩ (fun hHeld => ?_)
      clear hK K
      refine norm_ (a' := ?_) ?_ ?_
      rotate_left
      · show Act.put _ (some 108) _ = _
        simp only [Act.put, List.setIfInBounds_toArray, List.set_cons_zero, List.set_cons_succ, i64_w, i32_w]
        rfl
      refine pp 5 109 ?_
      refine one_ (i := 9) (N := some 113) #[true, true, true, true, true, true, true, true, true, true, false, true, true, true, false, false, true, true, true, false, false, false] rfl rfl (by kernel_rfl) (by decide) (fun K hK => ?_)
      refine goes_ Tryd.func26 (by kernel_rfl) rfl #[.bool false, .int .i64 A] (by rfl) rfl rfl (by (try simp only [List.map_toArray, List.map_cons, List.map_nil]); first | done | rfl) ?_
      with_reducible refine (vendmeterref_numberPart.calls k false A nA _ HNA.out).mono ?_
      rintro e' w1 ⟨rfl, hb1⟩
      refine ⟨_, rfl, ?_⟩
      replace S1 := Aside0.mk (blk_below S1.out hb1)
      replace SB := Aside0.mk (below_then SB.out SB.out.size hb1)
      clear hb1 x0 x1 x2 x3 x4 x5 x6
      obtain ⟨x0, x1, x2, x3, x4, x5, x6⟩ := actc S1.out
      refine hK.out _ _ ⟨x1, x2, x3, x4⟩ (fun hHeld => ?_)
      clear hK K
      refine norm_ (a' := ?_) ?_ ?_
      rotate_left
      · show Act.put _ (some 113) _ = _
        simp only [Act.put, List.setIfInBounds_toArray, List.set_cons_zero, List.set_cons_succ, i64_w, i32_w]
        rfl
      refine pp 10 114 ?_
      refine one_ (i := 14) (N := some 118) #[true, true, true, true, true, true, true, true, true, true, true, true, true, true, true, false, true, true, true, false, false, false] rfl rfl (by kernel_rfl) (by decide) (fun K hK => ?_)
      refine goes_ Tryd.func26 (by kernel_rfl) rfl #[.bool false, .int .i64 B] (by rfl) rfl rfl (by (try simp only [List.map_toArray, List.map_cons, List.map_nil]); first | done | rfl) ?_
      with_reducible refine (vendmeterref_numberPart.calls k false B nB _ HNB.out).mono ?_
      rintro e' w1 ⟨rfl, hb1⟩
      refine ⟨_, rfl, ?_⟩
      replace S1 := Aside0.mk (blk_below S1.out hb1)
      replace SB := Aside0.mk (below_then SB.out SB.out.size hb1)
      clear hb1 x0 x1 x2 x3 x4 x5 x6
      obtain ⟨x0, x1, x2, x3, x4, x5, x6⟩ := actc S1.out
      refine hK.out _ _ ⟨x1, x2, x3, x4⟩ (fun hHeld => ?_)
      clear hK K
      refine norm_ (a' := ?_) ?_ ?_
      rotate_left
      · show Act.put _ (some 118) _ = _
        simp only [Act.put, List.setIfInBounds_toArray, List.set_cons_zero, List.set_cons_succ, i64_w, i32_w]
        rfl
      refine pp 15 119 ?_
      refine one_ (i := 19) (N := some 123) #[true, true, true, true, true, true, true, true, true, true, true, true, true, true, true, true, true, true, true, true, false, false] rfl rfl (by kernel_rfl) (by decide) (fun K hK => ?_)
      refine goes_ Tryd.func26 (by kernel_rfl) rfl #[.bool false, .int .i64 C] (by rfl) rfl rfl (by (try simp only [List.map_toArray, List.map_cons, List.map_nil]); first | done | rfl) ?_
      with_reducible refine (vendmeterref_numberPart.calls k false C nC _ HNC.out).mono ?_
      rintro e' w1 ⟨rfl, hb1⟩
      refine ⟨_, rfl, ?_⟩
      replace S1 := Aside0.mk (blk_below S1.out hb1)
      replace SB := Aside0.mk (below_then SB.out SB.out.size hb1)
      clear hb1 x0 x1 x2 x3 x4 x5 x6
      obtain ⟨x0, x1, x2, x3, x4, x5, x6⟩ := actc S1.out
      refine hK.out _ _ ⟨x1, x2, x3, x4⟩ (fun hHeld => ?_)
      clear hK K
      refine norm_ (a' := ?_) ?_ ?_
      rotate_left
      · show Act.put _ (some 123) _ = _
        simp only [Act.put, List.setIfInBounds_toArray, List.set_cons_zero, List.set_cons_succ, i64_w, i32_w]
        rfl
      refine pp 20 124 ?_
      refine pp 21 9 ?_
      refine done_ (by kernel_rfl) ?_
      try simp only [hs]
      clear hs z1 z2 z3 z4 z5 y1 y2 y3 y4 y5
      rw [HS0.out] at HE
      by_cases hc0 : 0 ≤ ct
      · have q6 : decide (ct ≥ 0) = true := decide_eq_true hc0
        have q6n : decide (0 ≤ ct) = true := decide_eq_true hc0
        obtain ⟨dc, hdc⟩ : ∃ d, itoaB ct = d := ⟨_, rfl⟩
        have hv : okV ct := ⟨hc0, by have := HCT.out; omega⟩
        have HDc := Aside0.mk (show vendmeterref_Dec.f k ct = some dc by rw [← hdc]; exact decOk_get HD.out.1 hv)
        have b7 : dc.size ≤ 21 := by rw [← hdc]; exact itoaB_size hv
        have z5 : (9223372036854775807 < 4 + dc.size) = False := eq_false (by omega)
        have y5 : (4 + dc.size ≤ 9223372036854775807) = True := eq_true (by omega)
        have z6 : (9223372036854775807 < 4 + dc.size + 1) = False := eq_false (by omega)
        have y6 : (4 + dc.size + 1 ≤ 9223372036854775807) = True := eq_true (by omega)
        have z7 : (9223372036854775807 < 4 + dc.size + 1 + s.size) = False := eq_false (by omega)
        have y7 : (4 + dc.size + 1 + s.size ≤ 9223372036854775807) = True := eq_true (by omega)
        obtain ⟨s1, hs1⟩ : ∃ s_, (((⟨#[99, 117, 116, 32]⟩ : ByteArray) ++ dc) ++ (⟨#[32]⟩ : ByteArray)) ++ s = s_ := ⟨_, rfl⟩
        have b9 : s1.size ≤ 140 := by rw [← hs1]; simp only [ByteArray.size_append]; have : (⟨#[32]⟩ : ByteArray).size = 1 := rfl; have : (⟨#[99, 117, 116, 32]⟩ : ByteArray).size = 4 := rfl; omega
        rw [show s1B ct s = s1 by unfold s1B; rw [if_pos hc0, hdc, hs1]] at HE
        clear hc0 hdc hv b7
        go_upto_region 16 with (first | (go_at_call 25; refine (vendmeterref_Dec.calls k ct dc _ HDc.out).mono ?_; rintro e' wa ⟨rfl, hb1⟩; have hb1 := hb1; replace S1 := Aside0.mk (blk_below S1.out hb1); replace SB := Aside0.mk (below_then SB.out SB.out.size hb1); clear hb1; try clear x0 x1 x2 x3 x4 x5 x6; obtain ⟨x0, x1, x2, x3, x4, x5, x6⟩ := actc S1.out))
        try simp only [hs1]
        clear hs1 z5 z6 z7 y5 y6 y7 b6 q6 q6n
        have b8 := HTX.out
        have z8 : (9223372036854775807 < s1.size + 1) = False := eq_false (by omega)
        have y8 : (s1.size + 1 ≤ 9223372036854775807) = True := eq_true (by omega)
        have z9 : (9223372036854775807 < s1.size + 1 + tx.size) = False := eq_false (by omega)
        have y9 : (s1.size + 1 + tx.size ≤ 9223372036854775807) = True := eq_true (by omega)
        go_upto_region 18 with (fail)
        obtain ⟨sz, hsz⟩ : ∃ s_, (s1 ++ (⟨#[32]⟩ : ByteArray)) ++ tx = s_ := ⟨_, rfl⟩
        rw [show s2B true tx s1 = sz from hsz] at HE
        try simp only [hsz]
        clear hsz b8 z8 z9 y8 y9
        by_cases hl : sz.size > 120
        · have l1 : decide ((sz.size : Int) > 120) = true := decide_eq_true (by omega)
          have l2 : decide (120 < sz.size) = true := decide_eq_true hl
          have he := HE.out
          rw [if_pos hl] at he
          obtain ⟨rfl, rfl⟩ := Prod.mk.inj he
          clear he hl HE
          go_wp2
          go_ret2
          exact ⟨rfl, SB.out⟩
        · have l1 : decide ((sz.size : Int) > 120) = false := decide_eq_false (by omega)
          have l2 : decide (120 < sz.size) = false := decide_eq_false hl
          have he := HE.out
          rw [if_neg hl] at he
          obtain ⟨rfl, rfl⟩ := Prod.mk.inj he
          clear he hl HE
          go_wp2
          go_ret2
          exact ⟨rfl, SB.out⟩
      · have q6 : decide (ct ≥ 0) = false := decide_eq_false (by omega)
        have q6n : decide (0 ≤ ct) = false := decide_eq_false hc0
        rw [show s1B ct s = s by unfold s1B; rw [if_neg hc0]] at HE
        clear hc0
        go_upto_region 16 with (fail)
        clear q6 q6n
        have b8 := HTX.out
        have z8 : (9223372036854775807 < s.size + 1) = False := eq_false (by omega)
        have y8 : (s.size + 1 ≤ 9223372036854775807) = True := eq_true (by omega)
        have z9 : (9223372036854775807 < s.size + 1 + tx.size) = False := eq_false (by omega)
        have y9 : (s.size + 1 + tx.size ≤ 9223372036854775807) = True := eq_true (by omega)
        go_upto_region 18 with (fail)
        obtain ⟨sz, hsz⟩ : ∃ s_, (s ++ (⟨#[32]⟩ : ByteArray)) ++ tx = s_ := ⟨_, rfl⟩
        rw [show s2B true tx s = sz from hsz] at HE
        try simp only [hsz]
        clear hsz b8 z8 z9 y8 y9
        by_cases hl : sz.size > 120
        · have l1 : decide ((sz.size : Int) > 120) = true := decide_eq_true (by omega)
          have l2 : decide (120 < sz.size) = true := decide_eq_true hl
          have he := HE.out
          rw [if_pos hl] at he
          obtain ⟨rfl, rfl⟩ := Prod.mk.inj he
          clear he hl HE
          go_wp2
          go_ret2
          exact ⟨rfl, SB.out⟩
        · have l1 : decide ((sz.size : Int) > 120) = false := decide_eq_false (by omega)
          have l2 : decide (120 < sz.size) = false := decide_eq_false hl
          have he := HE.out
          rw [if_neg hl] at he
          obtain ⟨rfl, rfl⟩ := Prod.mk.inj he
          clear he hl HE
          go_wp2
          go_ret2
          exact ⟨rfl, SB.out⟩
set_option maxHeartbeats 8000000 in
set_option maxRecDepth 100000 in
theorem vendmeterref_ActShown.main6 (k : Nat) (kn me A B C : Int) (tx : ByteArray) (ct : Int) (wd : ByteArray) (w : World) (hA : vendmeterref_ActWord.f kn = some (wd, true, false, false)) (hw : (wd.toList == ([] : List UInt8)) = false) (hws : wd.size ≤ 20) (qk : (kn == 6) = false) (htx : tx.size ≤ 140737488355328) (hct : -1 ≤ ct ∧ ct ≤ 4096) (hD : decsOk k ct me A B C = true) (r : ByteArray) (e : Int) (h : vendmeterref_ActShown.g wd true false false false me A B C tx ct = some (r, e)) :
    Calls Tryd.prog 10 #[.agg #[.int .i64 kn, .int .i64 me, .int .i64 A, .int .i64 B, .int .i64 C, .string tx, .int .i64 ct]] w fun e' w' => e' = .returned (.tuple #[.string r, .int .i64 e]) ∧ Below w.heap.size w w' := by
  have HA := Aside0.mk hA
  have HD : Aside0 (decOk k ct = true ∧ decOk k me = true ∧ decOk k A = true ∧ decOk k B = true ∧ decOk k C = true) := ⟨by simp only [decsOk, Bool.and_eq_true] at hD; exact ⟨hD.1.1.1.1, hD.1.1.1.2, hD.1.1.2, hD.1.2, hD.2⟩⟩
  have HH := Aside0.mk h
  have HWS := Aside0.mk hws
  have HTX := Aside0.mk htx
  have HCT := Aside0.mk hct
  have qk2 : (kn != 6) = true := by show (!(kn == 6)) = _; rw [qk]; rfl
  have q1 : decide (-1 ≤ ct ∧ ct ≤ 4096) = true := decide_eq_true hct
  clear hA hD h hws hct htx
  have hu31 := Tryd.underlying31
  have S1 := Aside0.mk (blk_new w (.cells #[.int .i64 kn, .int .i64 me, .int .i64 A, .int .i64 B, .int .i64 C, .string tx, .int .i64 ct] 31))
  have SB := Aside0.mk (below_alloc (Below.refl w.heap.size w) (.cells #[.int .i64 kn, .int .i64 me, .int .i64 A, .int .i64 B, .int .i64 C, .string tx, .int .i64 ct] 31))
  obtain ⟨x0, x1, x2, x3, x4, x5, x6⟩ := actc S1.out
  go_enter Tryd.func10, Tryd.ntmps10
  by_cases hme : okV me
  rotate_left
  · have q2 : decide (0 ≤ me ∧ me ≤ 1000000000000) = false := decide_eq_false hme
    have HR := Aside0.mk (show (⟨#[]⟩ : ByteArray) = r ∧ (2 : Int) = e by
      have hg := HH.out
      unfold vendmeterref_ActShown.g at hg
      rw [if_neg (fun g => hme g.1)] at hg
      simpa using hg)
    clear hme
    go_wp2_with (first | (go_at_call 23; refine (vendmeterref_ActWord.calls kn _ _ _ _ _ HA.out).mono ?_; rintro e' wa ⟨rfl, hdr⟩; have hb1 := below_drawn hdr; replace S1 := Aside0.mk (blk_below S1.out hb1); replace SB := Aside0.mk (below_then SB.out SB.out.size hb1); clear hb1 hdr; try clear x0 x1 x2 x3 x4 x5 x6; obtain ⟨x0, x1, x2, x3, x4, x5, x6⟩ := actc S1.out) | (go_at_call 24; refine (vendmeterref_In.calls _ _ _ _ _ (in_f _ _ _)).mono ?_; rintro e' wa ⟨rfl, hdr⟩; have hb1 := below_drawn hdr; replace S1 := Aside0.mk (blk_below S1.out hb1); replace SB := Aside0.mk (below_then SB.out SB.out.size hb1); clear hb1 hdr; try clear x0 x1 x2 x3 x4 x5 x6; obtain ⟨x0, x1, x2, x3, x4, x5, x6⟩ := actc S1.out))
    obtain ⟨rfl, rfl⟩ := HR.out
    go_ret2
    exact ⟨rfl, SB.out⟩
  have q2 : decide (0 ≤ me ∧ me ≤ 1000000000000) = true := decide_eq_true hme
  go_upto_region 4 with (first | (go_at_call 23; refine (vendmeterref_ActWord.calls kn _ _ _ _ _ HA.out).mono ?_; rintro e' wa ⟨rfl, hdr⟩; have hb1 := below_drawn hdr; replace S1 := Aside0.mk (blk_below S1.out hb1); replace SB := Aside0.mk (below_then SB.out SB.out.size hb1); clear hb1 hdr; try clear x0 x1 x2 x3 x4 x5 x6; obtain ⟨x0, x1, x2, x3, x4, x5, x6⟩ := actc S1.out) | (go_at_call 24; refine (vendmeterref_In.calls _ _ _ _ _ (in_f _ _ _)).mono ?_; rintro e' wa ⟨rfl, hdr⟩; have hb1 := below_drawn hdr; replace S1 := Aside0.mk (blk_below S1.out hb1); replace SB := Aside0.mk (below_then SB.out SB.out.size hb1); clear hb1 hdr; try clear x0 x1 x2 x3 x4 x5 x6; obtain ⟨x0, x1, x2, x3, x4, x5, x6⟩ := actc S1.out))
  clear q1 q2
  by_cases hA : okV A
  rotate_left
  · have q3A : decide (0 ≤ A ∧ A ≤ 1000000000000) = false := decide_eq_false hA
    have HR := Aside0.mk (show (⟨#[]⟩ : ByteArray) = r ∧ (2 : Int) = e by
      have hg := HH.out
      unfold vendmeterref_ActShown.g at hg
      rw [if_neg (fun g => hA (g.2.1 rfl))] at hg
      simpa using hg)
    clear hA hme 
    go_wp2_with (first | (go_at_call 24; refine (vendmeterref_In.calls _ _ _ _ _ (in_f _ _ _)).mono ?_; rintro e' wa ⟨rfl, hdr⟩; have hb1 := below_drawn hdr; replace S1 := Aside0.mk (blk_below S1.out hb1); replace SB := Aside0.mk (below_then SB.out SB.out.size hb1); clear hb1 hdr; try clear x0 x1 x2 x3 x4 x5 x6; obtain ⟨x0, x1, x2, x3, x4, x5, x6⟩ := actc S1.out))
    obtain ⟨rfl, rfl⟩ := HR.out
    go_ret2
    exact ⟨rfl, SB.out⟩
  have q3A : decide (0 ≤ A ∧ A ≤ 1000000000000) = true := decide_eq_true hA
  have HOK : Aside0 (okAll true false false me A B C) := ⟨⟨hme, fun _ => hA, fun g => absurd g (by decide), fun g => absurd g (by decide)⟩⟩
  clear hme hA
  go_upto_region 6 with (first | (go_at_call 24; refine (vendmeterref_In.calls _ _ _ _ _ (in_f _ _ _)).mono ?_; rintro e' wa ⟨rfl, hdr⟩; have hb1 := below_drawn hdr; replace S1 := Aside0.mk (blk_below S1.out hb1); replace SB := Aside0.mk (below_then SB.out SB.out.size hb1); clear hb1 hdr; try clear x0 x1 x2 x3 x4 x5 x6; obtain ⟨x0, x1, x2, x3, x4, x5, x6⟩ := actc S1.out))
  clear q3A
  by_cases hB : B = 0
  rotate_left
  · have q3B : (B != 0) = true := bne_iff_ne.mpr hB
    have HR := Aside0.mk (show (⟨#[]⟩ : ByteArray) = r ∧ (3 : Int) = e by
      have hg := HH.out
      unfold vendmeterref_ActShown.g at hg
      rw [if_pos HOK.out, if_neg (fun g => (g.2.1).elim (by decide) hB)] at hg
      simpa using hg)
    clear hB 
    go_wp2
    obtain ⟨rfl, rfl⟩ := HR.out
    go_ret2
    exact ⟨rfl, SB.out⟩
  have q3B : (B != 0) = false := bne_eq_false_iff_eq.mpr hB
  by_cases hC : C = 0
  rotate_left
  · have q3C : (C != 0) = true := bne_iff_ne.mpr hC
    have HR := Aside0.mk (show (⟨#[]⟩ : ByteArray) = r ∧ (3 : Int) = e by
      have hg := HH.out
      unfold vendmeterref_ActShown.g at hg
      rw [if_pos HOK.out, if_neg (fun g => (g.2.2.1).elim (by decide) hC)] at hg
      simpa using hg)
    clear hC hB
    go_wp2
    obtain ⟨rfl, rfl⟩ := HR.out
    go_ret2
    exact ⟨rfl, SB.out⟩
  have q3C : (C != 0) = false := bne_eq_false_iff_eq.mpr hC
  by_cases hT : tx.size = 0
  rotate_left
  · have q4 : (tx.toList != ([] : List UInt8)) = true := bne_iff_ne.mpr (fun g => hT (by rw [ByteArray.toList_eq] at g; show tx.data.size = 0; rw [← Array.length_toList, g]; rfl))
    have q5 : (tx.toList == ([] : List UInt8)) = false := by have h5 := q4; rw [bne, Bool.not_eq_true'] at h5; exact h5
    have HR := Aside0.mk (show (⟨#[]⟩ : ByteArray) = r ∧ (3 : Int) = e by
      have hg := HH.out
      unfold vendmeterref_ActShown.g at hg
      rw [if_pos HOK.out, if_neg (fun g => g.2.2.2.elim (by decide) hT)] at hg
      simpa using hg)
    clear hT hB hC
    go_wp2
    obtain ⟨rfl, rfl⟩ := HR.out
    go_ret2
    exact ⟨rfl, SB.out⟩
  have q5 : (tx.toList == ([] : List UInt8)) = true := beq_iff_eq.mpr (by rw [ByteArray.toList_eq]; exact List.eq_nil_of_length_eq_zero (by rw [Array.length_toList]; exact hT))
  have q4 : (tx.toList != ([] : List UInt8)) = false := by rw [bne, q5]; rfl
  have HZ : Aside0 (zAll true false false false A B C tx) := ⟨⟨.inl rfl, .inr hB, .inr hC, .inr hT⟩⟩
  clear hB hC hT
  have HG : Aside0 ((if hasNl tx = false then showEnd (actL wd true false false false me A B C tx ct) else some (⟨#[]⟩, 3)) = some (r, e)) := ⟨by have hg := HH.out; unfold vendmeterref_ActShown.g at hg; rw [if_pos HOK.out, if_pos HZ.out] at hg; exact hg⟩
  clear HH HZ
  go_upto_region 8 with (fail)
  clear q3B q3C q4 q5
  go_wp2
  go_loopg [8] tx.size (fun kq v8 w' => ∃ j : Nat, v8 = .int .i64 (j : Int) ∧ Aside0 (j ≤ tx.size ∧ kq = tx.size - j) ∧ Aside0 (∀ i : Nat, i < j → bt tx i ≠ 10) ∧ Aside0 (w'.heap[w.heap.size]? = some (.cells #[.int .i64 kn, .int .i64 me, .int .i64 A, .int .i64 B, .int .i64 C, .string tx, .int .i64 ct] 31 (0, 0))) ∧ Aside0 (Below w.heap.size w w'))
  case atStart => exact ⟨0, rfl, ⟨Nat.zero_le _, rfl⟩, ⟨fun i hi => absurd hi (Nat.not_lt_zero i)⟩, S1, SB⟩
  case round =>
    clear S1 SB x0 x1 x2 x3 x4 x5 x6
    obtain ⟨j, rfl, HJ, HN, S1, SB⟩ := hrel
    obtain ⟨x0, x1, x2, x3, x4, x5, x6⟩ := actc S1.out
    by_cases hlt : j < tx.size
    · have t1 : decide ((j : Int) < (tx.size : Int)) = true := decide_eq_true (by omega)
      have t1n : decide (j < tx.size) = true := decide_eq_true hlt
      have t2 := eq_true (show 0 ≤ (j : Int) by omega)
      have t3 := eq_true (show (j : Int) < (tx.size : Int) by omega)
      have hx := bt_at tx (j : Int)
      have hx2 : ∀ h : j < tx.size, ((tx[j]'h).toNat : Int) = bt tx j := fun h => bt_at tx (j : Int) h
      by_cases h10 : bt tx j = 10
      · have t4 : (bt tx (j : Int) == 10) = true := beq_iff_eq.mpr h10
        have HR := Aside0.mk (show (⟨#[]⟩ : ByteArray) = r ∧ (3 : Int) = e by
          have hg := HG.out
          rw [if_neg (fun g => nl_free g j hlt h10)] at hg
          simpa using hg)
        clear hlt h10
        go_wp2
        obtain ⟨rfl, rfl⟩ := HR.out
        go_ret2
        exact ⟨rfl, SB.out⟩
      · have t4 : (bt tx (j : Int) == 10) = false := beq_eq_false_iff_ne.mpr h10
        have H10 := Aside0.mk h10
        have HLT := Aside0.mk hlt
        have HW64 := Aside0.mk (show wrap64 ((j : Int) + 1) = ((j + 1 : Nat) : Int) from w64 ⟨by omega, by have := HTX.out; omega⟩)
        clear hlt h10
        go_wp2
        go_roundg (tx.size - (j + 1))
        case measure => have := HJ.out; have := HLT.out; omega
        case rel => exact ⟨j + 1, by rw [HW64.out], ⟨HLT.out, rfl⟩, ⟨fun i hi => (Nat.lt_succ_iff_lt_or_eq.mp hi).elim (HN.out i) (fun g => g ▸ H10.out)⟩, S1, SB⟩
    · have t1 : decide ((j : Int) < (tx.size : Int)) = false := decide_eq_false (by omega)
      have t1n : decide (j < tx.size) = false := decide_eq_false hlt
      have hnl : hasNl tx = false := by
        cases hq : hasNl tx with
        | false => rfl
        | true => obtain ⟨i, hi, h2, _⟩ := nl_there hq; exact absurd h2 (HN.out i (by omega))
      have hg := HG.out
      rw [if_pos hnl] at hg
      obtain ⟨hsz, hre⟩ := show_cat (join_cat wd true false false false me A B C tx ct) hg
      have HS := Aside0.mk hsz
      have HE := Aside0.mk hre
      clear hg hnl hsz hre hlt HG HN HJ
      go_upto_region 13 with (fail)
      obtain ⟨dm, hdm⟩ : ∃ d, itoaB me = d := ⟨_, rfl⟩
      obtain ⟨nA, hnA⟩ : ∃ d, npB true A = d := ⟨_, rfl⟩
      obtain ⟨nB, hnB⟩ : ∃ d, npB false B = d := ⟨_, rfl⟩
      obtain ⟨nC, hnC⟩ : ∃ d, npB false C = d := ⟨_, rfl⟩
      obtain ⟨s, hs⟩ : ∃ s, ((((wd ++ (⟨#[32]⟩ : ByteArray)) ++ dm) ++ nA) ++ nB) ++ nC = s := ⟨_, rfl⟩
      have HS0 := Aside0.mk (show s0B wd true false false me A B C = s by unfold s0B; rw [hdm, hnA, hnB, hnC, hs])
      have HDm := Aside0.mk (show vendmeterref_Dec.f k me = some dm by rw [← hdm]; exact decOk_get HD.out.2.1 HOK.out.1)
      have HNA := Aside0.mk (show vendmeterref_numberPart.f k true A = some nA by rw [← hnA]; exact np_get HD.out.2.2.1 HOK.out.2.1)
      have HNB := Aside0.mk (show vendmeterref_numberPart.f k false B = some nB by rw [← hnB]; exact np_get HD.out.2.2.2.1 HOK.out.2.2.1)
      have HNC := Aside0.mk (show vendmeterref_numberPart.f k false C = some nC by rw [← hnC]; exact np_get HD.out.2.2.2.2 HOK.out.2.2.2)
      have b1 := HWS.out
      have b2 : dm.size ≤ 21 := by rw [← hdm]; exact itoaB_size HOK.out.1
      have b3 : nA.size ≤ 22 := by rw [← hnA]; exact npB_size HOK.out.2.1
      have b4 : nB.size ≤ 22 := by rw [← hnB]; exact npB_size HOK.out.2.2.1
      have b5 : nC.size ≤ 22 := by rw [← hnC]; exact npB_size HOK.out.2.2.2
      have z1 : (9223372036854775807 < wd.size + 1) = False := eq_false (by omega)
      have y1 : (wd.size + 1 ≤ 9223372036854775807) = True := eq_true (by omega)
      have z2 : (9223372036854775807 < wd.size + 1 + dm.size) = False := eq_false (by omega)
      have y2 : (wd.size + 1 + dm.size ≤ 9223372036854775807) = True := eq_true (by omega)
      have z3 : (9223372036854775807 < wd.size + 1 + dm.size + nA.size) = False := eq_false (by omega)
      have y3 : (wd.size + 1 + dm.size + nA.size ≤ 9223372036854775807) = True := eq_true (by omega)
      have z4 : (9223372036854775807 < wd.size + 1 + dm.size + nA.size + nB.size) = False := eq_false (by omega)
      have y4 : (wd.size + 1 + dm.size + nA.size + nB.size ≤ 9223372036854775807) = True := eq_true (by omega)
      have z5 : (9223372036854775807 < wd.size + 1 + dm.size + nA.size + nB.size + nC.size) = False := eq_false (by omega)
      have y5 : (wd.size + 1 + dm.size + nA.size + nB.size + nC.size ≤ 9223372036854775807) = True := eq_true (by omega)
      have b6 : s.size ≤ 110 := by rw [← hs]; simp only [ByteArray.size_append]; have : (⟨#[32]⟩ : ByteArray).size = 1 := rfl; omega
      clear hdm hnA hnB hnC b1 b2 b3 b4 b5
      refine start_ (n := 22) (S := fun w' => w'.cell? ⟨w.heap.size, 1, none⟩ = some (.int .i64 me) ∧ w'.cell? ⟨w.heap.size, 2, none⟩ = some (.int .i64 A) ∧ w'.cell? ⟨w.heap.size, 3, none⟩ = some (.int .i64 B) ∧ w'.cell? ⟨w.heap.size, 4, none⟩ = some (.int .i64 C)) (ds := []) #[false, false, false, false, false, false, false, false, false, false, false, false, false, false, false, false, false, false, false, false, false, false] (by kernel_rfl) rfl rfl ⟨x1, x2, x3, x4⟩ (fun hHeld => ?_)
      refine pp 0 104 ?_
      refine pp 1 105 ?_
      refine pp 2 106 ?_
      refine pp 6 110 ?_
      refine pp 7 111 ?_
      refine pp 11 115 ?_
      refine pp 12 116 ?_
      refine pp 16 120 ?_
      refine pp 17 121 ?_
      refine tk 3 107 ?_
      refine tk 8 112 ?_
      refine tk 13 117 ?_
      refine tk 18 122 ?_
      refine one_ (i := 4) (N := some 108) #[true, true, true, true, true, false, true, true, true, false, false, true, true, true, false, false, true, true, true, false, false, false] rfl rfl (by kernel_rfl) (by decide) (fun K hK => ?_)
      refine goes_ Tryd.func25 (by kernel_rfl) rfl #[.int .i64 me] (by rfl) rfl rfl (by (try simp only [List.map_toArray, List.map_cons, List.map_nil]); first | done | rfl) ?_
      with_reducible refine (vendmeterref_Dec.calls k me dm _ HDm.out).mono ?_
      rintro e' w1 ⟨rfl, hb1⟩
      refine ⟨_, rfl, ?_⟩
      replace S1 := Aside0.mk (blk_below (blk_drew S1.out) hb1)
      replace SB := Aside0.mk (below_then (below_drew1 SB.out) SB.out.size hb1)
      clear hb1 x0 x1 x2 x3 x4 x5 x6
      obtain ⟨x0, x1, x2, x3, x4, x5, x6⟩ := actc S1.out
      refine hK.out _ _ ⟨x1, x2, x3, x4⟩ (fun hHeld => ?_)
      clear hK K
      refine norm_ (a' := ?_) ?_ ?_
      rotate_left
      · show Act.put _ (some 108) _ = _
        simp only [Act.put, List.setIfInBounds_toArray, List.set_cons_zero, List.set_cons_succ, i64_w, i32_w]
        rfl
      refine pp 5 109 ?_
      refine one_ (i := 9) (N := some 113) #[true, true, true, true, true, true, true, true, true, true, false, true, true, true, false, false, true, true, true, false, false, false] rfl rfl (by kernel_rfl) (by decide) (fun K hK => ?_)
      refine goes_ Tryd.func26 (by kernel_rfl) rfl #[.bool true, .int .i64 A] (by rfl) rfl rfl (by (try simp only [List.map_toArray, List.map_cons, List.map_nil]); first | done | rfl) ?_
      with_reducible refine (vendmeterref_numberPart.calls k true A nA _ HNA.out).mono ?_
      rintro e' w1 ⟨rfl, hb1⟩
      refine ⟨_, rfl, ?_⟩
      replace S1 := Aside0.mk (blk_below S1.out hb1)
      replace SB := Aside0.mk (below_then SB.out SB.out.size hb1)
      clear hb1 x0 x1 x2 x3 x4 x5 x6
      obtain ⟨x0, x1, x2, x3, x4, x5, x6⟩ := actc S1.out
      refine hK.out _ _ ⟨x1, x2, x3, x4⟩ (fun hHeld => ?_)
      clear hK K
      refine norm_ (a' := ?_) ?_ ?_
      rotate_left
      · show Act.put _ (some 113) _ = _
        simp only [Act.put, List.setIfInBounds_toArray, List.set_cons_zero, List.set_cons_succ, i64_w, i32_w]
        rfl
      refine pp 10 114 ?_
      refine one_ (i := 14) (N := some 118) #[true, true, true, true, true, true, true, true, true, true, true, true, true, true, true, false, true, true, true, false, false, false] rfl rfl (by kernel_rfl) (by decide) (fun K hK => ?_)
      refine goes_ Tryd.func26 (by kernel_rfl) rfl #[.bool false, .int .i64 B] (by rfl) rfl rfl (by (try simp only [List.map_toArray, List.map_cons, List.map_nil]); first | done | rfl) ?_
      with_reducible refine (vendmeterref_numberPart.calls k false B nB _ HNB.out).mono ?_
      rintro e' w1 ⟨rfl, hb1⟩
      refine ⟨_, rfl, ?_⟩
      replace S1 := Aside0.mk (blk_below S1.out hb1)
      replace SB := Aside0.mk (below_then SB.out SB.out.size hb1)
      clear hb1 x0 x1 x2 x3 x4 x5 x6
      obtain ⟨x0, x1, x2, x3, x4, x5, x6⟩ := actc S1.out
      refine hK.out _ _ ⟨x1, x2, x3, x4⟩ (fun hHeld => ?_)
      clear hK K
      refine norm_ (a' := ?_) ?_ ?_
      rotate_left
      · show Act.put _ (some 118) _ = _
        simp only [Act.put, List.setIfInBounds_toArray, List.set_cons_zero, List.set_cons_succ, i64_w, i32_w]
        rfl
      refine pp 15 119 ?_
      refine one_ (i := 19) (N := some 123) #[true, true, true, true, true, true, true, true, true, true, true, true, true, true, true, true, true, true, true, true, false, false] rfl rfl (by kernel_rfl) (by decide) (fun K hK => ?_)
      refine goes_ Tryd.func26 (by kernel_rfl) rfl #[.bool false, .int .i64 C] (by rfl) rfl rfl (by (try simp only [List.map_toArray, List.map_cons, List.map_nil]); first | done | rfl) ?_
      with_reducible refine (vendmeterref_numberPart.calls k false C nC _ HNC.out).mono ?_
      rintro e' w1 ⟨rfl, hb1⟩
      refine ⟨_, rfl, ?_⟩
      replace S1 := Aside0.mk (blk_below S1.out hb1)
      replace SB := Aside0.mk (below_then SB.out SB.out.size hb1)
      clear hb1 x0 x1 x2 x3 x4 x5 x6
      obtain ⟨x0, x1, x2, x3, x4, x5, x6⟩ := actc S1.out
      refine hK.out _ _ ⟨x1, x2, x3, x4⟩ (fun hHeld => ?_)
      clear hK K
      refine norm_ (a' := ?_) ?_ ?_
      rotate_left
      · show Act.put _ (some 123) _ = _
        simp only [Act.put, List.setIfInBounds_toArray, List.set_cons_zero, List.set_cons_succ, i64_w, i32_w]
        rfl
      refine pp 20 124 ?_
      refine pp 21 9 ?_
      refine done_ (by kernel_rfl) ?_
      try simp only [hs]
      clear hs z1 z2 z3 z4 z5 y1 y2 y3 y4 y5
      rw [HS0.out] at HE
      by_cases hc0 : 0 ≤ ct
      · have q6 : decide (ct ≥ 0) = true := decide_eq_true hc0
        have q6n : decide (0 ≤ ct) = true := decide_eq_true hc0
        obtain ⟨dc, hdc⟩ : ∃ d, itoaB ct = d := ⟨_, rfl⟩
        have hv : okV ct := ⟨hc0, by have := HCT.out; omega⟩
        have HDc := Aside0.mk (show vendmeterref_Dec.f k ct = some dc by rw [← hdc]; exact decOk_get HD.out.1 hv)
        have b7 : dc.size ≤ 21 := by rw [← hdc]; exact itoaB_size hv
        have z5 : (9223372036854775807 < 4 + dc.size) = False := eq_false (by omega)
        have y5 : (4 + dc.size ≤ 9223372036854775807) = True := eq_true (by omega)
        have z6 : (9223372036854775807 < 4 + dc.size + 1) = False := eq_false (by omega)
        have y6 : (4 + dc.size + 1 ≤ 9223372036854775807) = True := eq_true (by omega)
        have z7 : (9223372036854775807 < 4 + dc.size + 1 + s.size) = False := eq_false (by omega)
        have y7 : (4 + dc.size + 1 + s.size ≤ 9223372036854775807) = True := eq_true (by omega)
        obtain ⟨s1, hs1⟩ : ∃ s_, (((⟨#[99, 117, 116, 32]⟩ : ByteArray) ++ dc) ++ (⟨#[32]⟩ : ByteArray)) ++ s = s_ := ⟨_, rfl⟩
        have b9 : s1.size ≤ 140 := by rw [← hs1]; simp only [ByteArray.size_append]; have : (⟨#[32]⟩ : ByteArray).size = 1 := rfl; have : (⟨#[99, 117, 116, 32]⟩ : ByteArray).size = 4 := rfl; omega
        rw [show s1B ct s = s1 by unfold s1B; rw [if_pos hc0, hdc, hs1]] at HE
        clear hc0 hdc hv b7
        go_upto_region 16 with (first | (go_at_call 25; refine (vendmeterref_Dec.calls k ct dc _ HDc.out).mono ?_; rintro e' wa ⟨rfl, hb1⟩; have hb1 := hb1; replace S1 := Aside0.mk (blk_below S1.out hb1); replace SB := Aside0.mk (below_then SB.out SB.out.size hb1); clear hb1; try clear x0 x1 x2 x3 x4 x5 x6; obtain ⟨x0, x1, x2, x3, x4, x5, x6⟩ := actc S1.out))
        try simp only [hs1]
        clear hs1 z5 z6 z7 y5 y6 y7 b6 q6 q6n
        go_upto_region 18 with (fail)
        rw [show s2B false tx s1 = s1 from rfl] at HE
        by_cases hl : s1.size > 120
        · have l1 : decide ((s1.size : Int) > 120) = true := decide_eq_true (by omega)
          have l2 : decide (120 < s1.size) = true := decide_eq_true hl
          have he := HE.out
          rw [if_pos hl] at he
          obtain ⟨rfl, rfl⟩ := Prod.mk.inj he
          clear he hl HE
          go_wp2
          go_ret2
          exact ⟨rfl, SB.out⟩
        · have l1 : decide ((s1.size : Int) > 120) = false := decide_eq_false (by omega)
          have l2 : decide (120 < s1.size) = false := decide_eq_false hl
          have he := HE.out
          rw [if_neg hl] at he
          obtain ⟨rfl, rfl⟩ := Prod.mk.inj he
          clear he hl HE
          go_wp2
          go_ret2
          exact ⟨rfl, SB.out⟩
      · have q6 : decide (ct ≥ 0) = false := decide_eq_false (by omega)
        have q6n : decide (0 ≤ ct) = false := decide_eq_false hc0
        rw [show s1B ct s = s by unfold s1B; rw [if_neg hc0]] at HE
        clear hc0
        go_upto_region 16 with (fail)
        clear q6 q6n
        go_upto_region 18 with (fail)
        rw [show s2B false tx s = s from rfl] at HE
        by_cases hl : s.size > 120
        · have l1 : decide ((s.size : Int) > 120) = true := decide_eq_true (by omega)
          have l2 : decide (120 < s.size) = true := decide_eq_true hl
          have he := HE.out
          rw [if_pos hl] at he
          obtain ⟨rfl, rfl⟩ := Prod.mk.inj he
          clear he hl HE
          go_wp2
          go_ret2
          exact ⟨rfl, SB.out⟩
        · have l1 : decide ((s.size : Int) > 120) = false := decide_eq_false (by omega)
          have l2 : decide (120 < s.size) = false := decide_eq_false hl
          have he := HE.out
          rw [if_neg hl] at he
          obtain ⟨rfl, rfl⟩ := Prod.mk.inj he
          clear he hl HE
          go_wp2
          go_ret2
          exact ⟨rfl, SB.out⟩
/-! ### vendmeterref_ActShown: function 10 (by hand) -/
def vendmeterref_ActShown.f (k : Nat) (kn me A B C : Int) (tx : ByteArray) (ct : Int) : Option (ByteArray × Int) := if decsOk k ct me A B C = true then (if tx.size ≤ 140737488355328 then order_Show.f kn me A B C tx ct else none) else none
theorem vendmeterref_ActShown.mono : ∀ a0 a1 a2 a3 a4 a5 a6 k, LeO (vendmeterref_ActShown.f k a0 a1 a2 a3 a4 a5 a6) (vendmeterref_ActShown.f (k + 1) a0 a1 a2 a3 a4 a5 a6) := by
  intro a0 a1 a2 a3 a4 a5 a6 k r h
  unfold vendmeterref_ActShown.f at *
  by_cases hd : decsOk k a6 a1 a2 a3 a4 = true
  · rw [if_pos hd] at h
    have hd2 : decsOk (k + 1) a6 a1 a2 a3 a4 = true := by
      simp only [decsOk, Bool.and_eq_true] at hd ⊢
      exact ⟨⟨⟨⟨decOk_mono hd.1.1.1.1, decOk_mono hd.1.1.1.2⟩, decOk_mono hd.1.1.2⟩, decOk_mono hd.1.2⟩, decOk_mono hd.2⟩
    rw [if_pos hd2]; exact h
  · rw [if_neg hd] at h; cases h
theorem vendmeterref_ActShown.calls (k : Nat) (kn me A B C : Int) (tx : ByteArray) (ct : Int) (r1 : ByteArray) (r2 : Int) (w : World) (h : vendmeterref_ActShown.f k kn me A B C tx ct = some (r1, r2)) :
    Calls Tryd.prog 10 #[.agg #[.int .i64 kn, .int .i64 me, .int .i64 A, .int .i64 B, .int .i64 C, .string tx, .int .i64 ct]] w fun e w' => e = .returned (.tuple #[.string r1, .int .i64 r2]) ∧ Below w.heap.size w w' := by
  unfold vendmeterref_ActShown.f at h
  by_cases hd : decsOk k ct me A B C = true
  · by_cases ht : tx.size ≤ 140737488355328
    · rw [if_pos hd, if_pos ht] at h
      unfold order_Show.f at h
      by_cases hk : 1 ≤ kn ∧ kn ≤ 7
      · by_cases hc : -1 ≤ ct ∧ ct ≤ 4096
        · rw [if_neg (by unfold formIx; rw [if_pos hk]; omega), show_g (kn - 1).toNat (by omega)] at h
          have hi : kn = 1 ∨ kn = 2 ∨ kn = 3 ∨ kn = 4 ∨ kn = 5 ∨ kn = 6 ∨ kn = 7 := by omega
          rcases hi with rfl | rfl | rfl | rfl | rfl | rfl | rfl
          · exact vendmeterref_ActShown.main0 k _ me A B C tx ct (fw 0) w rfl (by rw [ByteArray.toList_eq]; rfl) (by decide) (by decide) ht hc hd r1 r2 h
          · exact vendmeterref_ActShown.main1 k _ me A B C tx ct (fw 1) w rfl (by rw [ByteArray.toList_eq]; rfl) (by decide) (by decide) ht hc hd r1 r2 h
          · exact vendmeterref_ActShown.main2 k _ me A B C tx ct (fw 2) w rfl (by rw [ByteArray.toList_eq]; rfl) (by decide) (by decide) ht hc hd r1 r2 h
          · exact vendmeterref_ActShown.main3 k _ me A B C tx ct (fw 3) w rfl (by rw [ByteArray.toList_eq]; rfl) (by decide) (by decide) ht hc hd r1 r2 h
          · exact vendmeterref_ActShown.main4 k _ me A B C tx ct (fw 4) w rfl (by rw [ByteArray.toList_eq]; rfl) (by decide) (by decide) ht hc hd r1 r2 h
          · exact vendmeterref_ActShown.main5 k _ me A B C tx ct (fw 5) w rfl (by rw [ByteArray.toList_eq]; rfl) (by decide) (by decide) ht hc hd r1 r2 h
          · exact vendmeterref_ActShown.main6 k _ me A B C tx ct (fw 6) w rfl (by rw [ByteArray.toList_eq]; rfl) (by decide) (by decide) ht hc hd r1 r2 h
        · rw [if_pos (by omega)] at h
          obtain ⟨rfl, rfl⟩ := Prod.mk.inj (Option.some.inj h)
          obtain ⟨⟨wd, a, b, c⟩, hA⟩ : ∃ x, vendmeterref_ActWord.f kn = some x := by
            have hi : kn = 1 ∨ kn = 2 ∨ kn = 3 ∨ kn = 4 ∨ kn = 5 ∨ kn = 6 ∨ kn = 7 := by omega
            rcases hi with rfl | rfl | rfl | rfl | rfl | rfl | rfl <;> exact ⟨_, rfl⟩
          exact vendmeterref_ActShown.early kn me A B C tx ct wd a b c w hA (.inr hc)
      · rw [if_pos (.inl (by unfold formIx; rw [if_neg hk]; decide))] at h
        obtain ⟨rfl, rfl⟩ := Prod.mk.inj (Option.some.inj h)
        have hA : vendmeterref_ActWord.f kn = some (⟨#[]⟩, false, false, false) := by
          unfold vendmeterref_ActWord.f
          rw [if_neg (by omega), if_neg (by omega), if_neg (by omega), if_neg (by omega), if_neg (by omega), if_neg (by omega), if_neg (by omega)]
        exact vendmeterref_ActShown.early kn me A B C tx ct _ _ _ _ w hA (.inl (by rw [ByteArray.toList_eq]))
    · rw [if_pos hd, if_neg ht] at h; cases h
  · rw [if_neg hd] at h; cases h

end Go.Proofs.YtdijplohafjbcaaDoor.POrderShows
