-- written by this session's program wip/xp/xprint.py (it drives the kit's print and adds to it)
import Derived.Test.YtdijplohafjbcaaDoorPPadKeysx0
namespace Go.Proofs.YtdijplohafjbcaaDoor.PPadKeys
open Go.RowKit Go.Proofs.YtdijplohafjbcaaDoorW.PrintWords Go.Proofs.YtdijplohafjbcaaDoorW.PrintLast Go.Proofs.YtdijplohafjbcaaDoorW.PrintMore
attribute [local go_sem] max2_int min2_int max_two min_two max_three min_three max_four min_four   -- for this text's walks alone
set_option linter.unusedVariables false
set_option linter.unusedSimpArgs false

-- NOT PRINTED: function 34 (utf8_decodeRuneInStringSlow)

/-- The two tables of the decoder lie in this world. -/
structure LaidW (w : World) : Prop where
  tab : Lib.Utf8Tabs 1 2 w
theorem LaidW.go {w W : World} (h : LaidW w) (hb : Below w.heap.size w W) : LaidW W := ⟨Utf8Tabs_below h.tab hb⟩
/-! ### utf8_DecodeRuneInString: function 14 (the kit's contract, in the print's shape; its tables lie in the world) -/
def utf8_DecodeRuneInString.f (a0 : ByteArray) : Option (Int × Int) := some (((Lib.decodeGo a0).1 : Nat), ((Lib.decodeGo a0).2 : Nat))
theorem utf8_DecodeRuneInString.calls (a0 : ByteArray) (r1 : Int) (r2 : Int) (w : World) (HTAB : LaidW w) (h : utf8_DecodeRuneInString.f a0 = some (r1, r2)) :
    Calls Tryd.prog 14 #[.string a0] w fun e w' => e = .returned (.tuple #[.int .i32 r1, .int .i64 r2]) ∧ Below w.heap.size w w' := by
  obtain ⟨rfl, rfl⟩ := Prod.mk.inj (Option.some.inj h)
  exact Tryd.utf8_DecodeRuneInString a0 w HTAB.tab

-- NOT PRINTED: function 46 (utf8_RuneStart)

-- NOT PRINTED: function 32 (utf8_DecodeLastRuneInString)

-- NOT PRINTED: function 47 (keypad_zeros)

-- NOT PRINTED: function 33 (keypad_value)

-- NOT PRINTED: function 13 (keypad_press)

def rdOk (s : ByteArray) (p : Nat) : Prop := 48 ≤ bt s (p : Int) ∧ bt s (p : Int) ≤ 57
theorem rd_nat (s : ByteArray) (p : Nat) (h : p < s.size) : bt s (p : Int) = ((s[p]'h).toNat : Int) := by
  unfold bt
  rw [dif_pos (show (p : Int).toNat < s.size by simpa using h)]
  simp
theorem rd_ok (s : ByteArray) (p : Nat) (h : p < s.size) (hk : rdOk s p) : Utf8.decode s p = ((bt s (p : Int)).toNat, 1) := by
  unfold rdOk at hk
  rw [rd_nat s p h] at hk
  rw [decode_ascii s p h (by omega), rd_nat s p h]
  simp
theorem rd_no (s : ByteArray) (p : Nat) (h : p < s.size) (hk : ¬ rdOk s p) : ((Utf8.decode s p).1 : Int) < 48 ∨ ((Utf8.decode s p).1 : Int) > 57 := by
  unfold rdOk at hk
  rw [rd_nat s p h] at hk
  by_cases h8 : (s[p]'h).toNat < 128
  · rw [decode_ascii s p h h8]
    dsimp only
    omega
  · have := (decode_high s p h (by omega)).1
    omega
theorem rd_empty (s : ByteArray) : s.toList.isEmpty = decide (s.size = 0) := by
  rw [ByteArray.toList_eq]
  cases h : s.data.toList with
  | nil => have : s.size = 0 := by show s.data.size = 0; rw [← Array.length_toList, h]; rfl
           simp [this]
  | cons a l => have : ¬ s.size = 0 := by intro e; have e2 : s.data.size = 0 := e; rw [← Array.length_toList, h] at e2; simp at e2
                simp [this]

section
variable {P : Program} {ops : Array Oper} {o : Oper} {a : Act} {Q : Exit → Act → World → Prop} {W : World}
theorem seg.run {t : TypeId} {e : TypeId} {g : Nat} {cur new : Array Value} {u : Value} (i : Nat) (cs : List Value) (hu : u.cells.toList = cs) (ht : (P.info? t).map (·.size) = some cs.length) (h1 : ∀ q ∈ cs, q.oneCell' = true) (hh : W.heap[g]? = some (.cells cur e (0, 0))) (hsz : i + cs.length ≤ cur.size) (hnew : cur.toList.take i ++ cs ++ cur.toList.drop (i + cs.length) = new.toList) :
    (Instr.storeAt t (.pointer (some ⟨g, i, none⟩)) u).run P W = .ok () (W.setCells g i cs) ∧ (W.setCells g i cs).heap[g]? = some (.cells new e (0, 0)) ∧ W.grownBy (W.setCells g i cs) (some g) := by
  refine ⟨run_store_run t u cs hh hu ht hsz h1, ?_, ?_⟩
  · obtain ⟨cur', h2, h3, h4⟩ := setCells_row cs i W cur hh hsz
    rw [h2]
    have : cur' = new := Array.toList_inj.1 (h4.trans hnew)
    rw [this]
  · obtain ⟨q1, q2, q3, q4⟩ := setCells_same g cs i W
    exact ⟨q1, q2, q3, by rw [q4]; exact Nat.le_refl _, fun k _ hk => setCells_far _ _ k (fun h => hk (by rw [h]))⟩
theorem seg.list {rest : List Oper} (hN : o.dst = none) (hgd : o.guard = none) (t : TypeId) (p x : Operand) (ho : o.op = .store t p x) (e : TypeId) (g i : Nat) (cur new : Array Value) (cs : List Value) (haddr : a.eval p = .pointer (some ⟨g, i, none⟩)) (hu : (a.eval x).cells.toList = cs) (ht : (P.info? t).map (·.size) = some cs.length) (h1 : ∀ q ∈ cs, q.oneCell' = true) (hh : W.heap[g]? = some (.cells cur e (0, 0))) (hsz : i + cs.length ≤ cur.size) (hnew : cur.toList.take i ++ cs ++ cur.toList.drop (i + cs.length) = new.toList)
    (h : ∀ w1, w1.heap[g]? = some (.cells new e (0, 0)) → W.grownBy w1 (some g) → wpList P ops Q rest a w1) : wpList P ops Q (o :: rest) a W := by
  obtain ⟨hrun, hb, hg⟩ := seg.run (P := P) (t := t) i cs hu ht h1 hh hsz hnew
  refine wpList_plain hgd fun K hK => ?_
  unfold Oper.wp execOp
  simp only [ho, haddr, Sem.run_bind, Sem.run_pure, Result.andThen_ok, hrun]
  show K (a.put o.dst undef) _
  rw [hN]
  exact hK a _ (h _ hb hg)
theorem seg.step {Kc : Act → World → Prop} (hw : Region.wanted o (yielded ops a.tmps) = true) (hN : o.dst = none) (t : TypeId) (p x : Operand) (ho : o.op = .store t p x) (e : TypeId) (g i : Nat) (cur new : Array Value) (cs : List Value) (haddr : a.eval p = .pointer (some ⟨g, i, none⟩)) (hu : (a.eval x).cells.toList = cs) (ht : (P.info? t).map (·.size) = some cs.length) (h1 : ∀ q ∈ cs, q.oneCell' = true) (hh : W.heap[g]? = some (.cells cur e (0, 0))) (hsz : i + cs.length ≤ cur.size) (hnew : cur.toList.take i ++ cs ++ cur.toList.drop (i + cs.length) = new.toList)
    (h : ∀ w1, w1.heap[g]? = some (.cells new e (0, 0)) → W.grownBy w1 (some g) → Kc (a.put o.dst undef) w1) :
    if Region.wanted o (yielded ops a.tmps) = true then Oper.wp P o a W Kc Q else Kc (a.put o.dst undef) W := by
  obtain ⟨hrun, hb, hg⟩ := seg.run (P := P) (t := t) i cs hu ht h1 hh hsz hnew
  rw [if_pos hw]
  unfold Oper.wp execOp
  simp only [ho, haddr, Sem.run_bind, Sem.run_pure, Result.andThen_ok, hrun]
  exact h _ hb hg
end
theorem seg.below {w W w1 : World} {g : Nat} (h : Below w.heap.size w W) (hg : W.grownBy w1 (some g)) (hl : w.heap.size ≤ g) : Below w.heap.size w w1 := pw_below_grown h (some g) h.size hg (fun k hk => by cases hk; exact hl)
theorem seg.far {W w1 : World} {g h : Nat} {ob : Obj} (hb : W.heap[h]? = some ob) (hg : W.grownBy w1 (some g)) (hne : h ≠ g) : w1.heap[h]? = some ob := blk_grown hb hg (fun e => hne (Option.some.inj e))
theorem seg.R {α : Type} {d : Kd α} {e base : Nat} {ok : Nat → Prop} {W w1 : World} {v : Value} {xs : List α} {g : Nat} (h : d.R e W base ok v xs) (hg : W.grownBy w1 (some g)) (hok : ∀ k, ok k → k ≠ g) : d.R e w1 base ok v xs := Kd.R_grown h hg (fun k hk e => hok k hk (Option.some.inj e))

theorem results_c1 {P : Program} {fn : Func} {p : Tmp} {ty : TypeId} (h : fn.results = #[.cell p ty]) (tmps : Array Value) (w : World) (g : Nat) (t : TypeId) (cs : Array Value) (fr : Nat × Nat) (d : TypeDesc)
    (hp : tmps.getD p undef = .pointer (some ⟨g, 0, none⟩)) (hg : w.heap[g]? = some (.cells cs t fr))
    (hu : P.underlying ty = some d) (hd : (match d with | .struct _ | .array _ _ => true | _ => false) = true) (hi : (P.info? ty).map (·.size) = some cs.size) :
    (results fn tmps).run P w = .ok (.agg cs) w := by
  have hp' : tmps[p]?.getD undef = .pointer (some ⟨g, 0, none⟩) := by simpa using hp
  simp [results, h, hp', asAddr, run_loadVar_row w g t ty cs fr d hg hu hd hi]
set_option maxHeartbeats 8000000 in
set_option maxRecDepth 100000 in
theorem keypad_zeros.at_ (w : World) :
    Calls Tryd.prog 47 #[] w fun e w' => e = .returned (.agg #[.int .i32 48, .int .i32 1632, .int .i32 1776, .int .i32 2406, .int .i32 2534, .int .i32 65296]) ∧ w' = w.alloc (.cells #[.int .i32 48, .int .i32 1632, .int .i32 1776, .int .i32 2406, .int .i32 2534, .int .i32 65296] 91) := by
  have hu148 := Tryd.underlying91
  have HB := Aside0.mk (below_alloc (Below.refl w.heap.size w) (.cells #[.int .i32 48, .int .i32 1632, .int .i32 1776, .int .i32 2406, .int .i32 2534, .int .i32 65296] 91))
  have B1 := Aside0.mk (blk_new w (.cells #[.int .i32 48, .int .i32 1632, .int .i32 1776, .int .i32 2406, .int .i32 2534, .int .i32 65296] 91))
  go_enter Tryd.func47, Tryd.ntmps47
  go_wp2
  refine bodyPost_ret (results_c1 (p := 0) rfl _ _ w.heap.size 91 _ (0, 0) _ rfl B1.out Tryd.underlying91 rfl (by kernel_rfl)) rfl ?_
  exact ⟨rfl, rfl⟩
set_option maxHeartbeats 8000000 in
set_option maxRecDepth 100000 in
theorem utf8_DecodeLast.at_ (w : World) (s : ByteArray) (n : Nat) (hn : s.size = n + 1) (hb : bt s (n : Int) < 128) (h : n < 1000) :
    Calls Tryd.prog 32 #[.string s] w fun e w' => e = .returned (.tuple #[.int .i32 (bt s (n : Int)), .int .i64 1]) ∧ w' = w := by
  have t1 : ((s.size : Int) == 0) = false := beq_eq_false_iff_ne.mpr (by omega)
  have t1n : (s.size == 0) = false := beq_eq_false_iff_ne.mpr (by omega)
  have e1 : wrap64 ((s.size : Int) - 1) = (n : Int) := by rw [IntWalk.wrap64_in _ ⟨by omega, by omega⟩]; omega
  have p0 : (0 ≤ (n : Int)) = True := eq_true (by omega)
  have q0 : ((n : Int) < (s.size : Int)) = True := eq_true (by omega)
  have q1 : (n < s.size) = True := eq_true (by omega)
  have hns : n < s.size := by omega
  have hx0 : ((s[n]'hns).toNat : Int) = bt s (n : Int) := by have := bt_at s (n : Int) (by simpa using hns); simpa using this
  have hr := bt_range s (n : Int)
  obtain ⟨b, hB⟩ : ∃ b, bt s (n : Int) = b := ⟨_, rfl⟩
  rw [hB] at hb hr hx0 ⊢
  have e2 : wrap32 b = b := IntWalk.wrap32_in _ ⟨by omega, by omega⟩
  have t2 : decide (b < 128) = true := decide_eq_true hb
  clear hb hr h hB hn
  go_enter Tryd.func32, Tryd.ntmps32
  go_wp2
  go_ret2
  exact ⟨by show Ending.returned (.tuple #[.int .i32 (wrap32 b), .int .i64 1]) = _; rw [e2], rfl⟩
def kdV (r : Int) : Int := if 48 ≤ r ∧ r < 58 then r - 48 else if 1632 ≤ r ∧ r < 1642 then r - 1632 else if 1776 ≤ r ∧ r < 1786 then r - 1776 else if 2406 ≤ r ∧ r < 2416 then r - 2406 else if 2534 ≤ r ∧ r < 2544 then r - 2534 else if 65296 ≤ r ∧ r < 65306 then r - 65296 else -1
def kdZ : Nat → Int
  | 0 => 48
  | 1 => 1632
  | 2 => 1776
  | 3 => 2406
  | 4 => 2534
  | _ => 65296
theorem kd_ix (W : World) (i : Nat) (h : i < 6) : (Instr.index 91 (.agg #[.int .i32 48, .int .i32 1632, .int .i32 1776, .int .i32 2406, .int .i32 2534, .int .i32 65296]) (.int .i64 (i : Int))).run Tryd.prog W = .ok (.int .i32 (kdZ i)) W := by
  have : i = 0 ∨ i = 1 ∨ i = 2 ∨ i = 3 ∨ i = 4 ∨ i = 5 := by omega
  rcases this with rfl | rfl | rfl | rfl | rfl | rfl <;> simp [Instr.index, run_underlying Tryd.underlying91, asIntOf, go_sem, kdZ]
/-- Which of the six it is, or 6: none. -/
def kdI (r : Int) : Nat := if 48 ≤ r ∧ r < 58 then 0 else if 1632 ≤ r ∧ r < 1642 then 1 else if 1776 ≤ r ∧ r < 1786 then 2 else if 2406 ≤ r ∧ r < 2416 then 3 else if 2534 ≤ r ∧ r < 2544 then 4 else if 65296 ≤ r ∧ r < 65306 then 5 else 6
theorem kd_all (r : Int) : (kdI r = 0 ∧ (48 ≤ r ∧ r < 58) ∧ kdV r = r - 48) ∨ (kdI r = 1 ∧ (1632 ≤ r ∧ r < 1642) ∧ kdV r = r - 1632) ∨ (kdI r = 2 ∧ (1776 ≤ r ∧ r < 1786) ∧ kdV r = r - 1776) ∨ (kdI r = 3 ∧ (2406 ≤ r ∧ r < 2416) ∧ kdV r = r - 2406) ∨ (kdI r = 4 ∧ (2534 ≤ r ∧ r < 2544) ∧ kdV r = r - 2534) ∨ (kdI r = 5 ∧ (65296 ≤ r ∧ r < 65306) ∧ kdV r = r - 65296) ∨ (kdI r = 6 ∧ (¬ (48 ≤ r ∧ r < 58) ∧ ¬ (1632 ≤ r ∧ r < 1642) ∧ ¬ (1776 ≤ r ∧ r < 1786) ∧ ¬ (2406 ≤ r ∧ r < 2416) ∧ ¬ (2534 ≤ r ∧ r < 2544) ∧ ¬ (65296 ≤ r ∧ r < 65306)) ∧ kdV r = -1) := by
  unfold kdI kdV
  by_cases h0 : 48 ≤ r ∧ r < 58
  · exact (.inl ⟨by rw [if_pos h0], h0, by rw [if_pos h0]⟩)
  by_cases h1 : 1632 ≤ r ∧ r < 1642
  · exact (.inr (.inl ⟨by rw [if_neg h0, if_pos h1], h1, by rw [if_neg h0, if_pos h1]⟩))
  by_cases h2 : 1776 ≤ r ∧ r < 1786
  · exact (.inr (.inr (.inl ⟨by rw [if_neg h0, if_neg h1, if_pos h2], h2, by rw [if_neg h0, if_neg h1, if_pos h2]⟩)))
  by_cases h3 : 2406 ≤ r ∧ r < 2416
  · exact (.inr (.inr (.inr (.inl ⟨by rw [if_neg h0, if_neg h1, if_neg h2, if_pos h3], h3, by rw [if_neg h0, if_neg h1, if_neg h2, if_pos h3]⟩))))
  by_cases h4 : 2534 ≤ r ∧ r < 2544
  · exact (.inr (.inr (.inr (.inr (.inl ⟨by rw [if_neg h0, if_neg h1, if_neg h2, if_neg h3, if_pos h4], h4, by rw [if_neg h0, if_neg h1, if_neg h2, if_neg h3, if_pos h4]⟩)))))
  by_cases h5 : 65296 ≤ r ∧ r < 65306
  · exact (.inr (.inr (.inr (.inr (.inr (.inl ⟨by rw [if_neg h0, if_neg h1, if_neg h2, if_neg h3, if_neg h4, if_pos h5], h5, by rw [if_neg h0, if_neg h1, if_neg h2, if_neg h3, if_neg h4, if_pos h5]⟩))))))
  exact (.inr (.inr (.inr (.inr (.inr (.inr ⟨by rw [if_neg h0, if_neg h1, if_neg h2, if_neg h3, if_neg h4, if_neg h5], ⟨h0, h1, h2, h3, h4, h5⟩, by rw [if_neg h0, if_neg h1, if_neg h2, if_neg h3, if_neg h4, if_neg h5]⟩))))))
theorem kdI_le (r : Int) : kdI r ≤ 6 := by rcases kd_all r with h | h | h | h | h | h | h <;> omega
theorem kdI_low {r : Int} {i : Nat} (h : i < kdI r) (h6 : i < 6) : ¬ (kdZ i ≤ r ∧ r < kdZ i + 10) := by
  have hi : i = 0 ∨ i = 1 ∨ i = 2 ∨ i = 3 ∨ i = 4 ∨ i = 5 := by omega
  have ha := kd_all r
  rcases hi with rfl | rfl | rfl | rfl | rfl | rfl <;> simp only [kdZ] <;> omega
theorem kdI_hit {r : Int} {i : Nat} (h : i = kdI r) (h6 : i < 6) : (kdZ i ≤ r ∧ r < kdZ i + 10) ∧ kdV r = r - kdZ i := by
  have hi : i = 0 ∨ i = 1 ∨ i = 2 ∨ i = 3 ∨ i = 4 ∨ i = 5 := by omega
  have ha := kd_all r
  rcases hi with rfl | rfl | rfl | rfl | rfl | rfl <;> simp only [kdZ] <;> omega
theorem kdI_none {r : Int} (h : kdI r = 6) : kdV r = -1 := by
  have ha := kd_all r
  omega
theorem kdZ_bd (i : Nat) : 48 ≤ kdZ i ∧ kdZ i ≤ 65296 := by
  match i with
  | 0 => decide
  | 1 => decide
  | 2 => decide
  | 3 => decide
  | 4 => decide
  | n + 5 => simp [kdZ]
set_option maxHeartbeats 8000000 in
set_option maxRecDepth 100000 in
theorem keypad_value.at_ (w : World) (r : Int) (hr : -2147483648 ≤ r ∧ r ≤ 2147483647) :
    Calls Tryd.prog 33 #[.int .i32 r] w fun e w' => e = .returned (.int .i64 (kdV r)) ∧ w' = w.alloc (.cells #[.int .i32 48, .int .i32 1632, .int .i32 1776, .int .i32 2406, .int .i32 2534, .int .i32 65296] 91) := by
  have HR := Aside0.mk hr
  clear hr
  go_enter Tryd.func33, Tryd.ntmps33
  go_wp2_with (go_at_call 47; refine (keypad_zeros.at_ _).mono ?_; rintro e w1 ⟨rfl, hb1⟩)
  have HB := Aside0.mk hb1
  clear hb1
  go_loopg [4, 6] 6 (fun kq v4 v6 w' => ∃ i : Nat, v6 = .int .i64 (i : Int) ∧ Aside0 (i ≤ kdI r ∧ i ≤ 6 ∧ kq = 6 - i) ∧ w' = w.alloc (.cells #[.int .i32 48, .int .i32 1632, .int .i32 1776, .int .i32 2406, .int .i32 2534, .int .i32 65296] 91))
  case atStart => exact ⟨0, rfl, ⟨Nat.zero_le _, by decide, by omega⟩, by first | rfl | exact HB.out⟩
  case round =>
    clear HB
    obtain ⟨i, rfl, HI, hbw⟩ := hrel
    have HB := Aside0.mk hbw
    clear hbw
    obtain ⟨z, hz⟩ : ∃ z, kdZ i = z := ⟨_, rfl⟩
    have hzb := kdZ_bd i
    rw [hz] at hzb
    by_cases h6 : i < 6
    · have s1 : decide ((i : Int) < 6) = true := decide_eq_true (by omega)
      have s1n : decide (i < 6) = true := decide_eq_true h6
      have hix : ∀ W, (Instr.index 91 (.agg #[.int .i32 48, .int .i32 1632, .int .i32 1776, .int .i32 2406, .int .i32 2534, .int .i32 65296]) (.int .i64 (i : Int))).run Tryd.prog W = .ok (.int .i32 z) W := fun W => hz ▸ kd_ix W i h6
      have e1 : wrap32 (z + 10) = z + 10 := IntWalk.wrap32_in _ ⟨by omega, by omega⟩
      have e2 : wrap64 ((i : Int) + 1) = ((i + 1 : Nat) : Int) := by rw [IntWalk.wrap64_in _ ⟨by omega, by omega⟩]; rfl
      have hr := HR.out
      by_cases hh : i = kdI r
      · have ha := kdI_hit hh h6
        rw [hz] at ha
        have t1 : decide (z ≤ r) = true := decide_eq_true ha.1.1
        have t2 : decide (r < z + 10) = true := decide_eq_true ha.1.2
        have e3 : wrap32 (r - z) = r - z := IntWalk.wrap32_in _ ⟨by omega, by omega⟩
        have e4 : wrap64 (r - z) = r - z := IntWalk.wrap64_in _ ⟨by omega, by omega⟩
        have HA := Aside0.mk ha.2
        clear ha hzb hr hz hh h6
        go_wp2
        go_ret
        exact ⟨by rw [HA.out]; show Ending.returned (.int .i64 (wrap64 (r - z))) = _; rw [e4], HB.out⟩
      · have ha := kdI_low (r := r) (i := i) (by have := HI.out.1; omega) h6
        rw [hz] at ha
        have HJ := Aside0.mk (show i + 1 ≤ kdI r by have := HI.out.1; omega)
        have H6 := Aside0.mk h6
        have t1 : decide (z ≤ r) = false ∨ (decide (z ≤ r) = true ∧ decide (r < z + 10) = false) := by
          by_cases g : z ≤ r
          · exact .inr ⟨decide_eq_true g, decide_eq_false (fun q => ha ⟨g, q⟩)⟩
          · exact .inl (decide_eq_false g)
        clear ha hzb hr hz hh h6
        rcases t1 with t1 | ⟨t1, t2⟩
        all_goals (
          go_wp2
          go_roundg (6 - (i + 1))
          case measure => have := H6.out; have := HI.out.2.2; omega
          case rel => exact ⟨i + 1, by rw [e2], ⟨HJ.out, by have := H6.out; omega, rfl⟩, HB.out⟩)
    · have s1 : decide ((i : Int) < 6) = false := decide_eq_false (by omega)
      have s1n : decide (i < 6) = false := decide_eq_false h6
      have HA := Aside0.mk (kdI_none (r := r) (by have := HI.out.1; have := HI.out.2.1; have := kdI_le r; omega))
      clear hzb hz h6
      go_wp2
      go_ret
      exact ⟨by rw [HA.out]; rfl, HB.out⟩
theorem pp_blk (w : World) (A B : Obj) : ((w.alloc A).alloc B).heap[w.heap.size + 1]? = some B := by
  have h := blk_new (w.alloc A) B
  rwa [World.size_alloc] at h
theorem pp_below (w : World) (A B : Obj) : Below w.heap.size w ((w.alloc A).alloc B) := below_alloc (below_alloc (Below.refl w.heap.size w) A) B
set_option maxHeartbeats 8000000 in
set_option maxRecDepth 100000 in
theorem keypad_press.keep (w : World) (s : ByteArray) (b : Bool) (r : Int) (hr : r = 32 ∨ r = 45 ∨ r = 160) :
    Calls Tryd.prog 13 #[.agg #[.string s, .bool b], .int .i32 r] w fun e w' => e = .returned (.tuple #[.agg #[.string s, .bool b], .pointer none]) ∧ Below w.heap.size w w' := by
  have hu33 := Tryd.underlying24
  have hu82 := Tryd.underlying41
  have B1 := blk_alloc (blk_new w (.cells #[.string s, .bool b] 24)) (.cells #[.string ⟨#[]⟩, .bool false] 24)
  have B2 := blk_new (w.alloc (.cells #[.string s, .bool b] 24)) (.cells #[.string ⟨#[]⟩, .bool false] 24)
  rw [World.size_alloc] at B2
  have b10 := blk_cell B1 0
  have b11 := blk_cell B1 1
  have b20 := blk_cell B2 0
  have b21 := blk_cell B2 1
  clear B1 B2
  rcases hr with rfl | rfl | rfl
  all_goals (
    go_enter Tryd.func13, Tryd.ntmps13
    go_wp2
    refine bodyPost_ret (results_ct (p := 4) (u := 5) rfl _ _ (w.heap.size + 1) 24 _ (0, 0) _ rfl (pp_blk w _ _) Tryd.underlying24 rfl (by kernel_rfl)) rfl ?_
    exact ⟨rfl, pp_below w _ _⟩)

set_option maxHeartbeats 8000000 in
set_option maxRecDepth 100000 in
theorem keypad_press.star (w : World) (s : ByteArray) (b : Bool) (n : Nat) (hn : s.size = n + 1) (hb : bt s (n : Int) < 128) (h : n < 1000) :
    Calls Tryd.prog 13 #[.agg #[.string s, .bool b], .int .i32 42] w fun e w' => e = .returned (.tuple #[.agg #[.string (s.extract 0 n), .bool b], .pointer none]) ∧ Below w.heap.size w w' := by
  have hu33 := Tryd.underlying24
  have hu82 := Tryd.underlying41
  have B1 := blk_alloc (blk_new w (.cells #[.string s, .bool b] 24)) (.cells #[.string ⟨#[]⟩, .bool false] 24)
  have B2 := blk_new (w.alloc (.cells #[.string s, .bool b] 24)) (.cells #[.string ⟨#[]⟩, .bool false] 24)
  rw [World.size_alloc] at B2
  have b10 := blk_cell B1 0
  have b11 := blk_cell B1 1
  have b20 := blk_cell B2 0
  have b21 := blk_cell B2 1
  clear B1 B2
  have H := Aside0.mk (fun W => utf8_DecodeLast.at_ W s n hn hb h)
  have e1 : wrap64 ((s.size : Int) - 1) = (n : Int) := by rw [IntWalk.wrap64_in _ ⟨by omega, by omega⟩]; omega
  have p0 : (0 : Int) ≤ (n : Int) := by omega
  have q0 : (n : Int) ≤ (s.size : Int) := by omega
  have q1 : n ≤ s.size := by omega
  clear hn hb h
  go_enter Tryd.func13, Tryd.ntmps13
  go_wp2_with (go_at_call 32; refine (H.out _).mono ?_; rintro e w1 ⟨rfl, hw1⟩; subst hw1)
  refine bodyPost_ret (results_ct (p := 4) (u := 5) rfl _ _ (w.heap.size + 1) 24 _ (0, 0) _ rfl (pp_blk w _ _) Tryd.underlying24 rfl (by kernel_rfl)) rfl ?_
  exact ⟨rfl, pp_below w _ _⟩
set_option maxHeartbeats 8000000 in
set_option maxRecDepth 100000 in
theorem utf8_DecodeLast.empty (w : World) (s : ByteArray) (hn : s.size = 0) :
    Calls Tryd.prog 32 #[.string s] w fun e w' => e = .returned (.tuple #[.int .i32 65533, .int .i64 0]) ∧ w' = w := by
  have t1 : ((s.size : Int) == 0) = true := beq_iff_eq.mpr (by omega)
  have t1n : (s.size == 0) = true := beq_iff_eq.mpr hn
  clear hn
  go_enter Tryd.func32, Tryd.ntmps32
  go_wp2
  go_ret2
  exact ⟨rfl, rfl⟩
set_option maxHeartbeats 8000000 in
set_option maxRecDepth 100000 in
theorem keypad_press.star0 (w : World) (s : ByteArray) (b : Bool) (hn : s.size = 0) :
    Calls Tryd.prog 13 #[.agg #[.string s, .bool b], .int .i32 42] w fun e w' => e = .returned (.tuple #[.agg #[.string ByteArray.empty, .bool b], .pointer none]) ∧ Below w.heap.size w w' := by
  have hu33 := Tryd.underlying24
  have hu82 := Tryd.underlying41
  have B1 := blk_alloc (blk_new w (.cells #[.string s, .bool b] 24)) (.cells #[.string ⟨#[]⟩, .bool false] 24)
  have B2 := blk_new (w.alloc (.cells #[.string s, .bool b] 24)) (.cells #[.string ⟨#[]⟩, .bool false] 24)
  rw [World.size_alloc] at B2
  have b10 := blk_cell B1 0
  have b11 := blk_cell B1 1
  have b20 := blk_cell B2 0
  have b21 := blk_cell B2 1
  clear B1 B2
  have H := Aside0.mk (fun W => utf8_DecodeLast.empty W s hn)
  have e0 : (s.size : Int) = 0 := by omega
  have e1 : wrap64 (0 : Int) = 0 := IntWalk.wrap64_in _ ⟨by decide, by decide⟩
  clear hn
  go_enter Tryd.func13, Tryd.ntmps13
  go_wp2_with (go_at_call 32; refine (H.out _).mono ?_; rintro e w1 ⟨rfl, hw1⟩; subst hw1)
  refine bodyPost_ret (results_ct (p := 4) (u := 5) rfl _ _ (w.heap.size + 1) 24 _ (0, 0) _ rfl (pp_blk w _ _) Tryd.underlying24 rfl (by kernel_rfl)) rfl ?_
  exact ⟨rfl, pp_below w _ _⟩
theorem pp_blk3 (w : World) (A B C : Obj) : (((w.alloc A).alloc B).alloc C).heap[w.heap.size + 1]? = some B := blk_alloc (pp_blk w A B) C
theorem pp_new3 (w : World) (A B C : Obj) : (((w.alloc A).alloc B).alloc C).heap[w.heap.size + 1 + 1]? = some C := by
  have h := blk_new ((w.alloc A).alloc B) C
  rwa [World.size_alloc, World.size_alloc] at h
theorem pp_below3 (w : World) (A B C : Obj) : Below w.heap.size w (((w.alloc A).alloc B).alloc C) := below_alloc (pp_below w A B) C
set_option maxHeartbeats 8000000 in
set_option maxRecDepth 100000 in
theorem keypad_press.hashbad (w : World) (s : ByteArray) :
    Calls Tryd.prog 13 #[.agg #[.string s, .bool true], .int .i32 35] w fun e w' => e = .returned (.tuple #[.agg #[.string ⟨#[]⟩, .bool false], .pointer (some ⟨w.heap.size + 1 + 1, 0, none⟩)]) ∧ w'.heap[w.heap.size + 1 + 1]? = some (.cells #[.string ⟨#[]⟩, .int .i64 3] 41 (0, 0)) ∧ Below w.heap.size w w' := by
  have hu33 := Tryd.underlying24
  have hu82 := Tryd.underlying41
  have B1 := blk_alloc (blk_new w (.cells #[.string s, .bool true] 24)) (.cells #[.string ⟨#[]⟩, .bool false] 24)
  have B2 := blk_new (w.alloc (.cells #[.string s, .bool true] 24)) (.cells #[.string ⟨#[]⟩, .bool false] 24)
  rw [World.size_alloc] at B2
  have b10 := blk_cell B1 0
  have b11 := blk_cell B1 1
  have b20 := blk_cell B2 0
  have b21 := blk_cell B2 1
  clear B1 B2
  go_enter Tryd.func13, Tryd.ntmps13
  go_wp2
  refine bodyPost_ret (results_ct (p := 4) (u := 5) rfl _ _ (w.heap.size + 1) 24 _ (0, 0) _ rfl (pp_blk3 w _ _ _) Tryd.underlying24 rfl (by kernel_rfl)) rfl ?_
  exact ⟨rfl, pp_new3 w _ _ _, pp_below3 w _ _ _⟩
set_option maxHeartbeats 8000000 in
set_option maxRecDepth 100000 in
theorem keypad_press.hash0 (w : World) (s : ByteArray) (hn : s.size = 0) :
    Calls Tryd.prog 13 #[.agg #[.string s, .bool false], .int .i32 35] w fun e w' => e = .returned (.tuple #[.agg #[.string ⟨#[]⟩, .bool false], .pointer none]) ∧ Below w.heap.size w w' := by
  have hu33 := Tryd.underlying24
  have hu82 := Tryd.underlying41
  have B1 := blk_alloc (blk_new w (.cells #[.string s, .bool false] 24)) (.cells #[.string ⟨#[]⟩, .bool false] 24)
  have B2 := blk_new (w.alloc (.cells #[.string s, .bool false] 24)) (.cells #[.string ⟨#[]⟩, .bool false] 24)
  rw [World.size_alloc] at B2
  have b10 := blk_cell B1 0
  have b11 := blk_cell B1 1
  have b20 := blk_cell B2 0
  have b21 := blk_cell B2 1
  clear B1 B2
  have ce : s.toList.isEmpty = true := by rw [rd_empty]; exact decide_eq_true hn
  have ce2 : ((s.size : Int) == 0) = true := beq_iff_eq.mpr (by omega)
  have ce3 : (s.size == 0) = true := beq_iff_eq.mpr hn
  clear hn
  go_enter Tryd.func13, Tryd.ntmps13
  go_wp2
  refine bodyPost_ret (results_ct (p := 4) (u := 5) rfl _ _ (w.heap.size + 1) 24 _ (0, 0) _ rfl (pp_blk w _ _) Tryd.underlying24 rfl (by kernel_rfl)) rfl ?_
  exact ⟨rfl, pp_below w _ _⟩
set_option maxHeartbeats 8000000 in
set_option maxRecDepth 100000 in
theorem keypad_press.hash (w : World) (s : ByteArray) (hn : 0 < s.size) :
    Calls Tryd.prog 13 #[.agg #[.string s, .bool false], .int .i32 35] w fun e w' => e = .returned (.tuple #[.agg #[.string ⟨#[]⟩, .bool false], .pointer (some ⟨w.heap.size + 1 + 1, 0, none⟩)]) ∧ w'.heap[w.heap.size + 1 + 1]? = some (.cells #[.string s, .int .i64 0] 41 (0, 0)) ∧ Below w.heap.size w w' := by
  have hu33 := Tryd.underlying24
  have hu82 := Tryd.underlying41
  have B1 := blk_alloc (blk_new w (.cells #[.string s, .bool false] 24)) (.cells #[.string ⟨#[]⟩, .bool false] 24)
  have B2 := blk_new (w.alloc (.cells #[.string s, .bool false] 24)) (.cells #[.string ⟨#[]⟩, .bool false] 24)
  rw [World.size_alloc] at B2
  have b10 := blk_cell B1 0
  have b11 := blk_cell B1 1
  have b20 := blk_cell B2 0
  have b21 := blk_cell B2 1
  clear B1 B2
  have ce : s.toList.isEmpty = false := by rw [rd_empty]; exact decide_eq_false (by omega)
  have ce2 : ((s.size : Int) == 0) = false := beq_eq_false_iff_ne.mpr (by omega)
  have ce3 : (s.size == 0) = false := beq_eq_false_iff_ne.mpr (by omega)
  clear hn
  go_enter Tryd.func13, Tryd.ntmps13
  go_wp2
  have c1 : ∀ o, (((w.alloc (.cells #[.string s, .bool false] 24)).alloc (.cells #[.string ⟨#[]⟩, .bool false] 24)).alloc o).cell? ⟨w.heap.size, 0, none⟩ = some (.string s) := fun o => blk_cell (blk_alloc (blk_alloc (blk_new w (.cells #[.string s, .bool false] 24)) (.cells #[.string ⟨#[]⟩, .bool false] 24)) o) 0
  go_region
  all_goals (
    try go_wp2
    refine bodyPost_ret (results_ct (p := 4) (u := 5) rfl _ _ (w.heap.size + 1) 24 _ (0, 0) _ rfl (pp_blk3 w _ _ _) Tryd.underlying24 rfl (by kernel_rfl)) rfl ?_
    exact ⟨rfl, pp_new3 w _ _ _, by repeat (first | exact pp_below3 w _ _ _ | apply below_drew1 | apply pw_below_drewN)⟩)
set_option maxHeartbeats 8000000 in
set_option maxRecDepth 100000 in
theorem keypad_press.bad (w : World) (s : ByteArray) (b : Bool) (r : Int) (hk : r ≠ 32 ∧ r ≠ 45 ∧ r ≠ 160 ∧ r ≠ 42 ∧ r ≠ 35) (hr : -2147483648 ≤ r ∧ r ≤ 2147483647) (hb : kdV r < 0 ∨ s.size = 30) :
    Calls Tryd.prog 13 #[.agg #[.string s, .bool b], .int .i32 r] w fun e w' => e = .returned (.tuple #[.agg #[.string s, .bool true], .pointer none]) ∧ Below w.heap.size w w' := by
  have hu33 := Tryd.underlying24
  have hu82 := Tryd.underlying41
  have B1 := blk_alloc (blk_new w (.cells #[.string s, .bool b] 24)) (.cells #[.string ⟨#[]⟩, .bool false] 24)
  have B2 := blk_new (w.alloc (.cells #[.string s, .bool b] 24)) (.cells #[.string ⟨#[]⟩, .bool false] 24)
  rw [World.size_alloc] at B2
  have b10 := blk_cell B1 0
  have b11 := blk_cell B1 1
  have b20 := blk_cell B2 0
  have b21 := blk_cell B2 1
  clear B1 B2
  have k1 : (r == 32) = false := beq_eq_false_iff_ne.mpr (by omega)
  have k2 : (r == 45) = false := beq_eq_false_iff_ne.mpr (by omega)
  have k3 : (r == 160) = false := beq_eq_false_iff_ne.mpr (by omega)
  have k4 : (r == 42) = false := beq_eq_false_iff_ne.mpr (by omega)
  have k5 : (r == 35) = false := beq_eq_false_iff_ne.mpr (by omega)
  obtain ⟨v, hv⟩ : ∃ v, kdV r = v := ⟨_, rfl⟩
  have H := Aside0.mk (fun W => hv ▸ keypad_value.at_ W r hr)
  rw [hv] at hb
  have t1 : decide (v < 0) = true ∨ (decide (v < 0) = false ∧ ((s.size : Int) == 30) = true ∧ (s.size == 30) = true) := by
    by_cases g : v < 0
    · exact .inl (decide_eq_true g)
    · have g2 : s.size = 30 := by omega
      exact .inr ⟨decide_eq_false g, beq_iff_eq.mpr (by omega), beq_iff_eq.mpr g2⟩
  clear hb hv hk hr
  rcases t1 with t1 | ⟨t1, t2, t3⟩
  all_goals (
    go_enter Tryd.func13, Tryd.ntmps13
    go_wp2_with (go_at_call 33; refine (H.out _).mono ?_; rintro e w1 ⟨rfl, hw1⟩; subst hw1)
    refine bodyPost_ret (results_ct (p := 4) (u := 5) rfl _ _ (w.heap.size + 1) 24 _ (0, 0) _ rfl (pp_blk3 w _ _ _) Tryd.underlying24 rfl (by kernel_rfl)) rfl ?_
    exact ⟨rfl, pp_below3 w _ _ _⟩)
set_option maxHeartbeats 8000000 in
set_option maxRecDepth 100000 in
theorem keypad_press.digit (w : World) (s : ByteArray) (b : Bool) (r : Int) (hk : r ≠ 32 ∧ r ≠ 45 ∧ r ≠ 160 ∧ r ≠ 42 ∧ r ≠ 35) (hr : -2147483648 ≤ r ∧ r ≤ 2147483647) (hb : 0 ≤ kdV r) (hs : s.size < 30) :
    Calls Tryd.prog 13 #[.agg #[.string s, .bool b], .int .i32 r] w fun e w' => e = .returned (.tuple #[.agg #[.string (s ++ Utf8.encode (48 + kdV r)), .bool b], .pointer none]) ∧ Below w.heap.size w w' := by
  have hu33 := Tryd.underlying24
  have hu82 := Tryd.underlying41
  have B1 := blk_alloc (blk_new w (.cells #[.string s, .bool b] 24)) (.cells #[.string ⟨#[]⟩, .bool false] 24)
  have B2 := blk_new (w.alloc (.cells #[.string s, .bool b] 24)) (.cells #[.string ⟨#[]⟩, .bool false] 24)
  rw [World.size_alloc] at B2
  have b10 := blk_cell B1 0
  have b11 := blk_cell B1 1
  have b20 := blk_cell B2 0
  have b21 := blk_cell B2 1
  clear B1 B2
  have k1 : (r == 32) = false := beq_eq_false_iff_ne.mpr (by omega)
  have k2 : (r == 45) = false := beq_eq_false_iff_ne.mpr (by omega)
  have k3 : (r == 160) = false := beq_eq_false_iff_ne.mpr (by omega)
  have k4 : (r == 42) = false := beq_eq_false_iff_ne.mpr (by omega)
  have k5 : (r == 35) = false := beq_eq_false_iff_ne.mpr (by omega)
  obtain ⟨v, hv⟩ : ∃ v, kdV r = v := ⟨_, rfl⟩
  have H := Aside0.mk (fun W => hv ▸ keypad_value.at_ W r hr)
  have hvb : v ≤ 9 := by have := kd_all r; omega
  rw [hv] at hb ⊢
  have t1 : decide (v < 0) = false := decide_eq_false (by omega)
  have t2 : ((s.size : Int) == 30) = false := beq_eq_false_iff_ne.mpr (by omega)
  have t3 : (s.size == 30) = false := beq_eq_false_iff_ne.mpr (by omega)
  have e1 : wrap64 (48 + v) = 48 + v := IntWalk.wrap64_in _ ⟨by omega, by omega⟩
  have e2 : wrap32 (48 + v) = 48 + v := IntWalk.wrap32_in _ ⟨by omega, by omega⟩
  have z : (Utf8.encode (48 + v)).size ≤ 4 := by
    have hq : 48 + v = 48 ∨ 48 + v = 49 ∨ 48 + v = 50 ∨ 48 + v = 51 ∨ 48 + v = 52 ∨ 48 + v = 53 ∨ 48 + v = 54 ∨ 48 + v = 55 ∨ 48 + v = 56 ∨ 48 + v = 57 := by omega
    rcases hq with q | q | q | q | q | q | q | q | q | q <;> (rw [q]; decide)
  obtain ⟨en, hen⟩ : ∃ en, Utf8.encode (48 + v) = en := ⟨_, rfl⟩
  rw [hen] at z ⊢
  have hcat : s.size + en.size ≤ 9223372036854775807 := by omega
  clear hb hv hk hr hvb hs z
  go_enter Tryd.func13, Tryd.ntmps13
  go_wp2_with (go_at_call 33; refine (H.out _).mono ?_; rintro e w1 ⟨rfl, hw1⟩; subst hw1)
  refine bodyPost_ret (results_ct (p := 4) (u := 5) rfl _ _ (w.heap.size + 1) 24 _ (0, 0) _ rfl (pp_blk3 w _ _ _) Tryd.underlying24 rfl (by kernel_rfl)) rfl ?_
  exact ⟨rfl, pp_below3 w _ _ _⟩
theorem entry_R {w : World} {base g : Nat} {tx : ByteArray} {cd : Int} (hg : w.heap[g]? = some (.cells #[.string tx, .int .i64 cd] 41 (0, 0))) (hb : base ≤ g) : Kd.R k41 41 w base (fun _ => True) (.slice (some ⟨g, 0, none⟩) 1 1) [(⟨tx, cd⟩ : S41)] := by
  refine ⟨fun _ _ => trivial, [.string tx, .int .i64 cd], ⟨rfl, .inr ⟨g, 1, _, rfl, hb, hg, Nat.le_refl _, by decide, rfl, rfl⟩⟩, ?_⟩
  exact Reps.c2 (k41_mkM _ _ _ _) (Reps.none _ _)
instance rdOk_dec (s : ByteArray) (j : Nat) : Decidable (rdOk s j) := by unfold rdOk; infer_instance
def allOk (t : ByteArray) : Bool := (List.range t.size).all fun j => decide (rdOk t j)
theorem allOk_split (t : ByteArray) : (allOk t = true ∧ ∀ j, j < t.size → rdOk t j) ∨ (allOk t = false ∧ ∃ m, m < t.size ∧ (∀ j, j < m → rdOk t j) ∧ ¬ rdOk t m) := by
  cases h : allOk t with
  | true =>
    refine .inl ⟨rfl, fun j hj => ?_⟩
    unfold allOk at h
    rw [List.all_eq_true] at h
    exact of_decide_eq_true (h j (List.mem_range.2 hj))
  | false =>
    refine .inr ⟨rfl, ?_⟩
    have h2 : ¬ ∀ j, j < t.size → rdOk t j := by
      intro g
      have : allOk t = true := by unfold allOk; rw [List.all_eq_true]; exact fun j hj => decide_eq_true (g j (List.mem_range.1 hj))
      rw [h] at this; cases this
    have key : ∀ n, (∀ j, j < n → rdOk t j) ∨ ∃ m, m < n ∧ (∀ j, j < m → rdOk t j) ∧ ¬ rdOk t m := by
      intro n
      induction n with
      | zero => exact .inl (fun j hj => absurd hj (Nat.not_lt_zero _))
      | succ n ih =>
        rcases ih with ih | ⟨m, a, b, c⟩
        · by_cases hn : rdOk t n
          · exact .inl (fun j hj => by rcases Nat.lt_succ_iff_lt_or_eq.1 hj with g | g; exact ih j g; rw [g]; exact hn)
          · exact .inr ⟨n, Nat.lt_succ_self _, ih, hn⟩
        · exact .inr ⟨m, Nat.lt_succ_of_lt a, b, c⟩
    rcases key t.size with g | g
    · exact absurd g h2
    · exact g
def padAns (s : ByteArray) (b : Bool) (r : Int) : ByteArray × Bool × List S41 × Int :=
  if (decide (s.size ≤ 30) && allOk s) = false then ((⟨#[]⟩ : ByteArray), false, [], 5)
  else if r = 32 ∨ r = 45 ∨ r = 160 then (s, b, [], 0)
  else if r = 42 then (if s.size = 0 then (ByteArray.empty, b, [], 0) else (s.extract 0 (s.size - 1), b, [], 0))
  else if r = 35 then (if b = true then ((⟨#[]⟩ : ByteArray), false, [(⟨(⟨#[]⟩ : ByteArray), 3⟩ : S41)], 0) else if s.size = 0 then ((⟨#[]⟩ : ByteArray), false, [], 0) else ((⟨#[]⟩ : ByteArray), false, [(⟨s, 0⟩ : S41)], 0))
  else if kdV r < 0 ∨ s.size = 30 then (s, true, [], 0) else (s ++ Utf8.encode (48 + kdV r), b, [], 0)

theorem allOk_iff (t : ByteArray) : allOk t = true ↔ ∀ j, j < t.size → rdOk t j := by
  rcases allOk_split t with ⟨ha, hg⟩ | ⟨ha, m, hm, _, hb⟩
  · exact ⟨fun _ => hg, fun _ => ha⟩
  · rw [ha]; exact ⟨fun h => (by cases h), fun h => absurd (h m hm) hb⟩
theorem allOk_app {a b : ByteArray} (ha : allOk a = true) (hb : allOk b = true) : allOk (a ++ b) = true := by
  rw [allOk_iff] at *
  intro j hj
  have hs : (a ++ b).size = a.size + b.size := ByteArray.size_append
  unfold rdOk at *
  rw [rd_nat _ j hj]
  by_cases h : j < a.size
  · have := ha j h
    rw [rd_nat _ j h] at this
    rwa [ByteArray.getElem_append_left h]
  · have := hb (j - a.size) (by omega)
    rw [rd_nat _ _ (by omega)] at this
    rwa [ByteArray.getElem_append_right (by omega)]
theorem allOk_cut {a : ByteArray} (n : Nat) (hn : n ≤ a.size) (ha : allOk a = true) : allOk (a.extract 0 n) = true := by
  rw [allOk_iff] at *
  intro j hj
  have hs : (a.extract 0 n).size = n := by simp; omega
  have := ha j (by omega)
  unfold rdOk at *
  rw [rd_nat _ j hj]
  rw [rd_nat _ j (by omega)] at this
  simpa [ByteArray.getElem_extract] using this
theorem encOk_all : ∀ d : Fin 10, allOk (Utf8.encode (48 + (d.val : Int))) = true ∧ (Utf8.encode (48 + (d.val : Int))).size = 1 := by decide +kernel
theorem encOk_at (d : Int) (hd : 0 ≤ d ∧ d ≤ 9) : allOk (Utf8.encode (48 + d)) = true ∧ (Utf8.encode (48 + d)).size = 1 := by
  have h := encOk_all ⟨d.toNat, by omega⟩
  dsimp only at h
  rwa [show ((d.toNat : Nat) : Int) = d by omega] at h
theorem allOk_nil : allOk (⟨#[]⟩ : ByteArray) = true := by decide +kernel
theorem padAns_ok (d : ByteArray) (b : Bool) (r : Int) (hd : d.size ≤ 30 ∧ allOk d = true) : (padAns d b r).1.size ≤ 30 ∧ allOk (padAns d b r).1 = true := by
  unfold padAns
  rw [if_neg (by simp [hd])]
  by_cases h1 : r = 32 ∨ r = 45 ∨ r = 160
  · rw [if_pos h1]; exact hd
  rw [if_neg h1]
  by_cases h2 : r = 42
  · rw [if_pos h2]
    by_cases hz : d.size = 0
    · rw [if_pos hz]; exact ⟨by simp, allOk_nil⟩
    · rw [if_neg hz]; exact ⟨by simp; omega, allOk_cut _ (by omega) hd.2⟩
  rw [if_neg h2]
  by_cases h3 : r = 35
  · rw [if_pos h3]
    have hn : (⟨#[]⟩ : ByteArray).size ≤ 30 ∧ allOk (⟨#[]⟩ : ByteArray) = true := ⟨by decide, allOk_nil⟩
    repeat' split
    all_goals exact hn
  rw [if_neg h3]
  by_cases h4 : kdV r < 0 ∨ d.size = 30
  · rw [if_pos h4]; exact hd
  rw [if_neg h4]
  have ha := kd_all r
  have e := encOk_at (kdV r) (by omega)
  refine ⟨?_, allOk_app hd.2 e.1⟩
  show (d ++ Utf8.encode (48 + kdV r)).size ≤ 30
  rw [ByteArray.size_append, e.2]
  omega
theorem padAns_short (d : ByteArray) (b : Bool) (r : Int) : (padAns d b r).2.2.1.length ≤ 1 := by
  unfold padAns
  repeat' split
  all_goals simp
theorem keypad_press.or (d : ByteArray) (b : Bool) (r : Int) (hr : -2147483648 ≤ r ∧ r ≤ 2147483647) (hd : d.size ≤ 30 ∧ allOk d = true) :
    ((padAns d b r).2.2.1 = [] ∧ ∀ W : World, Calls Tryd.prog 13 #[.agg #[.string d, .bool b], .int .i32 r] W fun e w' => e = .returned (.tuple #[.agg #[.string (padAns d b r).1, .bool (padAns d b r).2.1], .pointer none]) ∧ Below W.heap.size W w') ∨
    (∃ (tx : ByteArray) (cd : Int), (padAns d b r).2.2.1 = [(⟨tx, cd⟩ : S41)] ∧ ∀ W : World, Calls Tryd.prog 13 #[.agg #[.string d, .bool b], .int .i32 r] W fun e w' => e = .returned (.tuple #[.agg #[.string (padAns d b r).1, .bool (padAns d b r).2.1], .pointer (some ⟨W.heap.size + 1 + 1, 0, none⟩)]) ∧ w'.heap[W.heap.size + 1 + 1]? = some (.cells #[.string tx, .int .i64 cd] 41 (0, 0)) ∧ Below W.heap.size W w') := by
  unfold padAns
  rw [if_neg (by simp [hd])]
  by_cases h1 : r = 32 ∨ r = 45 ∨ r = 160
  · rw [if_pos h1]
    exact .inl ⟨rfl, fun W => keypad_press.keep W d b r h1⟩
  rw [if_neg h1]
  by_cases h2 : r = 42
  · rw [if_pos h2]
    subst h2
    by_cases hz : d.size = 0
    · rw [if_pos hz]
      exact .inl ⟨rfl, fun W => keypad_press.star0 W d b hz⟩
    · rw [if_neg hz]
      refine .inl ⟨rfl, fun W => keypad_press.star W d b (d.size - 1) (by omega) ?_ (by omega)⟩
      have := ((allOk_iff d).1 hd.2 (d.size - 1) (by omega)).2
      omega
  rw [if_neg h2]
  by_cases h3 : r = 35
  · rw [if_pos h3]
    subst h3
    cases b with
    | true =>
      rw [if_pos rfl]
      exact .inr ⟨_, _, rfl, fun W => keypad_press.hashbad W d⟩
    | false =>
      rw [if_neg (by decide)]
      by_cases hz : d.size = 0
      · rw [if_pos hz]
        exact .inl ⟨rfl, fun W => keypad_press.hash0 W d hz⟩
      · rw [if_neg hz]
        exact .inr ⟨_, _, rfl, fun W => keypad_press.hash W d (by omega)⟩
  rw [if_neg h3]
  have hk : r ≠ 32 ∧ r ≠ 45 ∧ r ≠ 160 ∧ r ≠ 42 ∧ r ≠ 35 := by omega
  by_cases h4 : kdV r < 0 ∨ d.size = 30
  · rw [if_pos h4]
    exact .inl ⟨rfl, fun W => keypad_press.bad W d b r hk hr h4⟩
  · rw [if_neg h4]
    exact .inl ⟨rfl, fun W => keypad_press.digit W d b r hk hr (by omega) (by omega)⟩
theorem R_iter {α : Type} {D : Kd α} {e : Nat} {w : World} {base : Nat} {ok : Nat → Prop} {v : Value} {xs : List α} (h : D.R e w base ok v xs) {g : Nat} {s : ByteArray} {p : Nat} (hb : w.heap[g]? = some (.stringIter s p)) : D.R e w base (fun k => ok k ∧ k ≠ g) v xs :=
  Kd.R_mono (Kd.R_bound h) (fun k hk => ⟨hk.1, by
    obtain ⟨_, _, _, q, hq, cells', hc⟩ := hk
    rintro rfl
    rw [hc] at hb
    cases hb⟩)
theorem R_iterAt {α : Type} {D : Kd α} {e : Nat} {w : World} {base : Nat} {v : Value} {xs : List α} (h : D.R e w base (fun _ => True) v xs) {g : Nat} {s : ByteArray} {p : Nat} (hb : w.heap[g]? = some (.stringIter s p)) (p' : Nat) : D.R e (w.iterAt g s p') base (fun _ => True) v xs :=
  Kd.R_mono (Kd.R_step (R_iter h hb) (fun k hk _ => Lib.iterAt_other w g k s p' hk.2)) (fun _ _ => trivial)
theorem iterAt_blk {w : World} {g j : Nat} {o : Obj} (h : w.heap[j]? = some o) (s : ByteArray) (p : Nat) (hne : j ≠ g) : (w.iterAt g s p).heap[j]? = some o := by rw [Lib.iterAt_other w g j s p hne]; exact h
theorem ne_iter {α : Type} {D : Kd α} {e : Nat} {w : World} {base : Nat} {ok : Nat → Prop} {v : Value} {xs : List α} (h : D.R e w base ok v xs) {g : Nat} {s : ByteArray} {p : Nat} (hb : w.heap[g]? = some (.stringIter s p)) : some g ≠ v.ownBlock := fun he => by
  obtain ⟨cells, hc⟩ := Kd.R_typed h g he.symm
  rw [hb] at hc
  cases hc
theorem rune_bd (s : ByteArray) (p : Nat) : -2147483648 ≤ ((Utf8.decode s p).1 : Int) ∧ ((Utf8.decode s p).1 : Int) ≤ 2147483647 := by
  have := Lib.rune_le s p
  omega
/-! ### keypad_Keys: function 6 (by hand) -/
def keypad_Keys.l0 : Nat → ByteArray → Nat → ByteArray → Bool → List S41 → Option (List S41 × ByteArray × Bool × Int)
  | 0, _, _, _, _, _ => none
  | k + 1, s, p, d, b, out => if p < s.size then keypad_Keys.l0 k s (p + (Utf8.decode s p).2) (padAns d b ((Utf8.decode s p).1 : Int)).1 (padAns d b ((Utf8.decode s p).1 : Int)).2.1 (out ++ (padAns d b ((Utf8.decode s p).1 : Int)).2.2.1) else some (out, d, b, 0)
def keypad_Keys.f (k : Nat) (s : ByteArray) : Option (List S41 × ByteArray × Bool × Int) := if s.size > 2000 then some ([], ⟨#[]⟩, false, 1) else keypad_Keys.l0 k s 0 ⟨#[]⟩ false []
theorem keypad_Keys.mono_l : ∀ k s p d b out, LeO (keypad_Keys.l0 k s p d b out) (keypad_Keys.l0 (k + 1) s p d b out)
  | 0, s, p, d, b, out => by intro r h; simp [keypad_Keys.l0] at h
  | k + 1, s, p, d, b, out => by
    have ih := keypad_Keys.mono_l k
    unfold keypad_Keys.l0
    exact LeO.ite (ih _ _ _ _ _) (LeO.refl _)
theorem keypad_Keys.mono : ∀ a0 k, LeO (keypad_Keys.f k a0) (keypad_Keys.f (k + 1) a0) := by
  intro a0 k
  unfold keypad_Keys.f
  exact LeO.ite (LeO.refl _) (keypad_Keys.mono_l _ _ _ _ _ _)
set_option maxHeartbeats 8000000 in
set_option maxRecDepth 100000 in
theorem keypad_Keys.long (a0 : ByteArray) (w : World) (c : 2000 < a0.size) :
    Calls Tryd.prog 6 #[.string a0] w fun e w' => ∃ v1_ : Value, e = .returned (.tuple #[v1_, .agg #[.string ⟨#[]⟩, .bool false], .int .i64 1]) ∧ Kd.R k41 41 w' w.heap.size (fun _ => True) v1_ [] ∧ Below w.heap.size w w' := by
  have hu24 := Tryd.underlying24
  have t1 : decide ((a0.size : Int) > 2000) = true := decide_eq_true (by omega)
  have t1n : decide (2000 < a0.size) = true := decide_eq_true (by omega)
  have HB := Aside0.mk (below_alloc (Below.refl w.heap.size w) (.cells #[.string ⟨#[]⟩, .bool false] 24))
  have H2 := Aside0.mk (blk_new w (.cells #[.string ⟨#[]⟩, .bool false] 24))
  clear c
  go_enter Tryd.func6, Tryd.ntmps6
  go_wp2_with ((with_reducible refine gate_store (t := 24) (p := 3) rfl ?_); refine seg.list rfl rfl 24 (.tmp 3) _ rfl 24 w.heap.size 0 #[.string ⟨#[]⟩, .bool false] #[.string ⟨#[]⟩, .bool false] [.string ⟨#[]⟩, .bool false] rfl rfl (by kernel_rfl) (by simp [Value.oneCell']) H2.out (by simp) rfl ?_; intro w9 bx hgr)
  refine bodyPost_ret (results_list (rs := [.tmp 2, .cell 3 24, .tmp 4]) rfl (by simp) (.tmp (.cell w.heap.size 24 #[.string ⟨#[]⟩, .bool false] (0, 0) _ rfl bx Tryd.underlying24 rfl (by kernel_rfl) (.tmp .nil)))) rfl ?_
  exact ⟨_, rfl, Kd.R_nil _ _ _ _ _, seg.below HB.out hgr (Nat.le_refl _)⟩
set_option maxHeartbeats 8000000 in
set_option maxRecDepth 100000 in
theorem keypad_Keys.short (k : Nat) (a0 : ByteArray) (r1 : List S41) (r2 : ByteArray) (r3 : Bool) (r4 : Int) (w : World) (c : ¬ 2000 < a0.size) (h : keypad_Keys.l0 k a0 0 ⟨#[]⟩ false [] = some (r1, r2, r3, r4)) :
    Calls Tryd.prog 6 #[.string a0] w fun e w' => ∃ v1_ : Value, e = .returned (.tuple #[v1_, .agg #[.string r2, .bool r3], .int .i64 r4]) ∧ Kd.R k41 41 w' w.heap.size (fun _ => True) v1_ r1 ∧ Below w.heap.size w w' := by
  have hu24 := Tryd.underlying24
  have hu41 := Tryd.underlying41
  have t1 : decide ((a0.size : Int) > 2000) = false := decide_eq_false (by omega)
  have t1n : decide (2000 < a0.size) = false := decide_eq_false (by omega)
  obtain ⟨OB, hOB⟩ : ∃ OB, Obj.cells #[.string ⟨#[]⟩, .bool false] 24 = OB := ⟨_, rfl⟩
  have B3 := blk_alloc (blk_alloc (blk_new w OB) OB) (.stringIter a0 0)
  have B5 := blk_alloc (blk_new (w.alloc OB) OB) (.stringIter a0 0)
  have B16 := blk_new ((w.alloc OB).alloc OB) (.stringIter a0 0)
  rw [World.size_alloc] at B5
  rw [World.size_alloc, World.size_alloc] at B16
  have HB := Aside0.mk (below_alloc (below_alloc (below_alloc (Below.refl w.heap.size w) OB) OB) (.stringIter a0 0))
  rw [← hOB] at B3 B5 B16 HB
  have H3 := Aside0.mk B3
  have H5 := Aside0.mk B5
  have H16 := Aside0.mk B16
  have HC := Aside0.mk c
  have HA0 := Aside0.mk h
  clear B3 B5 B16 c h hOB
  go_enter Tryd.func6, Tryd.ntmps6
  go_wp2
  go_loopg [6] k (fun kq v6 w' => ∃ (p : Nat) (d : ByteArray) (b : Bool) (out : List S41), Aside0 (keypad_Keys.l0 kq a0 p d b out = some (r1, r2, r3, r4)) ∧ Aside0 (kq ≤ k) ∧ Aside0 (d.size ≤ 30 ∧ allOk d = true) ∧ Aside0 (out.length ≤ p) ∧ Aside0 (Kd.R k41 41 w' w.heap.size (fun _ => True) v6 out) ∧ Aside0 (w'.heap[w.heap.size]? = some (.cells #[.string ⟨#[]⟩, .bool false] 24)) ∧ Aside0 (w'.heap[w.heap.size + 1]? = some (.cells #[.string d, .bool b] 24)) ∧ Aside0 (w'.heap[w.heap.size + 1 + 1]? = some (.stringIter a0 p)) ∧ Aside0 (Below w.heap.size w w'))
  case atStart => exact ⟨0, ⟨#[]⟩, false, [], HA0, ⟨Nat.le_refl _⟩, ⟨by decide, allOk_nil⟩, ⟨Nat.le_refl _⟩, ⟨Kd.R_nil _ _ _ _ _⟩, H3, H5, H16, HB⟩
  case round =>
    clear HA0 H3 H5 H16 HB
    obtain ⟨p, d, b, out, HA, HK, HD, HO, HR, H3, H5, H16, HB⟩ := hrel
    cases gk with
    | zero => exact absurd HA.out (by simp [keypad_Keys.l0])
    | succ k2 =>
      have H := HA.out
      clear HA
      simp only [keypad_Keys.l0] at H
      by_cases hp : p < a0.size
      · rw [if_pos hp] at H
        have hnx : ∀ ty, (Instr.next (.pointer (some ⟨w.heap.size + 1 + 1, 0, none⟩)) true ty).run Tryd.prog wr = _ := fun ty => Lib.run_next_any_at wr (w.heap.size + 1 + 1) a0 p ty H16.out hp
        have I16 := Aside0.mk (Lib.iterAt_heap wr (w.heap.size + 1 + 1) a0 p (p + (Utf8.decode a0 p).2) H16.out)
        have I3 := Aside0.mk (iterAt_blk H3.out a0 (p + (Utf8.decode a0 p).2) (g := w.heap.size + 1 + 1) (by omega))
        have I5 := Aside0.mk (iterAt_blk H5.out a0 (p + (Utf8.decode a0 p).2) (g := w.heap.size + 1 + 1) (by omega))
        have IR := Aside0.mk (R_iterAt HR.out H16.out (p + (Utf8.decode a0 p).2))
        have IB := Aside0.mk (Lib.below_iterAt HB.out (k := w.heap.size + 1 + 1) (by omega) a0 (p + (Utf8.decode a0 p).2))
        have hbd := rune_bd a0 p
        have hwp := Lib.width_pos a0 p
        have hor := keypad_press.or d b ((Utf8.decode a0 p).1 : Int) hbd HD.out
        have HD2 := Aside0.mk (padAns_ok d b ((Utf8.decode a0 p).1 : Int) HD.out)
        have HP := Aside0.mk hp
        obtain ⟨W1, hW1⟩ : ∃ W1, W1 = wr.iterAt (w.heap.size + 1 + 1) a0 (p + (Utf8.decode a0 p).2) := ⟨_, rfl⟩
        obtain ⟨p2, hp2⟩ : ∃ p2, p + (Utf8.decode a0 p).2 = p2 := ⟨_, rfl⟩
        obtain ⟨R, hR⟩ : ∃ R : Int, (((Utf8.decode a0 p).1 : Nat) : Int) = R := ⟨_, rfl⟩
        obtain ⟨q1, hq1⟩ : ∃ q1, (padAns d b R).1 = q1 := ⟨_, rfl⟩
        obtain ⟨q2, hq2⟩ : ∃ q2, (padAns d b R).2.1 = q2 := ⟨_, rfl⟩
        have HPP := Aside0.mk (show p < p2 by omega)
        rw [← hW1] at hnx I16 I3 I5 IR IB
        rw [hp2] at H I16
        rw [hR] at hnx hor H HD2
        rw [hq1] at hor H HD2
        rw [hq2] at hor H
        have hk50 := blk_cell I5.out 0
        have hk51 := blk_cell I5.out 1
        clear hW1 hp2 hR hq1 hq2 H16 H3 H5 HR HB hbd hwp hp HD
        rcases hor with ⟨he, hcall⟩ | ⟨tx, cd, he, hcall⟩
        · rw [he] at H
          rw [List.append_nil] at H
          have H' := Aside0.mk H
          have HCL := Aside0.mk hcall
          clear H hcall he
          go_wp2_with (first | (go_at_call 13; refine (HCL.out _).mono ?_; rintro e w2 ⟨rfl, hb2⟩; have J3 := Aside0.mk (blk_alloc (blk_below I3.out hb2) (.cells #[.string q1, .bool q2] 24)); have J5 := Aside0.mk (blk_alloc (blk_below I5.out hb2) (.cells #[.string q1, .bool q2] 24)); have J16 := Aside0.mk (blk_alloc (blk_below I16.out hb2) (.cells #[.string q1, .bool q2] 24)); have JR := Aside0.mk (Kd.R_alloc (Kd.R_below IR.out hb2) (.cells #[.string q1, .bool q2] 24)); have JB := Aside0.mk (below_alloc (below_then IB.out IB.out.size hb2) (.cells #[.string q1, .bool q2] 24)); have L9 := blk_new w2 (.cells #[.string q1, .bool q2] 24); have l90 := blk_cell L9 0; have l91 := blk_cell L9 1; clear hb2 L9) | ((with_reducible refine gate_store (t := 24) (p := 5) rfl ?_); refine seg.list rfl rfl 24 (.tmp 5) _ rfl 24 (w.heap.size + 1) 0 #[.string d, .bool b] #[.string q1, .bool q2] [.string q1, .bool q2] rfl rfl (by kernel_rfl) (by simp [Value.oneCell']) J5.out (by simp) rfl ?_; intro w9 bx hgr))
          go_roundg k2
          case measure => have := HK.out; omega
          case rel => exact ⟨p2, q1, q2, out, H', ⟨by have := HK.out; omega⟩, HD2, ⟨by have := HO.out; have := HPP.out; omega⟩, ⟨Kd.R_mono (seg.R (Kd.R_types JR.out J5.out (by decide)) hgr (fun _ hk => hk.2)) (fun _ _ => trivial)⟩, ⟨seg.far J3.out hgr (by omega)⟩, ⟨bx⟩, ⟨seg.far J16.out hgr (by omega)⟩, ⟨seg.below JB.out hgr (by omega)⟩⟩
        · rw [he] at H
          have H' := Aside0.mk H
          have HCL := Aside0.mk hcall
          clear H hcall he
          go_wp2_with (first | (go_at_call 13; refine (HCL.out _).mono ?_; rintro e w2 ⟨rfl, he2, hb2⟩; have J3 := Aside0.mk (blk_alloc (blk_below I3.out hb2) (.cells #[.string q1, .bool q2] 24)); have J5 := Aside0.mk (blk_alloc (blk_below I5.out hb2) (.cells #[.string q1, .bool q2] 24)); have J16 := Aside0.mk (blk_alloc (blk_below I16.out hb2) (.cells #[.string q1, .bool q2] 24)); have JR := Aside0.mk (Kd.R_alloc (Kd.R_below IR.out hb2) (.cells #[.string q1, .bool q2] 24)); have JB := Aside0.mk (below_alloc (below_then IB.out IB.out.size hb2) (.cells #[.string q1, .bool q2] 24)); have JE := blk_alloc he2 (.cells #[.string q1, .bool q2] 24); have L9 := Aside0.mk (blk_new w2 (.cells #[.string q1, .bool q2] 24)); have je0 := blk_cell JE 0; have je1 := blk_cell JE 1; clear hb2 he2 JE) | ((with_reducible refine gate_builtin (b := .append) (xs := #[.tmp 28, .tmp 32]) rfl ?_); at_builtin; refine Kd.R_append k41 (w0 := w) w.heap.size rfl (.tmp 28) (.tmp 32) 22 41 (.agg #[.string ⟨#[]⟩, .int .i64 0]) 24 rfl Tryd.underlying22 info41 rfl (by decide) (by omega) u6 out ⟨tx, cd⟩ [.string tx, .int .i64 cd] (fun _ => True) (fun _ => False) rfl (by rw [World.size_alloc]; rfl) (k41_mkM _ _ _ ⟨_, _⟩) (fun _ h => h.elim) (fun _ _ => trivial) JR.out JB.out JB.out.size ?aL ?_; (case aL => (have := HO.out; have := HP.out; have := HC.out; omega)); intro v2 w5 ho hb hg hat; have N3 := Aside0.mk (blk_grown J3.out hg (Kd.R_ne JR.out J3.out (by decide))); have N5 := Aside0.mk (blk_grown J5.out hg (Kd.R_ne JR.out J5.out (by decide))); have N9 := (blk_grown L9.out hg (Kd.R_ne JR.out L9.out (by decide))); have N16 := Aside0.mk (blk_grown J16.out hg (ne_iter JR.out J16.out)); have n90 := blk_cell N9 0; have n91 := blk_cell N9 1; have NR := Aside0.mk ho; have NB := Aside0.mk hb; clear ho hb hg hat N9) | ((with_reducible refine gate_store (t := 24) (p := 5) rfl ?_); refine seg.list rfl rfl 24 (.tmp 5) _ rfl 24 (w.heap.size + 1) 0 #[.string d, .bool b] #[.string q1, .bool q2] [.string q1, .bool q2] rfl rfl (by kernel_rfl) (by simp [Value.oneCell']) N5.out (by simp) rfl ?_; intro w9 bx hgr))
          go_roundg k2
          case measure => have := HK.out; omega
          case rel => exact ⟨p2, q1, q2, out ++ [⟨tx, cd⟩], H', ⟨by have := HK.out; omega⟩, HD2, ⟨by have := HO.out; have := HPP.out; simp; omega⟩, ⟨Kd.R_mono (seg.R (Kd.R_types NR.out N5.out (by decide)) hgr (fun _ hk => hk.2)) (fun _ _ => trivial)⟩, ⟨seg.far N3.out hgr (by omega)⟩, ⟨bx⟩, ⟨seg.far N16.out hgr (by omega)⟩, ⟨seg.below NB.out hgr (by omega)⟩⟩
      · rw [if_neg hp] at H
        obtain ⟨rfl, rfl, rfl, rfl⟩ : out = r1 ∧ d = r2 ∧ b = r3 ∧ (0 : Int) = r4 := by simpa using H
        have hnx : ∀ ty, (Instr.next (.pointer (some ⟨w.heap.size + 1 + 1, 0, none⟩)) true ty).run Tryd.prog wr = _ := fun ty => Lib.run_next_end_at wr (w.heap.size + 1 + 1) a0 p ty H16.out hp
        have hk50 := blk_cell H5.out 0
        have hk51 := blk_cell H5.out 1
        clear H hp
        have f30 := blk_frozen H3.out 0
        have f31 := blk_frozen H3.out 1
        have c30 := blk_cell H3.out 0
        have c31 := blk_cell H3.out 1
        have s31 := fun v => blk_cell (blk_set H3.out 0 v) 1
        have g31 := fun v => blk_frozen (blk_set H3.out 0 v) 1
        go_upto_region 12 with (fail)
        go_region
        all_goals (
          go_wp2
          refine bodyPost_ret (results_list (rs := [.tmp 2, .cell 3 24, .tmp 4]) rfl (by simp) (.tmp (.cell w.heap.size 24 #[.string d, .bool b] (0, 0) _ rfl (blk_drew (blk_set (blk_set H3.out 0 (.string d)) 1 (.bool b))) Tryd.underlying24 rfl (by kernel_rfl) (.tmp .nil)))) rfl ?_
          exact ⟨_, rfl, Kd.R_drew (Kd.R_mono (Kd.R_far (p := ⟨w.heap.size, 1, none⟩) (Kd.R_far (p := ⟨w.heap.size, 0, none⟩) (Kd.R_types HR.out H3.out (by decide)) (fun _ hk => hk.2) (.string d)) (fun _ hk => hk.2) (.bool b)) (fun _ _ => trivial)), below_drew1 (below_set (below_set HB.out (Nat.le_refl _)) (Nat.le_refl _))⟩)
theorem keypad_Keys.calls (k : Nat) (a0 : ByteArray) (r1 : List S41) (r2 : ByteArray) (r3 : Bool) (r4 : Int) (w : World) (h : keypad_Keys.f k a0 = some (r1, r2, r3, r4)) :
    Calls Tryd.prog 6 #[.string a0] w fun e w' => ∃ v1_ : Value, e = .returned (.tuple #[v1_, .agg #[.string r2, .bool r3], .int .i64 r4]) ∧ Kd.R k41 41 w' w.heap.size (fun _ => True) v1_ r1 ∧ Below w.heap.size w w' := by
  unfold keypad_Keys.f at h
  by_cases c : 2000 < a0.size
  · rw [if_pos c] at h
    obtain ⟨rfl, rfl, rfl, rfl⟩ : [] = r1 ∧ (⟨#[]⟩ : ByteArray) = r2 ∧ false = r3 ∧ (1 : Int) = r4 := by simpa using h
    exact keypad_Keys.long a0 w c
  · rw [if_neg c] at h
    exact keypad_Keys.short k a0 r1 r2 r3 r4 w c h

end Go.Proofs.YtdijplohafjbcaaDoor.PPadKeys
