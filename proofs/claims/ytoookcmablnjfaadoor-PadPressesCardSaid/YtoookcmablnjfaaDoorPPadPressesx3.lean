-- written by this session's program wip/xp/xprint.py (it drives the kit's print and adds to it)
import Derived.Test.YtoookcmablnjfaaDoorPPadPressesx0
import Derived.Test.YtoookcmablnjfaaDoorPPadPressesx2
namespace Go.Proofs.YtoookcmablnjfaaDoor.PPadPresses
open Go.RowKit Go.Proofs.YtoookcmablnjfaaDoorW.PrintWords Go.Proofs.YtoookcmablnjfaaDoorW.PrintLast Go.Proofs.YtoookcmablnjfaaDoorW.PrintMore
attribute [local go_sem] max2_int min2_int max_two min_two max_three min_three max_four min_four   -- for this text's walks alone
set_option linter.unusedVariables false
set_option linter.unusedSimpArgs false

attribute [local go_sem high] eqA82
/-! ### vendmeterlaw_sameEntries: function 16 -/
theorem xa16 {w : World} {g : Nat} {o : Obj} (h : w.heap[g]? = some o) (o' : Obj) : (w.alloc o').heap[g]? = some o := blk_alloc h o'
theorem xd16 {w : World} {g : Nat} {o : Obj} (h : w.heap[g]? = some o) : w.drew.heap[g]? = some o := blk_drew h
theorem xn16 {w : World} {g : Nat} {o : Obj} (h : w.heap[g]? = some o) (n : Nat) : (w.drewN n).heap[g]? = some o := blk_drewN h n
def vendmeterlaw_sameEntries.l0 : Nat → List (S82) → List (S82) → Int → Option (Bool)
  | 0, _, _, _ => none
  | k + 1, x0, x1, x5 => if x5 < (x0.length : Int) then (if 0 ≤ x5 then (if x5 < (x1.length : Int) then (if (!((((rd_T82 x0 x5).f0).toList) == (((rd_T82 x1 x5).f0).toList)) || (!(((rd_T82 x0 x5).f1) == ((rd_T82 x1 x5).f1)))) = true then (some false) else (vendmeterlaw_sameEntries.l0 k x0 x1 (wrap64 (x5 + 1)))) else (none)) else (none)) else (some true)
def vendmeterlaw_sameEntries.f (k : Nat) (l0 : List (S82)) (l1 : List (S82)) : Option (Bool) := if (l0.length : Int) = (l1.length : Int) then (vendmeterlaw_sameEntries.l0 k l0 l1 0) else (some false)
theorem vendmeterlaw_sameEntries.mono_l : ∀ k, (∀ y0 y1 y2, LeO (vendmeterlaw_sameEntries.l0 k y0 y1 y2) (vendmeterlaw_sameEntries.l0 (k + 1) y0 y1 y2))
  | 0 => fun _ _ _ r h => by simp [vendmeterlaw_sameEntries.l0] at h
  | k + 1 => by
    have ih0 := vendmeterlaw_sameEntries.mono_l k
    · intro y0 y1 y2
      unfold vendmeterlaw_sameEntries.l0
      repeat' first
      | (with_reducible exact ih0 _ _ _)
      | (with_reducible exact LeO.refl _)
      | (with_reducible exact LeO.none _)
      | (with_reducible refine LeO.ite ?_ ?_)
      | (with_reducible refine LeO.bind ?_ (fun _ => ?_))
      | exact ih0 _ _ _
      | exact LeO.none _
      | refine LeO.ite ?_ ?_
      | refine LeO.bind ?_ (fun _ => ?_)
theorem vendmeterlaw_sameEntries.mono : ∀ a0 a1 k, LeO (vendmeterlaw_sameEntries.f k a0 a1) (vendmeterlaw_sameEntries.f (k + 1) a0 a1) := by
  intro a0 a1 k
  have ih0 := vendmeterlaw_sameEntries.mono_l k
  unfold vendmeterlaw_sameEntries.f
  repeat' first
      | (with_reducible exact ih0 _ _ _)
      | (with_reducible exact LeO.refl _)
      | (with_reducible exact LeO.none _)
      | (with_reducible refine LeO.ite ?_ ?_)
      | (with_reducible refine LeO.bind ?_ (fun _ => ?_))
      | exact ih0 _ _ _
      | exact LeO.none _
      | refine LeO.ite ?_ ?_
      | refine LeO.bind ?_ (fun _ => ?_)
set_option maxHeartbeats 8000000 in
set_option maxRecDepth 100000 in
theorem vendmeterlaw_sameEntries.calls (k : Nat) (A0 : Option Addr) (c0 : Nat) (l0 : List (S82)) (A1 : Option Addr) (c1 : Nat) (l1 : List (S82)) (r : Bool) (w : World) (hr0 : Kd.C k82 w A0 l0.length l0) (hc0 : l0.length ≤ c0) (hr1 : Kd.C k82 w A1 l1.length l1) (hc1 : l1.length ≤ c1) (h : vendmeterlaw_sameEntries.f k l0 l1 = some r) :
    Calls Tryd.prog 16 #[.slice A0 l0.length c0, .slice A1 l1.length c1] w fun e w' => e = .returned (.bool r) ∧ Drawn0 w w' := by
  have hu82 := Tryd.underlying82
  have HR0 := Aside0.mk hr0
  have HC0 := Aside0.mk hc0
  clear hr0 hc0
  have HR1 := Aside0.mk hr1
  have HC1 := Aside0.mk hc1
  clear hr1 hc1
  have H : (if (l0.length : Int) = (l1.length : Int) then (vendmeterlaw_sameEntries.l0 k l0 l1 0) else (some false)) = some r := h
  clear h
  by_cases c3 : (l0.length : Int) = (l1.length : Int)
  · rw [if_pos c3] at H
    have c3b0 : ((l0.length : Int) == (l1.length : Int)) = true := beq_iff_eq.mpr c3
    have c3b1 : ((l0.length : Int) != (l1.length : Int)) = false := bne_eq_false_iff_eq.mpr c3
    have c3b2 : (l0.length == l1.length) = true := by first | simpa using c3 | (simp at c3 ⊢; omega)
    clear c3
    have H' := Aside0.mk H
    clear H
    go_enter Tryd.func16, Tryd.ntmps16
    go_wp2
    repeat (go_quiet (fail); try go_wp2)
    go_loopg [5] k (fun kq v5 w' => ∃ (x5_1 : Int), v5 = .int .i64 x5_1 ∧ Aside0 (vendmeterlaw_sameEntries.l0 kq l0 l1 x5_1 = some r) ∧ Aside0 (kq ≤ k) ∧ Drawn0 w w')
    case atStart => exact ⟨(0), (by first | rfl | (simp; done) | (simp [*]; done)), H', ⟨Nat.le_refl _⟩, by repeat (first | exact Drawn0.refl _ | apply Drawn0.step)⟩
    case round =>
      clear H'
      try clear c1
      try clear p2
      try clear c3
      try clear c3b0
      try clear c3b1
      try clear c3b2
      obtain ⟨x5_1, rfl, HA, HK1, ⟨m1, rfl⟩⟩ := hrel
      cases gk with
      | zero => exact absurd HA.out (by simp [vendmeterlaw_sameEntries.l0])
      | succ k1 =>
        have H := HA.out
        clear HA
        simp only [vendmeterlaw_sameEntries.l0] at H
        by_cases c4 : x5_1 < (l0.length : Int)
        · rw [if_pos c4] at H
          have c4b0 : decide (x5_1 < (l0.length : Int)) = true := decide_eq_true c4
          clear c4
          by_cases c5 : 0 ≤ x5_1
          · rw [if_pos c5] at H
            have c5b0 : decide (0 ≤ x5_1) = true := decide_eq_true c5
            clear c5
            by_cases c6 : x5_1 < (l1.length : Int)
            · rw [if_pos c6] at H
              have c6b0 : decide (x5_1 < (l1.length : Int)) = true := decide_eq_true c6
              clear c6
              by_cases c7 : (!((((rd_T82 l0 x5_1).f0).toList) == (((rd_T82 l1 x5_1).f0).toList)) || (!(((rd_T82 l0 x5_1).f1) == ((rd_T82 l1 x5_1).f1)))) = true
              · rw [if_pos c7] at H
                have c7b0 : (!((((rd_T82 l0 x5_1).f0).toList) == (((rd_T82 l1 x5_1).f0).toList)) || (!(((rd_T82 l0 x5_1).f1) == ((rd_T82 l1 x5_1).f1)))) = true := c7
                clear c7
                obtain rfl := Option.some.inj H
                have p101 : 0 ≤ (x5_1 : Int) := of_decide_eq_true (by first | (with_reducible assumption) | assumption)
                have q101 : x5_1 < (l0.length : Int) := of_decide_eq_true (by first | (with_reducible assumption) | assumption)
                obtain ⟨ad101, e101, hx101_0, hx101_1⟩ := at_T82 HR0.out x5_1 p101 q101
                cases e101
                replace p101 := eq_true p101
                replace q101 := eq_true q101
                have p102 : 0 ≤ (x5_1 : Int) := of_decide_eq_true (by first | (with_reducible assumption) | assumption)
                have q102 : x5_1 < (l1.length : Int) := of_decide_eq_true (by first | (with_reducible assumption) | assumption)
                obtain ⟨ad102, e102, hx102_0, hx102_1⟩ := at_T82 HR1.out x5_1 p102 q102
                cases e102
                replace p102 := eq_true p102
                replace q102 := eq_true q102
                go_wp2
                repeat (go_quiet (fail); try go_wp2)
                go_ret
                exact ⟨by first | rfl | (simp; done) | (simp [*]; done), by repeat (first | exact Drawn0.refl _ | apply Drawn0.step)⟩
              · rw [if_neg c7] at H
                have c7b0 : (!((((rd_T82 l0 x5_1).f0).toList) == (((rd_T82 l1 x5_1).f0).toList)) || (!(((rd_T82 l0 x5_1).f1) == ((rd_T82 l1 x5_1).f1)))) = false := by simpa using c7
                clear c7
                have H' := Aside0.mk H
                clear H
                have p101 : 0 ≤ (x5_1 : Int) := of_decide_eq_true (by first | (with_reducible assumption) | assumption)
                have q101 : x5_1 < (l0.length : Int) := of_decide_eq_true (by first | (with_reducible assumption) | assumption)
                obtain ⟨ad101, e101, hx101_0, hx101_1⟩ := at_T82 HR0.out x5_1 p101 q101
                cases e101
                replace p101 := eq_true p101
                replace q101 := eq_true q101
                have p102 : 0 ≤ (x5_1 : Int) := of_decide_eq_true (by first | (with_reducible assumption) | assumption)
                have q102 : x5_1 < (l1.length : Int) := of_decide_eq_true (by first | (with_reducible assumption) | assumption)
                obtain ⟨ad102, e102, hx102_0, hx102_1⟩ := at_T82 HR1.out x5_1 p102 q102
                cases e102
                replace p102 := eq_true p102
                replace q102 := eq_true q102
                go_wp2
                repeat (go_quiet (fail); try go_wp2)
                go_roundg k1
                case measure => have := HK1.out; omega
                case rel => exact ⟨(wrap64 (x5_1 + 1)), (by first | rfl | (simp; done) | (simp [*]; done)), H', ⟨by have := HK1.out; omega⟩, by repeat (first | exact Drawn0.refl _ | apply Drawn0.step)⟩
            · rw [if_neg c6] at H
              exact absurd H (by simp)
          · rw [if_neg c5] at H
            exact absurd H (by simp)
        · rw [if_neg c4] at H
          have c4b0 : decide (x5_1 < (l0.length : Int)) = false := decide_eq_false c4
          clear c4
          obtain rfl := Option.some.inj H
          go_wp2
          repeat (go_quiet (fail); try go_wp2)
          go_ret
          exact ⟨by first | rfl | (simp; done) | (simp [*]; done), by repeat (first | exact Drawn0.refl _ | apply Drawn0.step)⟩
  · rw [if_neg c3] at H
    have c3b0 : ((l0.length : Int) == (l1.length : Int)) = false := beq_eq_false_iff_ne.mpr c3
    have c3b1 : ((l0.length : Int) != (l1.length : Int)) = true := bne_iff_ne.mpr c3
    have c3b2 : (l0.length == l1.length) = false := by first | simpa using c3 | (simp at c3 ⊢; omega)
    obtain rfl := Option.some.inj H
    go_enter Tryd.func16, Tryd.ntmps16
    go_wp2
    repeat (go_quiet (fail); try go_wp2)
    go_ret
    exact ⟨by first | rfl | (simp; done) | (simp [*]; done), by repeat (first | exact Drawn0.refl _ | apply Drawn0.step)⟩

-- NOT PRINTED: function 76 (utf8_decodeRuneInStringSlow)

-- NOT PRINTED: function 45 (utf8_DecodeRuneInString)

/-! ### utf8_RuneStart: function 110 -/
def utf8_RuneStart.f (a0 : Int) : Option (Bool) := some ((Go.bits .and .u8 a0 192) != 128)
set_option maxHeartbeats 8000000 in
set_option maxRecDepth 100000 in
theorem utf8_RuneStart.calls (a0 : Int) (r : Bool) (w : World) (h : utf8_RuneStart.f a0 = some r) :
    Calls Tryd.prog 110 #[.int .u8 a0] w fun e w' => e = .returned (.bool r) ∧ Drawn0 w w' := by
  have H : (some ((Go.bits .and .u8 a0 192) != 128)) = some r := h
  clear h
  obtain rfl := Option.some.inj H
  go_enter Tryd.func110, Tryd.ntmps110
  go_wp2
  go_ret
  exact ⟨by first | rfl | (simp; done) | (simp [*]; done), by repeat (first | exact Drawn0.refl _ | apply Drawn0.step)⟩

-- NOT PRINTED: function 74 (utf8_DecodeLastRuneInString)

-- NOT PRINTED: function 111 (keypad_zeros)

-- NOT PRINTED: function 75 (keypad_value)

-- NOT PRINTED: function 44 (keypad_press)

-- NOT PRINTED: function 46 (keypad_may)

def rdOk (s : ByteArray) (p : Nat) : Prop := 48 ≤ bt s (p : Int) ∧ bt s (p : Int) ≤ 57
theorem rd_nat (s : ByteArray) (p : Nat) (h : p < s.size) : bt s (p : Int) = ((s[p]'h).toNat : Int) := by
  unfold bt
  rw [dif_pos (show (p : Int).toNat < s.size by simpa using h)]
  simp
theorem rd_ok (s : ByteArray) (p : Nat) (h : p < s.size) (hk : rdOk s p) : Utf8.decode s p = ((bt s (p : Int)).toNat, 1) := by
  unfold rdOk at hk
  rw [rd_nat s p h] at hk
  rw [decode_ascii s p h (by omega), rd_nat s p h]
  simp
theorem rd_no (s : ByteArray) (p : Nat) (h : p < s.size) (hk : ¬ rdOk s p) : ((Utf8.decode s p).1 : Int) < 48 ∨ ((Utf8.decode s p).1 : Int) > 57 := by
  unfold rdOk at hk
  rw [rd_nat s p h] at hk
  by_cases h8 : (s[p]'h).toNat < 128
  · rw [decode_ascii s p h h8]
    dsimp only
    omega
  · have := (decode_high s p h (by omega)).1
    omega
theorem rd_empty (s : ByteArray) : s.toList.isEmpty = decide (s.size = 0) := by
  rw [ByteArray.toList_eq]
  cases h : s.data.toList with
  | nil => have : s.size = 0 := by show s.data.size = 0; rw [← Array.length_toList, h]; rfl
           simp [this]
  | cons a l => have : ¬ s.size = 0 := by intro e; have e2 : s.data.size = 0 := e; rw [← Array.length_toList, h] at e2; simp at e2
                simp [this]

section
variable {P : Program} {ops : Array Oper} {o : Oper} {a : Act} {Q : Exit → Act → World → Prop} {W : World}
theorem seg.run {t : TypeId} {e : TypeId} {g : Nat} {cur new : Array Value} {u : Value} (i : Nat) (cs : List Value) (hu : u.cells.toList = cs) (ht : (P.info? t).map (·.size) = some cs.length) (h1 : ∀ q ∈ cs, q.oneCell' = true) (hh : W.heap[g]? = some (.cells cur e (0, 0))) (hsz : i + cs.length ≤ cur.size) (hnew : cur.toList.take i ++ cs ++ cur.toList.drop (i + cs.length) = new.toList) :
    (Instr.storeAt t (.pointer (some ⟨g, i, none⟩)) u).run P W = .ok () (W.setCells g i cs) ∧ (W.setCells g i cs).heap[g]? = some (.cells new e (0, 0)) ∧ W.grownBy (W.setCells g i cs) (some g) := by
  refine ⟨run_store_run t u cs hh hu ht hsz h1, ?_, ?_⟩
  · obtain ⟨cur', h2, h3, h4⟩ := setCells_row cs i W cur hh hsz
    rw [h2]
    have : cur' = new := Array.toList_inj.1 (h4.trans hnew)
    rw [this]
  · obtain ⟨q1, q2, q3, q4⟩ := setCells_same g cs i W
    exact ⟨q1, q2, q3, by rw [q4]; exact Nat.le_refl _, fun k _ hk => setCells_far _ _ k (fun h => hk (by rw [h]))⟩
theorem seg.list {rest : List Oper} (hN : o.dst = none) (hgd : o.guard = none) (t : TypeId) (p x : Operand) (ho : o.op = .store t p x) (e : TypeId) (g i : Nat) (cur new : Array Value) (cs : List Value) (haddr : a.eval p = .pointer (some ⟨g, i, none⟩)) (hu : (a.eval x).cells.toList = cs) (ht : (P.info? t).map (·.size) = some cs.length) (h1 : ∀ q ∈ cs, q.oneCell' = true) (hh : W.heap[g]? = some (.cells cur e (0, 0))) (hsz : i + cs.length ≤ cur.size) (hnew : cur.toList.take i ++ cs ++ cur.toList.drop (i + cs.length) = new.toList)
    (h : ∀ w1, w1.heap[g]? = some (.cells new e (0, 0)) → W.grownBy w1 (some g) → wpList P ops Q rest a w1) : wpList P ops Q (o :: rest) a W := by
  obtain ⟨hrun, hb, hg⟩ := seg.run (P := P) (t := t) i cs hu ht h1 hh hsz hnew
  refine wpList_plain hgd fun K hK => ?_
  unfold Oper.wp execOp
  simp only [ho, haddr, Sem.run_bind, Sem.run_pure, Result.andThen_ok, hrun]
  show K (a.put o.dst undef) _
  rw [hN]
  exact hK a _ (h _ hb hg)
theorem seg.step {Kc : Act → World → Prop} (hw : Region.wanted o (yielded ops a.tmps) = true) (hN : o.dst = none) (t : TypeId) (p x : Operand) (ho : o.op = .store t p x) (e : TypeId) (g i : Nat) (cur new : Array Value) (cs : List Value) (haddr : a.eval p = .pointer (some ⟨g, i, none⟩)) (hu : (a.eval x).cells.toList = cs) (ht : (P.info? t).map (·.size) = some cs.length) (h1 : ∀ q ∈ cs, q.oneCell' = true) (hh : W.heap[g]? = some (.cells cur e (0, 0))) (hsz : i + cs.length ≤ cur.size) (hnew : cur.toList.take i ++ cs ++ cur.toList.drop (i + cs.length) = new.toList)
    (h : ∀ w1, w1.heap[g]? = some (.cells new e (0, 0)) → W.grownBy w1 (some g) → Kc (a.put o.dst undef) w1) :
    if Region.wanted o (yielded ops a.tmps) = true then Oper.wp P o a W Kc Q else Kc (a.put o.dst undef) W := by
  obtain ⟨hrun, hb, hg⟩ := seg.run (P := P) (t := t) i cs hu ht h1 hh hsz hnew
  rw [if_pos hw]
  unfold Oper.wp execOp
  simp only [ho, haddr, Sem.run_bind, Sem.run_pure, Result.andThen_ok, hrun]
  exact h _ hb hg
end
theorem seg.below {w W w1 : World} {g : Nat} (h : Below w.heap.size w W) (hg : W.grownBy w1 (some g)) (hl : w.heap.size ≤ g) : Below w.heap.size w w1 := pw_below_grown h (some g) h.size hg (fun k hk => by cases hk; exact hl)
theorem seg.far {W w1 : World} {g h : Nat} {ob : Obj} (hb : W.heap[h]? = some ob) (hg : W.grownBy w1 (some g)) (hne : h ≠ g) : w1.heap[h]? = some ob := blk_grown hb hg (fun e => hne (Option.some.inj e))
theorem seg.R {α : Type} {d : Kd α} {e base : Nat} {ok : Nat → Prop} {W w1 : World} {v : Value} {xs : List α} {g : Nat} (h : d.R e W base ok v xs) (hg : W.grownBy w1 (some g)) (hok : ∀ k, ok k → k ≠ g) : d.R e w1 base ok v xs := Kd.R_grown h hg (fun k hk e => hok k hk (Option.some.inj e))

theorem results_c1 {P : Program} {fn : Func} {p : Tmp} {ty : TypeId} (h : fn.results = #[.cell p ty]) (tmps : Array Value) (w : World) (g : Nat) (t : TypeId) (cs : Array Value) (fr : Nat × Nat) (d : TypeDesc)
    (hp : tmps.getD p undef = .pointer (some ⟨g, 0, none⟩)) (hg : w.heap[g]? = some (.cells cs t fr))
    (hu : P.underlying ty = some d) (hd : (match d with | .struct _ | .array _ _ => true | _ => false) = true) (hi : (P.info? ty).map (·.size) = some cs.size) :
    (results fn tmps).run P w = .ok (.agg cs) w := by
  have hp' : tmps[p]?.getD undef = .pointer (some ⟨g, 0, none⟩) := by simpa using hp
  simp [results, h, hp', asAddr, run_loadVar_row w g t ty cs fr d hg hu hd hi]
set_option maxHeartbeats 8000000 in
set_option maxRecDepth 100000 in
theorem keypad_zeros.at_ (w : World) :
    Calls Tryd.prog 111 #[] w fun e w' => e = .returned (.agg #[.int .i32 48, .int .i32 1632, .int .i32 1776, .int .i32 2406, .int .i32 2534, .int .i32 65296]) ∧ w' = w.alloc (.cells #[.int .i32 48, .int .i32 1632, .int .i32 1776, .int .i32 2406, .int .i32 2534, .int .i32 65296] 148) := by
  have hu148 := Tryd.underlying148
  have HB := Aside0.mk (below_alloc (Below.refl w.heap.size w) (.cells #[.int .i32 48, .int .i32 1632, .int .i32 1776, .int .i32 2406, .int .i32 2534, .int .i32 65296] 148))
  have B1 := Aside0.mk (blk_new w (.cells #[.int .i32 48, .int .i32 1632, .int .i32 1776, .int .i32 2406, .int .i32 2534, .int .i32 65296] 148))
  go_enter Tryd.func111, Tryd.ntmps111
  go_wp2
  refine bodyPost_ret (results_c1 (p := 0) rfl _ _ w.heap.size 148 _ (0, 0) _ rfl B1.out Tryd.underlying148 rfl (by kernel_rfl)) rfl ?_
  exact ⟨rfl, rfl⟩
set_option maxHeartbeats 8000000 in
set_option maxRecDepth 100000 in
theorem utf8_DecodeLast.at_ (w : World) (s : ByteArray) (n : Nat) (hn : s.size = n + 1) (hb : bt s (n : Int) < 128) (h : n < 1000) :
    Calls Tryd.prog 74 #[.string s] w fun e w' => e = .returned (.tuple #[.int .i32 (bt s (n : Int)), .int .i64 1]) ∧ w' = w := by
  have t1 : ((s.size : Int) == 0) = false := beq_eq_false_iff_ne.mpr (by omega)
  have t1n : (s.size == 0) = false := beq_eq_false_iff_ne.mpr (by omega)
  have e1 : wrap64 ((s.size : Int) - 1) = (n : Int) := by rw [IntWalk.wrap64_in _ ⟨by omega, by omega⟩]; omega
  have p0 : (0 ≤ (n : Int)) = True := eq_true (by omega)
  have q0 : ((n : Int) < (s.size : Int)) = True := eq_true (by omega)
  have q1 : (n < s.size) = True := eq_true (by omega)
  have hns : n < s.size := by omega
  have hx0 : ((s[n]'hns).toNat : Int) = bt s (n : Int) := by have := bt_at s (n : Int) (by simpa using hns); simpa using this
  have hr := bt_range s (n : Int)
  obtain ⟨b, hB⟩ : ∃ b, bt s (n : Int) = b := ⟨_, rfl⟩
  rw [hB] at hb hr hx0 ⊢
  have e2 : wrap32 b = b := IntWalk.wrap32_in _ ⟨by omega, by omega⟩
  have t2 : decide (b < 128) = true := decide_eq_true hb
  clear hb hr h hB hn
  go_enter Tryd.func74, Tryd.ntmps74
  go_wp2
  go_ret2
  exact ⟨by show Ending.returned (.tuple #[.int .i32 (wrap32 b), .int .i64 1]) = _; rw [e2], rfl⟩
def kdV (r : Int) : Int := if 48 ≤ r ∧ r < 58 then r - 48 else if 1632 ≤ r ∧ r < 1642 then r - 1632 else if 1776 ≤ r ∧ r < 1786 then r - 1776 else if 2406 ≤ r ∧ r < 2416 then r - 2406 else if 2534 ≤ r ∧ r < 2544 then r - 2534 else if 65296 ≤ r ∧ r < 65306 then r - 65296 else -1
def kdZ : Nat → Int
  | 0 => 48
  | 1 => 1632
  | 2 => 1776
  | 3 => 2406
  | 4 => 2534
  | _ => 65296
theorem kd_ix (W : World) (i : Nat) (h : i < 6) : (Instr.index 148 (.agg #[.int .i32 48, .int .i32 1632, .int .i32 1776, .int .i32 2406, .int .i32 2534, .int .i32 65296]) (.int .i64 (i : Int))).run Tryd.prog W = .ok (.int .i32 (kdZ i)) W := by
  have : i = 0 ∨ i = 1 ∨ i = 2 ∨ i = 3 ∨ i = 4 ∨ i = 5 := by omega
  rcases this with rfl | rfl | rfl | rfl | rfl | rfl <;> simp [Instr.index, run_underlying Tryd.underlying148, asIntOf, go_sem, kdZ]
/-- Which of the six it is, or 6: none. -/
def kdI (r : Int) : Nat := if 48 ≤ r ∧ r < 58 then 0 else if 1632 ≤ r ∧ r < 1642 then 1 else if 1776 ≤ r ∧ r < 1786 then 2 else if 2406 ≤ r ∧ r < 2416 then 3 else if 2534 ≤ r ∧ r < 2544 then 4 else if 65296 ≤ r ∧ r < 65306 then 5 else 6
theorem kd_all (r : Int) : (kdI r = 0 ∧ (48 ≤ r ∧ r < 58) ∧ kdV r = r - 48) ∨ (kdI r = 1 ∧ (1632 ≤ r ∧ r < 1642) ∧ kdV r = r - 1632) ∨ (kdI r = 2 ∧ (1776 ≤ r ∧ r < 1786) ∧ kdV r = r - 1776) ∨ (kdI r = 3 ∧ (2406 ≤ r ∧ r < 2416) ∧ kdV r = r - 2406) ∨ (kdI r = 4 ∧ (2534 ≤ r ∧ r < 2544) ∧ kdV r = r - 2534) ∨ (kdI r = 5 ∧ (65296 ≤ r ∧ r < 65306) ∧ kdV r = r - 65296) ∨ (kdI r = 6 ∧ (¬ (48 ≤ r ∧ r < 58) ∧ ¬ (1632 ≤ r ∧ r < 1642) ∧ ¬ (1776 ≤ r ∧ r < 1786) ∧ ¬ (2406 ≤ r ∧ r < 2416) ∧ ¬ (2534 ≤ r ∧ r < 2544) ∧ ¬ (65296 ≤ r ∧ r < 65306)) ∧ kdV r = -1) := by
  unfold kdI kdV
  by_cases h0 : 48 ≤ r ∧ r < 58
  · exact (.inl ⟨by rw [if_pos h0], h0, by rw [if_pos h0]⟩)
  by_cases h1 : 1632 ≤ r ∧ r < 1642
  · exact (.inr (.inl ⟨by rw [if_neg h0, if_pos h1], h1, by rw [if_neg h0, if_pos h1]⟩))
  by_cases h2 : 1776 ≤ r ∧ r < 1786
  · exact (.inr (.inr (.inl ⟨by rw [if_neg h0, if_neg h1, if_pos h2], h2, by rw [if_neg h0, if_neg h1, if_pos h2]⟩)))
  by_cases h3 : 2406 ≤ r ∧ r < 2416
  · exact (.inr (.inr (.inr (.inl ⟨by rw [if_neg h0, if_neg h1, if_neg h2, if_pos h3], h3, by rw [if_neg h0, if_neg h1, if_neg h2, if_pos h3]⟩))))
  by_cases h4 : 2534 ≤ r ∧ r < 2544
  · exact (.inr (.inr (.inr (.inr (.inl ⟨by rw [if_neg h0, if_neg h1, if_neg h2, if_neg h3, if_pos h4], h4, by rw [if_neg h0, if_neg h1, if_neg h2, if_neg h3, if_pos h4]⟩)))))
  by_cases h5 : 65296 ≤ r ∧ r < 65306
  · exact (.inr (.inr (.inr (.inr (.inr (.inl ⟨by rw [if_neg h0, if_neg h1, if_neg h2, if_neg h3, if_neg h4, if_pos h5], h5, by rw [if_neg h0, if_neg h1, if_neg h2, if_neg h3, if_neg h4, if_pos h5]⟩))))))
  exact (.inr (.inr (.inr (.inr (.inr (.inr ⟨by rw [if_neg h0, if_neg h1, if_neg h2, if_neg h3, if_neg h4, if_neg h5], ⟨h0, h1, h2, h3, h4, h5⟩, by rw [if_neg h0, if_neg h1, if_neg h2, if_neg h3, if_neg h4, if_neg h5]⟩))))))
theorem kdI_le (r : Int) : kdI r ≤ 6 := by rcases kd_all r with h | h | h | h | h | h | h <;> omega
theorem kdI_low {r : Int} {i : Nat} (h : i < kdI r) (h6 : i < 6) : ¬ (kdZ i ≤ r ∧ r < kdZ i + 10) := by
  have hi : i = 0 ∨ i = 1 ∨ i = 2 ∨ i = 3 ∨ i = 4 ∨ i = 5 := by omega
  have ha := kd_all r
  rcases hi with rfl | rfl | rfl | rfl | rfl | rfl <;> simp only [kdZ] <;> omega
theorem kdI_hit {r : Int} {i : Nat} (h : i = kdI r) (h6 : i < 6) : (kdZ i ≤ r ∧ r < kdZ i + 10) ∧ kdV r = r - kdZ i := by
  have hi : i = 0 ∨ i = 1 ∨ i = 2 ∨ i = 3 ∨ i = 4 ∨ i = 5 := by omega
  have ha := kd_all r
  rcases hi with rfl | rfl | rfl | rfl | rfl | rfl <;> simp only [kdZ] <;> omega
theorem kdI_none {r : Int} (h : kdI r = 6) : kdV r = -1 := by
  have ha := kd_all r
  omega
theorem kdZ_bd (i : Nat) : 48 ≤ kdZ i ∧ kdZ i ≤ 65296 := by
  match i with
  | 0 => decide
  | 1 => decide
  | 2 => decide
  | 3 => decide
  | 4 => decide
  | n + 5 => simp [kdZ]
set_option maxHeartbeats 8000000 in
set_option maxRecDepth 100000 in
theorem keypad_value.at_ (w : World) (r : Int) (hr : -2147483648 ≤ r ∧ r ≤ 2147483647) :
    Calls Tryd.prog 75 #[.int .i32 r] w fun e w' => e = .returned (.int .i64 (kdV r)) ∧ w' = w.alloc (.cells #[.int .i32 48, .int .i32 1632, .int .i32 1776, .int .i32 2406, .int .i32 2534, .int .i32 65296] 148) := by
  have HR := Aside0.mk hr
  clear hr
  go_enter Tryd.func75, Tryd.ntmps75
  go_wp2_with (go_at_call 111; refine (keypad_zeros.at_ _).mono ?_; rintro e w1 ⟨rfl, hb1⟩)
  have HB := Aside0.mk hb1
  clear hb1
  go_loopg [4, 6] 6 (fun kq v4 v6 w' => ∃ i : Nat, v6 = .int .i64 (i : Int) ∧ Aside0 (i ≤ kdI r ∧ i ≤ 6 ∧ kq = 6 - i) ∧ w' = w.alloc (.cells #[.int .i32 48, .int .i32 1632, .int .i32 1776, .int .i32 2406, .int .i32 2534, .int .i32 65296] 148))
  case atStart => exact ⟨0, rfl, ⟨Nat.zero_le _, by decide, by omega⟩, by first | rfl | exact HB.out⟩
  case round =>
    clear HB
    obtain ⟨i, rfl, HI, hbw⟩ := hrel
    have HB := Aside0.mk hbw
    clear hbw
    obtain ⟨z, hz⟩ : ∃ z, kdZ i = z := ⟨_, rfl⟩
    have hzb := kdZ_bd i
    rw [hz] at hzb
    by_cases h6 : i < 6
    · have s1 : decide ((i : Int) < 6) = true := decide_eq_true (by omega)
      have s1n : decide (i < 6) = true := decide_eq_true h6
      have hix : ∀ W, (Instr.index 148 (.agg #[.int .i32 48, .int .i32 1632, .int .i32 1776, .int .i32 2406, .int .i32 2534, .int .i32 65296]) (.int .i64 (i : Int))).run Tryd.prog W = .ok (.int .i32 z) W := fun W => hz ▸ kd_ix W i h6
      have e1 : wrap32 (z + 10) = z + 10 := IntWalk.wrap32_in _ ⟨by omega, by omega⟩
      have e2 : wrap64 ((i : Int) + 1) = ((i + 1 : Nat) : Int) := by rw [IntWalk.wrap64_in _ ⟨by omega, by omega⟩]; rfl
      have hr := HR.out
      by_cases hh : i = kdI r
      · have ha := kdI_hit hh h6
        rw [hz] at ha
        have t1 : decide (z ≤ r) = true := decide_eq_true ha.1.1
        have t2 : decide (r < z + 10) = true := decide_eq_true ha.1.2
        have e3 : wrap32 (r - z) = r - z := IntWalk.wrap32_in _ ⟨by omega, by omega⟩
        have e4 : wrap64 (r - z) = r - z := IntWalk.wrap64_in _ ⟨by omega, by omega⟩
        have HA := Aside0.mk ha.2
        clear ha hzb hr hz hh h6
        go_wp2
        go_ret
        exact ⟨by rw [HA.out]; show Ending.returned (.int .i64 (wrap64 (r - z))) = _; rw [e4], HB.out⟩
      · have ha := kdI_low (r := r) (i := i) (by have := HI.out.1; omega) h6
        rw [hz] at ha
        have HJ := Aside0.mk (show i + 1 ≤ kdI r by have := HI.out.1; omega)
        have H6 := Aside0.mk h6
        have t1 : decide (z ≤ r) = false ∨ (decide (z ≤ r) = true ∧ decide (r < z + 10) = false) := by
          by_cases g : z ≤ r
          · exact .inr ⟨decide_eq_true g, decide_eq_false (fun q => ha ⟨g, q⟩)⟩
          · exact .inl (decide_eq_false g)
        clear ha hzb hr hz hh h6
        rcases t1 with t1 | ⟨t1, t2⟩
        all_goals (
          go_wp2
          go_roundg (6 - (i + 1))
          case measure => have := H6.out; have := HI.out.2.2; omega
          case rel => exact ⟨i + 1, by rw [e2], ⟨HJ.out, by have := H6.out; omega, rfl⟩, HB.out⟩)
    · have s1 : decide ((i : Int) < 6) = false := decide_eq_false (by omega)
      have s1n : decide (i < 6) = false := decide_eq_false h6
      have HA := Aside0.mk (kdI_none (r := r) (by have := HI.out.1; have := HI.out.2.1; have := kdI_le r; omega))
      clear hzb hz h6
      go_wp2
      go_ret
      exact ⟨by rw [HA.out]; rfl, HB.out⟩
theorem pp_blk (w : World) (A B : Obj) : ((w.alloc A).alloc B).heap[w.heap.size + 1]? = some B := by
  have h := blk_new (w.alloc A) B
  rwa [World.size_alloc] at h
theorem pp_below (w : World) (A B : Obj) : Below w.heap.size w ((w.alloc A).alloc B) := below_alloc (below_alloc (Below.refl w.heap.size w) A) B
set_option maxHeartbeats 8000000 in
set_option maxRecDepth 100000 in
theorem keypad_press.keep (w : World) (s : ByteArray) (b : Bool) (r : Int) (hr : r = 32 ∨ r = 45 ∨ r = 160) :
    Calls Tryd.prog 44 #[.agg #[.string s, .bool b], .int .i32 r] w fun e w' => e = .returned (.tuple #[.agg #[.string s, .bool b], .pointer none]) ∧ Below w.heap.size w w' := by
  have hu33 := Tryd.underlying33
  have hu82 := Tryd.underlying82
  have B1 := blk_alloc (blk_new w (.cells #[.string s, .bool b] 33)) (.cells #[.string ⟨#[]⟩, .bool false] 33)
  have B2 := blk_new (w.alloc (.cells #[.string s, .bool b] 33)) (.cells #[.string ⟨#[]⟩, .bool false] 33)
  rw [World.size_alloc] at B2
  have b10 := blk_cell B1 0
  have b11 := blk_cell B1 1
  have b20 := blk_cell B2 0
  have b21 := blk_cell B2 1
  clear B1 B2
  rcases hr with rfl | rfl | rfl
  all_goals (
    go_enter Tryd.func44, Tryd.ntmps44
    go_wp2
    refine bodyPost_ret (results_ct (p := 4) (u := 5) rfl _ _ (w.heap.size + 1) 33 _ (0, 0) _ rfl (pp_blk w _ _) Tryd.underlying33 rfl (by kernel_rfl)) rfl ?_
    exact ⟨rfl, pp_below w _ _⟩)

set_option maxHeartbeats 8000000 in
set_option maxRecDepth 100000 in
theorem keypad_press.star (w : World) (s : ByteArray) (b : Bool) (n : Nat) (hn : s.size = n + 1) (hb : bt s (n : Int) < 128) (h : n < 1000) :
    Calls Tryd.prog 44 #[.agg #[.string s, .bool b], .int .i32 42] w fun e w' => e = .returned (.tuple #[.agg #[.string (s.extract 0 n), .bool b], .pointer none]) ∧ Below w.heap.size w w' := by
  have hu33 := Tryd.underlying33
  have hu82 := Tryd.underlying82
  have B1 := blk_alloc (blk_new w (.cells #[.string s, .bool b] 33)) (.cells #[.string ⟨#[]⟩, .bool false] 33)
  have B2 := blk_new (w.alloc (.cells #[.string s, .bool b] 33)) (.cells #[.string ⟨#[]⟩, .bool false] 33)
  rw [World.size_alloc] at B2
  have b10 := blk_cell B1 0
  have b11 := blk_cell B1 1
  have b20 := blk_cell B2 0
  have b21 := blk_cell B2 1
  clear B1 B2
  have H := Aside0.mk (fun W => utf8_DecodeLast.at_ W s n hn hb h)
  have e1 : wrap64 ((s.size : Int) - 1) = (n : Int) := by rw [IntWalk.wrap64_in _ ⟨by omega, by omega⟩]; omega
  have p0 : (0 : Int) ≤ (n : Int) := by omega
  have q0 : (n : Int) ≤ (s.size : Int) := by omega
  have q1 : n ≤ s.size := by omega
  clear hn hb h
  go_enter Tryd.func44, Tryd.ntmps44
  go_wp2_with (go_at_call 74; refine (H.out _).mono ?_; rintro e w1 ⟨rfl, hw1⟩; subst hw1)
  refine bodyPost_ret (results_ct (p := 4) (u := 5) rfl _ _ (w.heap.size + 1) 33 _ (0, 0) _ rfl (pp_blk w _ _) Tryd.underlying33 rfl (by kernel_rfl)) rfl ?_
  exact ⟨rfl, pp_below w _ _⟩
set_option maxHeartbeats 8000000 in
set_option maxRecDepth 100000 in
theorem utf8_DecodeLast.empty (w : World) (s : ByteArray) (hn : s.size = 0) :
    Calls Tryd.prog 74 #[.string s] w fun e w' => e = .returned (.tuple #[.int .i32 65533, .int .i64 0]) ∧ w' = w := by
  have t1 : ((s.size : Int) == 0) = true := beq_iff_eq.mpr (by omega)
  have t1n : (s.size == 0) = true := beq_iff_eq.mpr hn
  clear hn
  go_enter Tryd.func74, Tryd.ntmps74
  go_wp2
  go_ret2
  exact ⟨rfl, rfl⟩
set_option maxHeartbeats 8000000 in
set_option maxRecDepth 100000 in
theorem keypad_press.star0 (w : World) (s : ByteArray) (b : Bool) (hn : s.size = 0) :
    Calls Tryd.prog 44 #[.agg #[.string s, .bool b], .int .i32 42] w fun e w' => e = .returned (.tuple #[.agg #[.string ByteArray.empty, .bool b], .pointer none]) ∧ Below w.heap.size w w' := by
  have hu33 := Tryd.underlying33
  have hu82 := Tryd.underlying82
  have B1 := blk_alloc (blk_new w (.cells #[.string s, .bool b] 33)) (.cells #[.string ⟨#[]⟩, .bool false] 33)
  have B2 := blk_new (w.alloc (.cells #[.string s, .bool b] 33)) (.cells #[.string ⟨#[]⟩, .bool false] 33)
  rw [World.size_alloc] at B2
  have b10 := blk_cell B1 0
  have b11 := blk_cell B1 1
  have b20 := blk_cell B2 0
  have b21 := blk_cell B2 1
  clear B1 B2
  have H := Aside0.mk (fun W => utf8_DecodeLast.empty W s hn)
  have e0 : (s.size : Int) = 0 := by omega
  have e1 : wrap64 (0 : Int) = 0 := IntWalk.wrap64_in _ ⟨by decide, by decide⟩
  clear hn
  go_enter Tryd.func44, Tryd.ntmps44
  go_wp2_with (go_at_call 74; refine (H.out _).mono ?_; rintro e w1 ⟨rfl, hw1⟩; subst hw1)
  refine bodyPost_ret (results_ct (p := 4) (u := 5) rfl _ _ (w.heap.size + 1) 33 _ (0, 0) _ rfl (pp_blk w _ _) Tryd.underlying33 rfl (by kernel_rfl)) rfl ?_
  exact ⟨rfl, pp_below w _ _⟩
theorem pp_blk3 (w : World) (A B C : Obj) : (((w.alloc A).alloc B).alloc C).heap[w.heap.size + 1]? = some B := blk_alloc (pp_blk w A B) C
theorem pp_new3 (w : World) (A B C : Obj) : (((w.alloc A).alloc B).alloc C).heap[w.heap.size + 1 + 1]? = some C := by
  have h := blk_new ((w.alloc A).alloc B) C
  rwa [World.size_alloc, World.size_alloc] at h
theorem pp_below3 (w : World) (A B C : Obj) : Below w.heap.size w (((w.alloc A).alloc B).alloc C) := below_alloc (pp_below w A B) C
set_option maxHeartbeats 8000000 in
set_option maxRecDepth 100000 in
theorem keypad_press.hashbad (w : World) (s : ByteArray) :
    Calls Tryd.prog 44 #[.agg #[.string s, .bool true], .int .i32 35] w fun e w' => e = .returned (.tuple #[.agg #[.string ⟨#[]⟩, .bool false], .pointer (some ⟨w.heap.size + 1 + 1, 0, none⟩)]) ∧ w'.heap[w.heap.size + 1 + 1]? = some (.cells #[.string ⟨#[]⟩, .int .i64 3] 82 (0, 0)) ∧ Below w.heap.size w w' := by
  have hu33 := Tryd.underlying33
  have hu82 := Tryd.underlying82
  have B1 := blk_alloc (blk_new w (.cells #[.string s, .bool true] 33)) (.cells #[.string ⟨#[]⟩, .bool false] 33)
  have B2 := blk_new (w.alloc (.cells #[.string s, .bool true] 33)) (.cells #[.string ⟨#[]⟩, .bool false] 33)
  rw [World.size_alloc] at B2
  have b10 := blk_cell B1 0
  have b11 := blk_cell B1 1
  have b20 := blk_cell B2 0
  have b21 := blk_cell B2 1
  clear B1 B2
  go_enter Tryd.func44, Tryd.ntmps44
  go_wp2
  refine bodyPost_ret (results_ct (p := 4) (u := 5) rfl _ _ (w.heap.size + 1) 33 _ (0, 0) _ rfl (pp_blk3 w _ _ _) Tryd.underlying33 rfl (by kernel_rfl)) rfl ?_
  exact ⟨rfl, pp_new3 w _ _ _, pp_below3 w _ _ _⟩
set_option maxHeartbeats 8000000 in
set_option maxRecDepth 100000 in
theorem keypad_press.hash0 (w : World) (s : ByteArray) (hn : s.size = 0) :
    Calls Tryd.prog 44 #[.agg #[.string s, .bool false], .int .i32 35] w fun e w' => e = .returned (.tuple #[.agg #[.string ⟨#[]⟩, .bool false], .pointer none]) ∧ Below w.heap.size w w' := by
  have hu33 := Tryd.underlying33
  have hu82 := Tryd.underlying82
  have B1 := blk_alloc (blk_new w (.cells #[.string s, .bool false] 33)) (.cells #[.string ⟨#[]⟩, .bool false] 33)
  have B2 := blk_new (w.alloc (.cells #[.string s, .bool false] 33)) (.cells #[.string ⟨#[]⟩, .bool false] 33)
  rw [World.size_alloc] at B2
  have b10 := blk_cell B1 0
  have b11 := blk_cell B1 1
  have b20 := blk_cell B2 0
  have b21 := blk_cell B2 1
  clear B1 B2
  have ce : s.toList.isEmpty = true := by rw [rd_empty]; exact decide_eq_true hn
  have ce2 : ((s.size : Int) == 0) = true := beq_iff_eq.mpr (by omega)
  have ce3 : (s.size == 0) = true := beq_iff_eq.mpr hn
  clear hn
  go_enter Tryd.func44, Tryd.ntmps44
  go_wp2
  refine bodyPost_ret (results_ct (p := 4) (u := 5) rfl _ _ (w.heap.size + 1) 33 _ (0, 0) _ rfl (pp_blk w _ _) Tryd.underlying33 rfl (by kernel_rfl)) rfl ?_
  exact ⟨rfl, pp_below w _ _⟩
set_option maxHeartbeats 8000000 in
set_option maxRecDepth 100000 in
theorem keypad_press.hash (w : World) (s : ByteArray) (hn : 0 < s.size) :
    Calls Tryd.prog 44 #[.agg #[.string s, .bool false], .int .i32 35] w fun e w' => e = .returned (.tuple #[.agg #[.string ⟨#[]⟩, .bool false], .pointer (some ⟨w.heap.size + 1 + 1, 0, none⟩)]) ∧ w'.heap[w.heap.size + 1 + 1]? = some (.cells #[.string s, .int .i64 0] 82 (0, 0)) ∧ Below w.heap.size w w' := by
  have hu33 := Tryd.underlying33
  have hu82 := Tryd.underlying82
  have B1 := blk_alloc (blk_new w (.cells #[.string s, .bool false] 33)) (.cells #[.string ⟨#[]⟩, .bool false] 33)
  have B2 := blk_new (w.alloc (.cells #[.string s, .bool false] 33)) (.cells #[.string ⟨#[]⟩, .bool false] 33)
  rw [World.size_alloc] at B2
  have b10 := blk_cell B1 0
  have b11 := blk_cell B1 1
  have b20 := blk_cell B2 0
  have b21 := blk_cell B2 1
  clear B1 B2
  have ce : s.toList.isEmpty = false := by rw [rd_empty]; exact decide_eq_false (by omega)
  have ce2 : ((s.size : Int) == 0) = false := beq_eq_false_iff_ne.mpr (by omega)
  have ce3 : (s.size == 0) = false := beq_eq_false_iff_ne.mpr (by omega)
  clear hn
  go_enter Tryd.func44, Tryd.ntmps44
  go_wp2
  have c1 : ∀ o, (((w.alloc (.cells #[.string s, .bool false] 33)).alloc (.cells #[.string ⟨#[]⟩, .bool false] 33)).alloc o).cell? ⟨w.heap.size, 0, none⟩ = some (.string s) := fun o => blk_cell (blk_alloc (blk_alloc (blk_new w (.cells #[.string s, .bool false] 33)) (.cells #[.string ⟨#[]⟩, .bool false] 33)) o) 0
  go_region
  all_goals (
    try go_wp2
    refine bodyPost_ret (results_ct (p := 4) (u := 5) rfl _ _ (w.heap.size + 1) 33 _ (0, 0) _ rfl (pp_blk3 w _ _ _) Tryd.underlying33 rfl (by kernel_rfl)) rfl ?_
    exact ⟨rfl, pp_new3 w _ _ _, by repeat (first | exact pp_below3 w _ _ _ | apply below_drew1 | apply pw_below_drewN)⟩)
set_option maxHeartbeats 8000000 in
set_option maxRecDepth 100000 in
theorem keypad_press.bad (w : World) (s : ByteArray) (b : Bool) (r : Int) (hk : r ≠ 32 ∧ r ≠ 45 ∧ r ≠ 160 ∧ r ≠ 42 ∧ r ≠ 35) (hr : -2147483648 ≤ r ∧ r ≤ 2147483647) (hb : kdV r < 0 ∨ s.size = 30) :
    Calls Tryd.prog 44 #[.agg #[.string s, .bool b], .int .i32 r] w fun e w' => e = .returned (.tuple #[.agg #[.string s, .bool true], .pointer none]) ∧ Below w.heap.size w w' := by
  have hu33 := Tryd.underlying33
  have hu82 := Tryd.underlying82
  have B1 := blk_alloc (blk_new w (.cells #[.string s, .bool b] 33)) (.cells #[.string ⟨#[]⟩, .bool false] 33)
  have B2 := blk_new (w.alloc (.cells #[.string s, .bool b] 33)) (.cells #[.string ⟨#[]⟩, .bool false] 33)
  rw [World.size_alloc] at B2
  have b10 := blk_cell B1 0
  have b11 := blk_cell B1 1
  have b20 := blk_cell B2 0
  have b21 := blk_cell B2 1
  clear B1 B2
  have k1 : (r == 32) = false := beq_eq_false_iff_ne.mpr (by omega)
  have k2 : (r == 45) = false := beq_eq_false_iff_ne.mpr (by omega)
  have k3 : (r == 160) = false := beq_eq_false_iff_ne.mpr (by omega)
  have k4 : (r == 42) = false := beq_eq_false_iff_ne.mpr (by omega)
  have k5 : (r == 35) = false := beq_eq_false_iff_ne.mpr (by omega)
  obtain ⟨v, hv⟩ : ∃ v, kdV r = v := ⟨_, rfl⟩
  have H := Aside0.mk (fun W => hv ▸ keypad_value.at_ W r hr)
  rw [hv] at hb
  have t1 : decide (v < 0) = true ∨ (decide (v < 0) = false ∧ ((s.size : Int) == 30) = true ∧ (s.size == 30) = true) := by
    by_cases g : v < 0
    · exact .inl (decide_eq_true g)
    · have g2 : s.size = 30 := by omega
      exact .inr ⟨decide_eq_false g, beq_iff_eq.mpr (by omega), beq_iff_eq.mpr g2⟩
  clear hb hv hk hr
  rcases t1 with t1 | ⟨t1, t2, t3⟩
  all_goals (
    go_enter Tryd.func44, Tryd.ntmps44
    go_wp2_with (go_at_call 75; refine (H.out _).mono ?_; rintro e w1 ⟨rfl, hw1⟩; subst hw1)
    refine bodyPost_ret (results_ct (p := 4) (u := 5) rfl _ _ (w.heap.size + 1) 33 _ (0, 0) _ rfl (pp_blk3 w _ _ _) Tryd.underlying33 rfl (by kernel_rfl)) rfl ?_
    exact ⟨rfl, pp_below3 w _ _ _⟩)
set_option maxHeartbeats 8000000 in
set_option maxRecDepth 100000 in
theorem keypad_press.digit (w : World) (s : ByteArray) (b : Bool) (r : Int) (hk : r ≠ 32 ∧ r ≠ 45 ∧ r ≠ 160 ∧ r ≠ 42 ∧ r ≠ 35) (hr : -2147483648 ≤ r ∧ r ≤ 2147483647) (hb : 0 ≤ kdV r) (hs : s.size < 30) :
    Calls Tryd.prog 44 #[.agg #[.string s, .bool b], .int .i32 r] w fun e w' => e = .returned (.tuple #[.agg #[.string (s ++ Utf8.encode (48 + kdV r)), .bool b], .pointer none]) ∧ Below w.heap.size w w' := by
  have hu33 := Tryd.underlying33
  have hu82 := Tryd.underlying82
  have B1 := blk_alloc (blk_new w (.cells #[.string s, .bool b] 33)) (.cells #[.string ⟨#[]⟩, .bool false] 33)
  have B2 := blk_new (w.alloc (.cells #[.string s, .bool b] 33)) (.cells #[.string ⟨#[]⟩, .bool false] 33)
  rw [World.size_alloc] at B2
  have b10 := blk_cell B1 0
  have b11 := blk_cell B1 1
  have b20 := blk_cell B2 0
  have b21 := blk_cell B2 1
  clear B1 B2
  have k1 : (r == 32) = false := beq_eq_false_iff_ne.mpr (by omega)
  have k2 : (r == 45) = false := beq_eq_false_iff_ne.mpr (by omega)
  have k3 : (r == 160) = false := beq_eq_false_iff_ne.mpr (by omega)
  have k4 : (r == 42) = false := beq_eq_false_iff_ne.mpr (by omega)
  have k5 : (r == 35) = false := beq_eq_false_iff_ne.mpr (by omega)
  obtain ⟨v, hv⟩ : ∃ v, kdV r = v := ⟨_, rfl⟩
  have H := Aside0.mk (fun W => hv ▸ keypad_value.at_ W r hr)
  have hvb : v ≤ 9 := by have := kd_all r; omega
  rw [hv] at hb ⊢
  have t1 : decide (v < 0) = false := decide_eq_false (by omega)
  have t2 : ((s.size : Int) == 30) = false := beq_eq_false_iff_ne.mpr (by omega)
  have t3 : (s.size == 30) = false := beq_eq_false_iff_ne.mpr (by omega)
  have e1 : wrap64 (48 + v) = 48 + v := IntWalk.wrap64_in _ ⟨by omega, by omega⟩
  have e2 : wrap32 (48 + v) = 48 + v := IntWalk.wrap32_in _ ⟨by omega, by omega⟩
  have z : (Utf8.encode (48 + v)).size ≤ 4 := by
    have hq : 48 + v = 48 ∨ 48 + v = 49 ∨ 48 + v = 50 ∨ 48 + v = 51 ∨ 48 + v = 52 ∨ 48 + v = 53 ∨ 48 + v = 54 ∨ 48 + v = 55 ∨ 48 + v = 56 ∨ 48 + v = 57 := by omega
    rcases hq with q | q | q | q | q | q | q | q | q | q <;> (rw [q]; decide)
  obtain ⟨en, hen⟩ : ∃ en, Utf8.encode (48 + v) = en := ⟨_, rfl⟩
  rw [hen] at z ⊢
  have hcat : s.size + en.size ≤ 9223372036854775807 := by omega
  clear hb hv hk hr hvb hs z
  go_enter Tryd.func44, Tryd.ntmps44
  go_wp2_with (go_at_call 75; refine (H.out _).mono ?_; rintro e w1 ⟨rfl, hw1⟩; subst hw1)
  refine bodyPost_ret (results_ct (p := 4) (u := 5) rfl _ _ (w.heap.size + 1) 33 _ (0, 0) _ rfl (pp_blk3 w _ _ _) Tryd.underlying33 rfl (by kernel_rfl)) rfl ?_
  exact ⟨rfl, pp_below3 w _ _ _⟩
set_option maxHeartbeats 8000000 in
set_option maxRecDepth 100000 in
theorem keypad_Press.no (w : World) (s : ByteArray) (b : Bool) (r : Int) (hm : Aside0 (∀ W : World, Calls Tryd.prog 46 #[.agg #[.string s, .bool b]] W fun e w' => e = .returned (.bool false) ∧ Below W.heap.size W w')) :
    Calls Tryd.prog 17 #[.agg #[.string s, .bool b], .int .i32 r] w fun e w' => ∃ v2_ : Value, e = .returned (.tuple #[.agg #[.string ⟨#[]⟩, .bool false], v2_, .int .i64 5]) ∧ Kd.R k82 82 w' w.heap.size (fun _ => True) v2_ [] ∧ Below w.heap.size w w' := by
  have hu33 := Tryd.underlying33
  have hu82 := Tryd.underlying82
  have B1 := blk_alloc (blk_new w (.cells #[.string s, .bool b] 33)) (.cells #[.string ⟨#[]⟩, .bool false] 33)
  have B2 := blk_new (w.alloc (.cells #[.string s, .bool b] 33)) (.cells #[.string ⟨#[]⟩, .bool false] 33)
  rw [World.size_alloc] at B2
  have HB := Aside0.mk (pp_below w (.cells #[.string s, .bool b] 33) (.cells #[.string ⟨#[]⟩, .bool false] 33))
  have b10 := blk_cell B1 0
  have b11 := blk_cell B1 1
  have H2 := Aside0.mk B2
  clear B1 B2
  go_enter Tryd.func17, Tryd.ntmps17
  go_wp2_with (first | (go_at_call 46; refine (hm.out _).mono ?_; rintro e w1 ⟨rfl, hb1⟩; have J2 := Aside0.mk (blk_below H2.out hb1); have JB := Aside0.mk (below_then HB.out HB.out.size hb1); clear hb1) | ((with_reducible refine gate_store (t := 33) (p := 4) rfl ?_); refine seg.list rfl rfl 33 (.tmp 4) _ rfl 33 (w.heap.size + 1) 0 #[.string ⟨#[]⟩, .bool false] #[.string ⟨#[]⟩, .bool false] [.string ⟨#[]⟩, .bool false] rfl rfl (by kernel_rfl) (by simp [Value.oneCell']) J2.out (by simp) rfl ?_; intro w9 bx hgr))
  refine bodyPost_ret (results_ctt (p := 4) (u := 5) (v := 6) rfl _ w9 (w.heap.size + 1) 33 _ (0, 0) _ rfl bx Tryd.underlying33 rfl (by kernel_rfl)) rfl ?_
  exact ⟨_, rfl, Kd.R_nil _ _ _ _ _, seg.below JB.out hgr (by omega)⟩

set_option maxHeartbeats 8000000 in
set_option maxRecDepth 100000 in
theorem keypad_Press.nil_ (w : World) (s : ByteArray) (b : Bool) (r : Int) (q1 : ByteArray) (q2 : Bool) (hm : Aside0 (∀ W : World, Calls Tryd.prog 46 #[.agg #[.string s, .bool b]] W fun e w' => e = .returned (.bool true) ∧ Below W.heap.size W w')) (hp : Aside0 (∀ W : World, Calls Tryd.prog 44 #[.agg #[.string s, .bool b], .int .i32 r] W fun e w' => e = .returned (.tuple #[.agg #[.string q1, .bool q2], .pointer none]) ∧ Below W.heap.size W w')) :
    Calls Tryd.prog 17 #[.agg #[.string s, .bool b], .int .i32 r] w fun e w' => ∃ v2_ : Value, e = .returned (.tuple #[.agg #[.string q1, .bool q2], v2_, .int .i64 0]) ∧ Kd.R k82 82 w' w.heap.size (fun _ => True) v2_ [] ∧ Below w.heap.size w w' := by
  have hu33 := Tryd.underlying33
  have hu82 := Tryd.underlying82
  have B1 := blk_alloc (blk_new w (.cells #[.string s, .bool b] 33)) (.cells #[.string ⟨#[]⟩, .bool false] 33)
  have B2 := blk_new (w.alloc (.cells #[.string s, .bool b] 33)) (.cells #[.string ⟨#[]⟩, .bool false] 33)
  rw [World.size_alloc] at B2
  have HB := Aside0.mk (pp_below w (.cells #[.string s, .bool b] 33) (.cells #[.string ⟨#[]⟩, .bool false] 33))
  have b10 := blk_cell B1 0
  have b11 := blk_cell B1 1
  have H2 := Aside0.mk B2
  have H1 := Aside0.mk B1
  clear B1 B2
  go_enter Tryd.func17, Tryd.ntmps17
  go_wp2_with (first | (go_at_call 46; refine (hm.out _).mono ?_; rintro e w1 ⟨rfl, hb1⟩; have J2 := Aside0.mk (blk_below H2.out hb1); have JB := Aside0.mk (below_then HB.out HB.out.size hb1); have J1 := Aside0.mk (blk_below H1.out hb1); have j10 := blk_cell J1.out 0; have j11 := blk_cell J1.out 1; clear hb1) | (go_at_call 44; refine (hp.out _).mono ?_; rintro e w2 ⟨rfl, hb2⟩; have K2 := Aside0.mk (blk_below J2.out hb2); have KB := Aside0.mk (below_then JB.out JB.out.size hb2); have L7 := Aside0.mk (blk_new w2 (.cells #[.string q1, .bool q2] 33)); have L2 := Aside0.mk (blk_alloc K2.out (.cells #[.string q1, .bool q2] 33)); have LB := Aside0.mk (below_alloc KB.out (.cells #[.string q1, .bool q2] 33)); have l70 := blk_cell L7.out 0; have l71 := blk_cell L7.out 1; clear hb2) | ((with_reducible refine gate_store (t := 33) (p := 4) rfl ?_); refine seg.list rfl rfl 33 (.tmp 4) _ rfl 33 (w.heap.size + 1) 0 #[.string ⟨#[]⟩, .bool false] #[.string q1, .bool q2] [.string q1, .bool q2] rfl rfl (by kernel_rfl) (by simp [Value.oneCell']) L2.out (by simp) rfl ?_; intro w9 bx hgr))
  refine bodyPost_ret (results_ctt (p := 4) (u := 5) (v := 6) rfl _ w9 (w.heap.size + 1) 33 _ (0, 0) _ rfl bx Tryd.underlying33 rfl (by kernel_rfl)) rfl ?_
  exact ⟨_, rfl, Kd.R_nil _ _ _ _ _, seg.below LB.out hgr (by omega)⟩

theorem entry_R {w : World} {base g : Nat} {tx : ByteArray} {cd : Int} (hg : w.heap[g]? = some (.cells #[.string tx, .int .i64 cd] 82 (0, 0))) (hb : base ≤ g) : Kd.R k82 82 w base (fun _ => True) (.slice (some ⟨g, 0, none⟩) 1 1) [(⟨tx, cd⟩ : S82)] := by
  refine ⟨fun _ _ => trivial, [.string tx, .int .i64 cd], ⟨rfl, .inr ⟨g, 1, _, rfl, hb, hg, Nat.le_refl _, by decide, rfl, rfl⟩⟩, ?_⟩
  exact Reps.c2 (k82_mkM _ _ _ _) (Reps.none _ _)
set_option maxHeartbeats 8000000 in
set_option maxRecDepth 100000 in
theorem keypad_Press.some_ (w : World) (s : ByteArray) (b : Bool) (r : Int) (q1 : ByteArray) (q2 : Bool) (tx : ByteArray) (cd : Int) (hm : Aside0 (∀ W : World, Calls Tryd.prog 46 #[.agg #[.string s, .bool b]] W fun e w' => e = .returned (.bool true) ∧ Below W.heap.size W w')) (hp : Aside0 (∀ W : World, Calls Tryd.prog 44 #[.agg #[.string s, .bool b], .int .i32 r] W fun e w' => e = .returned (.tuple #[.agg #[.string q1, .bool q2], .pointer (some ⟨W.heap.size + 1 + 1, 0, none⟩)]) ∧ w'.heap[W.heap.size + 1 + 1]? = some (.cells #[.string tx, .int .i64 cd] 82 (0, 0)) ∧ Below W.heap.size W w')) :
    Calls Tryd.prog 17 #[.agg #[.string s, .bool b], .int .i32 r] w fun e w' => ∃ v2_ : Value, e = .returned (.tuple #[.agg #[.string q1, .bool q2], v2_, .int .i64 0]) ∧ Kd.R k82 82 w' w.heap.size (fun _ => True) v2_ [(⟨tx, cd⟩ : S82)] ∧ Below w.heap.size w w' := by
  have hu33 := Tryd.underlying33
  have hu82 := Tryd.underlying82
  have B1 := blk_alloc (blk_new w (.cells #[.string s, .bool b] 33)) (.cells #[.string ⟨#[]⟩, .bool false] 33)
  have B2 := blk_new (w.alloc (.cells #[.string s, .bool b] 33)) (.cells #[.string ⟨#[]⟩, .bool false] 33)
  rw [World.size_alloc] at B2
  have HB := Aside0.mk (pp_below w (.cells #[.string s, .bool b] 33) (.cells #[.string ⟨#[]⟩, .bool false] 33))
  have b10 := blk_cell B1 0
  have b11 := blk_cell B1 1
  have H2 := Aside0.mk B2
  have H1 := Aside0.mk B1
  clear B1 B2
  go_enter Tryd.func17, Tryd.ntmps17
  go_upto_region 6 with (first | (go_at_call 46; refine (hm.out _).mono ?_; rintro e w1 ⟨rfl, hb1⟩; have J2 := Aside0.mk (blk_below H2.out hb1); have JB := Aside0.mk (below_then HB.out HB.out.size hb1); have J1 := Aside0.mk (blk_below H1.out hb1); have j10 := blk_cell J1.out 0; have j11 := blk_cell J1.out 1; clear hb1) | (go_at_call 44; refine (hp.out _).mono ?_; rintro e w2 ⟨rfl, he2, hb2⟩; have K2 := Aside0.mk (blk_below J2.out hb2); have KB := Aside0.mk (below_then JB.out JB.out.size hb2); have L7 := Aside0.mk (blk_new w2 (.cells #[.string q1, .bool q2] 33)); have L2 := Aside0.mk (blk_alloc K2.out (.cells #[.string q1, .bool q2] 33)); have LE := Aside0.mk (blk_alloc he2 (.cells #[.string q1, .bool q2] 33)); have LB := Aside0.mk (below_alloc KB.out (.cells #[.string q1, .bool q2] 33)); clear hb2 he2))
  generalize hgg : w1.heap.size + 1 + 1 = g at *
  obtain ⟨W3, hW3⟩ : ∃ W3, w2.alloc (.cells #[.string q1, .bool q2] 33) = W3 := ⟨_, rfl⟩
  obtain ⟨c7, hc7⟩ : ∃ c7, w2.heap.size = c7 := ⟨_, rfl⟩
  rw [hW3] at L7 L2 LE LB
  rw [hc7] at L7
  have m1 := fun o => blk_cell (blk_alloc L7.out o) 0
  have m2 := fun o => blk_cell (blk_alloc L7.out o) 1
  have m3 := fun o => blk_cell (blk_alloc LE.out o) 0
  have m4 := fun o => blk_cell (blk_alloc LE.out o) 1
  have n1 := blk_cell L7.out 0
  have n2 := blk_cell L7.out 1
  have n3 := blk_cell LE.out 0
  have n4 := blk_cell LE.out 1
  have k1 := blk_cell L2.out 0
  have k2 := blk_cell L2.out 1
  have k3 := fun o => blk_cell (blk_alloc L2.out o) 0
  have k4 := fun o => blk_cell (blk_alloc L2.out o) 1
  have f1 := blk_frozen L2.out 0
  have f2 := blk_frozen L2.out 1
  have f3 := fun o => blk_frozen (blk_alloc L2.out o) 0
  have f4 := fun o => blk_frozen (blk_alloc L2.out o) 1
  have hne : g ≠ w.heap.size + 1 := by have := JB.out.size; rw [← hgg]; omega
  have s1 := fun v => blk_cell (blk_far (p := ⟨w.heap.size + 1, 0, none⟩) LE.out hne v) 0
  have s2 := fun v => blk_cell (blk_far (p := ⟨w.heap.size + 1, 0, none⟩) LE.out hne v) 1
  have s3 := fun v v' => blk_cell (blk_far (p := ⟨w.heap.size + 1, 1, none⟩) (blk_far (p := ⟨w.heap.size + 1, 0, none⟩) LE.out hne v) hne v') 0
  have s4 := fun v v' => blk_cell (blk_far (p := ⟨w.heap.size + 1, 1, none⟩) (blk_far (p := ⟨w.heap.size + 1, 0, none⟩) LE.out hne v) hne v') 1
  simp only [hW3, hc7]
  go_region
  all_goals (
    go_wp2
    first
    | (refine bodyPost_ret (results_ctt (p := 4) (u := 5) (v := 6) rfl _ _ (w.heap.size + 1) 33 _ (0, 0) _ rfl (blk_drew (blk_alloc (blk_set (blk_set L2.out 0 (.string q1)) 1 (.bool q2)) _)) Tryd.underlying33 rfl (by kernel_rfl)) rfl ?_
       exact ⟨_, rfl, entry_R (blk_drew (by have hz : ((W3.setCell ⟨w.heap.size + 1, 0, none⟩ (.string q1)).setCell ⟨w.heap.size + 1, 1, none⟩ (.bool q2)).heap.size = W3.heap.size := by simp [World.setCell]
                                            have hh := blk_new ((W3.setCell ⟨w.heap.size + 1, 0, none⟩ (.string q1)).setCell ⟨w.heap.size + 1, 1, none⟩ (.bool q2)) (.cells #[.string tx, .int .i64 cd] 82)
                                            rwa [hz] at hh)) LB.out.size, below_drew1 (below_alloc (below_set (below_set LB.out (by simp)) (by simp)) _)⟩)
    | (refine bodyPost_ret (results_ctt (p := 4) (u := 5) (v := 6) rfl _ _ (w.heap.size + 1) 33 _ (0, 0) _ rfl (blk_drew (blk_set (blk_set (blk_alloc L2.out (.cells #[.string tx, .int .i64 cd] 82)) 0 (.string q1)) 1 (.bool q2))) Tryd.underlying33 rfl (by kernel_rfl)) rfl ?_
       exact ⟨_, rfl, entry_R (blk_drew (blk_far (blk_far (blk_new W3 (.cells #[.string tx, .int .i64 cd] 82)) (by have := blk_lt L2.out; show W3.heap.size ≠ w.heap.size + 1; omega) _) (by have := blk_lt L2.out; show W3.heap.size ≠ w.heap.size + 1; omega) _)) LB.out.size, below_drew1 (below_set (below_set (below_alloc LB.out _) (by simp)) (by simp))⟩))

instance rdOk_dec (s : ByteArray) (j : Nat) : Decidable (rdOk s j) := by unfold rdOk; infer_instance
def allOk (t : ByteArray) : Bool := (List.range t.size).all fun j => decide (rdOk t j)
theorem allOk_split (t : ByteArray) : (allOk t = true ∧ ∀ j, j < t.size → rdOk t j) ∨ (allOk t = false ∧ ∃ m, m < t.size ∧ (∀ j, j < m → rdOk t j) ∧ ¬ rdOk t m) := by
  cases h : allOk t with
  | true =>
    refine .inl ⟨rfl, fun j hj => ?_⟩
    unfold allOk at h
    rw [List.all_eq_true] at h
    exact of_decide_eq_true (h j (List.mem_range.2 hj))
  | false =>
    refine .inr ⟨rfl, ?_⟩
    have h2 : ¬ ∀ j, j < t.size → rdOk t j := by
      intro g
      have : allOk t = true := by unfold allOk; rw [List.all_eq_true]; exact fun j hj => decide_eq_true (g j (List.mem_range.1 hj))
      rw [h] at this; cases this
    have key : ∀ n, (∀ j, j < n → rdOk t j) ∨ ∃ m, m < n ∧ (∀ j, j < m → rdOk t j) ∧ ¬ rdOk t m := by
      intro n
      induction n with
      | zero => exact .inl (fun j hj => absurd hj (Nat.not_lt_zero _))
      | succ n ih =>
        rcases ih with ih | ⟨m, a, b, c⟩
        · by_cases hn : rdOk t n
          · exact .inl (fun j hj => by rcases Nat.lt_succ_iff_lt_or_eq.1 hj with g | g; exact ih j g; rw [g]; exact hn)
          · exact .inr ⟨n, Nat.lt_succ_self _, ih, hn⟩
        · exact .inr ⟨m, Nat.lt_succ_of_lt a, b, c⟩
    rcases key t.size with g | g
    · exact absurd g h2
    · exact g
set_option maxHeartbeats 8000000 in
set_option maxRecDepth 100000 in
theorem keypad_may.long (w : World) (s : ByteArray) (b : Bool) (h : 30 < s.size) :
    Calls Tryd.prog 46 #[.agg #[.string s, .bool b]] w fun e w' => e = .returned (.bool false) ∧ Below w.heap.size w w' := by
  have hu33 := Tryd.underlying33
  have t1 : decide ((s.size : Int) > 30) = true := decide_eq_true (by omega)
  have t1n : decide (30 < s.size) = true := decide_eq_true h
  have B1 := blk_new w (.cells #[.string s, .bool b] 33)
  have HB := Aside0.mk (below_alloc (Below.refl w.heap.size w) (.cells #[.string s, .bool b] 33))
  have b0 := blk_cell B1 0
  clear h
  go_enter Tryd.func46, Tryd.ntmps46
  go_wp2
  go_ret
  exact ⟨rfl, by repeat (first | exact HB.out | apply below_drew1 | apply pw_below_drewN)⟩
set_option maxHeartbeats 8000000 in
set_option maxRecDepth 100000 in
theorem keypad_may.loop (w : World) (s : ByteArray) (b : Bool) (h : s.size ≤ 30) (m : Nat) (hm : m ≤ s.size) (hgood : ∀ j, j < m → rdOk s j) (r : Bool) (hend : (m = s.size ∧ r = true) ∨ (m < s.size ∧ ¬ rdOk s m ∧ r = false)) :
    Calls Tryd.prog 46 #[.agg #[.string s, .bool b]] w fun e w' => e = .returned (.bool r) ∧ Below w.heap.size w w' := by
  have hu33 := Tryd.underlying33
  have t1 : decide ((s.size : Int) > 30) = false := decide_eq_false (by omega)
  have t1n : decide (30 < s.size) = false := decide_eq_false (by omega)
  have B1 := blk_new w (.cells #[.string s, .bool b] 33)
  have b0 := blk_cell B1 0
  have HE := Aside0.mk (And.intro hm (And.intro hgood hend))
  have HIT' := World.iter_heap (w.alloc (.cells #[.string s, .bool b] 33)) s 0
  rw [World.size_alloc] at HIT'
  have HIT := Aside0.mk HIT'
  have HB3 := Aside0.mk ((below_alloc (Below.refl w.heap.size w) (.cells #[.string s, .bool b] 33)).alloc (below_alloc (Below.refl w.heap.size w) (.cells #[.string s, .bool b] 33)).size (.stringIter s 0))
  clear h hm hgood hend B1 HIT'
  go_enter Tryd.func46, Tryd.ntmps46
  go_wp2
  go_loopg [] m (fun kq w' => ∃ p : Nat, Aside0 (p ≤ m ∧ kq = m - p) ∧ w'.heap[w.heap.size + 1]? = some (.stringIter s p) ∧ Below w.heap.size w w')
  case atStart => exact ⟨0, ⟨Nat.zero_le _, by omega⟩, HIT.out, HB3.out⟩
  case round =>
    clear HIT HB3 b0
    obtain ⟨p, HPM, hit, hbw⟩ := hrel
    by_cases hpm : p < m
    · have hps : p < s.size := by have := HE.out.1; omega
      have hk : rdOk s p := HE.out.2.1 p hpm
      have hdc := rd_ok s p hps hk
      have hcc : ((bt s (p : Int)).toNat : Int) = bt s (p : Int) := Int.toNat_of_nonneg (bt_range s p).1
      have hnx : ∀ ty, (Instr.next (.pointer (some ⟨w.heap.size + 1, 0, none⟩)) true ty).run Tryd.prog wr = _ := fun ty => Lib.run_next_any_at wr (w.heap.size + 1) s p ty hit hps
      have hit2 := Lib.iterAt_heap wr (w.heap.size + 1) s p (p + (Utf8.decode s p).2) hit
      have NB' := Lib.below_iterAt hbw (k := w.heap.size + 1) (by omega) s (p + (Utf8.decode s p).2)
      rw [hdc] at hnx hit2 NB'
      simp only at hnx hit2 NB'
      obtain ⟨W1, hW1⟩ : ∃ W1, W1 = wr.iterAt (w.heap.size + 1) s (p + 1) := ⟨_, rfl⟩
      rw [← hW1] at hnx hit2 NB'
      obtain ⟨c, hc⟩ : ∃ c, (bt s (p : Int)).toNat = c := ⟨_, rfl⟩
      rw [hc] at hnx hcc
      have hcb : 48 ≤ c ∧ c ≤ 57 := by have := hk.1; have := hk.2; omega
      have t1 : decide ((c : Int) < 48) = false := decide_eq_false (by omega)
      have t2 : decide ((c : Int) > 57) = false := decide_eq_false (by omega)
      have t1n : decide (c < 48) = false := decide_eq_false (by omega)
      have t2n : decide (57 < c) = false := decide_eq_false (by omega)
      have HV2 := Aside0.mk (And.intro hpm (And.intro hit2 NB'))
      clear hcb hcc hc hW1 hk hdc hit hbw hpm hps
      go_wp2
      go_roundg (m - (p + 1))
      case measure => have := HV2.out.1; have := HPM.out; omega
      case rel => exact ⟨p + 1, ⟨HV2.out.1, rfl⟩, HV2.out.2.1, HV2.out.2.2⟩
    · obtain rfl : p = m := by have := HPM.out.1; omega
      rcases HE.out.2.2 with ⟨he, rfl⟩ | ⟨hlt, hbad, rfl⟩
      · have hnx : ∀ ty, (Instr.next (.pointer (some ⟨w.heap.size + 1, 0, none⟩)) true ty).run Tryd.prog wr = _ := fun ty => Lib.run_next_end_at wr (w.heap.size + 1) s p ty hit (by omega)
        have HBW := Aside0.mk hbw
        clear he hit hbw hpm
        go_wp2
        go_ret
        exact ⟨rfl, by repeat (first | exact HBW.out | apply below_drew1 | apply pw_below_drewN)⟩
      · have hnx : ∀ ty, (Instr.next (.pointer (some ⟨w.heap.size + 1, 0, none⟩)) true ty).run Tryd.prog wr = _ := fun ty => Lib.run_next_any_at wr (w.heap.size + 1) s p ty hit hlt
        have NB' := Lib.below_iterAt hbw (k := w.heap.size + 1) (by omega) s (p + (Utf8.decode s p).2)
        have hrn := rd_no s p hlt hbad
        obtain ⟨W1, hW1⟩ : ∃ W1, W1 = wr.iterAt (w.heap.size + 1) s (p + (Utf8.decode s p).2) := ⟨_, rfl⟩
        rw [← hW1] at hnx NB'
        obtain ⟨c, hc⟩ : ∃ c, (Utf8.decode s p).1 = c := ⟨_, rfl⟩
        rw [hc] at hnx hrn
        have NB := Aside0.mk NB'
        have t1 : (decide ((c : Int) < 48) = true ∧ decide (c < 48) = true) ∨ (decide ((c : Int) < 48) = false ∧ decide (c < 48) = false ∧ decide ((c : Int) > 57) = true ∧ decide (57 < c) = true) := by
          rcases hrn with hr | hr
          · exact .inl ⟨decide_eq_true hr, decide_eq_true (by omega)⟩
          · exact .inr ⟨decide_eq_false (by omega), decide_eq_false (by omega), decide_eq_true hr, decide_eq_true (by omega)⟩
        clear hrn hc hW1 hit hbw hlt hbad NB' hpm
        rcases t1 with ⟨t1, t1n⟩ | ⟨t1, t1n, t2, t2n⟩
        all_goals (
          go_wp2
          go_ret
          exact ⟨rfl, by repeat (first | exact NB.out | apply below_drew1 | apply pw_below_drewN)⟩)
theorem keypad_may.at_ (w : World) (s : ByteArray) (b : Bool) :
    Calls Tryd.prog 46 #[.agg #[.string s, .bool b]] w fun e w' => e = .returned (.bool (decide (s.size ≤ 30) && allOk s)) ∧ Below w.heap.size w w' := by
  by_cases h : 30 < s.size
  · rw [decide_eq_false (show ¬ s.size ≤ 30 by omega)]
    exact keypad_may.long w s b h
  · rw [decide_eq_true (show s.size ≤ 30 by omega)]
    rcases allOk_split s with ⟨ha, hg⟩ | ⟨ha, m, hm, hg, hbad⟩
    · rw [ha]
      exact keypad_may.loop w s b (by omega) s.size (Nat.le_refl _) hg true (.inl ⟨rfl, rfl⟩)
    · rw [ha]
      exact keypad_may.loop w s b (by omega) m (Nat.le_of_lt hm) hg false (.inr ⟨hm, hbad, rfl⟩)
def padAns (s : ByteArray) (b : Bool) (r : Int) : ByteArray × Bool × List S82 × Int :=
  if (decide (s.size ≤ 30) && allOk s) = false then ((⟨#[]⟩ : ByteArray), false, [], 5)
  else if r = 32 ∨ r = 45 ∨ r = 160 then (s, b, [], 0)
  else if r = 42 then (if s.size = 0 then (ByteArray.empty, b, [], 0) else (s.extract 0 (s.size - 1), b, [], 0))
  else if r = 35 then (if b = true then ((⟨#[]⟩ : ByteArray), false, [(⟨(⟨#[]⟩ : ByteArray), 3⟩ : S82)], 0) else if s.size = 0 then ((⟨#[]⟩ : ByteArray), false, [], 0) else ((⟨#[]⟩ : ByteArray), false, [(⟨s, 0⟩ : S82)], 0))
  else if kdV r < 0 ∨ s.size = 30 then (s, true, [], 0) else (s ++ Utf8.encode (48 + kdV r), b, [], 0)
theorem keypad_Press.at_ (w : World) (s : ByteArray) (b : Bool) (r : Int) (hr : -2147483648 ≤ r ∧ r ≤ 2147483647) :
    Calls Tryd.prog 17 #[.agg #[.string s, .bool b], .int .i32 r] w fun e w' => ∃ v2_ : Value, e = .returned (.tuple #[.agg #[.string (padAns s b r).1, .bool (padAns s b r).2.1], v2_, .int .i64 (padAns s b r).2.2.2]) ∧ Kd.R k82 82 w' w.heap.size (fun _ => True) v2_ (padAns s b r).2.2.1 ∧ Below w.heap.size w w' := by
  have hm := fun W : World => keypad_may.at_ W s b
  unfold padAns
  by_cases h0 : (decide (s.size ≤ 30) && allOk s) = false
  · rw [if_pos h0]
    rw [h0] at hm
    exact keypad_Press.no w s b r ⟨hm⟩
  · rw [if_neg h0]
    have h0' : (decide (s.size ≤ 30) && allOk s) = true := by simpa using h0
    rw [h0'] at hm
    have hsz : s.size ≤ 30 ∧ allOk s = true := by simpa using h0'
    by_cases h1 : r = 32 ∨ r = 45 ∨ r = 160
    · rw [if_pos h1]
      exact keypad_Press.nil_ w s b r s b ⟨hm⟩ ⟨fun W => keypad_press.keep W s b r h1⟩
    · rw [if_neg h1]
      by_cases h2 : r = 42
      · rw [if_pos h2]
        subst h2
        by_cases hz : s.size = 0
        · rw [if_pos hz]
          exact keypad_Press.nil_ w s b 42 _ _ ⟨hm⟩ ⟨fun W => keypad_press.star0 W s b hz⟩
        · rw [if_neg hz]
          refine keypad_Press.nil_ w s b 42 _ _ ⟨hm⟩ ⟨fun W => keypad_press.star W s b (s.size - 1) (by omega) ?_ (by omega)⟩
          rcases allOk_split s with ⟨_, hg⟩ | ⟨ha, _⟩
          · have := (hg (s.size - 1) (by omega)).2; omega
          · rw [hsz.2] at ha; cases ha
      · rw [if_neg h2]
        by_cases h3 : r = 35
        · rw [if_pos h3]
          subst h3
          cases b with
          | true =>
            rw [if_pos rfl]
            exact keypad_Press.some_ w s true 35 _ _ _ _ ⟨hm⟩ ⟨fun W => keypad_press.hashbad W s⟩
          | false =>
            rw [if_neg (by decide)]
            by_cases hz : s.size = 0
            · rw [if_pos hz]
              exact keypad_Press.nil_ w s false 35 _ _ ⟨hm⟩ ⟨fun W => keypad_press.hash0 W s hz⟩
            · rw [if_neg hz]
              exact keypad_Press.some_ w s false 35 _ _ _ _ ⟨hm⟩ ⟨fun W => keypad_press.hash W s (by omega)⟩
        · rw [if_neg h3]
          have hk : r ≠ 32 ∧ r ≠ 45 ∧ r ≠ 160 ∧ r ≠ 42 ∧ r ≠ 35 := by omega
          by_cases h4 : kdV r < 0 ∨ s.size = 30
          · rw [if_pos h4]
            exact keypad_Press.nil_ w s b r _ _ ⟨hm⟩ ⟨fun W => keypad_press.bad W s b r hk hr h4⟩
          · rw [if_neg h4]
            exact keypad_Press.nil_ w s b r _ _ ⟨hm⟩ ⟨fun W => keypad_press.digit W s b r hk hr (by omega) (by omega)⟩
/-! ### keypad_Press: function 17 (by hand) -/
def keypad_Press.f (a0_0 : ByteArray) (a0_1 : Bool) (a1 : Int) : Option (ByteArray × Bool × (List (S82)) × Int) := if -2147483648 ≤ a1 ∧ a1 ≤ 2147483647 then some (padAns a0_0 a0_1 a1) else none
theorem keypad_Press.calls (a0_0 : ByteArray) (a0_1 : Bool) (a1 : Int) (r1 : ByteArray) (r2 : Bool) (r3 : List (S82)) (r4 : Int) (w : World) (h : keypad_Press.f a0_0 a0_1 a1 = some (r1, r2, r3, r4)) :
    Calls Tryd.prog 17 #[.agg #[.string a0_0, .bool a0_1], .int .i32 a1] w fun e w' => ∃ v2_ : Value, e = .returned (.tuple #[.agg #[.string r1, .bool r2], v2_, .int .i64 r4]) ∧ Kd.R k82 82 w' w.heap.size (fun _ => True) v2_ r3 ∧ Below w.heap.size w w' := by
  unfold keypad_Press.f at h
  split at h
  · rename_i hr
    have := keypad_Press.at_ w a0_0 a0_1 a1 hr
    rw [Option.some.inj h] at this
    exact this
  · cases h

end Go.Proofs.YtoookcmablnjfaaDoor.PPadPresses
