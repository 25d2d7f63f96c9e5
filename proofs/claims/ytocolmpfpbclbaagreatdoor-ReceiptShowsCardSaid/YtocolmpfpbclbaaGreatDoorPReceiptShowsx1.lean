-- written by this session's program wip/xp/xprint.py (it drives the kit's print and adds to it)
import Derived.Test.YtocolmpfpbclbaaGreatDoorPReceiptShowsx0
namespace Go.Proofs.YtocolmpfpbclbaaGreatDoor.PReceiptShows
open Go.RowKit Go.Proofs.YtocolmpfpbclbaaGreatDoorW.PrintWords Go.Proofs.YtocolmpfpbclbaaGreatDoorW.PrintLast Go.Proofs.YtocolmpfpbclbaaGreatDoorW.PrintMore
attribute [local go_sem] max2_int min2_int max_two min_two max_three min_three max_four min_four
set_option linter.unusedVariables false
set_option linter.unusedSimpArgs false
set_option maxHeartbeats 8000000
set_option maxRecDepth 100000

-- NOT PRINTED: function 85 (strings_trimLeftByte)

-- NOT PRINTED: function 86 (strings_makeASCIISet)

-- NOT PRINTED: function 122 (strings_asciiSet_contains)

-- NOT PRINTED: function 87 (strings_trimLeftASCII)

-- NOT PRINTED: function 117 (utf8_decodeRuneInStringSlow)

-- NOT PRINTED: function 78 (utf8_DecodeRuneInString)

-- NOT PRINTED: function 114 (bytealg_IndexString)

-- NOT PRINTED: function 115 (bytealg_Cutover)

-- NOT PRINTED: function 146 (bytealg_IndexByteString)

-- NOT PRINTED: function 113 (stringslite_IndexByte)

-- NOT PRINTED: function 153 (strings_IndexByte)

-- NOT PRINTED: function 154 (utf8_ValidRune)

-- NOT PRINTED: function 150 (strings_IndexRune)

-- NOT PRINTED: function 123 (strings_ContainsRune)

-- NOT PRINTED: function 88 (strings_trimLeftUnicode)

-- NOT PRINTED: function 53 (strings_TrimLeft)

-- NOT PRINTED: function 124 (words_up)

/-! ### bits_Mul32: function 126 -/
def bits_Mul32.f (a0 : Int) (a1 : Int) : Option (Int × Int) := some (((IntKind.u64.wrap ((IntKind.u64.wrap (a0)) * (IntKind.u64.wrap (a1)))) / 4294967296) % 4294967296, (IntKind.u64.wrap ((IntKind.u64.wrap (a0)) * (IntKind.u64.wrap (a1)))) % 4294967296)
theorem bits_Mul32.calls (a0 : Int) (a1 : Int) (r1 : Int) (r2 : Int) (w : World) (h : bits_Mul32.f a0 a1 = some (r1, r2)) :
  Calls Tryz.prog 126 #[.int .u32 a0, .int .u32 a1] w fun e w' => e = .returned (.tuple #[.int .u32 r1, .int .u32 r2]) ∧ Drawn0 w w' := by
 have H : (some (((IntKind.u64.wrap ((IntKind.u64.wrap (a0)) * (IntKind.u64.wrap (a1)))) / 4294967296) % 4294967296, (IntKind.u64.wrap ((IntKind.u64.wrap (a0)) * (IntKind.u64.wrap (a1)))) % 4294967296)) = some (r1, r2) := h
 clear h
 simp only [Option.some.injEq, Prod.mk.injEq] at H
 obtain ⟨rfl, rfl⟩ := H
 go_enter Tryz.func126, Tryz.ntmps126
 go_wp2
 go_ret2
 exact ⟨by first | rfl | (simp; done) | (simp [*]; done), by repeat (first | exact Drawn0.refl _ | apply Drawn0.step)⟩

/-! ### bits_Add32: function 127 -/
def bits_Add32.f (a0 : Int) (a1 : Int) (a2 : Int) : Option (Int × Int) := some ((IntKind.u64.wrap ((IntKind.u64.wrap ((IntKind.u64.wrap (a0)) + (IntKind.u64.wrap (a1)))) + (IntKind.u64.wrap (a2)))) % 4294967296, ((IntKind.u64.wrap ((IntKind.u64.wrap ((IntKind.u64.wrap (a0)) + (IntKind.u64.wrap (a1)))) + (IntKind.u64.wrap (a2)))) / 4294967296) % 4294967296)
theorem bits_Add32.calls (a0 : Int) (a1 : Int) (a2 : Int) (r1 : Int) (r2 : Int) (w : World) (h : bits_Add32.f a0 a1 a2 = some (r1, r2)) :
  Calls Tryz.prog 127 #[.int .u32 a0, .int .u32 a1, .int .u32 a2] w fun e w' => e = .returned (.tuple #[.int .u32 r1, .int .u32 r2]) ∧ Drawn0 w w' := by
 have H : (some ((IntKind.u64.wrap ((IntKind.u64.wrap ((IntKind.u64.wrap (a0)) + (IntKind.u64.wrap (a1)))) + (IntKind.u64.wrap (a2)))) % 4294967296, ((IntKind.u64.wrap ((IntKind.u64.wrap ((IntKind.u64.wrap (a0)) + (IntKind.u64.wrap (a1)))) + (IntKind.u64.wrap (a2)))) / 4294967296) % 4294967296)) = some (r1, r2) := h
 clear h
 simp only [Option.some.injEq, Prod.mk.injEq] at H
 obtain ⟨rfl, rfl⟩ := H
 go_enter Tryz.func127, Tryz.ntmps127
 go_wp2
 go_ret2
 exact ⟨by first | rfl | (simp; done) | (simp [*]; done), by repeat (first | exact Drawn0.refl _ | apply Drawn0.step)⟩

-- NOT PRINTED: function 125 (words_Times_1)

/-! ### numbers of 32-bit words -/
def wval : List Int → Int
 | [] => 0
 | x :: t => x + 4294967296 * wval t
def wok (l : List Int) : Prop := ∀ x ∈ l, 0 ≤ x ∧ x < 4294967296
def wtr (l : List Int) : Prop := l = [] ∨ l.getD (l.length - 1) 0 ≠ 0
structure Wd (l : List Int) (n : Int) : Prop where
 ok : wok l
 tr : wtr l
 val : wval l = n
abbrev W32 (i : Nat) : Int := 4294967296 ^ i
theorem W32.succ (i : Nat) : W32 (i + 1) = W32 i * 4294967296 := Int.pow_succ _ _
theorem W32.pos (i : Nat) : 0 < W32 i := Int.pow_pos (by decide)
theorem W32.add (i j : Nat) : W32 (i + j) = W32 i * W32 j := Int.pow_add _ _ _
theorem W32.le {i j : Nat} (h : i ≤ j) : W32 i ≤ W32 j := by
 obtain ⟨d, rfl⟩ := Nat.le.dest h
 rw [W32.add]
 have := Int.mul_le_mul_of_nonneg_left (show (1 : Int) ≤ W32 d from W32.pos d) (Int.le_of_lt (W32.pos i))
 omega
theorem wok.tail {x : Int} {t : List Int} (h : wok (x :: t)) : wok t := fun y hy => h y (List.mem_cons_of_mem _ hy)
theorem wok.head {x : Int} {t : List Int} (h : wok (x :: t)) : 0 ≤ x ∧ x < 4294967296 := h x List.mem_cons_self
theorem wok.take {l : List Int} (h : wok l) (n : Nat) : wok (l.take n) := fun y hy => h y (List.mem_of_mem_take hy)
theorem wok.drop {l : List Int} (h : wok l) (n : Nat) : wok (l.drop n) := fun y hy => h y (List.mem_of_mem_drop hy)
theorem wok.at_ {l : List Int} (h : wok l) (i : Nat) : 0 ≤ l.getD i 0 ∧ l.getD i 0 < 4294967296 := by
 rw [List.getD_eq_getElem?_getD]
 rcases Nat.lt_or_ge i l.length with g | g
 ·
  rw [List.getElem?_eq_getElem g]; exact h _ (List.getElem_mem g)
 ·
  rw [List.getElem?_eq_none g]; exact ⟨Int.le_refl _, by decide⟩
theorem wok.set {l : List Int} (h : wok l) (i : Nat) {x : Int} (hx : 0 ≤ x ∧ x < 4294967296) : wok (l.set i x) := fun y hy => by
 rcases List.mem_or_eq_of_mem_set hy with g | g
 ·
  exact h y g
 ·
  rw [g]; exact hx
theorem wok.replicate (n : Nat) : wok (List.replicate n 0) := fun y hy => by rw [List.eq_of_mem_replicate hy]; exact ⟨Int.le_refl _, by decide⟩
theorem wval_nonneg : ∀ {l : List Int}, wok l → 0 ≤ wval l
 | [], _ => Int.le_refl _
 | x :: t, h => by have := wval_nonneg h.tail; have := h.head; simp only [wval]; omega
theorem wval_lt : ∀ {l : List Int}, wok l → wval l < W32 l.length
 | [], _ => by decide
 | x :: t, h => by
  have h1 := wval_lt h.tail
  have h2 := h.head
  simp only [wval, List.length_cons]
  rw [W32.succ]
  omega
theorem wval_append : ∀ (a b : List Int), wval (a ++ b) = wval a + W32 a.length * wval b
 | [], b => by simp [wval]
 | x :: t, b => by
  simp only [List.cons_append, wval, List.length_cons]
  rw [wval_append t b, W32.succ]
  grind
theorem wval_take (l : List Int) (i : Nat) (h : i < l.length) : wval (l.take (i + 1)) = wval (l.take i) + W32 i * l.getD i 0 := by
 rw [List.take_succ_eq_append_getElem h, wval_append, List.length_take, Nat.min_eq_left (by omega), List.getD_eq_getElem?_getD, List.getElem?_eq_getElem h, Option.getD_some]
 simp [wval]
theorem wval_take_over (l : List Int) (i : Nat) (h : l.length ≤ i) : wval (l.take i) = wval l := by rw [List.take_of_length_le h]
theorem wval_drop (l : List Int) (i : Nat) (h : i < l.length) : wval (l.drop i) = l.getD i 0 + 4294967296 * wval (l.drop (i + 1)) := by
 rw [List.drop_eq_getElem_cons h, List.getD_eq_getElem?_getD, List.getElem?_eq_getElem h, Option.getD_some]; rfl
theorem wval_split (l : List Int) (i : Nat) (h : i ≤ l.length) : wval l = wval (l.take i) + W32 i * wval (l.drop i) := by
 have := wval_append (l.take i) (l.drop i)
 rw [List.take_append_drop, List.length_take, Nat.min_eq_left h] at this
 exact this
theorem wval_zeros (n : Nat) : wval (List.replicate n 0) = 0 := by
 induction n with
 | zero => rfl
 | succ n ih => rw [List.replicate_succ]; simp only [wval, ih]; decide
theorem take_set_ge {α : Type} (l : List α) (i j : Nat) (x : α) (h : j ≤ i) : (l.set i x).take j = l.take j := by
 rw [List.take_set_of_le h]
theorem getD_set_eq (l : List Int) (i : Nat) (x : Int) (h : i < l.length) : (l.set i x).getD i 0 = x := by
 rw [List.getD_eq_getElem?_getD, List.getElem?_set_self h]; rfl
theorem getD_set_ne (l : List Int) (i j : Nat) (x : Int) (h : i ≠ j) : (l.set i x).getD j 0 = l.getD j 0 := by
 rw [List.getD_eq_getElem?_getD, List.getElem?_set_ne h, List.getD_eq_getElem?_getD]
theorem wval_take_set (l : List Int) (i : Nat) (x : Int) (h : i < l.length) : wval ((l.set i x).take (i + 1)) = wval (l.take i) + W32 i * x := by
 rw [wval_take _ _ (by rw [List.length_set]; exact h), take_set_ge _ _ _ _ (Nat.le_refl _), getD_set_eq _ _ _ h]
theorem Wd.pos {l : List Int} {n : Int} (h : Wd l n) : 0 ≤ n := h.val ▸ wval_nonneg h.ok
theorem Wd.lt {l : List Int} {n : Int} (h : Wd l n) : n < W32 l.length := h.val ▸ wval_lt h.ok
theorem wval_ge {l : List Int} (h : wok l) (ht : wtr l) (h0 : 0 < l.length) : W32 (l.length - 1) ≤ wval l := by
 rcases ht with rfl | ht
 ·
  simp at h0
 ·
  have h1 := wval_split l (l.length - 1) (by omega)
  rw [wval_drop l _ (by omega), List.drop_of_length_le (show l.length ≤ l.length - 1 + 1 by omega)] at h1
  have h2 := wval_nonneg (h.take (l.length - 1))
  have h3 := (h.at_ (l.length - 1)).1
  simp only [wval] at h1
  have h4 := Int.mul_le_mul_of_nonneg_left (show (1 : Int) ≤ l.getD (l.length - 1) 0 + 4294967296 * 0 by omega) (Int.le_of_lt (W32.pos (l.length - 1)))
  omega
theorem Wd.ge {l : List Int} {n : Int} (h : Wd l n) (h0 : 0 < l.length) : W32 (l.length - 1) ≤ n := h.val ▸ wval_ge h.ok h.tr h0
theorem Wd.len_le {l : List Int} {n : Int} (h : Wd l n) {m : Nat} (hn : n < W32 m) : l.length ≤ m := by
 rcases Nat.lt_or_ge m l.length with g | g
 ·
  have h1 := h.ge (by omega)
  have h2 := W32.le (show m ≤ l.length - 1 by omega)
  omega
 ·
  exact g
theorem Wd.len_lt {l l' : List Int} {n n' : Int} (h : Wd l n) (h' : Wd l' n') (g : l.length < l'.length) : n < n' := by
 have h1 := h.lt
 have h2 := h'.ge (by omega)
 have h3 := W32.le (show l.length ≤ l'.length - 1 by omega)
 omega
theorem Wd.zero : Wd [] 0 := ⟨fun _ h => by simp at h, .inl rfl, rfl⟩
theorem Wd.nil_iff {l : List Int} {n : Int} (h : Wd l n) : l.length = 0 ↔ n = 0 := by
 constructor
 ·
  intro g
  rw [List.length_eq_zero_iff] at g
  rw [← h.val, g]; rfl
 ·
  intro g
  have := h.len_le (m := 0) (by rw [g]; decide)
  omega
theorem wrd (l : List Int) (i : Nat) : rd l (i : Int) = l.getD i 0 := Eq.trans rfl rfl
theorem ww64 {a : Int} (h : -9223372036854775808 ≤ a ∧ a ≤ 9223372036854775807) : wrap64 a = a := IntWalk.wrap64_in _ h
theorem wu64 {a : Int} (h : 0 ≤ a ∧ a < 18446744073709551616) : IntKind.u64.wrap a = a := IntWalk.u64_in a ⟨h.1, by omega⟩
theorem WEv.ret {α : Type} {r r' : α} (e : r = r') : Ev (fun _ => some r) r' := e ▸ Ev.now r
theorem WEv.pos {α : Type} {c : Prop} [Decidable c] {f g : Nat → Option α} {r : α} (hc : c) (h : Ev f r) : Ev (fun k => if c then f k else g k) r := by simpa [hc] using h
theorem WEv.neg {α : Type} {c : Prop} [Decidable c] {f g : Nat → Option α} {r : α} (hc : ¬ c) (h : Ev g r) : Ev (fun k => if c then f k else g k) r := by simpa [hc] using h
theorem wor {r x : Int} (hr : 0 ≤ r ∧ r < 4294967296) (hx : 0 ≤ x ∧ x < 4294967296) : Go.bits .or .u64 (IntKind.u64.wrap (r * 4294967296)) (IntKind.u64.wrap x) = r * 4294967296 + x := by
 rw [wu64 (a := r * 4294967296) ⟨by omega, by omega⟩, wu64 (a := x) ⟨hx.1, by omega⟩]
 obtain ⟨a, rfl⟩ := Int.eq_ofNat_of_zero_le hr.1
 obtain ⟨c, rfl⟩ := Int.eq_ofNat_of_zero_le hx.1
 rw [show ((a : Int) * 4294967296) = ((2 ^ 32 * a : Nat) : Int) by omega, u64_or_nat _ _ (by omega) (by omega), ← Nat.two_pow_add_eq_or_of_lt (show c < 2 ^ 32 by omega)]
 omega
theorem wor' {r x : Int} (hr : 0 ≤ r ∧ r < 4294967296) (hx : 0 ≤ x ∧ x < 4294967296) : Go.bits .or .u64 (IntKind.u64.wrap x) (IntKind.u64.wrap (IntKind.u64.wrap r * 4294967296)) = r * 4294967296 + x := by
 rw [wu64 (a := r) ⟨hr.1, by omega⟩, wu64 (a := r * 4294967296) ⟨by omega, by omega⟩, wu64 (a := x) ⟨hx.1, by omega⟩]
 obtain ⟨a, rfl⟩ := Int.eq_ofNat_of_zero_le hr.1
 obtain ⟨c, rfl⟩ := Int.eq_ofNat_of_zero_le hx.1
 rw [show ((a : Int) * 4294967296) = ((2 ^ 32 * a : Nat) : Int) by omega, u64_or_nat _ _ (by omega) (by omega), Nat.or_comm, ← Nat.two_pow_add_eq_or_of_lt (show c < 2 ^ 32 by omega)]
 omega
def fpv (V v : Int) (lo n : Nat) : Int := V - V / 2 ^ lo % 2 ^ n * 2 ^ lo + v * 2 ^ lo

section
variable {P : Program} {ops : Array Oper} {o : Oper} {a : Act} {Q : Exit → Act → World → Prop} {W : World}
theorem seg.run {t : TypeId} {e : TypeId} {g : Nat} {cur new : Array Value} {u : Value} (i : Nat) (cs : List Value) (hu : u.cells.toList = cs) (ht : (P.info? t).map (·.size) = some cs.length) (h1 : ∀ q ∈ cs, q.oneCell' = true) (hh : W.heap[g]? = some (.cells cur e (0, 0))) (hsz : i + cs.length ≤ cur.size) (hnew : cur.toList.take i ++ cs ++ cur.toList.drop (i + cs.length) = new.toList) :
  (Instr.storeAt t (.pointer (some ⟨g, i, none⟩)) u).run P W = .ok () (W.setCells g i cs) ∧ (W.setCells g i cs).heap[g]? = some (.cells new e (0, 0)) ∧ W.grownBy (W.setCells g i cs) (some g) := by
 refine ⟨run_store_run t u cs hh hu ht hsz h1, ?_, ?_⟩
 ·
  obtain ⟨cur', h2, h3, h4⟩ := setCells_row cs i W cur hh hsz
  rw [h2]
  have : cur' = new := Array.toList_inj.1 (h4.trans hnew)
  rw [this]
 ·
  obtain ⟨q1, q2, q3, q4⟩ := setCells_same g cs i W
  exact ⟨q1, q2, q3, by rw [q4]; exact Nat.le_refl _, fun k _ hk => setCells_far _ _ k (fun h => hk (by rw [h]))⟩
theorem seg.list {rest : List Oper} (hN : o.dst = none) (hgd : o.guard = none) (t : TypeId) (p x : Operand) (ho : o.op = .store t p x) (e : TypeId) (g i : Nat) (cur new : Array Value) (cs : List Value) (haddr : a.eval p = .pointer (some ⟨g, i, none⟩)) (hu : (a.eval x).cells.toList = cs) (ht : (P.info? t).map (·.size) = some cs.length) (h1 : ∀ q ∈ cs, q.oneCell' = true) (hh : W.heap[g]? = some (.cells cur e (0, 0))) (hsz : i + cs.length ≤ cur.size) (hnew : cur.toList.take i ++ cs ++ cur.toList.drop (i + cs.length) = new.toList)
  (h : ∀ w1, w1.heap[g]? = some (.cells new e (0, 0)) → W.grownBy w1 (some g) → wpList P ops Q rest a w1) : wpList P ops Q (o :: rest) a W := by
 obtain ⟨hrun, hb, hg⟩ := seg.run (P := P) (t := t) i cs hu ht h1 hh hsz hnew
 refine wpList_plain hgd fun K hK => ?_
 unfold Oper.wp execOp
 simp only [ho, haddr, Sem.run_bind, Sem.run_pure, Result.andThen_ok, hrun]
 show K (a.put o.dst undef) _
 rw [hN]
 exact hK a _ (h _ hb hg)
theorem seg.step {Kc : Act → World → Prop} (hw : Region.wanted o (yielded ops a.tmps) = true) (hN : o.dst = none) (t : TypeId) (p x : Operand) (ho : o.op = .store t p x) (e : TypeId) (g i : Nat) (cur new : Array Value) (cs : List Value) (haddr : a.eval p = .pointer (some ⟨g, i, none⟩)) (hu : (a.eval x).cells.toList = cs) (ht : (P.info? t).map (·.size) = some cs.length) (h1 : ∀ q ∈ cs, q.oneCell' = true) (hh : W.heap[g]? = some (.cells cur e (0, 0))) (hsz : i + cs.length ≤ cur.size) (hnew : cur.toList.take i ++ cs ++ cur.toList.drop (i + cs.length) = new.toList)
  (h : ∀ w1, w1.heap[g]? = some (.cells new e (0, 0)) → W.grownBy w1 (some g) → Kc (a.put o.dst undef) w1) :
  if Region.wanted o (yielded ops a.tmps) = true then Oper.wp P o a W Kc Q else Kc (a.put o.dst undef) W := by
 obtain ⟨hrun, hb, hg⟩ := seg.run (P := P) (t := t) i cs hu ht h1 hh hsz hnew
 rw [if_pos hw]
 unfold Oper.wp execOp
 simp only [ho, haddr, Sem.run_bind, Sem.run_pure, Result.andThen_ok, hrun]
 exact h _ hb hg
end
theorem seg.below {w W w1 : World} {g : Nat} (h : Below w.heap.size w W) (hg : W.grownBy w1 (some g)) (hl : w.heap.size ≤ g) : Below w.heap.size w w1 := pw_below_grown h (some g) h.size hg (fun k hk => by cases hk; exact hl)
theorem seg.far {W w1 : World} {g h : Nat} {ob : Obj} (hb : W.heap[h]? = some ob) (hg : W.grownBy w1 (some g)) (hne : h ≠ g) : w1.heap[h]? = some ob := blk_grown hb hg (fun e => hne (Option.some.inj e))
theorem seg.R {α : Type} {d : Kd α} {e base : Nat} {ok : Nat → Prop} {W w1 : World} {v : Value} {xs : List α} {g : Nat} (h : d.R e W base ok v xs) (hg : W.grownBy w1 (some g)) (hok : ∀ k, ok k → k ≠ g) : d.R e w1 base ok v xs := Kd.R_grown h hg (fun k hk e => hok k hk (Option.some.inj e))

theorem w32b {x : Int} (h : 0 ≤ x ∧ x < 4294967296) : x % 4294967296 = x := Int.emod_eq_of_lt h.1 h.2
theorem wmulb {x m : Int} (hx : 0 ≤ x ∧ x < 4294967296) (hm : 0 ≤ m ∧ m < 4294967296) : 0 ≤ x * m ∧ x * m ≤ 18446744065119617025 := ⟨Int.mul_nonneg hx.1 hm.1, Int.mul_le_mul (show x ≤ 4294967295 by omega) (show m ≤ 4294967295 by omega) hm.1 (by decide)⟩
def upC (f : Int → Int → Int) (w0 w1 w2 c : Int) : Nat → Int
 | 0 => c
 | 1 => f w0 c / 4294967296
 | 2 => f w1 (f w0 c / 4294967296) / 4294967296
 | _ => f w2 (f w1 (f w0 c / 4294967296) / 4294967296) / 4294967296
def upB (f : Int → Int → Int) (w0 w1 w2 c : Int) : Nat → Array Value
 | 0 => #[.int .u32 w0, .int .u32 w1, .int .u32 w2]
 | 1 => #[.int .u32 (f w0 c % 4294967296), .int .u32 w1, .int .u32 w2]
 | 2 => #[.int .u32 (f w0 c % 4294967296), .int .u32 (f w1 (upC f w0 w1 w2 c 1) % 4294967296), .int .u32 w2]
 | _ => #[.int .u32 (f w0 c % 4294967296), .int .u32 (f w1 (upC f w0 w1 w2 c 1) % 4294967296), .int .u32 (f w2 (upC f w0 w1 w2 c 2) % 4294967296)]
theorem upC_step (f : Int → Int → Int) (w0 w1 w2 c : Int) (i : Nat) (hi : i < 3) : upC f w0 w1 w2 c (i + 1) = f ([w0, w1, w2].getD i 0) (upC f w0 w1 w2 c i) / 4294967296 := by
 match i, hi with
 | 0, _ => rfl
 | 1, _ => rfl
 | 2, _ => rfl
theorem upB_at (f : Int → Int → Int) (w0 w1 w2 c : Int) (i : Nat) (hi : i < 3) : (upB f w0 w1 w2 c i)[i]? = some (.int .u32 ([w0, w1, w2].getD i 0)) := by
 match i, hi with
 | 0, _ => rfl
 | 1, _ => rfl
 | 2, _ => rfl
theorem upB_step (f : Int → Int → Int) (w0 w1 w2 c : Int) (i : Nat) (hi : i < 3) : (upB f w0 w1 w2 c i).setIfInBounds i (.int .u32 (f ([w0, w1, w2].getD i 0) (upC f w0 w1 w2 c i) % 4294967296)) = upB f w0 w1 w2 c (i + 1) := by
 match i, hi with
 | 0, _ => rfl
 | 1, _ => rfl
 | 2, _ => rfl
theorem w3_at {w0 w1 w2 : Int} (h0 : 0 ≤ w0 ∧ w0 < 4294967296) (h1 : 0 ≤ w1 ∧ w1 < 4294967296) (h2 : 0 ≤ w2 ∧ w2 < 4294967296) (i : Nat) (hi : i < 3) : 0 ≤ [w0, w1, w2].getD i 0 ∧ [w0, w1, w2].getD i 0 < 4294967296 := by
 match i, hi with
 | 0, _ => exact h0
 | 1, _ => exact h1
 | 2, _ => exact h2
theorem upC_bd (f : Int → Int → Int) (hf : ∀ x c, (0 ≤ x ∧ x < 4294967296) → (0 ≤ c ∧ c < 4294967296) → 0 ≤ f x c ∧ f x c < 18446744073709551616) {w0 w1 w2 c : Int} (h0 : 0 ≤ w0 ∧ w0 < 4294967296) (h1 : 0 ≤ w1 ∧ w1 < 4294967296) (h2 : 0 ≤ w2 ∧ w2 < 4294967296) (hc : 0 ≤ c ∧ c < 4294967296) : ∀ i, i ≤ 3 → 0 ≤ upC f w0 w1 w2 c i ∧ upC f w0 w1 w2 c i < 4294967296
 | 0, _ => hc
 | i + 1, hi => by
  rw [upC_step f w0 w1 w2 c i (by omega)]
  have := hf _ _ (w3_at h0 h1 h2 i (by omega)) (upC_bd f hf h0 h1 h2 hc i (by omega))
  omega

set_option maxHeartbeats 4000000 in
theorem words_Times1.calls (w : World) (x c m : Int) (g : Nat) (hg : w.cell? ⟨g, 0, none⟩ = some (.int .u32 m)) (hx : 0 ≤ x ∧ x < 4294967296) (hc : 0 ≤ c ∧ c < 4294967296) (hm : 0 ≤ m ∧ m < 4294967296) :
  Calls Tryz.prog 125 #[.int .u32 x, .int .u32 c, .pointer (some ⟨g, 0, none⟩)] w fun e w' => e = .returned (.tuple #[.int .u32 ((x * m + c) % 4294967296), .int .u32 ((x * m + c) / 4294967296)]) ∧ w' = w := by
 obtain ⟨b0, b1⟩ := wmulb hx hm
 obtain ⟨q, hq⟩ : ∃ q, x * m = q := ⟨_, rfl⟩
 rw [hq] at b0 b1 ⊢
 have e1 : IntKind.u64.wrap (IntKind.u64.wrap x * IntKind.u64.wrap m) = q := by rw [wu64 (a := x) ⟨hx.1, by omega⟩, wu64 (a := m) ⟨hm.1, by omega⟩, hq, wu64 ⟨b0, by omega⟩]
 have e2 : IntKind.u64.wrap (q % 4294967296 + IntKind.u64.wrap c) = q % 4294967296 + c := by rw [wu64 (a := c) ⟨hc.1, by omega⟩, wu64 ⟨by omega, by omega⟩]
 have HX := am (And.intro hc (And.intro b0 (And.intro b1 e2)))
 clear hx hc hm hq b0 b1 e2
 go_enter Tryz.func125, Tryz.ntmps125
 go_wp2
 go_ret2
 refine ⟨?_, rfl⟩
 obtain ⟨hc, b0, b1, e2⟩ := HX.out
 have z0 : IntKind.u64.wrap 0 = 0 := by decide
 have e3 : IntKind.u64.wrap (q % 4294967296 + c) = q % 4294967296 + c := wu64 ⟨by omega, by omega⟩
 have e4 : (q % 4294967296 + c) % 4294967296 = (q + c) % 4294967296 := by omega
 have e6 : (q / 4294967296 + (q % 4294967296 + c) / 4294967296) % 4294967296 = (q + c) / 4294967296 := by omega
 have e7 : q / 4294967296 % 4294967296 = q / 4294967296 := by omega
 have e8 : (q % 4294967296 + c) / 4294967296 % 4294967296 = (q % 4294967296 + c) / 4294967296 := by omega
 simp
 rw [e2, e3, e4]
 exact ⟨rfl, by first | exact e6 | (rw [e7, e8]; exact e6)⟩
theorem words_up.times (w : World) (w0 w1 w2 c m : Int) (gm : Nat) (hgm : w.heap[gm]? = some (.cells #[.int .u32 m] 84 (0, 0))) (h0 : 0 ≤ w0 ∧ w0 < 4294967296) (h1 : 0 ≤ w1 ∧ w1 < 4294967296) (h2 : 0 ≤ w2 ∧ w2 < 4294967296) (hc : 0 ≤ c ∧ c < 4294967296) (hm : 0 ≤ m ∧ m < 4294967296) :
  Calls Tryz.prog 124 #[.agg #[.int .u32 w0, .int .u32 w1, .int .u32 w2], .int .u32 c, .func (.func 125) #[] #[.pointer (some ⟨gm, 0, none⟩)]] w fun e w' => e = .returned (.tuple #[.agg (upB (fun x c => x * m + c) w0 w1 w2 c 3), .int .u32 (upC (fun x c => x * m + c) w0 w1 w2 c 3)]) ∧ Below w.heap.size w w' := by
 have hu63 := Tryz.underlying86
 have HCB := am (upC_bd (fun x c => x * m + c) (fun x c hx hc => ⟨by have := wmulb hx hm; omega, by have := wmulb hx hm; omega⟩) h0 h1 h2 hc)
 have HW := am (w3_at h0 h1 h2)
 have B2 := blk_alloc (blk_new w (.cells #[.int .u32 w0, .int .u32 w1, .int .u32 w2] 86)) (.cells #[.int .u32 0, .int .u32 0, .int .u32 0] 86)
 have B4 := blk_new (w.alloc (.cells #[.int .u32 w0, .int .u32 w1, .int .u32 w2] 86)) (.cells #[.int .u32 0, .int .u32 0, .int .u32 0] 86)
 have hb2 := below_alloc (below_alloc (Below.refl w.heap.size w) (.cells #[.int .u32 w0, .int .u32 w1, .int .u32 w2] 86)) (.cells #[.int .u32 0, .int .u32 0, .int .u32 0] 86)
 rw [World.size_alloc] at B4
 clear h0 h1 h2 hc
 go_enter Tryz.func124, Tryz.ntmps124
 go_wp2
 go_loopg [1, 9] 3 (fun kq v1 v9 w' => ∃ i : Nat, v1 = .int .u32 (upC (fun x c => x * m + c) w0 w1 w2 c i) ∧ v9 = .int .i64 (i : Int) ∧ i ≤ 3 ∧ kq = 3 - i ∧ Aside0 (w'.heap[w.heap.size]? = some (.cells (upB (fun x c => x * m + c) w0 w1 w2 c i) 86 (0, 0))) ∧ Aside0 (w'.heap[w.heap.size + 1]? = some (.cells #[.int .u32 0, .int .u32 0, .int .u32 0] 86 (0, 0))) ∧ Aside0 (Below w.heap.size w w'))
 case atStart => exact ⟨0, rfl, rfl, by decide, rfl, ⟨B2⟩, ⟨B4⟩, ⟨hb2⟩⟩
 case round =>
  clear B2 B4 hb2
  obtain ⟨i, rfl, rfl, hi, rfl, B2, B4, HB⟩ := hrel
  by_cases hlt : i < 3
  ·
   have hltb : decide (i < 3) = true := decide_eq_true hlt
   have hcb := HCB.out i hi
   have hwb := HW.out i hlt
   obtain ⟨x, hx⟩ : ∃ x, [w0, w1, w2].getD i 0 = x := ⟨_, rfl⟩
   obtain ⟨ci, hci⟩ : ∃ ci, upC (fun x c => x * m + c) w0 w1 w2 c i = ci := ⟨_, rfl⟩
   have hc3 : wr.cell? ⟨w.heap.size, i, none⟩ = some (.int .u32 x) := by rw [blk_cell B2.out i, upB_at _ _ _ _ _ i hlt, hx]
   have hf3 := blk_frozen B2.out i
   rw [hx] at hwb
   rw [hci] at hcb ⊢
   have HXC := am (And.intro hx hci)
   have HBD := am (And.intro hwb hcb)
   clear hx hci hwb hcb
   go_wp2_with (go_at_call 125; refine (words_Times1.calls _ x ci m gm ((blk_cell (blk_below hgm HB.out) 0).trans rfl) HBD.out.1 HBD.out.2 hm).mono ?_; rintro e wq ⟨rfl, rfl⟩)
   go_roundg (3 - (i + 1))
   case measure => omega
   case rel =>
    refine ⟨i + 1, by rw [upC_step _ _ _ _ _ i hlt, HXC.out.1, HXC.out.2], by first | rfl | simp, by omega, rfl, ⟨?_⟩, ⟨blk_far B4.out (p := ⟨w.heap.size, i, none⟩) (by simp) _⟩, ⟨below_set HB.out (Nat.le_refl _)⟩⟩
    rw [← upB_step _ _ _ _ _ i hlt, HXC.out.1, HXC.out.2]
    exact blk_set B2.out i _
  ·
   have hltb : decide (i < 3) = false := decide_eq_false hlt
   obtain rfl : i = 3 := by omega
   obtain ⟨e0, e1, e2, hE⟩ : ∃ e0 e1 e2, upB (fun x c => x * m + c) w0 w1 w2 c 3 = #[e0, e1, e2] ∧ e0.oneCell' = true ∧ e1.oneCell' = true ∧ e2.oneCell' = true := ⟨_, _, _, rfl, rfl, rfl, rfl⟩
   obtain ⟨hE, o0, o1, o2⟩ := hE
   rw [hE] at B2
   have HE := am hE
   have x0 : wr.cell? ⟨w.heap.size, 0, none⟩ = some e0 := (blk_cell B2.out 0).trans rfl
   have x1 : wr.cell? ⟨w.heap.size, 1, none⟩ = some e1 := (blk_cell B2.out 1).trans rfl
   have x2 : wr.cell? ⟨w.heap.size, 2, none⟩ = some e2 := (blk_cell B2.out 2).trans rfl
   have O := am (And.intro o0 (And.intro o1 o2))
   clear o0 o1 o2 hE
   go_wp2_with ((with_reducible refine gate_store (t := 86) (p := 6) rfl ?_); refine seg.list rfl rfl 86 (.tmp 6) _ rfl 86 (w.heap.size + 1) 0 #[.int .u32 0, .int .u32 0, .int .u32 0] #[e0, e1, e2] [e0, e1, e2] rfl rfl (by kernel_rfl) (by simp [O.out.1, O.out.2.1, O.out.2.2]) B4.out (by simp) rfl ?_; intro w9 bx hgr)
   refine bodyPost_ret (results_ct (p := 6) (u := 7) rfl _ w9 (w.heap.size + 1) 86 _ (0, 0) _ rfl bx Tryz.underlying86 rfl (by kernel_rfl)) rfl ?_
   exact ⟨by rw [HE.out]; rfl, seg.below HB.out hgr (Nat.le_succ _)⟩
theorem up_times (w0 w1 w2 m : Int) (h0 : 0 ≤ w0 ∧ w0 < 4294967296) (h1 : 0 ≤ w1 ∧ w1 < 4294967296) (h2 : 0 ≤ w2 ∧ w2 < 4294967296) (hm : 0 ≤ m ∧ m < 4294967296) : upB (fun x c => x * m + c) w0 w1 w2 0 3 = #[.int .u32 ((wval [w0, w1, w2] * m) % 4294967296), .int .u32 ((wval [w0, w1, w2] * m) / 4294967296 % 4294967296), .int .u32 ((wval [w0, w1, w2] * m) / 18446744073709551616 % 4294967296)] ∧ upC (fun x c => x * m + c) w0 w1 w2 0 3 = (wval [w0, w1, w2] * m) / 79228162514264337593543950336 % 4294967296 := by
 have b0 := wmulb h0 hm
 have b1 := wmulb h1 hm
 have b2 := wmulb h2 hm
 have e : wval [w0, w1, w2] * m = w0 * m + 4294967296 * (w1 * m) + 18446744073709551616 * (w2 * m) := by simp only [wval]; grind
 rw [e]
 simp only [upB, upC]
 generalize w0 * m = p0 at *
 generalize w1 * m = p1 at *
 generalize w2 * m = p2 at *
 rw [show (p0 + 0) % 4294967296 = (p0 + 4294967296 * p1 + 18446744073709551616 * p2) % 4294967296 by omega, show (p1 + (p0 + 0) / 4294967296) % 4294967296 = (p0 + 4294967296 * p1 + 18446744073709551616 * p2) / 4294967296 % 4294967296 by omega, show (p2 + (p1 + (p0 + 0) / 4294967296) / 4294967296) % 4294967296 = (p0 + 4294967296 * p1 + 18446744073709551616 * p2) / 18446744073709551616 % 4294967296 by omega]
 exact ⟨rfl, by omega⟩
set_option maxHeartbeats 4000000 in
set_option maxRecDepth 100000 in
theorem words_Times.at_ (w : World) (w0 w1 w2 m : Int) (h0 : 0 ≤ w0 ∧ w0 < 4294967296) (h1 : 0 ≤ w1 ∧ w1 < 4294967296) (h2 : 0 ≤ w2 ∧ w2 < 4294967296) (hm : 0 ≤ m ∧ m < 4294967296) :
  Calls Tryz.prog 89 #[.agg #[.int .u32 w0, .int .u32 w1, .int .u32 w2], .int .u32 m] w fun e w' => e = .returned (.tuple #[.agg #[.int .u32 ((wval [w0, w1, w2] * m) % 4294967296), .int .u32 ((wval [w0, w1, w2] * m) / 4294967296 % 4294967296), .int .u32 ((wval [w0, w1, w2] * m) / 18446744073709551616 % 4294967296)], .int .u32 ((wval [w0, w1, w2] * m) / 79228162514264337593543950336 % 4294967296)]) ∧ Below w.heap.size w w' := by
 have hu63 := Tryz.underlying86
 obtain ⟨e1, e2⟩ := up_times w0 w1 w2 m h0 h1 h2 hm
 have B0 := blk_alloc (blk_alloc (blk_new w (.cells #[.int .u32 w0, .int .u32 w1, .int .u32 w2] 86)) (.cells #[.int .u32 m] 84)) (.cells #[.int .u32 0, .int .u32 0, .int .u32 0] 86)
 have B1 := blk_alloc (blk_new (w.alloc (.cells #[.int .u32 w0, .int .u32 w1, .int .u32 w2] 86)) (.cells #[.int .u32 m] 84)) (.cells #[.int .u32 0, .int .u32 0, .int .u32 0] 86)
 rw [World.size_alloc] at B1
 have B2 := blk_new ((w.alloc (.cells #[.int .u32 w0, .int .u32 w1, .int .u32 w2] 86)).alloc (.cells #[.int .u32 m] 84)) (.cells #[.int .u32 0, .int .u32 0, .int .u32 0] 86)
 rw [World.size_alloc, World.size_alloc] at B2
 have HB := am (below_alloc (below_alloc (below_alloc (Below.refl w.heap.size w) (.cells #[.int .u32 w0, .int .u32 w1, .int .u32 w2] 86)) (.cells #[.int .u32 m] 84)) (.cells #[.int .u32 0, .int .u32 0, .int .u32 0] 86))
 have HB0 := am B0
 have HB1 := am B1
 have HB2 := am B2
 clear B0 B1 B2
 have HU := am (words_up.times (((w.alloc (.cells #[.int .u32 w0, .int .u32 w1, .int .u32 w2] 86)).alloc (.cells #[.int .u32 m] 84)).alloc (.cells #[.int .u32 0, .int .u32 0, .int .u32 0] 86)) w0 w1 w2 0 m (w.heap.size + 1) HB1.out h0 h1 h2 (by decide) hm)
 rw [e1, e2] at HU
 clear h0 h1 h2 hm e1 e2
 go_enter Tryz.func89, Tryz.ntmps89
 go_wp2_with (first | (go_at_call 124; refine HU.out.mono ?_; rintro e wq ⟨rfl, hb⟩; have HBB := am (below_then HB.out HB.out.size hb); have HBR := am (blk_below HB2.out hb); clear hb) | ((with_reducible refine gate_store (t := 86) (p := 4) rfl ?_); refine seg.list rfl rfl 86 (.tmp 4) _ rfl 86 (w.heap.size + 1 + 1) 0 #[.int .u32 0, .int .u32 0, .int .u32 0] #[.int .u32 ((wval [w0, w1, w2] * m) % 4294967296), .int .u32 ((wval [w0, w1, w2] * m) / 4294967296 % 4294967296), .int .u32 ((wval [w0, w1, w2] * m) / 18446744073709551616 % 4294967296)] [.int .u32 ((wval [w0, w1, w2] * m) % 4294967296), .int .u32 ((wval [w0, w1, w2] * m) / 4294967296 % 4294967296), .int .u32 ((wval [w0, w1, w2] * m) / 18446744073709551616 % 4294967296)] rfl rfl (by kernel_rfl) (by simp [Value.oneCell']) HBR.out (by simp) rfl ?_; intro w9 bx hgr))
 refine bodyPost_ret (results_ct (p := 4) (u := 5) rfl _ w9 (w.heap.size + 1 + 1) 86 _ (0, 0) _ rfl bx Tryz.underlying86 rfl (by kernel_rfl)) rfl ?_
 exact ⟨rfl, seg.below HBB.out hgr (by omega)⟩

/-! ### words_Times: function 89 (by hand) -/
def words_Times.f (a0_0 : Int) (a0_1 : Int) (a0_2 : Int) (a1 : Int) : Option (Int × Int × Int × Int) := if (0 ≤ a0_0 ∧ a0_0 < 4294967296) ∧ (0 ≤ a0_1 ∧ a0_1 < 4294967296) ∧ (0 ≤ a0_2 ∧ a0_2 < 4294967296) ∧ (0 ≤ a1 ∧ a1 < 4294967296) then some ((wval [a0_0, a0_1, a0_2] * a1) % 4294967296, (wval [a0_0, a0_1, a0_2] * a1) / 4294967296 % 4294967296, (wval [a0_0, a0_1, a0_2] * a1) / 18446744073709551616 % 4294967296, (wval [a0_0, a0_1, a0_2] * a1) / 79228162514264337593543950336 % 4294967296) else none
theorem words_Times.calls (a0_0 : Int) (a0_1 : Int) (a0_2 : Int) (a1 : Int) (r1 : Int) (r2 : Int) (r3 : Int) (r4 : Int) (w : World) (h : words_Times.f a0_0 a0_1 a0_2 a1 = some (r1, r2, r3, r4)) :
  Calls Tryz.prog 89 #[.agg #[.int .u32 a0_0, .int .u32 a0_1, .int .u32 a0_2], .int .u32 a1] w fun e w' => e = .returned (.tuple #[.agg #[.int .u32 r1, .int .u32 r2, .int .u32 r3], .int .u32 r4]) ∧ Below w.heap.size w w' := by
 unfold words_Times.f at h
 split at h
 ·
  rename_i hc
  simp only [Option.some.injEq, Prod.mk.injEq] at h
  obtain ⟨rfl, rfl, rfl, rfl⟩ := h
  exact words_Times.at_ w a0_0 a0_1 a0_2 a1 hc.1 hc.2.1 hc.2.2.1 hc.2.2.2
 ·
  cases h

-- NOT PRINTED: function 128 (words_Plus_1)

set_option maxHeartbeats 4000000 in
theorem words_Plus1.calls (w : World) (x c : Int) (hx : 0 ≤ x ∧ x < 4294967296) (hc : 0 ≤ c ∧ c < 4294967296) :
  Calls Tryz.prog 128 #[.int .u32 x, .int .u32 c] w fun e w' => e = .returned (.tuple #[.int .u32 ((x + c) % 4294967296), .int .u32 ((x + c) / 4294967296)]) ∧ w' = w := by
 have e1 : IntKind.u64.wrap (IntKind.u64.wrap x + IntKind.u64.wrap c) = x + c := by rw [wu64 (a := x) ⟨hx.1, by omega⟩, wu64 (a := c) ⟨hc.1, by omega⟩, wu64 ⟨by omega, by omega⟩]
 have E1 := am e1
 have HX := am (And.intro hx hc)
 clear e1 hx hc
 go_enter Tryz.func128, Tryz.ntmps128
 go_wp2
 go_ret2
 refine ⟨?_, rfl⟩
 obtain ⟨hx, hc⟩ := HX.out
 have e2 : (x + c) / 4294967296 % 4294967296 = (x + c) / 4294967296 := w32b ⟨by omega, by omega⟩
 have e1 := E1.out
 have z0 : IntKind.u64.wrap 0 = 0 := by decide
 have e3 : IntKind.u64.wrap (x + c) = x + c := wu64 ⟨by omega, by omega⟩
 simp [e1, e2, e3, z0]

theorem words_up.plus (w : World) (w0 w1 w2 c : Int) (h0 : 0 ≤ w0 ∧ w0 < 4294967296) (h1 : 0 ≤ w1 ∧ w1 < 4294967296) (h2 : 0 ≤ w2 ∧ w2 < 4294967296) (hc : 0 ≤ c ∧ c < 4294967296) :
  Calls Tryz.prog 124 #[.agg #[.int .u32 w0, .int .u32 w1, .int .u32 w2], .int .u32 c, .func (.func 128) #[] #[]] w fun e w' => e = .returned (.tuple #[.agg (upB (fun x c => x + c) w0 w1 w2 c 3), .int .u32 (upC (fun x c => x + c) w0 w1 w2 c 3)]) ∧ Below w.heap.size w w' := by
 have hu63 := Tryz.underlying86
 have HCB := am (upC_bd (fun x c => x + c) (fun x c hx hc => ⟨by omega, by omega⟩) h0 h1 h2 hc)
 have HW := am (w3_at h0 h1 h2)
 have B2 := blk_alloc (blk_new w (.cells #[.int .u32 w0, .int .u32 w1, .int .u32 w2] 86)) (.cells #[.int .u32 0, .int .u32 0, .int .u32 0] 86)
 have B4 := blk_new (w.alloc (.cells #[.int .u32 w0, .int .u32 w1, .int .u32 w2] 86)) (.cells #[.int .u32 0, .int .u32 0, .int .u32 0] 86)
 have hb2 := below_alloc (below_alloc (Below.refl w.heap.size w) (.cells #[.int .u32 w0, .int .u32 w1, .int .u32 w2] 86)) (.cells #[.int .u32 0, .int .u32 0, .int .u32 0] 86)
 rw [World.size_alloc] at B4
 clear h0 h1 h2 hc
 go_enter Tryz.func124, Tryz.ntmps124
 go_wp2
 go_loopg [1, 9] 3 (fun kq v1 v9 w' => ∃ i : Nat, v1 = .int .u32 (upC (fun x c => x + c) w0 w1 w2 c i) ∧ v9 = .int .i64 (i : Int) ∧ i ≤ 3 ∧ kq = 3 - i ∧ Aside0 (w'.heap[w.heap.size]? = some (.cells (upB (fun x c => x + c) w0 w1 w2 c i) 86 (0, 0))) ∧ Aside0 (w'.heap[w.heap.size + 1]? = some (.cells #[.int .u32 0, .int .u32 0, .int .u32 0] 86 (0, 0))) ∧ Aside0 (Below w.heap.size w w'))
 case atStart => exact ⟨0, rfl, rfl, by decide, rfl, ⟨B2⟩, ⟨B4⟩, ⟨hb2⟩⟩
 case round =>
  clear B2 B4 hb2
  obtain ⟨i, rfl, rfl, hi, rfl, B2, B4, HB⟩ := hrel
  by_cases hlt : i < 3
  ·
   have hltb : decide (i < 3) = true := decide_eq_true hlt
   have hcb := HCB.out i hi
   have hwb := HW.out i hlt
   obtain ⟨x, hx⟩ : ∃ x, [w0, w1, w2].getD i 0 = x := ⟨_, rfl⟩
   obtain ⟨ci, hci⟩ : ∃ ci, upC (fun x c => x + c) w0 w1 w2 c i = ci := ⟨_, rfl⟩
   have hc3 : wr.cell? ⟨w.heap.size, i, none⟩ = some (.int .u32 x) := by rw [blk_cell B2.out i, upB_at _ _ _ _ _ i hlt, hx]
   have hf3 := blk_frozen B2.out i
   rw [hx] at hwb
   rw [hci] at hcb ⊢
   have HXC := am (And.intro hx hci)
   have HBD := am (And.intro hwb hcb)
   clear hx hci hwb hcb
   go_wp2_with (go_at_call 128; refine (words_Plus1.calls _ x ci HBD.out.1 HBD.out.2).mono ?_; rintro e wq ⟨rfl, rfl⟩)
   go_roundg (3 - (i + 1))
   case measure => omega
   case rel =>
    refine ⟨i + 1, by rw [upC_step _ _ _ _ _ i hlt, HXC.out.1, HXC.out.2], by first | rfl | simp, by omega, rfl, ⟨?_⟩, ⟨blk_far B4.out (p := ⟨w.heap.size, i, none⟩) (by simp) _⟩, ⟨below_set HB.out (Nat.le_refl _)⟩⟩
    rw [← upB_step _ _ _ _ _ i hlt, HXC.out.1, HXC.out.2]
    exact blk_set B2.out i _
  ·
   have hltb : decide (i < 3) = false := decide_eq_false hlt
   obtain rfl : i = 3 := by omega
   obtain ⟨e0, e1, e2, hE⟩ : ∃ e0 e1 e2, upB (fun x c => x + c) w0 w1 w2 c 3 = #[e0, e1, e2] ∧ e0.oneCell' = true ∧ e1.oneCell' = true ∧ e2.oneCell' = true := ⟨_, _, _, rfl, rfl, rfl, rfl⟩
   obtain ⟨hE, o0, o1, o2⟩ := hE
   rw [hE] at B2
   have HE := am hE
   have x0 : wr.cell? ⟨w.heap.size, 0, none⟩ = some e0 := (blk_cell B2.out 0).trans rfl
   have x1 : wr.cell? ⟨w.heap.size, 1, none⟩ = some e1 := (blk_cell B2.out 1).trans rfl
   have x2 : wr.cell? ⟨w.heap.size, 2, none⟩ = some e2 := (blk_cell B2.out 2).trans rfl
   have O := am (And.intro o0 (And.intro o1 o2))
   clear o0 o1 o2 hE
   go_wp2_with ((with_reducible refine gate_store (t := 86) (p := 6) rfl ?_); refine seg.list rfl rfl 86 (.tmp 6) _ rfl 86 (w.heap.size + 1) 0 #[.int .u32 0, .int .u32 0, .int .u32 0] #[e0, e1, e2] [e0, e1, e2] rfl rfl (by kernel_rfl) (by simp [O.out.1, O.out.2.1, O.out.2.2]) B4.out (by simp) rfl ?_; intro w9 bx hgr)
   refine bodyPost_ret (results_ct (p := 6) (u := 7) rfl _ w9 (w.heap.size + 1) 86 _ (0, 0) _ rfl bx Tryz.underlying86 rfl (by kernel_rfl)) rfl ?_
   exact ⟨by rw [HE.out]; rfl, seg.below HB.out hgr (Nat.le_succ _)⟩
theorem up_plus (w0 w1 w2 a : Int) (h0 : 0 ≤ w0 ∧ w0 < 4294967296) (h1 : 0 ≤ w1 ∧ w1 < 4294967296) (h2 : 0 ≤ w2 ∧ w2 < 4294967296) (ha : 0 ≤ a ∧ a < 4294967296) : upB (fun x c => x + c) w0 w1 w2 a 3 = #[.int .u32 ((wval [w0, w1, w2] + a) % 4294967296), .int .u32 ((wval [w0, w1, w2] + a) / 4294967296 % 4294967296), .int .u32 ((wval [w0, w1, w2] + a) / 18446744073709551616 % 4294967296)] ∧ upC (fun x c => x + c) w0 w1 w2 a 3 = (wval [w0, w1, w2] + a) / 79228162514264337593543950336 % 4294967296 := by
 have e : wval [w0, w1, w2] + a = w0 + 4294967296 * w1 + 18446744073709551616 * w2 + a := by simp only [wval]; omega
 rw [e]
 simp only [upB, upC]
 rw [show (w0 + a) % 4294967296 = (w0 + 4294967296 * w1 + 18446744073709551616 * w2 + a) % 4294967296 by omega, show (w1 + (w0 + a) / 4294967296) % 4294967296 = (w0 + 4294967296 * w1 + 18446744073709551616 * w2 + a) / 4294967296 % 4294967296 by omega, show (w2 + (w1 + (w0 + a) / 4294967296) / 4294967296) % 4294967296 = (w0 + 4294967296 * w1 + 18446744073709551616 * w2 + a) / 18446744073709551616 % 4294967296 by omega]
 exact ⟨rfl, by omega⟩
set_option maxHeartbeats 4000000 in
set_option maxRecDepth 100000 in
theorem words_Plus.at_ (w : World) (w0 w1 w2 a : Int) (h0 : 0 ≤ w0 ∧ w0 < 4294967296) (h1 : 0 ≤ w1 ∧ w1 < 4294967296) (h2 : 0 ≤ w2 ∧ w2 < 4294967296) (ha : 0 ≤ a ∧ a < 4294967296) :
  Calls Tryz.prog 90 #[.agg #[.int .u32 w0, .int .u32 w1, .int .u32 w2], .int .u32 a] w fun e w' => e = .returned (.tuple #[.agg #[.int .u32 ((wval [w0, w1, w2] + a) % 4294967296), .int .u32 ((wval [w0, w1, w2] + a) / 4294967296 % 4294967296), .int .u32 ((wval [w0, w1, w2] + a) / 18446744073709551616 % 4294967296)], .int .u32 ((wval [w0, w1, w2] + a) / 79228162514264337593543950336 % 4294967296)]) ∧ Below w.heap.size w w' := by
 have hu63 := Tryz.underlying86
 obtain ⟨e1, e2⟩ := up_plus w0 w1 w2 a h0 h1 h2 ha
 have B0 := blk_alloc (blk_new w (.cells #[.int .u32 w0, .int .u32 w1, .int .u32 w2] 86)) (.cells #[.int .u32 0, .int .u32 0, .int .u32 0] 86)
 have B1 := blk_new (w.alloc (.cells #[.int .u32 w0, .int .u32 w1, .int .u32 w2] 86)) (.cells #[.int .u32 0, .int .u32 0, .int .u32 0] 86)
 rw [World.size_alloc] at B1
 have HB := am (below_alloc (below_alloc (Below.refl w.heap.size w) (.cells #[.int .u32 w0, .int .u32 w1, .int .u32 w2] 86)) (.cells #[.int .u32 0, .int .u32 0, .int .u32 0] 86))
 have HB0 := am B0
 have HB1 := am B1
 clear B0 B1
 have HU := am (words_up.plus ((w.alloc (.cells #[.int .u32 w0, .int .u32 w1, .int .u32 w2] 86)).alloc (.cells #[.int .u32 0, .int .u32 0, .int .u32 0] 86)) w0 w1 w2 a h0 h1 h2 ha)
 rw [e1, e2] at HU
 clear h0 h1 h2 ha e1 e2
 go_enter Tryz.func90, Tryz.ntmps90
 go_wp2_with (first | (go_at_call 124; refine HU.out.mono ?_; rintro e wq ⟨rfl, hb⟩; have HB2 := am (below_then HB.out HB.out.size hb); have HBR := am (blk_below HB1.out hb); clear hb) | ((with_reducible refine gate_store (t := 86) (p := 4) rfl ?_); refine seg.list rfl rfl 86 (.tmp 4) _ rfl 86 (w.heap.size + 1) 0 #[.int .u32 0, .int .u32 0, .int .u32 0] #[.int .u32 ((wval [w0, w1, w2] + a) % 4294967296), .int .u32 ((wval [w0, w1, w2] + a) / 4294967296 % 4294967296), .int .u32 ((wval [w0, w1, w2] + a) / 18446744073709551616 % 4294967296)] [.int .u32 ((wval [w0, w1, w2] + a) % 4294967296), .int .u32 ((wval [w0, w1, w2] + a) / 4294967296 % 4294967296), .int .u32 ((wval [w0, w1, w2] + a) / 18446744073709551616 % 4294967296)] rfl rfl (by kernel_rfl) (by simp [Value.oneCell']) HBR.out (by simp) rfl ?_; intro w9 bx hgr))
 refine bodyPost_ret (results_ct (p := 4) (u := 5) rfl _ w9 (w.heap.size + 1) 86 _ (0, 0) _ rfl bx Tryz.underlying86 rfl (by kernel_rfl)) rfl ?_
 exact ⟨rfl, seg.below HB2.out hgr (by omega)⟩

/-! ### words_Plus: function 90 (by hand) -/
def words_Plus.f (a0_0 : Int) (a0_1 : Int) (a0_2 : Int) (a1 : Int) : Option (Int × Int × Int × Int) := if (0 ≤ a0_0 ∧ a0_0 < 4294967296) ∧ (0 ≤ a0_1 ∧ a0_1 < 4294967296) ∧ (0 ≤ a0_2 ∧ a0_2 < 4294967296) ∧ (0 ≤ a1 ∧ a1 < 4294967296) then some ((wval [a0_0, a0_1, a0_2] + a1) % 4294967296, (wval [a0_0, a0_1, a0_2] + a1) / 4294967296 % 4294967296, (wval [a0_0, a0_1, a0_2] + a1) / 18446744073709551616 % 4294967296, (wval [a0_0, a0_1, a0_2] + a1) / 79228162514264337593543950336 % 4294967296) else none
theorem words_Plus.calls (a0_0 : Int) (a0_1 : Int) (a0_2 : Int) (a1 : Int) (r1 : Int) (r2 : Int) (r3 : Int) (r4 : Int) (w : World) (h : words_Plus.f a0_0 a0_1 a0_2 a1 = some (r1, r2, r3, r4)) :
  Calls Tryz.prog 90 #[.agg #[.int .u32 a0_0, .int .u32 a0_1, .int .u32 a0_2], .int .u32 a1] w fun e w' => e = .returned (.tuple #[.agg #[.int .u32 r1, .int .u32 r2, .int .u32 r3], .int .u32 r4]) ∧ Below w.heap.size w w' := by
 unfold words_Plus.f at h
 split at h
 ·
  rename_i hc
  simp only [Option.some.injEq, Prod.mk.injEq] at h
  obtain ⟨rfl, rfl, rfl, rfl⟩ := h
  exact words_Plus.at_ w a0_0 a0_1 a0_2 a1 hc.1 hc.2.1 hc.2.2.1 hc.2.2.2
 ·
  cases h

-- NOT PRINTED: function 54 (words_Read)

-- NOT PRINTED: function 91 (bits_Div32)

set_option maxHeartbeats 4000000 in
theorem bits_Div32.calls (w : World) (hi lo y : Int) (hhi : 0 ≤ hi ∧ hi < y) (hlo : 0 ≤ lo ∧ lo < 4294967296) (hy : y < 4294967296) :
  Calls Tryz.prog 91 #[.int .u32 hi, .int .u32 lo, .int .u32 y] w fun e w' => e = .returned (.tuple #[.int .u32 ((hi * 4294967296 + lo) / y), .int .u32 ((hi * 4294967296 + lo) % y)]) ∧ ∃ n, w' = w.drewN n := by
 have y0 : ¬ y = 0 := by omega
 have y1 : decide (y ≤ hi) = false := decide_eq_false (by omega)
 have e1 : Go.bits .or .u64 (IntKind.u64.wrap (IntKind.u64.wrap hi * 4294967296)) (IntKind.u64.wrap lo) = hi * 4294967296 + lo := by
  rw [wu64 (a := hi) ⟨hhi.1, by omega⟩]; exact wor ⟨hhi.1, by omega⟩ hlo
 have e2 : IntKind.u64.wrap y = y := wu64 ⟨by omega, by omega⟩
 obtain ⟨q, hq⟩ : ∃ q, hi * 4294967296 + lo = q := ⟨_, rfl⟩
 have hb : 0 ≤ q ∧ q < y * 4294967296 := by omega
 rw [hq] at e1 ⊢
 have e3 : IntKind.u64.wrap (Int.tdiv q y) % 4294967296 = q / y := by
  rw [Int.tdiv_eq_ediv_of_nonneg hb.1]
  have h1 : 0 ≤ q / y := Int.ediv_nonneg hb.1 (by omega)
  have h2 : q / y < 4294967296 := Int.ediv_lt_of_lt_mul (by omega) (by rw [Int.mul_comm]; exact hb.2)
  first | (rw [wu64 ⟨h1, by omega⟩]; omega) | omega
 have e4 : Int.tmod q y % 4294967296 = q % y := by
  rw [Int.tmod_eq_emod_of_nonneg hb.1]
  have h1 : 0 ≤ q % y := Int.emod_nonneg _ (by omega)
  have h2 : q % y < y := Int.emod_lt_of_pos _ (by omega)
  first | (rw [wu64 ⟨h1, by omega⟩]; omega) | omega
 have E := am (And.intro e3 e4)
 clear hhi hlo hy hq hb e3 e4
 go_enter Tryz.func91, Tryz.ntmps91
 go_wp2
 go_quiet (fail)
 go_wp2
 go_ret2
 refine ⟨?_, _, rfl⟩
 obtain ⟨e3, e4⟩ := E.out

 simp [e3, e4]

theorem ov_drewN {B : Nat} {a w : World} (h : Below B a w) (n : Nat) : Below B a (w.drewN n) := h.trans ⟨rfl, rfl, rfl, Nat.le_refl _, fun _ _ => rfl⟩
def ovL (d w0 w1 w2 : Int) : Nat → Int
 | 0 => 0
 | 1 => w2 % d
 | 2 => (w2 % d * 4294967296 + w1) % d
 | _ => ((w2 % d * 4294967296 + w1) % d * 4294967296 + w0) % d
def ovB (d w0 w1 w2 : Int) : Nat → Array Value
 | 0 => #[.int .u32 w0, .int .u32 w1, .int .u32 w2]
 | 1 => #[.int .u32 w0, .int .u32 w1, .int .u32 (w2 / d)]
 | 2 => #[.int .u32 w0, .int .u32 ((w2 % d * 4294967296 + w1) / d), .int .u32 (w2 / d)]
 | _ => #[.int .u32 (((w2 % d * 4294967296 + w1) % d * 4294967296 + w0) / d), .int .u32 ((w2 % d * 4294967296 + w1) / d), .int .u32 (w2 / d)]
def ovW (w0 w1 w2 : Int) : Nat → Int
 | 0 => w2
 | 1 => w1
 | _ => w0
theorem ovL_step (d w0 w1 w2 : Int) (i : Nat) (hi : i < 3) : ovL d w0 w1 w2 (i + 1) = (ovL d w0 w1 w2 i * 4294967296 + ovW w0 w1 w2 i) % d := by
 match i, hi with
 | 0, _ => simp [ovL, ovW]
 | 1, _ => rfl
 | 2, _ => rfl
theorem ovB_at (d w0 w1 w2 : Int) (i : Nat) (hi : i < 3) : (ovB d w0 w1 w2 i)[2 - i]? = some (.int .u32 (ovW w0 w1 w2 i)) := by
 match i, hi with
 | 0, _ => rfl
 | 1, _ => rfl
 | 2, _ => rfl
theorem ovB_step (d w0 w1 w2 : Int) (i : Nat) (hi : i < 3) : (ovB d w0 w1 w2 i).setIfInBounds (2 - i) (.int .u32 ((ovL d w0 w1 w2 i * 4294967296 + ovW w0 w1 w2 i) / d)) = ovB d w0 w1 w2 (i + 1) := by
 match i, hi with
 | 0, _ => simp [ovB, ovL, ovW]
 | 1, _ => rfl
 | 2, _ => rfl
theorem ovL_bd {d w0 w1 w2 : Int} (hd : 0 < d) : ∀ i, 0 ≤ ovL d w0 w1 w2 i ∧ ovL d w0 w1 w2 i < d := by
 intro i
 match i with
 | 0 => exact ⟨Int.le_refl _, hd⟩
 | 1 => exact ⟨Int.emod_nonneg _ (by omega), Int.emod_lt_of_pos _ hd⟩
 | 2 => exact ⟨Int.emod_nonneg _ (by omega), Int.emod_lt_of_pos _ hd⟩
 | i + 3 => exact ⟨Int.emod_nonneg _ (by omega), Int.emod_lt_of_pos _ hd⟩
theorem ovW_bd {w0 w1 w2 : Int} (h0 : 0 ≤ w0 ∧ w0 < 4294967296) (h1 : 0 ≤ w1 ∧ w1 < 4294967296) (h2 : 0 ≤ w2 ∧ w2 < 4294967296) (i : Nat) : 0 ≤ ovW w0 w1 w2 i ∧ ovW w0 w1 w2 i < 4294967296 := by
 match i with
 | 0 => exact h2
 | 1 => exact h1
 | i + 2 => exact h0
theorem ov_step {d r w B : Int} (hd : 0 < d) (hr : 0 ≤ r ∧ r < d) (hB : B = 4294967296) (hw : 0 ≤ w ∧ w < B) : 0 ≤ (r * B + w) / d ∧ (r * B + w) / d < B := by
 subst hB
 exact ⟨Int.ediv_nonneg (by omega) (by omega), Int.ediv_lt_of_lt_mul hd (by omega)⟩
theorem ov_sum {d q2 q1 q0 r2 r1 r0 w0 w1 w2 : Int} (e2 : d * q2 + r2 = w2) (e1 : d * q1 + r1 = r2 * 4294967296 + w1) (e0 : d * q0 + r0 = r1 * 4294967296 + w0) : r0 + d * (q0 + 4294967296 * q1 + 18446744073709551616 * q2) = w0 + 4294967296 * (w1 + 4294967296 * (w2 + 4294967296 * 0)) := by grind
theorem over_eq (d w0 w1 w2 : Int) (h0 : 0 ≤ w0 ∧ w0 < 4294967296) (h1 : 0 ≤ w1 ∧ w1 < 4294967296) (h2 : 0 ≤ w2 ∧ w2 < 4294967296) (hd : 0 < d) (hd2 : d < 4294967296) : ovB d w0 w1 w2 3 = #[.int .u32 ((wval [w0, w1, w2] / d) % 4294967296), .int .u32 ((wval [w0, w1, w2] / d) / 4294967296 % 4294967296), .int .u32 ((wval [w0, w1, w2] / d) / 18446744073709551616 % 4294967296)] ∧ ovL d w0 w1 w2 3 = wval [w0, w1, w2] % d := by
 have a2 : 0 ≤ w2 / d ∧ w2 / d < 4294967296 := by have := ov_step (r := 0) hd ⟨Int.le_refl _, hd⟩ rfl h2; simpa using this
 have b2 : 0 ≤ w2 % d ∧ w2 % d < d := ⟨Int.emod_nonneg _ (by omega), Int.emod_lt_of_pos _ hd⟩
 have a1 := ov_step hd b2 rfl h1
 have b1 : 0 ≤ (w2 % d * 4294967296 + w1) % d ∧ (w2 % d * 4294967296 + w1) % d < d := ⟨Int.emod_nonneg _ (by omega), Int.emod_lt_of_pos _ hd⟩
 have a0 := ov_step hd b1 rfl h0
 have b0 : 0 ≤ ((w2 % d * 4294967296 + w1) % d * 4294967296 + w0) % d ∧ ((w2 % d * 4294967296 + w1) % d * 4294967296 + w0) % d < d := ⟨Int.emod_nonneg _ (by omega), Int.emod_lt_of_pos _ hd⟩
 have hs := ov_sum (Int.mul_ediv_add_emod w2 d) (Int.mul_ediv_add_emod (w2 % d * 4294967296 + w1) d) (Int.mul_ediv_add_emod ((w2 % d * 4294967296 + w1) % d * 4294967296 + w0) d)
 have e := (Int.ediv_emod_unique hd).2 ⟨hs, b0⟩
 have ev : wval [w0, w1, w2] = w0 + 4294967296 * (w1 + 4294967296 * (w2 + 4294967296 * 0)) := rfl
 rw [ev, e.1, e.2]
 generalize hq2 : w2 / d = q2 at *
 generalize hq1 : (w2 % d * 4294967296 + w1) / d = q1 at *
 generalize hq0 : ((w2 % d * 4294967296 + w1) % d * 4294967296 + w0) / d = q0 at *
 refine ⟨?_, rfl⟩
 rw [show ovB d w0 w1 w2 3 = #[.int .u32 (((w2 % d * 4294967296 + w1) % d * 4294967296 + w0) / d), .int .u32 ((w2 % d * 4294967296 + w1) / d), .int .u32 (w2 / d)] from rfl, hq0, hq1, hq2]
 rw [show (q0 + 4294967296 * q1 + 18446744073709551616 * q2) % 4294967296 = q0 by omega, show (q0 + 4294967296 * q1 + 18446744073709551616 * q2) / 4294967296 % 4294967296 = q1 by omega, show (q0 + 4294967296 * q1 + 18446744073709551616 * q2) / 18446744073709551616 % 4294967296 = q2 by omega]
set_option maxHeartbeats 4000000 in
set_option maxRecDepth 100000 in
theorem words_Over.zero (w : World) (w0 w1 w2 : Int) :
  Calls Tryz.prog 55 #[.agg #[.int .u32 w0, .int .u32 w1, .int .u32 w2], .int .u32 0] w fun e w' => e = .returned (.tuple #[.agg #[.int .u32 0, .int .u32 0, .int .u32 0], .int .u32 0, .int .i64 4]) ∧ Below w.heap.size w w' := by
 have hu63 := Tryz.underlying86
 have B4 := blk_new (w.alloc (.cells #[.int .u32 w0, .int .u32 w1, .int .u32 w2] 86)) (.cells #[.int .u32 0, .int .u32 0, .int .u32 0] 86)
 have hb2 := am (below_alloc (below_alloc (Below.refl w.heap.size w) (.cells #[.int .u32 w0, .int .u32 w1, .int .u32 w2] 86)) (.cells #[.int .u32 0, .int .u32 0, .int .u32 0] 86))
 rw [World.size_alloc] at B4
 have HB4 := am B4
 clear B4
 go_enter Tryz.func55, Tryz.ntmps55
 go_wp2_with ((with_reducible refine gate_store (t := 86) (p := 4) rfl ?_); refine seg.list rfl rfl 86 (.tmp 4) _ rfl 86 (w.heap.size + 1) 0 #[.int .u32 0, .int .u32 0, .int .u32 0] #[.int .u32 0, .int .u32 0, .int .u32 0] [.int .u32 0, .int .u32 0, .int .u32 0] rfl rfl (by kernel_rfl) (by simp [Value.oneCell']) HB4.out (by simp) rfl ?_; intro w9 bx hgr)
 refine bodyPost_ret (results_ctt (p := 4) (u := 5) (v := 6) rfl _ w9 (w.heap.size + 1) 86 _ (0, 0) _ rfl bx Tryz.underlying86 rfl (by kernel_rfl)) rfl ?_
 exact ⟨rfl, seg.below hb2.out hgr (Nat.le_succ _)⟩
theorem words_Over.at_ (w : World) (w0 w1 w2 d : Int) (h0 : 0 ≤ w0 ∧ w0 < 4294967296) (h1 : 0 ≤ w1 ∧ w1 < 4294967296) (h2 : 0 ≤ w2 ∧ w2 < 4294967296) (hd : 0 < d) (hd2 : d < 4294967296) :
  Calls Tryz.prog 55 #[.agg #[.int .u32 w0, .int .u32 w1, .int .u32 w2], .int .u32 d] w fun e w' => e = .returned (.tuple #[.agg #[.int .u32 ((wval [w0, w1, w2] / d) % 4294967296), .int .u32 ((wval [w0, w1, w2] / d) / 4294967296 % 4294967296), .int .u32 ((wval [w0, w1, w2] / d) / 18446744073709551616 % 4294967296)], .int .u32 (wval [w0, w1, w2] % d), .int .i64 0]) ∧ Below w.heap.size w w' := by
 have hu63 := Tryz.underlying86
 have HE0 := am (over_eq d w0 w1 w2 h0 h1 h2 hd hd2)
 have HL := am (fun i => ovL_bd (w0 := w0) (w1 := w1) (w2 := w2) hd i)
 have HW := am (ovW_bd h0 h1 h2)
 have HD := am (And.intro hd hd2)
 have hd0 : (d == 0) = false := by simp; omega
 have B2 := blk_alloc (blk_new w (.cells #[.int .u32 w0, .int .u32 w1, .int .u32 w2] 86)) (.cells #[.int .u32 0, .int .u32 0, .int .u32 0] 86)
 have B4 := blk_new (w.alloc (.cells #[.int .u32 w0, .int .u32 w1, .int .u32 w2] 86)) (.cells #[.int .u32 0, .int .u32 0, .int .u32 0] 86)
 have hb2 := below_alloc (below_alloc (Below.refl w.heap.size w) (.cells #[.int .u32 w0, .int .u32 w1, .int .u32 w2] 86)) (.cells #[.int .u32 0, .int .u32 0, .int .u32 0] 86)
 rw [World.size_alloc] at B4
 clear h0 h1 h2 hd hd2
 go_enter Tryz.func55, Tryz.ntmps55
 go_wp2
 go_loopg [7, 8, 9, 13] 3 (fun kq v7 v8 v9 v13 w' => ∃ i : Nat, v7 = .int .u32 (ovL d w0 w1 w2 i) ∧ v13 = .int .i64 (i : Int) ∧ i ≤ 3 ∧ kq = 3 - i ∧ Aside0 (w'.heap[w.heap.size]? = some (.cells (ovB d w0 w1 w2 i) 86 (0, 0))) ∧ Aside0 (w'.heap[w.heap.size + 1]? = some (.cells #[.int .u32 0, .int .u32 0, .int .u32 0] 86 (0, 0))) ∧ Aside0 (Below w.heap.size w w'))
 case atStart => exact ⟨0, rfl, rfl, by decide, rfl, ⟨B2⟩, ⟨B4⟩, ⟨hb2⟩⟩
 case round =>
  clear B2 B4 hb2
  obtain ⟨i, rfl, rfl, hi, rfl, B2, B4, HB⟩ := hrel
  by_cases hlt : i < 3
  ·
   have hltb : decide (i < 3) = true := decide_eq_true hlt
   obtain ⟨x, hx⟩ : ∃ x, ovW w0 w1 w2 i = x := ⟨_, rfl⟩
   obtain ⟨ci, hci⟩ : ∃ ci, ovL d w0 w1 w2 i = ci := ⟨_, rfl⟩
   obtain ⟨k, hk⟩ : ∃ k, 2 - i = k := ⟨_, rfl⟩
   have hkb : k < 3 := by omega
   have hwk : IntKind.i64.wrap (2 - (i : Int)) = (k : Int) := by rw [Go.IntKind.wrap_i64]; omega
   have hc3 : wr.cell? ⟨w.heap.size, k, none⟩ = some (.int .u32 x) := by rw [blk_cell B2.out k, ← hk, ovB_at _ _ _ _ i hlt, hx]
   have hf3 := blk_frozen B2.out k
   have HXC := am (And.intro hx (And.intro hci hk))
   have hwb := am (HW.out i)
   have hcb := am (HL.out i)
   rw [hx] at hwb
   rw [hci] at hcb ⊢
   clear hx hci hk hi
   go_wp2_with (go_at_call 91; refine (bits_Div32.calls _ ci x d hcb.out hwb.out HD.out.2).mono ?_; rintro e wq ⟨rfl, nq, rfl⟩)
   go_roundg (3 - (i + 1))
   case measure => omega
   case rel =>
    refine ⟨i + 1, by rw [ovL_step _ _ _ _ i hlt, HXC.out.1, HXC.out.2.1], by first | rfl | simp, by omega, rfl, ⟨?_⟩, ⟨blk_far (blk_drewN B4.out nq) (p := ⟨w.heap.size, k, none⟩) (by simp) _⟩, ⟨below_set (ov_drewN HB.out nq) (Nat.le_refl _)⟩⟩
    rw [← ovB_step _ _ _ _ i hlt, HXC.out.1, HXC.out.2.1, HXC.out.2.2]
    exact blk_set (blk_drewN B2.out nq) k _
  ·
   have hltb : decide (i < 3) = false := decide_eq_false hlt
   obtain rfl : i = 3 := by omega
   obtain ⟨hE, hE2⟩ := HE0.out
   obtain ⟨e0, e1, e2, hF⟩ : ∃ e0 e1 e2 : Value, #[.int .u32 ((wval [w0, w1, w2] / d) % 4294967296), .int .u32 ((wval [w0, w1, w2] / d) / 4294967296 % 4294967296), .int .u32 ((wval [w0, w1, w2] / d) / 18446744073709551616 % 4294967296)] = #[e0, e1, e2] ∧ e0.oneCell' = true ∧ e1.oneCell' = true ∧ e2.oneCell' = true := ⟨_, _, _, rfl, rfl, rfl, rfl⟩
   obtain ⟨hF, o0, o1, o2⟩ := hF
   rw [hE2]
   rw [hE] at B2
   rw [hF] at B2
   have HF := am hF
   clear hE hE2 hF
   have x0 : wr.cell? ⟨w.heap.size, 0, none⟩ = some e0 := (blk_cell B2.out 0).trans rfl
   have x1 : wr.cell? ⟨w.heap.size, 1, none⟩ = some e1 := (blk_cell B2.out 1).trans rfl
   have x2 : wr.cell? ⟨w.heap.size, 2, none⟩ = some e2 := (blk_cell B2.out 2).trans rfl
   have O := am (And.intro o0 (And.intro o1 o2))
   clear o0 o1 o2
   go_wp2_with ((with_reducible refine gate_store (t := 86) (p := 4) rfl ?_); refine seg.list rfl rfl 86 (.tmp 4) _ rfl 86 (w.heap.size + 1) 0 #[.int .u32 0, .int .u32 0, .int .u32 0] #[e0, e1, e2] [e0, e1, e2] rfl rfl (by kernel_rfl) (by simp [O.out.1, O.out.2.1, O.out.2.2]) B4.out (by simp) rfl ?_; intro w9 bx hgr)
   refine bodyPost_ret (results_ctt (p := 4) (u := 5) (v := 6) rfl _ w9 (w.heap.size + 1) 86 _ (0, 0) _ rfl bx Tryz.underlying86 rfl (by kernel_rfl)) rfl ?_
   exact ⟨by rw [HF.out]; rfl, seg.below HB.out hgr (Nat.le_succ _)⟩

/-! ### words_Over: function 55 (by hand) -/
def words_Over.f (a0_0 : Int) (a0_1 : Int) (a0_2 : Int) (a1 : Int) : Option (Int × Int × Int × Int × Int) := if (0 ≤ a0_0 ∧ a0_0 < 4294967296) ∧ (0 ≤ a0_1 ∧ a0_1 < 4294967296) ∧ (0 ≤ a0_2 ∧ a0_2 < 4294967296) ∧ (0 ≤ a1 ∧ a1 < 4294967296) then (if a1 = 0 then some (0, 0, 0, 0, 4) else some ((wval [a0_0, a0_1, a0_2] / a1) % 4294967296, (wval [a0_0, a0_1, a0_2] / a1) / 4294967296 % 4294967296, (wval [a0_0, a0_1, a0_2] / a1) / 18446744073709551616 % 4294967296, wval [a0_0, a0_1, a0_2] % a1, 0)) else none
theorem words_Over.calls (a0_0 : Int) (a0_1 : Int) (a0_2 : Int) (a1 : Int) (r1 : Int) (r2 : Int) (r3 : Int) (r4 : Int) (r5 : Int) (w : World) (h : words_Over.f a0_0 a0_1 a0_2 a1 = some (r1, r2, r3, r4, r5)) :
  Calls Tryz.prog 55 #[.agg #[.int .u32 a0_0, .int .u32 a0_1, .int .u32 a0_2], .int .u32 a1] w fun e w' => e = .returned (.tuple #[.agg #[.int .u32 r1, .int .u32 r2, .int .u32 r3], .int .u32 r4, .int .i64 r5]) ∧ Below w.heap.size w w' := by
 unfold words_Over.f at h
 split at h
 ·
  rename_i hc
  split at h
  ·
   rename_i h0
   subst h0
   simp only [Option.some.injEq, Prod.mk.injEq] at h
   obtain ⟨rfl, rfl, rfl, rfl, rfl⟩ := h
   exact words_Over.zero w a0_0 a0_1 a0_2
  ·
   rename_i h0
   simp only [Option.some.injEq, Prod.mk.injEq] at h
   obtain ⟨rfl, rfl, rfl, rfl, rfl⟩ := h
   exact words_Over.at_ w a0_0 a0_1 a0_2 a1 hc.1 hc.2.1 hc.2.2.1 (by omega) hc.2.2.2.2
 ·
  cases h

/-! ### words_field: function 92 -/
def words_field.f (a0 : Int) (a1 : Int) : Option (Bool) := if a0 ≥ 0 then (if a1 ≥ 1 then (if a1 ≤ 64 then (if a0 ≤ 96 then (some (decide ((wrap64 (a0 + a1)) ≤ 96))) else (some false)) else (some false)) else (some false)) else (some false)
theorem words_field.calls (a0 : Int) (a1 : Int) (r : Bool) (w : World) (h : words_field.f a0 a1 = some r) :
  Calls Tryz.prog 92 #[.int .i64 a0, .int .i64 a1] w fun e w' => e = .returned (.bool r) ∧ Drawn0 w w' := by
 have H : (if a0 ≥ 0 then (if a1 ≥ 1 then (if a1 ≤ 64 then (if a0 ≤ 96 then (some (decide ((wrap64 (a0 + a1)) ≤ 96))) else (some false)) else (some false)) else (some false)) else (some false)) = some r := h
 clear h
 by_cases c3 : a0 ≥ 0
 ·
  rw [if_pos c3] at H
  have c3b0 : decide (0 ≤ a0) = true := decide_eq_true c3
  clear c3
  by_cases c4 : a1 ≥ 1
  ·
   rw [if_pos c4] at H
   have c4b0 : decide (1 ≤ a1) = true := decide_eq_true c4
   clear c4
   revert H
   refine czif (fun c5b0 H => ?_) (fun c5b0 H => ?_)
   ·
    revert H
    refine czif (fun c6b0 H => ?_) (fun c6b0 H => ?_)
    ·
     obtain rfl := Option.some.inj H
     go_enter Tryz.func92, Tryz.ntmps92
     go_wp2
     go_ret
     exact ⟨by first | rfl | (simp; done) | (simp [*]; done), by repeat (first | exact Drawn0.refl _ | apply Drawn0.step)⟩
    ·
     obtain rfl := Option.some.inj H
     go_enter Tryz.func92, Tryz.ntmps92
     go_wp2
     go_ret
     exact ⟨by first | rfl | (simp; done) | (simp [*]; done), by repeat (first | exact Drawn0.refl _ | apply Drawn0.step)⟩
   ·
    obtain rfl := Option.some.inj H
    go_enter Tryz.func92, Tryz.ntmps92
    go_wp2
    go_ret
    exact ⟨by first | rfl | (simp; done) | (simp [*]; done), by repeat (first | exact Drawn0.refl _ | apply Drawn0.step)⟩
  ·
   rw [if_neg c4] at H
   have c4b0 : decide (1 ≤ a1) = false := decide_eq_false c4
   clear c4
   obtain rfl := Option.some.inj H
   go_enter Tryz.func92, Tryz.ntmps92
   go_wp2
   go_ret
   exact ⟨by first | rfl | (simp; done) | (simp [*]; done), by repeat (first | exact Drawn0.refl _ | apply Drawn0.step)⟩
 ·
  rw [if_neg c3] at H
  have c3b0 : decide (0 ≤ a0) = false := decide_eq_false c3
  clear c3
  obtain rfl := Option.some.inj H
  go_enter Tryz.func92, Tryz.ntmps92
  go_wp2
  go_ret
  exact ⟨by first | rfl | (simp; done) | (simp [*]; done), by repeat (first | exact Drawn0.refl _ | apply Drawn0.step)⟩

end Go.Proofs.YtocolmpfpbclbaaGreatDoor.PReceiptShows
