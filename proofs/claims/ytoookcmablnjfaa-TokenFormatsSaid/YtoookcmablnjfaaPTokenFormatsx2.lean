-- written by this session's program wip/xp/xprint.py (it drives the kit's print and adds to it)
import Derived.Test.YtoookcmablnjfaaPTokenFormatsx0
import Derived.Test.YtoookcmablnjfaaPTokenFormatsx1
namespace Go.Proofs.Ytoookcmablnjfaa.PTokenFormats
open Go.RowKit Go.Proofs.YtoookcmablnjfaaW.PrintWords Go.Proofs.YtoookcmablnjfaaW.PrintLast Go.Proofs.YtoookcmablnjfaaW.PrintMore
attribute [local go_sem] max2_int min2_int max_two min_two max_three min_three max_four min_four   -- for this text's walks alone
set_option linter.unusedVariables false
set_option linter.unusedSimpArgs false

attribute [local go_sem high] eqA24
-- NOT PRINTED: function 50 (bits_Div32)

/-! ### numbers of 32-bit words -/
def wval : List Int → Int
  | [] => 0
  | x :: t => x + 4294967296 * wval t
def wok (l : List Int) : Prop := ∀ x ∈ l, 0 ≤ x ∧ x < 4294967296
def wtr (l : List Int) : Prop := l = [] ∨ l.getD (l.length - 1) 0 ≠ 0
structure Wd (l : List Int) (n : Int) : Prop where
  ok : wok l
  tr : wtr l
  val : wval l = n
abbrev W32 (i : Nat) : Int := 4294967296 ^ i
theorem W32.succ (i : Nat) : W32 (i + 1) = W32 i * 4294967296 := Int.pow_succ _ _
theorem W32.pos (i : Nat) : 0 < W32 i := Int.pow_pos (by decide)
theorem W32.add (i j : Nat) : W32 (i + j) = W32 i * W32 j := Int.pow_add _ _ _
theorem W32.le {i j : Nat} (h : i ≤ j) : W32 i ≤ W32 j := by
  obtain ⟨d, rfl⟩ := Nat.le.dest h
  rw [W32.add]
  have := Int.mul_le_mul_of_nonneg_left (show (1 : Int) ≤ W32 d from W32.pos d) (Int.le_of_lt (W32.pos i))
  omega
theorem wok.tail {x : Int} {t : List Int} (h : wok (x :: t)) : wok t := fun y hy => h y (List.mem_cons_of_mem _ hy)
theorem wok.head {x : Int} {t : List Int} (h : wok (x :: t)) : 0 ≤ x ∧ x < 4294967296 := h x List.mem_cons_self
theorem wok.take {l : List Int} (h : wok l) (n : Nat) : wok (l.take n) := fun y hy => h y (List.mem_of_mem_take hy)
theorem wok.drop {l : List Int} (h : wok l) (n : Nat) : wok (l.drop n) := fun y hy => h y (List.mem_of_mem_drop hy)
theorem wok.at_ {l : List Int} (h : wok l) (i : Nat) : 0 ≤ l.getD i 0 ∧ l.getD i 0 < 4294967296 := by
  rw [List.getD_eq_getElem?_getD]
  rcases Nat.lt_or_ge i l.length with g | g
  · rw [List.getElem?_eq_getElem g]; exact h _ (List.getElem_mem g)
  · rw [List.getElem?_eq_none g]; exact ⟨Int.le_refl _, by decide⟩
theorem wok.set {l : List Int} (h : wok l) (i : Nat) {x : Int} (hx : 0 ≤ x ∧ x < 4294967296) : wok (l.set i x) := fun y hy => by
  rcases List.mem_or_eq_of_mem_set hy with g | g
  · exact h y g
  · rw [g]; exact hx
theorem wok.replicate (n : Nat) : wok (List.replicate n 0) := fun y hy => by rw [List.eq_of_mem_replicate hy]; exact ⟨Int.le_refl _, by decide⟩
theorem wval_nonneg : ∀ {l : List Int}, wok l → 0 ≤ wval l
  | [], _ => Int.le_refl _
  | x :: t, h => by have := wval_nonneg h.tail; have := h.head; simp only [wval]; omega
theorem wval_lt : ∀ {l : List Int}, wok l → wval l < W32 l.length
  | [], _ => by decide
  | x :: t, h => by
    have h1 := wval_lt h.tail
    have h2 := h.head
    simp only [wval, List.length_cons]
    rw [W32.succ]
    omega
theorem wval_append : ∀ (a b : List Int), wval (a ++ b) = wval a + W32 a.length * wval b
  | [], b => by simp [wval]
  | x :: t, b => by
    simp only [List.cons_append, wval, List.length_cons]
    rw [wval_append t b, W32.succ]
    grind
theorem wval_take (l : List Int) (i : Nat) (h : i < l.length) : wval (l.take (i + 1)) = wval (l.take i) + W32 i * l.getD i 0 := by
  rw [List.take_succ_eq_append_getElem h, wval_append, List.length_take, Nat.min_eq_left (by omega), List.getD_eq_getElem?_getD, List.getElem?_eq_getElem h, Option.getD_some]
  simp [wval]
theorem wval_take_over (l : List Int) (i : Nat) (h : l.length ≤ i) : wval (l.take i) = wval l := by rw [List.take_of_length_le h]
theorem wval_drop (l : List Int) (i : Nat) (h : i < l.length) : wval (l.drop i) = l.getD i 0 + 4294967296 * wval (l.drop (i + 1)) := by
  rw [List.drop_eq_getElem_cons h, List.getD_eq_getElem?_getD, List.getElem?_eq_getElem h, Option.getD_some]; rfl
theorem wval_split (l : List Int) (i : Nat) (h : i ≤ l.length) : wval l = wval (l.take i) + W32 i * wval (l.drop i) := by
  have := wval_append (l.take i) (l.drop i)
  rw [List.take_append_drop, List.length_take, Nat.min_eq_left h] at this
  exact this
theorem wval_zeros (n : Nat) : wval (List.replicate n 0) = 0 := by
  induction n with
  | zero => rfl
  | succ n ih => rw [List.replicate_succ]; simp only [wval, ih]; decide
theorem take_set_ge {α : Type} (l : List α) (i j : Nat) (x : α) (h : j ≤ i) : (l.set i x).take j = l.take j := by
  rw [List.take_set_of_le h]
theorem getD_set_eq (l : List Int) (i : Nat) (x : Int) (h : i < l.length) : (l.set i x).getD i 0 = x := by
  rw [List.getD_eq_getElem?_getD, List.getElem?_set_self h]; rfl
theorem getD_set_ne (l : List Int) (i j : Nat) (x : Int) (h : i ≠ j) : (l.set i x).getD j 0 = l.getD j 0 := by
  rw [List.getD_eq_getElem?_getD, List.getElem?_set_ne h, List.getD_eq_getElem?_getD]
theorem wval_take_set (l : List Int) (i : Nat) (x : Int) (h : i < l.length) : wval ((l.set i x).take (i + 1)) = wval (l.take i) + W32 i * x := by
  rw [wval_take _ _ (by rw [List.length_set]; exact h), take_set_ge _ _ _ _ (Nat.le_refl _), getD_set_eq _ _ _ h]
theorem Wd.pos {l : List Int} {n : Int} (h : Wd l n) : 0 ≤ n := h.val ▸ wval_nonneg h.ok
theorem Wd.lt {l : List Int} {n : Int} (h : Wd l n) : n < W32 l.length := h.val ▸ wval_lt h.ok
theorem wval_ge {l : List Int} (h : wok l) (ht : wtr l) (h0 : 0 < l.length) : W32 (l.length - 1) ≤ wval l := by
  rcases ht with rfl | ht
  · simp at h0
  · have h1 := wval_split l (l.length - 1) (by omega)
    rw [wval_drop l _ (by omega), List.drop_of_length_le (show l.length ≤ l.length - 1 + 1 by omega)] at h1
    have h2 := wval_nonneg (h.take (l.length - 1))
    have h3 := (h.at_ (l.length - 1)).1
    simp only [wval] at h1
    have h4 := Int.mul_le_mul_of_nonneg_left (show (1 : Int) ≤ l.getD (l.length - 1) 0 + 4294967296 * 0 by omega) (Int.le_of_lt (W32.pos (l.length - 1)))
    omega
theorem Wd.ge {l : List Int} {n : Int} (h : Wd l n) (h0 : 0 < l.length) : W32 (l.length - 1) ≤ n := h.val ▸ wval_ge h.ok h.tr h0
theorem Wd.len_le {l : List Int} {n : Int} (h : Wd l n) {m : Nat} (hn : n < W32 m) : l.length ≤ m := by
  rcases Nat.lt_or_ge m l.length with g | g
  · have h1 := h.ge (by omega)
    have h2 := W32.le (show m ≤ l.length - 1 by omega)
    omega
  · exact g
theorem Wd.len_lt {l l' : List Int} {n n' : Int} (h : Wd l n) (h' : Wd l' n') (g : l.length < l'.length) : n < n' := by
  have h1 := h.lt
  have h2 := h'.ge (by omega)
  have h3 := W32.le (show l.length ≤ l'.length - 1 by omega)
  omega
theorem Wd.zero : Wd [] 0 := ⟨fun _ h => by simp at h, .inl rfl, rfl⟩
theorem Wd.nil_iff {l : List Int} {n : Int} (h : Wd l n) : l.length = 0 ↔ n = 0 := by
  constructor
  · intro g
    rw [List.length_eq_zero_iff] at g
    rw [← h.val, g]; rfl
  · intro g
    have := h.len_le (m := 0) (by rw [g]; decide)
    omega
theorem wrd (l : List Int) (i : Nat) : rd l (i : Int) = l.getD i 0 := Eq.trans rfl rfl
theorem ww64 {a : Int} (h : -9223372036854775808 ≤ a ∧ a ≤ 9223372036854775807) : wrap64 a = a := IntWalk.wrap64_in _ h
theorem wu64 {a : Int} (h : 0 ≤ a ∧ a < 18446744073709551616) : IntKind.u64.wrap a = a := IntWalk.u64_in a ⟨h.1, by omega⟩
theorem WEv.ret {α : Type} {r r' : α} (e : r = r') : Ev (fun _ => some r) r' := e ▸ Ev.now r
theorem WEv.pos {α : Type} {c : Prop} [Decidable c] {f g : Nat → Option α} {r : α} (hc : c) (h : Ev f r) : Ev (fun k => if c then f k else g k) r := by simpa [hc] using h
theorem WEv.neg {α : Type} {c : Prop} [Decidable c] {f g : Nat → Option α} {r : α} (hc : ¬ c) (h : Ev g r) : Ev (fun k => if c then f k else g k) r := by simpa [hc] using h
theorem wor {r x : Int} (hr : 0 ≤ r ∧ r < 4294967296) (hx : 0 ≤ x ∧ x < 4294967296) : Go.bits .or .u64 (IntKind.u64.wrap (r * 4294967296)) (IntKind.u64.wrap x) = r * 4294967296 + x := by
  rw [wu64 (a := r * 4294967296) ⟨by omega, by omega⟩, wu64 (a := x) ⟨hx.1, by omega⟩]
  obtain ⟨a, rfl⟩ := Int.eq_ofNat_of_zero_le hr.1
  obtain ⟨c, rfl⟩ := Int.eq_ofNat_of_zero_le hx.1
  rw [show ((a : Int) * 4294967296) = ((2 ^ 32 * a : Nat) : Int) by omega, u64_or_nat _ _ (by omega) (by omega), ← Nat.two_pow_add_eq_or_of_lt (show c < 2 ^ 32 by omega)]
  omega
theorem wor' {r x : Int} (hr : 0 ≤ r ∧ r < 4294967296) (hx : 0 ≤ x ∧ x < 4294967296) : Go.bits .or .u64 (IntKind.u64.wrap x) (IntKind.u64.wrap (IntKind.u64.wrap r * 4294967296)) = r * 4294967296 + x := by
  rw [wu64 (a := r) ⟨hr.1, by omega⟩, wu64 (a := r * 4294967296) ⟨by omega, by omega⟩, wu64 (a := x) ⟨hx.1, by omega⟩]
  obtain ⟨a, rfl⟩ := Int.eq_ofNat_of_zero_le hr.1
  obtain ⟨c, rfl⟩ := Int.eq_ofNat_of_zero_le hx.1
  rw [show ((a : Int) * 4294967296) = ((2 ^ 32 * a : Nat) : Int) by omega, u64_or_nat _ _ (by omega) (by omega), Nat.or_comm, ← Nat.two_pow_add_eq_or_of_lt (show c < 2 ^ 32 by omega)]
  omega
def fpv (V v : Int) (lo n : Nat) : Int := V - V / 2 ^ lo % 2 ^ n * 2 ^ lo + v * 2 ^ lo

section
variable {P : Program} {ops : Array Oper} {o : Oper} {a : Act} {Q : Exit → Act → World → Prop} {W : World}
theorem seg.run {t : TypeId} {e : TypeId} {g : Nat} {cur new : Array Value} {u : Value} (i : Nat) (cs : List Value) (hu : u.cells.toList = cs) (ht : (P.info? t).map (·.size) = some cs.length) (h1 : ∀ q ∈ cs, q.oneCell' = true) (hh : W.heap[g]? = some (.cells cur e (0, 0))) (hsz : i + cs.length ≤ cur.size) (hnew : cur.toList.take i ++ cs ++ cur.toList.drop (i + cs.length) = new.toList) :
    (Instr.storeAt t (.pointer (some ⟨g, i, none⟩)) u).run P W = .ok () (W.setCells g i cs) ∧ (W.setCells g i cs).heap[g]? = some (.cells new e (0, 0)) ∧ W.grownBy (W.setCells g i cs) (some g) := by
  refine ⟨run_store_run t u cs hh hu ht hsz h1, ?_, ?_⟩
  · obtain ⟨cur', h2, h3, h4⟩ := setCells_row cs i W cur hh hsz
    rw [h2]
    have : cur' = new := Array.toList_inj.1 (h4.trans hnew)
    rw [this]
  · obtain ⟨q1, q2, q3, q4⟩ := setCells_same g cs i W
    exact ⟨q1, q2, q3, by rw [q4]; exact Nat.le_refl _, fun k _ hk => setCells_far _ _ k (fun h => hk (by rw [h]))⟩
theorem seg.list {rest : List Oper} (hN : o.dst = none) (hgd : o.guard = none) (t : TypeId) (p x : Operand) (ho : o.op = .store t p x) (e : TypeId) (g i : Nat) (cur new : Array Value) (cs : List Value) (haddr : a.eval p = .pointer (some ⟨g, i, none⟩)) (hu : (a.eval x).cells.toList = cs) (ht : (P.info? t).map (·.size) = some cs.length) (h1 : ∀ q ∈ cs, q.oneCell' = true) (hh : W.heap[g]? = some (.cells cur e (0, 0))) (hsz : i + cs.length ≤ cur.size) (hnew : cur.toList.take i ++ cs ++ cur.toList.drop (i + cs.length) = new.toList)
    (h : ∀ w1, w1.heap[g]? = some (.cells new e (0, 0)) → W.grownBy w1 (some g) → wpList P ops Q rest a w1) : wpList P ops Q (o :: rest) a W := by
  obtain ⟨hrun, hb, hg⟩ := seg.run (P := P) (t := t) i cs hu ht h1 hh hsz hnew
  refine wpList_plain hgd fun K hK => ?_
  unfold Oper.wp execOp
  simp only [ho, haddr, Sem.run_bind, Sem.run_pure, Result.andThen_ok, hrun]
  show K (a.put o.dst undef) _
  rw [hN]
  exact hK a _ (h _ hb hg)
theorem seg.step {Kc : Act → World → Prop} (hw : Region.wanted o (yielded ops a.tmps) = true) (hN : o.dst = none) (t : TypeId) (p x : Operand) (ho : o.op = .store t p x) (e : TypeId) (g i : Nat) (cur new : Array Value) (cs : List Value) (haddr : a.eval p = .pointer (some ⟨g, i, none⟩)) (hu : (a.eval x).cells.toList = cs) (ht : (P.info? t).map (·.size) = some cs.length) (h1 : ∀ q ∈ cs, q.oneCell' = true) (hh : W.heap[g]? = some (.cells cur e (0, 0))) (hsz : i + cs.length ≤ cur.size) (hnew : cur.toList.take i ++ cs ++ cur.toList.drop (i + cs.length) = new.toList)
    (h : ∀ w1, w1.heap[g]? = some (.cells new e (0, 0)) → W.grownBy w1 (some g) → Kc (a.put o.dst undef) w1) :
    if Region.wanted o (yielded ops a.tmps) = true then Oper.wp P o a W Kc Q else Kc (a.put o.dst undef) W := by
  obtain ⟨hrun, hb, hg⟩ := seg.run (P := P) (t := t) i cs hu ht h1 hh hsz hnew
  rw [if_pos hw]
  unfold Oper.wp execOp
  simp only [ho, haddr, Sem.run_bind, Sem.run_pure, Result.andThen_ok, hrun]
  exact h _ hb hg
end
theorem seg.below {w W w1 : World} {g : Nat} (h : Below w.heap.size w W) (hg : W.grownBy w1 (some g)) (hl : w.heap.size ≤ g) : Below w.heap.size w w1 := pw_below_grown h (some g) h.size hg (fun k hk => by cases hk; exact hl)
theorem seg.far {W w1 : World} {g h : Nat} {ob : Obj} (hb : W.heap[h]? = some ob) (hg : W.grownBy w1 (some g)) (hne : h ≠ g) : w1.heap[h]? = some ob := blk_grown hb hg (fun e => hne (Option.some.inj e))
theorem seg.R {α : Type} {d : Kd α} {e base : Nat} {ok : Nat → Prop} {W w1 : World} {v : Value} {xs : List α} {g : Nat} (h : d.R e W base ok v xs) (hg : W.grownBy w1 (some g)) (hok : ∀ k, ok k → k ≠ g) : d.R e w1 base ok v xs := Kd.R_grown h hg (fun k hk e => hok k hk (Option.some.inj e))

set_option maxHeartbeats 4000000 in
theorem bits_Div32.calls (w : World) (hi lo y : Int) (hhi : 0 ≤ hi ∧ hi < y) (hlo : 0 ≤ lo ∧ lo < 4294967296) (hy : y < 4294967296) :
    Calls Try.prog 50 #[.int .u32 hi, .int .u32 lo, .int .u32 y] w fun e w' => e = .returned (.tuple #[.int .u32 ((hi * 4294967296 + lo) / y), .int .u32 ((hi * 4294967296 + lo) % y)]) ∧ ∃ n, w' = w.drewN n := by
  have y0 : ¬ y = 0 := by omega
  have y1 : decide (y ≤ hi) = false := decide_eq_false (by omega)
  have e1 : Go.bits .or .u64 (IntKind.u64.wrap (IntKind.u64.wrap hi * 4294967296)) (IntKind.u64.wrap lo) = hi * 4294967296 + lo := by
    rw [wu64 (a := hi) ⟨hhi.1, by omega⟩]; exact wor ⟨hhi.1, by omega⟩ hlo
  have e2 : IntKind.u64.wrap y = y := wu64 ⟨by omega, by omega⟩
  obtain ⟨q, hq⟩ : ∃ q, hi * 4294967296 + lo = q := ⟨_, rfl⟩
  have hb : 0 ≤ q ∧ q < y * 4294967296 := by omega
  rw [hq] at e1 ⊢
  have e3 : IntKind.u64.wrap (Int.tdiv q y) % 4294967296 = q / y := by
    rw [Int.tdiv_eq_ediv_of_nonneg hb.1]
    have h1 : 0 ≤ q / y := Int.ediv_nonneg hb.1 (by omega)
    have h2 : q / y < 4294967296 := Int.ediv_lt_of_lt_mul (by omega) (by rw [Int.mul_comm]; exact hb.2)
    first | (rw [wu64 ⟨h1, by omega⟩]; omega) | omega
  have e4 : Int.tmod q y % 4294967296 = q % y := by
    rw [Int.tmod_eq_emod_of_nonneg hb.1]
    have h1 : 0 ≤ q % y := Int.emod_nonneg _ (by omega)
    have h2 : q % y < y := Int.emod_lt_of_pos _ (by omega)
    first | (rw [wu64 ⟨h1, by omega⟩]; omega) | omega
  have E := Aside0.mk (And.intro e3 e4)
  clear hhi hlo hy hq hb e3 e4
  go_enter Try.func50, Try.ntmps50
  go_wp2
  go_quiet (fail)
  go_wp2
  go_ret2
  refine ⟨?_, _, rfl⟩
  obtain ⟨e3, e4⟩ := E.out

  simp [e3, e4]

theorem ov_drewN {B : Nat} {a w : World} (h : Below B a w) (n : Nat) : Below B a (w.drewN n) := h.trans ⟨rfl, rfl, rfl, Nat.le_refl _, fun _ _ => rfl⟩
def ovL (d w0 w1 w2 : Int) : Nat → Int
  | 0 => 0
  | 1 => w2 % d
  | 2 => (w2 % d * 4294967296 + w1) % d
  | _ => ((w2 % d * 4294967296 + w1) % d * 4294967296 + w0) % d
def ovB (d w0 w1 w2 : Int) : Nat → Array Value
  | 0 => #[.int .u32 w0, .int .u32 w1, .int .u32 w2]
  | 1 => #[.int .u32 w0, .int .u32 w1, .int .u32 (w2 / d)]
  | 2 => #[.int .u32 w0, .int .u32 ((w2 % d * 4294967296 + w1) / d), .int .u32 (w2 / d)]
  | _ => #[.int .u32 (((w2 % d * 4294967296 + w1) % d * 4294967296 + w0) / d), .int .u32 ((w2 % d * 4294967296 + w1) / d), .int .u32 (w2 / d)]
def ovW (w0 w1 w2 : Int) : Nat → Int
  | 0 => w2
  | 1 => w1
  | _ => w0
theorem ovL_step (d w0 w1 w2 : Int) (i : Nat) (hi : i < 3) : ovL d w0 w1 w2 (i + 1) = (ovL d w0 w1 w2 i * 4294967296 + ovW w0 w1 w2 i) % d := by
  match i, hi with
  | 0, _ => simp [ovL, ovW]
  | 1, _ => rfl
  | 2, _ => rfl
theorem ovB_at (d w0 w1 w2 : Int) (i : Nat) (hi : i < 3) : (ovB d w0 w1 w2 i)[2 - i]? = some (.int .u32 (ovW w0 w1 w2 i)) := by
  match i, hi with
  | 0, _ => rfl
  | 1, _ => rfl
  | 2, _ => rfl
theorem ovB_step (d w0 w1 w2 : Int) (i : Nat) (hi : i < 3) : (ovB d w0 w1 w2 i).setIfInBounds (2 - i) (.int .u32 ((ovL d w0 w1 w2 i * 4294967296 + ovW w0 w1 w2 i) / d)) = ovB d w0 w1 w2 (i + 1) := by
  match i, hi with
  | 0, _ => simp [ovB, ovL, ovW]
  | 1, _ => rfl
  | 2, _ => rfl
theorem ovL_bd {d w0 w1 w2 : Int} (hd : 0 < d) : ∀ i, 0 ≤ ovL d w0 w1 w2 i ∧ ovL d w0 w1 w2 i < d := by
  intro i
  match i with
  | 0 => exact ⟨Int.le_refl _, hd⟩
  | 1 => exact ⟨Int.emod_nonneg _ (by omega), Int.emod_lt_of_pos _ hd⟩
  | 2 => exact ⟨Int.emod_nonneg _ (by omega), Int.emod_lt_of_pos _ hd⟩
  | i + 3 => exact ⟨Int.emod_nonneg _ (by omega), Int.emod_lt_of_pos _ hd⟩
theorem ovW_bd {w0 w1 w2 : Int} (h0 : 0 ≤ w0 ∧ w0 < 4294967296) (h1 : 0 ≤ w1 ∧ w1 < 4294967296) (h2 : 0 ≤ w2 ∧ w2 < 4294967296) (i : Nat) : 0 ≤ ovW w0 w1 w2 i ∧ ovW w0 w1 w2 i < 4294967296 := by
  match i with
  | 0 => exact h2
  | 1 => exact h1
  | i + 2 => exact h0
theorem ov_step {d r w B : Int} (hd : 0 < d) (hr : 0 ≤ r ∧ r < d) (hB : B = 4294967296) (hw : 0 ≤ w ∧ w < B) : 0 ≤ (r * B + w) / d ∧ (r * B + w) / d < B := by
  subst hB
  exact ⟨Int.ediv_nonneg (by omega) (by omega), Int.ediv_lt_of_lt_mul hd (by omega)⟩
theorem ov_sum {d q2 q1 q0 r2 r1 r0 w0 w1 w2 : Int} (e2 : d * q2 + r2 = w2) (e1 : d * q1 + r1 = r2 * 4294967296 + w1) (e0 : d * q0 + r0 = r1 * 4294967296 + w0) : r0 + d * (q0 + 4294967296 * q1 + 18446744073709551616 * q2) = w0 + 4294967296 * (w1 + 4294967296 * (w2 + 4294967296 * 0)) := by grind
theorem over_eq (d w0 w1 w2 : Int) (h0 : 0 ≤ w0 ∧ w0 < 4294967296) (h1 : 0 ≤ w1 ∧ w1 < 4294967296) (h2 : 0 ≤ w2 ∧ w2 < 4294967296) (hd : 0 < d) (hd2 : d < 4294967296) : ovB d w0 w1 w2 3 = #[.int .u32 ((wval [w0, w1, w2] / d) % 4294967296), .int .u32 ((wval [w0, w1, w2] / d) / 4294967296 % 4294967296), .int .u32 ((wval [w0, w1, w2] / d) / 18446744073709551616 % 4294967296)] ∧ ovL d w0 w1 w2 3 = wval [w0, w1, w2] % d := by
  have a2 : 0 ≤ w2 / d ∧ w2 / d < 4294967296 := by have := ov_step (r := 0) hd ⟨Int.le_refl _, hd⟩ rfl h2; simpa using this
  have b2 : 0 ≤ w2 % d ∧ w2 % d < d := ⟨Int.emod_nonneg _ (by omega), Int.emod_lt_of_pos _ hd⟩
  have a1 := ov_step hd b2 rfl h1
  have b1 : 0 ≤ (w2 % d * 4294967296 + w1) % d ∧ (w2 % d * 4294967296 + w1) % d < d := ⟨Int.emod_nonneg _ (by omega), Int.emod_lt_of_pos _ hd⟩
  have a0 := ov_step hd b1 rfl h0
  have b0 : 0 ≤ ((w2 % d * 4294967296 + w1) % d * 4294967296 + w0) % d ∧ ((w2 % d * 4294967296 + w1) % d * 4294967296 + w0) % d < d := ⟨Int.emod_nonneg _ (by omega), Int.emod_lt_of_pos _ hd⟩
  have hs := ov_sum (Int.mul_ediv_add_emod w2 d) (Int.mul_ediv_add_emod (w2 % d * 4294967296 + w1) d) (Int.mul_ediv_add_emod ((w2 % d * 4294967296 + w1) % d * 4294967296 + w0) d)
  have e := (Int.ediv_emod_unique hd).2 ⟨hs, b0⟩
  have ev : wval [w0, w1, w2] = w0 + 4294967296 * (w1 + 4294967296 * (w2 + 4294967296 * 0)) := rfl
  rw [ev, e.1, e.2]
  generalize hq2 : w2 / d = q2 at *
  generalize hq1 : (w2 % d * 4294967296 + w1) / d = q1 at *
  generalize hq0 : ((w2 % d * 4294967296 + w1) % d * 4294967296 + w0) / d = q0 at *
  refine ⟨?_, rfl⟩
  rw [show ovB d w0 w1 w2 3 = #[.int .u32 (((w2 % d * 4294967296 + w1) % d * 4294967296 + w0) / d), .int .u32 ((w2 % d * 4294967296 + w1) / d), .int .u32 (w2 / d)] from rfl, hq0, hq1, hq2]
  rw [show (q0 + 4294967296 * q1 + 18446744073709551616 * q2) % 4294967296 = q0 by omega, show (q0 + 4294967296 * q1 + 18446744073709551616 * q2) / 4294967296 % 4294967296 = q1 by omega, show (q0 + 4294967296 * q1 + 18446744073709551616 * q2) / 18446744073709551616 % 4294967296 = q2 by omega]
set_option maxHeartbeats 4000000 in
set_option maxRecDepth 100000 in
theorem words_Over.zero (w : World) (w0 w1 w2 : Int) :
    Calls Try.prog 21 #[.agg #[.int .u32 w0, .int .u32 w1, .int .u32 w2], .int .u32 0] w fun e w' => e = .returned (.tuple #[.agg #[.int .u32 0, .int .u32 0, .int .u32 0], .int .u32 0, .int .i64 4]) ∧ Below w.heap.size w w' := by
  have hu63 := Try.underlying24
  have B4 := blk_new (w.alloc (.cells #[.int .u32 w0, .int .u32 w1, .int .u32 w2] 24)) (.cells #[.int .u32 0, .int .u32 0, .int .u32 0] 24)
  have hb2 := Aside0.mk (below_alloc (below_alloc (Below.refl w.heap.size w) (.cells #[.int .u32 w0, .int .u32 w1, .int .u32 w2] 24)) (.cells #[.int .u32 0, .int .u32 0, .int .u32 0] 24))
  rw [World.size_alloc] at B4
  have HB4 := Aside0.mk B4
  clear B4
  go_enter Try.func21, Try.ntmps21
  go_wp2_with ((with_reducible refine gate_store (t := 24) (p := 4) rfl ?_); refine seg.list rfl rfl 24 (.tmp 4) _ rfl 24 (w.heap.size + 1) 0 #[.int .u32 0, .int .u32 0, .int .u32 0] #[.int .u32 0, .int .u32 0, .int .u32 0] [.int .u32 0, .int .u32 0, .int .u32 0] rfl rfl (by kernel_rfl) (by simp [Value.oneCell']) HB4.out (by simp) rfl ?_; intro w9 bx hgr)
  refine bodyPost_ret (results_ctt (p := 4) (u := 5) (v := 6) rfl _ w9 (w.heap.size + 1) 24 _ (0, 0) _ rfl bx Try.underlying24 rfl (by kernel_rfl)) rfl ?_
  exact ⟨rfl, seg.below hb2.out hgr (Nat.le_succ _)⟩
set_option maxHeartbeats 8000000 in
set_option maxRecDepth 100000 in
theorem words_Over.at_ (w : World) (w0 w1 w2 d : Int) (h0 : 0 ≤ w0 ∧ w0 < 4294967296) (h1 : 0 ≤ w1 ∧ w1 < 4294967296) (h2 : 0 ≤ w2 ∧ w2 < 4294967296) (hd : 0 < d) (hd2 : d < 4294967296) :
    Calls Try.prog 21 #[.agg #[.int .u32 w0, .int .u32 w1, .int .u32 w2], .int .u32 d] w fun e w' => e = .returned (.tuple #[.agg #[.int .u32 ((wval [w0, w1, w2] / d) % 4294967296), .int .u32 ((wval [w0, w1, w2] / d) / 4294967296 % 4294967296), .int .u32 ((wval [w0, w1, w2] / d) / 18446744073709551616 % 4294967296)], .int .u32 (wval [w0, w1, w2] % d), .int .i64 0]) ∧ Below w.heap.size w w' := by
  have hu63 := Try.underlying24
  have HE0 := Aside0.mk (over_eq d w0 w1 w2 h0 h1 h2 hd hd2)
  have HL := Aside0.mk (fun i => ovL_bd (w0 := w0) (w1 := w1) (w2 := w2) hd i)
  have HW := Aside0.mk (ovW_bd h0 h1 h2)
  have HD := Aside0.mk (And.intro hd hd2)
  have hd0 : (d == 0) = false := by simp; omega
  have B2 := blk_alloc (blk_new w (.cells #[.int .u32 w0, .int .u32 w1, .int .u32 w2] 24)) (.cells #[.int .u32 0, .int .u32 0, .int .u32 0] 24)
  have B4 := blk_new (w.alloc (.cells #[.int .u32 w0, .int .u32 w1, .int .u32 w2] 24)) (.cells #[.int .u32 0, .int .u32 0, .int .u32 0] 24)
  have hb2 := below_alloc (below_alloc (Below.refl w.heap.size w) (.cells #[.int .u32 w0, .int .u32 w1, .int .u32 w2] 24)) (.cells #[.int .u32 0, .int .u32 0, .int .u32 0] 24)
  rw [World.size_alloc] at B4
  clear h0 h1 h2 hd hd2
  go_enter Try.func21, Try.ntmps21
  go_wp2
  go_loopg [7, 8, 9, 13] 3 (fun kq v7 v8 v9 v13 w' => ∃ i : Nat, v7 = .int .u32 (ovL d w0 w1 w2 i) ∧ v13 = .int .i64 (i : Int) ∧ i ≤ 3 ∧ kq = 3 - i ∧ Aside0 (w'.heap[w.heap.size]? = some (.cells (ovB d w0 w1 w2 i) 24 (0, 0))) ∧ Aside0 (w'.heap[w.heap.size + 1]? = some (.cells #[.int .u32 0, .int .u32 0, .int .u32 0] 24 (0, 0))) ∧ Aside0 (Below w.heap.size w w'))
  case atStart => exact ⟨0, rfl, rfl, by decide, rfl, ⟨B2⟩, ⟨B4⟩, ⟨hb2⟩⟩
  case round =>
    clear B2 B4 hb2
    obtain ⟨i, rfl, rfl, hi, rfl, B2, B4, HB⟩ := hrel
    by_cases hlt : i < 3
    · have hltb : decide (i < 3) = true := decide_eq_true hlt
      obtain ⟨x, hx⟩ : ∃ x, ovW w0 w1 w2 i = x := ⟨_, rfl⟩
      obtain ⟨ci, hci⟩ : ∃ ci, ovL d w0 w1 w2 i = ci := ⟨_, rfl⟩
      obtain ⟨k, hk⟩ : ∃ k, 2 - i = k := ⟨_, rfl⟩
      have hkb : k < 3 := by omega
      have hwk : IntKind.i64.wrap (2 - (i : Int)) = (k : Int) := by rw [Go.IntKind.wrap_i64]; omega
      have hc3 : wr.cell? ⟨w.heap.size, k, none⟩ = some (.int .u32 x) := by rw [blk_cell B2.out k, ← hk, ovB_at _ _ _ _ i hlt, hx]
      have hf3 := blk_frozen B2.out k
      have HXC := Aside0.mk (And.intro hx (And.intro hci hk))
      have hwb := Aside0.mk (HW.out i)
      have hcb := Aside0.mk (HL.out i)
      rw [hx] at hwb
      rw [hci] at hcb ⊢
      clear hx hci hk hi
      go_wp2_with (go_at_call 50; refine (bits_Div32.calls _ ci x d hcb.out hwb.out HD.out.2).mono ?_; rintro e wq ⟨rfl, nq, rfl⟩)
      go_roundg (3 - (i + 1))
      case measure => omega
      case rel =>
        refine ⟨i + 1, by rw [ovL_step _ _ _ _ i hlt, HXC.out.1, HXC.out.2.1], by first | rfl | simp, by omega, rfl, ⟨?_⟩, ⟨blk_far (blk_drewN B4.out nq) (p := ⟨w.heap.size, k, none⟩) (by simp) _⟩, ⟨below_set (ov_drewN HB.out nq) (Nat.le_refl _)⟩⟩
        rw [← ovB_step _ _ _ _ i hlt, HXC.out.1, HXC.out.2.1, HXC.out.2.2]
        exact blk_set (blk_drewN B2.out nq) k _
    · have hltb : decide (i < 3) = false := decide_eq_false hlt
      obtain rfl : i = 3 := by omega
      obtain ⟨hE, hE2⟩ := HE0.out
      obtain ⟨e0, e1, e2, hF⟩ : ∃ e0 e1 e2 : Value, #[.int .u32 ((wval [w0, w1, w2] / d) % 4294967296), .int .u32 ((wval [w0, w1, w2] / d) / 4294967296 % 4294967296), .int .u32 ((wval [w0, w1, w2] / d) / 18446744073709551616 % 4294967296)] = #[e0, e1, e2] ∧ e0.oneCell' = true ∧ e1.oneCell' = true ∧ e2.oneCell' = true := ⟨_, _, _, rfl, rfl, rfl, rfl⟩
      obtain ⟨hF, o0, o1, o2⟩ := hF
      rw [hE2]
      rw [hE] at B2
      rw [hF] at B2
      have HF := Aside0.mk hF
      clear hE hE2 hF
      have x0 : wr.cell? ⟨w.heap.size, 0, none⟩ = some e0 := (blk_cell B2.out 0).trans rfl
      have x1 : wr.cell? ⟨w.heap.size, 1, none⟩ = some e1 := (blk_cell B2.out 1).trans rfl
      have x2 : wr.cell? ⟨w.heap.size, 2, none⟩ = some e2 := (blk_cell B2.out 2).trans rfl
      have O := Aside0.mk (And.intro o0 (And.intro o1 o2))
      clear o0 o1 o2
      go_wp2_with ((with_reducible refine gate_store (t := 24) (p := 4) rfl ?_); refine seg.list rfl rfl 24 (.tmp 4) _ rfl 24 (w.heap.size + 1) 0 #[.int .u32 0, .int .u32 0, .int .u32 0] #[e0, e1, e2] [e0, e1, e2] rfl rfl (by kernel_rfl) (by simp [O.out.1, O.out.2.1, O.out.2.2]) B4.out (by simp) rfl ?_; intro w9 bx hgr)
      refine bodyPost_ret (results_ctt (p := 4) (u := 5) (v := 6) rfl _ w9 (w.heap.size + 1) 24 _ (0, 0) _ rfl bx Try.underlying24 rfl (by kernel_rfl)) rfl ?_
      exact ⟨by rw [HF.out]; rfl, seg.below HB.out hgr (Nat.le_succ _)⟩

/-! ### words_Over: function 21 (by hand) -/
def words_Over.f (a0_0 : Int) (a0_1 : Int) (a0_2 : Int) (a1 : Int) : Option (Int × Int × Int × Int × Int) := if (0 ≤ a0_0 ∧ a0_0 < 4294967296) ∧ (0 ≤ a0_1 ∧ a0_1 < 4294967296) ∧ (0 ≤ a0_2 ∧ a0_2 < 4294967296) ∧ (0 ≤ a1 ∧ a1 < 4294967296) then (if a1 = 0 then some (0, 0, 0, 0, 4) else some ((wval [a0_0, a0_1, a0_2] / a1) % 4294967296, (wval [a0_0, a0_1, a0_2] / a1) / 4294967296 % 4294967296, (wval [a0_0, a0_1, a0_2] / a1) / 18446744073709551616 % 4294967296, wval [a0_0, a0_1, a0_2] % a1, 0)) else none
theorem words_Over.calls (a0_0 : Int) (a0_1 : Int) (a0_2 : Int) (a1 : Int) (r1 : Int) (r2 : Int) (r3 : Int) (r4 : Int) (r5 : Int) (w : World) (h : words_Over.f a0_0 a0_1 a0_2 a1 = some (r1, r2, r3, r4, r5)) :
    Calls Try.prog 21 #[.agg #[.int .u32 a0_0, .int .u32 a0_1, .int .u32 a0_2], .int .u32 a1] w fun e w' => e = .returned (.tuple #[.agg #[.int .u32 r1, .int .u32 r2, .int .u32 r3], .int .u32 r4, .int .i64 r5]) ∧ Below w.heap.size w w' := by
  unfold words_Over.f at h
  split at h
  · rename_i hc
    split at h
    · rename_i h0
      subst h0
      simp only [Option.some.injEq, Prod.mk.injEq] at h
      obtain ⟨rfl, rfl, rfl, rfl, rfl⟩ := h
      exact words_Over.zero w a0_0 a0_1 a0_2
    · rename_i h0
      simp only [Option.some.injEq, Prod.mk.injEq] at h
      obtain ⟨rfl, rfl, rfl, rfl, rfl⟩ := h
      exact words_Over.at_ w a0_0 a0_1 a0_2 a1 hc.1 hc.2.1 hc.2.2.1 (by omega) hc.2.2.2.2
  · cases h

/-! ### slices_Reverse_string_string: function 22 -/
theorem xa22 {w : World} {g : Nat} {o : Obj} (h : w.heap[g]? = some o) (o' : Obj) : (w.alloc o').heap[g]? = some o := blk_alloc h o'
theorem xd22 {w : World} {g : Nat} {o : Obj} (h : w.heap[g]? = some o) : w.drew.heap[g]? = some o := blk_drew h
theorem xn22 {w : World} {g : Nat} {o : Obj} (h : w.heap[g]? = some o) (n : Nat) : (w.drewN n).heap[g]? = some o := blk_drewN h n
def slices_Reverse_string_string.l0 : Nat → List ByteArray → Int → Int → Option (List ByteArray)
  | 0, _, _, _ => none
  | k + 1, x0, x2, x3 => if x2 < x3 then (if 0 ≤ x3 then (if x3 < (x0.length : Int) then (if 0 ≤ x2 then (if x2 < (x0.length : Int) then (slices_Reverse_string_string.l0 k ((x0.set (x2 : Int).toNat (rdOf ByteArray.empty x0 x3)).set (x3 : Int).toNat (rdOf ByteArray.empty x0 x2)) (wrap64 (x2 + 1)) (wrap64 (x3 - 1))) else (none)) else (none)) else (none)) else (none)) else (some x0)
def slices_Reverse_string_string.f (k : Nat) (l0 : List ByteArray) : Option (List ByteArray) := slices_Reverse_string_string.l0 k l0 0 (wrap64 ((l0.length : Int) - 1))
theorem slices_Reverse_string_string.mono_l : ∀ k, (∀ y0 y1 y2, LeO (slices_Reverse_string_string.l0 k y0 y1 y2) (slices_Reverse_string_string.l0 (k + 1) y0 y1 y2))
  | 0 => fun _ _ _ r h => by simp [slices_Reverse_string_string.l0] at h
  | k + 1 => by
    have ih0 := slices_Reverse_string_string.mono_l k
    · intro y0 y1 y2
      unfold slices_Reverse_string_string.l0
      repeat' first
      | (with_reducible exact ih0 _ _ _)
      | (with_reducible exact LeO.refl _)
      | (with_reducible exact LeO.none _)
      | (with_reducible refine LeO.ite ?_ ?_)
      | (with_reducible refine LeO.bind ?_ (fun _ => ?_))
      | exact ih0 _ _ _
      | exact LeO.none _
      | refine LeO.ite ?_ ?_
      | refine LeO.bind ?_ (fun _ => ?_)
theorem slices_Reverse_string_string.mono : ∀ a0 k, LeO (slices_Reverse_string_string.f k a0) (slices_Reverse_string_string.f (k + 1) a0) := by
  intro a0 k
  have ih0 := slices_Reverse_string_string.mono_l k
  unfold slices_Reverse_string_string.f
  repeat' first
      | (with_reducible exact ih0 _ _ _)
      | (with_reducible exact LeO.refl _)
      | (with_reducible exact LeO.none _)
      | (with_reducible refine LeO.ite ?_ ?_)
      | (with_reducible refine LeO.bind ?_ (fun _ => ?_))
      | exact ih0 _ _ _
      | exact LeO.none _
      | refine LeO.ite ?_ ?_
      | refine LeO.bind ?_ (fun _ => ?_)
def slices_Reverse_string_string.T3 : Bool × List (List Nat × List Nat) := (true, [([], []), ([], []), ([], []), ([], []), ([], []), ([], []), ([4, 5], [4, 5]), ([6], [6]), ([], []), ([], []), ([8, 9], [8, 9]), ([10], [10]), ([0, 1, 0, 1, 4, 5, 6, 7, 11], [0, 1]), ([12, 7, 0, 1, 4, 5, 6, 7, 11], [7, 12]), ([2, 3, 0, 1, 2, 3, 4, 5, 6, 7, 8, 9, 10, 11, 12, 13], [2, 3]), ([14, 11, 13, 0, 1, 2, 3, 4, 5, 6, 7, 8, 9, 10, 11, 12, 13], [11, 14])])
def slices_Reverse_string_string.B3 : List Nat := [0, 0, 0, 0, 0, 0, 48, 112, 0, 0, 768, 1792, 4083, 8179, 16383, 32767]
theorem slices_Reverse_string_string.tab3 : rtab .any (opsOf Try.f22 3) = slices_Reverse_string_string.T3 := by kernel_rfl
theorem slices_Reverse_string_string.bits3 : waitsOk slices_Reverse_string_string.T3.2 slices_Reverse_string_string.B3 = true := by kernel_rfl
set_option maxHeartbeats 8000000 in
set_option maxRecDepth 100000 in
theorem slices_Reverse_string_string.calls (k : Nat) (P0_ : Nat → Prop) (u9000_ : Value) (l0 : List ByteArray) (r : List ByteArray) (w0 w : World) (hB : Below w0.heap.size w0 w) (ho0 : Kd.R Kd.string 9 w w0.heap.size P0_ u9000_ l0) (h : slices_Reverse_string_string.f k l0 = some r) :
    Calls Try.prog 22 #[u9000_] w fun e w' => e = .returned (.tuple #[]) ∧ Kd.R Kd.string 9 w' w0.heap.size (fun k_ => (P0_ k_ ∨ w.heap.size ≤ k_)) u9000_ r ∧ Below w0.heap.size w0 w' ∧ Kept w w' (fun k_ => P0_ k_) := by
  have HO0 := Aside0.mk (show Kd.R Kd.string 9 w w0.heap.size (fun k_ => (P0_ k_ ∨ w.heap.size ≤ k_)) u9000_ l0 from Kd.R_mono ho0 (fun k_ hk => (.inl hk)))
  have HK := Aside0.mk (Kept.refl w (fun k_ => P0_ k_))
  have HW0 := Aside0.mk hB.size
  have HB := Aside0.mk hB
  clear hB
  have H : (slices_Reverse_string_string.l0 k l0 0 (wrap64 ((l0.length : Int) - 1))) = some r := h
  clear h
  have H' := Aside0.mk H
  clear H
  obtain ⟨Ao2, co2, eo2⟩ := Kd.R_slice HO0.1
  subst eo2
  go_enter Try.func22, Try.ntmps22
  go_wp2
  go_loopg [2, 3] k (fun kq v2 v3 w' => ∃ (x0_1 : List ByteArray) (x2_1 : Int) (x3_1 : Int), v2 = .int .i64 x2_1 ∧ v3 = .int .i64 x3_1 ∧ Aside0 (slices_Reverse_string_string.l0 kq x0_1 x2_1 x3_1 = some r) ∧ Aside0 (kq ≤ k) ∧ Aside0 (Kd.R Kd.string 9 w' w0.heap.size (fun k_ => (P0_ k_ ∨ w.heap.size ≤ k_)) (.slice Ao2 l0.length co2) x0_1) ∧ Aside0 (Kept w w' (fun k_ => P0_ k_)) ∧ Aside0 (Below w0.heap.size w0 w'))
  case atStart => exact ⟨(l0), (0), (wrap64 ((l0.length : Int) - 1)), (by first | rfl | (simp; done) | (simp [*]; done)), (by first | rfl | (simp; done) | (simp [*]; done)), H', ⟨Nat.le_refl _⟩, ⟨by (with_reducible repeat (first | apply Kd.R_alloc | apply Kd.R_drewN | apply Kd.R_drew)); exact HO0.1⟩, ⟨by repeat (first | (with_reducible first | exact HK.out | apply Kept.alloc | apply Kept.drewN | apply Kept.drew) | exact HK.out)⟩, ⟨by repeat (first | (with_reducible first | exact HB.1 | apply below_alloc | apply pw_below_drewN | apply below_drew1) | exact HB.1)⟩⟩
  case round =>
    clear H'
    try clear c2
    try clear p2
    obtain ⟨x0_1, x2_1, x3_1, rfl, rfl, HA, HK1, HO_0, HK, HB⟩ := hrel
    have hl0_1 := (Kd.R_reads' HO_0.out).1
    rw [hl0_1] at HO_0
    (try simp only [hl0_1])
    cases gk with
    | zero => exact absurd HA.out (by simp [slices_Reverse_string_string.l0])
    | succ k1 =>
      have H := HA.out
      clear HA
      simp only [slices_Reverse_string_string.l0] at H
      by_cases c3 : x2_1 < x3_1
      · rw [if_pos c3] at H
        have c3b0 : decide (x2_1 < x3_1) = true := decide_eq_true c3
        clear c3
        by_cases c4 : 0 ≤ x3_1
        · rw [if_pos c4] at H
          have c4b0 : decide (0 ≤ x3_1) = true := decide_eq_true c4
          clear c4
          by_cases c5 : x3_1 < (x0_1.length : Int)
          · rw [if_pos c5] at H
            have c5b0 : decide (x3_1 < (x0_1.length : Int)) = true := decide_eq_true c5
            clear c5
            by_cases c6 : 0 ≤ x2_1
            · rw [if_pos c6] at H
              have c6b0 : decide (0 ≤ x2_1) = true := decide_eq_true c6
              clear c6
              by_cases c7 : x2_1 < (x0_1.length : Int)
              · rw [if_pos c7] at H
                have c7b0 : decide (x2_1 < (x0_1.length : Int)) = true := decide_eq_true c7
                clear c7
                obtain ⟨y103, hy103⟩ : ∃ y_ : List ByteArray, y_ = (x0_1.set (x2_1 : Int).toNat (rdOf ByteArray.empty x0_1 x3_1)) := ⟨_, rfl⟩
                replace H : (slices_Reverse_string_string.l0 k1 (y103.set (x3_1 : Int).toNat (rdOf ByteArray.empty x0_1 x2_1)) (wrap64 (x2_1 + 1)) (wrap64 (x3_1 - 1))) = some r := by first | (rw [hy103]; with_reducible exact H) | (have H2_ := (Option.bind_some _ _).symm.trans H; rw [hy103]; with_reducible exact H2_) | (have H2_ := (Option.bind_some _ _).symm.trans H; with_reducible exact H2_) | with_reducible exact H | (rw [hy103]; exact H) | exact H
                have Ny103 := Aside0.mk hy103
                clear hy103
                obtain ⟨y104, hy104⟩ : ∃ y_ : List ByteArray, y_ = (y103.set (x3_1 : Int).toNat (rdOf ByteArray.empty x0_1 x2_1)) := ⟨_, rfl⟩
                replace H : (slices_Reverse_string_string.l0 k1 y104 (wrap64 (x2_1 + 1)) (wrap64 (x3_1 - 1))) = some r := by first | (rw [hy104]; with_reducible exact H) | (have H2_ := (Option.bind_some _ _).symm.trans H; rw [hy104]; with_reducible exact H2_) | (have H2_ := (Option.bind_some _ _).symm.trans H; with_reducible exact H2_) | with_reducible exact H | (rw [hy104]; exact H) | exact H
                have Ny104 := Aside0.mk hy104
                clear hy104
                have H' := Aside0.mk H
                clear H
                try go_wp2
                have n0_ := Aside0.mk (Kd.R_drew HO_0.out)
                have n1_ := Aside0.mk (Kept.drew HK.out)
                have n2_ := Aside0.mk (below_drew1 HB.1)
                clear HO_0
                clear HK
                clear HB
                have HO_0 := n0_
                have HK := n1_
                have HB := n2_
                clear n0_ n1_ n2_
                have p101 : 0 ≤ (x3_1 : Int) := of_decide_eq_true (by first | (with_reducible assumption) | assumption)
                have q101 : x3_1 < (x0_1.length : Int) := of_decide_eq_true (by first | (with_reducible assumption) | assumption)
                obtain ⟨ad101, e101, hx101_0⟩ := Kd.at_string (Kd.R_reads' HO_0.out).2.2 x3_1 p101 q101
                cases e101
                replace p101 := eq_true p101
                replace q101 := eq_true q101
                have p102 : 0 ≤ (x2_1 : Int) := of_decide_eq_true (by first | (with_reducible assumption) | assumption)
                have q102 : x2_1 < (x0_1.length : Int) := of_decide_eq_true (by first | (with_reducible assumption) | assumption)
                obtain ⟨ad102, e102, hx102_0⟩ := Kd.at_string (Kd.R_reads' HO_0.out).2.2 x2_1 p102 q102
                obtain rfl : ad101 = ad102 := (by injection e102)
                replace p102 := eq_true p102
                replace q102 := eq_true q102
                have p8 : 0 ≤ (x2_1 : Int) := of_decide_eq_true (by first | (with_reducible assumption) | assumption)
                have q8 : (x2_1 : Int) < ((x0_1.length : Int) : Int) := of_decide_eq_true (by first | (with_reducible assumption) | assumption)
                obtain ⟨go8, co8, eo8, gb8, gl8, cl8, HG8⟩ := Kd.R_form HO_0.out (by omega)
                (first | cases eo8 | (injection eo8 with ea_ en_ ec_; (first | subst ea_ | (injection ea_ with ea_; subst ea_)); subst ec_; clear en_))
                have GB8 := Aside0.mk gb8
                have GG8 := Aside0.mk HG8
                clear gb8 gl8 HG8
                have HMgo8 := Aside0.mk (show (P0_ go8 ∨ w.heap.size ≤ go8) from (HO_0.out.1 _ rfl))
                (first | simp only [add_plain] at hx101_0 | skip)
                (first | simp only [add_plain] at hx102_0 | skip)
                obtain ⟨hx8_0, hf8_0⟩ := Kd.R_celln (⟨#[]⟩ : ByteArray) HO_0.out (x2_1 : Int) p8 q8
                replace p8 := eq_true p8
                replace q8 := eq_true q8
                have HP11 := Kd.R_putn HO_0.out (x2_1 : Int) (rdOf ByteArray.empty x0_1 x3_1)
                rw [← Ny103.out] at HP11
                have HQ11 := Aside0.mk HP11
                clear HP11
                have p9 : 0 ≤ (x3_1 : Int) := of_decide_eq_true (by first | (with_reducible assumption) | assumption)
                have q9 : (x3_1 : Int) < ((x0_1.length : Int) : Int) := of_decide_eq_true (by first | (with_reducible assumption) | assumption)
                obtain ⟨hx9_0, hf9_0⟩ := Kd.R_celln (⟨#[]⟩ : ByteArray) HQ11.out (x3_1 : Int) p9 q9
                replace p9 := eq_true p9
                replace q9 := eq_true q9
                have HP12 := Kd.R_putn HQ11.out (x3_1 : Int) (rdOf ByteArray.empty x0_1 x2_1)
                rw [← Ny104.out] at HP12
                have HQ12 := Aside0.mk HP12
                clear HP12
                refine start_ (n := 16) (S := fun w' => w'.cell? ⟨go8, (x3_1).toNat, none⟩ = some (.string (rdOf ByteArray.empty x0_1 x3_1)) ∧ w'.cell? ⟨go8, (x2_1).toNat, none⟩ = some (.string (rdOf ByteArray.empty x0_1 x2_1))) (ds := [13, 15]) #[false, false, false, false, false, false, false, false, false, false, false, false, false, false, false, false] (by kernel_rfl) rfl rfl ⟨hx101_0, hx102_0⟩ (fun hHeld => ?_); refine with_tabW slices_Reverse_string_string.tab3 slices_Reverse_string_string.bits3 (fun HT_ HW_ => ?_)
                generalize wr.drew = w10 at HO_0 HK HB GG8 HQ11 HQ12 hf8_0 hf9_0 hx101_0 hx102_0 hx8_0 hx9_0 hHeld ⊢
                refine pure_ (i := 0) (N := some 14) (v := ?_) (a' := ?_) #[true, false, false, false, false, false, false, false, false, false, false, false, false, false, false, false] rfl rfl (any_of HT_.out (by kernel_rfl)) (fun _ _ _ h => h) (Or.inl ⟨by rfl, ?_⟩) ?_ ?_
                rotate_left
                · intro w'
                  go_simp
                  with_reducible rfl
                rotate_left
                · simp only [Act.put, List.setIfInBounds_toArray, List.set_cons_zero, List.set_cons_succ, i64_w, i32_w]
                  rfl
                refine pure_ (i := 1) (N := some 15) (v := ?_) (a' := ?_) #[true, true, false, false, false, false, false, false, false, false, false, false, false, false, false, false] rfl rfl (any_of HT_.out (by kernel_rfl)) (fun _ _ _ h => h) (Or.inl ⟨by rfl, ?_⟩) ?_ ?_
                rotate_left
                · intro w'
                  go_simp
                  with_reducible rfl
                rotate_left
                · simp only [Act.put, List.setIfInBounds_toArray, List.set_cons_zero, List.set_cons_succ, i64_w, i32_w]
                  rfl
                refine pure_ (i := 2) (N := some 16) (v := ?_) (a' := ?_) #[true, true, true, false, false, false, false, false, false, false, false, false, false, false, false, false] rfl rfl (any_of HT_.out (by kernel_rfl)) (fun _ _ _ h => h) (Or.inl ⟨by rfl, ?_⟩) ?_ ?_
                rotate_left
                · intro w'
                  go_simp
                  with_reducible rfl
                rotate_left
                · simp only [Act.put, List.setIfInBounds_toArray, List.set_cons_zero, List.set_cons_succ, i64_w, i32_w]
                  rfl
                refine pure_ (i := 3) (N := some 17) (v := ?_) (a' := ?_) #[true, true, true, true, false, false, false, false, false, false, false, false, false, false, false, false] rfl rfl (any_of HT_.out (by kernel_rfl)) (fun _ _ _ h => h) (Or.inl ⟨by rfl, ?_⟩) ?_ ?_
                rotate_left
                · intro w'
                  go_simp
                  with_reducible rfl
                rotate_left
                · simp only [Act.put, List.setIfInBounds_toArray, List.set_cons_zero, List.set_cons_succ, i64_w, i32_w]
                  rfl
                refine pure_ (i := 4) (N := some 18) (v := ?_) (a' := ?_) #[true, true, true, true, true, false, false, false, false, false, false, false, false, false, false, false] rfl rfl (any_of HT_.out (by kernel_rfl)) (fun _ _ _ h => h) (Or.inl ⟨by rfl, ?_⟩) ?_ ?_
                rotate_left
                · intro w'
                  go_simp
                  with_reducible rfl
                rotate_left
                · simp only [Act.put, List.setIfInBounds_toArray, List.set_cons_zero, List.set_cons_succ, i64_w, i32_w]
                  rfl
                refine pure_ (i := 5) (N := some 19) (v := ?_) (a' := ?_) #[true, true, true, true, true, true, false, false, false, false, false, false, false, false, false, false] rfl rfl (any_of HT_.out (by kernel_rfl)) (fun _ _ _ h => h) (Or.inl ⟨by rfl, ?_⟩) ?_ ?_
                rotate_left
                · intro w'
                  go_simp
                  with_reducible rfl
                rotate_left
                · simp only [Act.put, List.setIfInBounds_toArray, List.set_cons_zero, List.set_cons_succ, i64_w, i32_w]
                  rfl
                refine pure_ (i := 6) (N := some 20) (v := ?_) (a' := ?_) #[true, true, true, true, true, true, true, false, false, false, false, false, false, false, false, false] rfl rfl (any_of HT_.out (by kernel_rfl)) (fun _ _ _ h => h) (Or.inl ⟨by rfl, ?_⟩) ?_ ?_
                rotate_left
                · intro w'
                  go_simp
                  with_reducible rfl
                rotate_left
                · simp only [Act.put, List.setIfInBounds_toArray, List.set_cons_zero, List.set_cons_succ, i64_w, i32_w]
                  rfl
                refine pure_ (i := 8) (N := some 22) (v := ?_) (a' := ?_) #[true, true, true, true, true, true, true, false, true, false, false, false, false, false, false, false] rfl rfl (any_of HT_.out (by kernel_rfl)) (fun _ _ _ h => h) (Or.inl ⟨by rfl, ?_⟩) ?_ ?_
                rotate_left
                · intro w'
                  go_simp
                  with_reducible rfl
                rotate_left
                · simp only [Act.put, List.setIfInBounds_toArray, List.set_cons_zero, List.set_cons_succ, i64_w, i32_w]
                  rfl
                refine pure_ (i := 9) (N := some 23) (v := ?_) (a' := ?_) #[true, true, true, true, true, true, true, false, true, true, false, false, false, false, false, false] rfl rfl (any_of HT_.out (by kernel_rfl)) (fun _ _ _ h => h) (Or.inl ⟨by rfl, ?_⟩) ?_ ?_
                rotate_left
                · intro w'
                  go_simp
                  with_reducible rfl
                rotate_left
                · simp only [Act.put, List.setIfInBounds_toArray, List.set_cons_zero, List.set_cons_succ, i64_w, i32_w]
                  rfl
                refine pure_ (i := 10) (N := some 24) (v := ?_) (a' := ?_) #[true, true, true, true, true, true, true, false, true, true, true, false, false, false, false, false] rfl rfl (any_of HT_.out (by kernel_rfl)) (fun _ _ _ h => h) (Or.inl ⟨by rfl, ?_⟩) ?_ ?_
                rotate_left
                · intro w'
                  go_simp
                  with_reducible rfl
                rotate_left
                · simp only [Act.put, List.setIfInBounds_toArray, List.set_cons_zero, List.set_cons_succ, i64_w, i32_w]
                  rfl
                refine take_ (i := 7) (N := some 21) (v := ?_) (a' := ?_) #[true, true, true, true, true, true, true, true, true, true, true, false, false, false, false, false] rfl rfl (take_ofW HT_.out HW_.out (by kernel_rfl)) (fun _ _ _ h => h) (Or.inl ⟨by rfl, ?_⟩) hHeld ?_ ?_
                rotate_left
                · rintro w' ⟨s0, s1⟩
                  go_simp
                  with_reducible rfl
                rotate_left
                · simp only [Act.put, List.setIfInBounds_toArray, List.set_cons_zero, List.set_cons_succ, i64_w, i32_w]
                  rfl
                refine take_ (i := 11) (N := some 25) (v := ?_) (a' := ?_) #[true, true, true, true, true, true, true, true, true, true, true, true, false, false, false, false] rfl rfl (take_ofW HT_.out HW_.out (by kernel_rfl)) (fun _ _ _ h => h) (Or.inl ⟨by rfl, ?_⟩) hHeld ?_ ?_
                rotate_left
                · rintro w' ⟨s0, s1⟩
                  go_simp
                  with_reducible rfl
                rotate_left
                · simp only [Act.put, List.setIfInBounds_toArray, List.set_cons_zero, List.set_cons_succ, i64_w, i32_w]
                  rfl
                refine pure_ (i := 12) (N := some 26) (v := ?_) (a' := ?_) #[true, true, true, true, true, true, true, true, true, true, true, true, true, false, false, false] rfl rfl (any_of HT_.out (by kernel_rfl)) (fun _ _ _ h => h) (Or.inl ⟨by rfl, ?_⟩) ?_ ?_
                rotate_left
                · intro w'
                  go_simp
                  with_reducible rfl
                rotate_left
                · simp only [Act.put, List.setIfInBounds_toArray, List.set_cons_zero, List.set_cons_succ, i64_w, i32_w]
                  rfl
                refine last_ (i := 13) (N := none) #[true, true, true, true, true, true, true, true, true, true, true, true, true, true, false, false] rfl rfl (one_of HT_.out (by kernel_rfl)) (by decide) (fun K hK => ?_)
                refine skip_ (w1 := ?_) (by rfl) rfl ?_ ?_
                rotate_left
                · go_simp
                  rfl
                refine hK.out _ _ ?_
                clear hK K
                refine pure_ (i := 14) (N := some 27) (v := ?_) (a' := ?_) #[true, true, true, true, true, true, true, true, true, true, true, true, true, true, true, false] rfl rfl (any_of HT_.out (by kernel_rfl)) (fun _ _ _ h => h) (Or.inl ⟨by rfl, ?_⟩) ?_ ?_
                rotate_left
                · intro w'
                  go_simp
                  with_reducible rfl
                rotate_left
                · simp only [Act.put, List.setIfInBounds_toArray, List.set_cons_zero, List.set_cons_succ, i64_w, i32_w]
                  rfl
                refine last_ (i := 15) (N := none) #[true, true, true, true, true, true, true, true, true, true, true, true, true, true, true, true] rfl rfl (one_of HT_.out (by kernel_rfl)) (by decide) (fun K hK => ?_)
                refine skip_ (w1 := ?_) (by rfl) rfl ?_ ?_
                rotate_left
                · go_simp
                  rfl
                refine hK.out _ _ ?_
                clear hK K
                refine done_ (done_of HT_.out (by kernel_rfl)) ?_
                try go_wp2
                (try simp only [← hl0_1])
                go_roundg k1
                case measure => have := HK1.out; omega
                case rel => exact ⟨(y104), (wrap64 (x2_1 + 1)), (wrap64 (x3_1 - 1)), (by first | rfl | (simp; done) | (simp [*]; done)), (by first | rfl | (simp; done) | (simp [*]; done)), H', ⟨by have := HK1.out; omega⟩, ⟨by (try simp only [hl0_1]); (with_reducible repeat (first | apply Kd.R_alloc | apply Kd.R_drewN | apply Kd.R_drew)); exact HQ12.out⟩, ⟨by repeat (first | (with_reducible first | exact HK.out | apply Kept.alloc | apply Kept.drewN | apply Kept.drew | refine Kept.setCell ?_ HMgo8.out _ | refine Kept.setCell ?_ HMgo8.out _) | exact HK.out)⟩, ⟨by repeat (first | (with_reducible first | exact HB.1 | apply below_alloc | apply pw_below_drewN | apply below_drew1 | refine below_set ?_ GB8.out | refine below_set ?_ GB8.out) | exact HB.1)⟩⟩
              · rw [if_neg c7] at H
                exact absurd H (by simp)
            · rw [if_neg c6] at H
              exact absurd H (by simp)
          · rw [if_neg c5] at H
            exact absurd H (by simp)
        · rw [if_neg c4] at H
          exact absurd H (by simp)
      · rw [if_neg c3] at H
        have c3b0 : decide (x2_1 < x3_1) = false := decide_eq_false c3
        clear c3
        obtain rfl := Option.some.inj H
        go_wp2
        first | go_end0 | ((try simp only [Exit.inBlock, Exit.then]); refine bodyPost_ret (results_none rfl _ _ _) rfl ?_)
        exact ⟨by first | rfl | (simp [errW_none, errW_some] <;> rfl) | (simp [*, errW_none, errW_some] <;> rfl), (by first | exact (by (with_reducible repeat (first | apply Kd.R_alloc | apply Kd.R_drewN | apply Kd.R_drew)); exact HO_0.out) | (simp only [hl0_1]; exact (by (with_reducible repeat (first | apply Kd.R_alloc | apply Kd.R_drewN | apply Kd.R_drew)); exact HO_0.out))), by repeat (first | (with_reducible first | exact HB.1 | apply below_alloc | apply pw_below_drewN | apply below_drew1) | exact HB.1), by repeat (first | (with_reducible first | exact HK.out | apply Kept.alloc | apply Kept.drewN | apply Kept.drew) | exact HK.out)⟩

-- NOT PRINTED: function 97 (abi_NoEscape)

-- NOT PRINTED: function 82 (strings_Builder_copyCheck)

-- NOT PRINTED: function 98 (bytealg_MakeNoZero)

-- NOT PRINTED: function 83 (strings_Builder_grow)

-- NOT PRINTED: function 51 (strings_Builder_Grow)

-- NOT PRINTED: function 52 (strings_Builder_WriteString)

-- NOT PRINTED: function 53 (strings_Builder_String)

theorem str_spot {w : World} {a : Addr} {v : Value} (h : w.cell? a = some v) : a.spot = none ∧ a.block < w.heap.size := by
  unfold World.cell? at h
  split at h
  · rename_i c _ _ hh
    refine ⟨?_, (Array.getElem?_eq_some_iff.1 hh).1⟩
    cases hs : a.spot with
    | none => rfl
    | some x => rw [hs] at h; simp at h
  · cases h
theorem strC {w : World} {A : Option Addr} {l : List ByteArray} (h : Kd.C Kd.string w A l.length l) (h0 : 0 < l.length) : ∃ b o, A = some ⟨b, o, none⟩ ∧ b < w.heap.size ∧ ∀ (j : Nat) x, l[j]? = some x → w.cell? ⟨b, o + j, none⟩ = some (.string x) := by
  obtain ⟨ad, hA, hc⟩ := Kd.at_string h 0 (by omega) (by omega)
  have hc0 : w.cell? ad = some (.string (rdOf ByteArray.empty l 0)) := hc
  obtain ⟨hs, hb⟩ := str_spot hc0
  obtain ⟨b, o, s⟩ := ad
  obtain rfl : s = none := hs
  refine ⟨b, o, hA, hb, fun j x hx => ?_⟩
  have hj : j < l.length := (List.getElem?_eq_some_iff.1 hx).1
  obtain ⟨ad2, hA2, hc2⟩ := Kd.at_string h (j : Int) (by omega) (by omega)
  rw [hA] at hA2
  obtain rfl := Option.some.inj hA2
  have e1 : rdOf ByteArray.empty l (j : Int) = x := by
    unfold rdOf
    rw [Int.toNat_natCast, List.getD_eq_getElem?_getD, hx]
    rfl
  rw [e1] at hc2
  cases j with
  | zero => exact hc2
  | succ n => exact hc2

/-! ### strings_Join: function 23 (the kit's contract, in the print's shape) -/
def strings_Join.f (l0 : List ByteArray) (a1 : ByteArray) : Option ByteArray := if l0.length ≤ 140737488355328 ∧ (Lib.join (l0.map (·.data.toList)) a1.data.toList).length ≤ 140737488355328 then some ⟨(Lib.join (l0.map (·.data.toList)) a1.data.toList).toArray⟩ else none
theorem strings_Join.calls (A0 : Option Addr) (c0 : Nat) (l0 : List ByteArray) (a1 : ByteArray) (r : ByteArray) (w : World) (hr0 : Kd.C Kd.string w A0 l0.length l0) (hc0 : l0.length ≤ c0) (h : strings_Join.f l0 a1 = some r) :
    Calls Try.prog 23 #[.slice A0 l0.length c0, .string a1] w fun e w' => e = .returned (.string r) ∧ Below w.heap.size w w' := by
  unfold strings_Join.f at h
  split at h
  · rename_i hc
    obtain rfl := Option.some.inj h
    cases hl : l0 with
    | nil =>
      refine (Try.strings_Join_none A0 c0 a1 w).mono ?_
      rintro e w' ⟨rfl, rfl⟩
      exact ⟨rfl, Below.refl _ _⟩
    | cons x t =>
      rw [← hl]
      obtain ⟨b, o, rfl, hb, hcells⟩ := strC hr0 (by rw [hl]; exact Nat.succ_pos _)
      exact Try.strings_Join b o c0 l0 a1 w hcells hb hc.1 hc0 hc.2
  · cases h

/-! ### words_Show: function 8 -/
theorem xa8 {w : World} {g : Nat} {o : Obj} (h : w.heap[g]? = some o) (o' : Obj) : (w.alloc o').heap[g]? = some o := blk_alloc h o'
theorem xd8 {w : World} {g : Nat} {o : Obj} (h : w.heap[g]? = some o) : w.drew.heap[g]? = some o := blk_drew h
theorem xn8 {w : World} {g : Nat} {o : Obj} (h : w.heap[g]? = some o) (n : Nat) : (w.drewN n).heap[g]? = some o := blk_drewN h n
theorem ya8 {w W : World} (h : Below w.heap.size w W) (o : Obj) : Below w.heap.size w (W.alloc o) := below_alloc h o
theorem yn8 {B : Nat} {w W : World} (h : Below B w W) (n : Nat) : Below B w (W.drewN n) := pw_below_drewN h n
theorem yd8 {B : Nat} {w W : World} (h : Below B w W) : Below B w W.drew := below_drew1 h
theorem c3_8 {w : World} {g : Nat} {t : TypeId} {x0 x1 x2 : Value} {r : List Value} (h : w.heap[g]? = some (.cells (List.toArray (x0 :: x1 :: x2 :: r)) t (0, 0))) : w.cell? ⟨g, 0, none⟩ = some x0 ∧ w.cell? ⟨g, 1, none⟩ = some x1 ∧ w.cell? ⟨g, 2, none⟩ = some x2 := ⟨(blk_cell h 0).trans rfl, (blk_cell h 1).trans rfl, (blk_cell h 2).trans rfl⟩
theorem f3_8 {w : World} {g : Nat} {t : TypeId} {cs : Array Value} (h : w.heap[g]? = some (.cells cs t (0, 0))) : w.frozen? ⟨g, 0, none⟩ = false ∧ w.frozen? ⟨g, 1, none⟩ = false ∧ w.frozen? ⟨g, 2, none⟩ = false := ⟨blk_frozen h 0, blk_frozen h 1, blk_frozen h 2⟩
def words_Show.l0 : Nat → List ByteArray → Int → Int → Int → Option (ByteArray)
  | 0, _, _, _, _ => none
  | k + 1, x3, x106000, x106001, x106002 => (words_Over.f x106000 x106001 x106002 10).bind fun bt106 => (if x3.length < 8796093022208 then ((some (x3 ++ [Utf8.encode (wrap32 ((48 + bt106.2.2.2.1) % 4294967296))] : List ByteArray)).bind fun y112 => (if (bt106.1 == 0 && (bt106.2.1 == 0 && (bt106.2.2.1 == 0))) = true then ((slices_Reverse_string_string.f k y112).bind fun t115 => ((strings_Join.f t115 (⟨#[]⟩ : ByteArray)).bind fun t116 => (some t116))) else (words_Show.l0 k y112 bt106.1 bt106.2.1 bt106.2.2.1))) else (none))
def words_Show.f (k : Nat) (a0_0 : Int) (a0_1 : Int) (a0_2 : Int) : Option (ByteArray) := words_Show.l0 k ([] : List ByteArray) a0_0 a0_1 a0_2
theorem words_Show.mono_l : ∀ k, (∀ y0 y1 y2 y3, LeO (words_Show.l0 k y0 y1 y2 y3) (words_Show.l0 (k + 1) y0 y1 y2 y3))
  | 0 => fun _ _ _ _ r h => by simp [words_Show.l0] at h
  | k + 1 => by
    have ih0 := words_Show.mono_l k
    · intro y0 y1 y2 y3
      unfold words_Show.l0
      repeat' first
      | (with_reducible exact ih0 _ _ _ _)
      | (with_reducible exact slices_Reverse_string_string.mono _ _)
      | (with_reducible exact LeO.refl _)
      | (with_reducible exact LeO.none _)
      | (with_reducible refine LeO.ite ?_ ?_)
      | (with_reducible refine LeO.bind ?_ (fun _ => ?_))
      | exact ih0 _ _ _ _
      | exact slices_Reverse_string_string.mono _ _
      | exact LeO.none _
      | refine LeO.ite ?_ ?_
      | refine LeO.bind ?_ (fun _ => ?_)
theorem words_Show.mono : ∀ a0 a1 a2 k, LeO (words_Show.f k a0 a1 a2) (words_Show.f (k + 1) a0 a1 a2) := by
  intro a0 a1 a2 k
  have ih0 := words_Show.mono_l k
  unfold words_Show.f
  repeat' first
      | (with_reducible exact ih0 _ _ _ _)
      | (with_reducible exact slices_Reverse_string_string.mono _ _)
      | (with_reducible exact LeO.refl _)
      | (with_reducible exact LeO.none _)
      | (with_reducible refine LeO.ite ?_ ?_)
      | (with_reducible refine LeO.bind ?_ (fun _ => ?_))
      | exact ih0 _ _ _ _
      | exact slices_Reverse_string_string.mono _ _
      | exact LeO.none _
      | refine LeO.ite ?_ ?_
      | refine LeO.bind ?_ (fun _ => ?_)
set_option maxHeartbeats 8000000 in
set_option maxRecDepth 100000 in
theorem words_Show.calls (k : Nat) (a0_0 : Int) (a0_1 : Int) (a0_2 : Int) (r : ByteArray) (w : World) (h : words_Show.f k a0_0 a0_1 a0_2 = some r) :
    Calls Try.prog 8 #[.agg #[.int .u32 a0_0, .int .u32 a0_1, .int .u32 a0_2]] w fun e w' => e = .returned (.string r) ∧ Below w.heap.size w w' := by
  have hu24 := Try.underlying24
  have HB := Aside0.mk (Below.refl w.heap.size w)
  have H : (words_Show.l0 k ([] : List ByteArray) a0_0 a0_1 a0_2) = some r := h
  clear h
  have H' := Aside0.mk H
  clear H
  go_enter Try.func8, Try.ntmps8
  go_wp2_with (first | ((with_reducible refine gate_dst (N := 1) rfl ?_); refine box_event ?hg (N := 1) ?hd (cs := #[.int .u32 a0_0, .int .u32 a0_1, .int .u32 a0_2]) (t := 24) ?hr ?_; (case hd => rfl); (case hg => rfl); (case hr => first | (go_simp; done) | (go_simp; rfl)); intro gb105 hg w2 hbox hb; have n0_ := Aside0.mk (below_step (by with_reducible repeat (first | exact HB.1 | apply ya8 | apply yn8 | apply yd8)) hb); have n1_ := Aside0.mk (hbox); have n2_ := Aside0.mk ((by rw [hg]; exact (below_size (by with_reducible repeat (first | exact HB.1 | apply ya8 | apply yn8 | apply yd8))) : w.heap.size ≤ gb105)); have n3_ := n2_; clear HB; have HB := n0_; have BK105 := n1_; have GW105 := n2_; have GE105 := n3_; clear n0_ n1_ n2_ n3_; clear hb hbox hg))
  go_loopg [3] k (fun kq v3 w' => ∃ (x3_1 : List ByteArray) (x106000_1 : Int) (x106001_1 : Int) (x106002_1 : Int), Aside0 (words_Show.l0 kq x3_1 x106000_1 x106001_1 x106002_1 = some r) ∧ Aside0 (kq ≤ k) ∧ Aside0 (Kd.R Kd.string 9 w' w.heap.size (fun _ => True) v3 x3_1) ∧ Aside0 (w'.heap[gb105]? = some (.cells #[.int .u32 x106000_1, .int .u32 x106001_1, .int .u32 x106002_1] 24 (0, 0))) ∧ Aside0 (Below w.heap.size w w'))
  case atStart => exact ⟨(([] : List ByteArray)), (a0_0), (a0_1), (a0_2), H', ⟨Nat.le_refl _⟩, ⟨by first | exact Kd.R_nil _ _ _ _ _ | exact Kd.N_nil _ _ _ _ _ | exact Kd.V_nil _ _ _ _ _ | exact Kd.Q_nil _ _ _ _ _ | exact Kd.S_nil _ _ _ _ _⟩, ⟨by (with_reducible repeat (first | apply xn8 | apply xd8 | apply xa8)); exact BK105.1⟩, ⟨by repeat (first | (with_reducible first | exact HB.1 | apply below_alloc | apply pw_below_drewN | apply below_drew1 | refine below_set ?_ GE105.1) | exact HB.1)⟩⟩
  case round =>
    clear H'
    try clear p2
    obtain ⟨x3_1, x106000_1, x106001_1, x106002_1, HA, HK1, HO_3, BK105, HB⟩ := hrel
    cases gk with
    | zero => exact absurd HA.out (by simp [words_Show.l0])
    | succ k1 =>
      have H := HA.out
      clear HA
      simp only [words_Show.l0] at H
      replace H := Option.bind_eq_some_iff.mp H
      obtain ⟨⟨t106, t107, t108, t109, t110⟩, A30, H⟩ := H
      replace H : (if x3_1.length < 8796093022208 then ((some (x3_1 ++ [Utf8.encode (wrap32 ((48 + t109) % 4294967296))] : List ByteArray)).bind fun y112 => (if (t106 == 0 && (t107 == 0 && (t108 == 0))) = true then ((slices_Reverse_string_string.f k1 y112).bind fun t115 => ((strings_Join.f t115 (⟨#[]⟩ : ByteArray)).bind fun t116 => (some t116))) else (words_Show.l0 k1 y112 t106 t107 t108))) else (none)) = some r := H
      have A3 := Aside0.mk A30
      clear A30
      by_cases c4 : x3_1.length < 8796093022208
      · rw [if_pos c4] at H
        have LMc4 := Aside0.mk c4
        clear c4
        obtain ⟨y112, hy112⟩ : ∃ y_ : List ByteArray, y_ = (x3_1 ++ [Utf8.encode (wrap32 ((48 + t109) % 4294967296))]) := ⟨_, rfl⟩
        replace H : (if (t106 == 0 && (t107 == 0 && (t108 == 0))) = true then ((slices_Reverse_string_string.f k1 y112).bind fun t115 => ((strings_Join.f t115 (⟨#[]⟩ : ByteArray)).bind fun t116 => (some t116))) else (words_Show.l0 k1 y112 t106 t107 t108)) = some r := by first | (rw [hy112]; with_reducible exact H) | (have H2_ := (Option.bind_some _ _).symm.trans H; rw [hy112]; with_reducible exact H2_) | (have H2_ := (Option.bind_some _ _).symm.trans H; with_reducible exact H2_) | with_reducible exact H | (rw [hy112]; exact H) | exact H
        have Ny112 := Aside0.mk hy112
        clear hy112
        by_cases c5 : (t106 == 0 && (t107 == 0 && (t108 == 0))) = true
        · rw [if_pos c5] at H
          have c5b0 : (t106 == 0 && (t107 == 0 && (t108 == 0))) = true := c5
          (try (have c5b1 : decide (t106 = 0 && (t107 == 0 && (t108 == 0))) = true := by simpa using c5))
          (try (have c5b2 : (t106 == 0 && (t107 == 0 && (t108 == 0))) = true := by simpa using c5))
          clear c5
          replace H := Option.bind_eq_some_iff.mp H
          obtain ⟨t115, A60, H⟩ := H
          replace H : ((strings_Join.f t115 (⟨#[]⟩ : ByteArray)).bind fun t116 => (some t116)) = some r := H
          have A6 := Aside0.mk A60
          clear A60
          replace H := Option.bind_eq_some_iff.mp H
          obtain ⟨t116, A70, H⟩ := H
          replace H : (some t116) = some r := H
          have A7 := Aside0.mk A70
          clear A70
          obtain rfl := Option.some.inj H
          obtain ⟨hcz8_0, hcz8_1, hcz8_2⟩ := c3_8 BK105.1
          obtain ⟨hfz8_0, hfz8_1, hfz8_2⟩ := f3_8 BK105.1
          go_wp2_with (first | ((with_reducible refine gate_callee (f := 21) rfl ?_); refine goesL_ (some 9) rfl rfl Try.func21 (by kernel_rfl) rfl #[.agg #[.int .u32 x106000_1, .int .u32 x106001_1, .int .u32 x106002_1], .int .u32 10] rfl (by (try simp only [List.map_toArray, List.map_cons, List.map_nil]); first | done | rfl | (simp only [List.length_drop, List.length_take]; rfl)) ?_; (with_reducible refine (words_Over.calls x106000_1 x106001_1 x106002_1 10 t106 t107 t108 t109 t110 _ A3.out).mono ?_); rintro e w9 ⟨rfl, hb⟩; refine ⟨_, rfl, ?_⟩; have n0_ := Aside0.mk (Kd.R_below (by (with_reducible repeat (first | apply Kd.R_alloc | apply Kd.R_drewN | apply Kd.R_drew)); exact HO_3.out) hb); have n1_ := Aside0.mk (blk_below (g := gb105) (o := .cells #[.int .u32 x106000_1, .int .u32 x106001_1, .int .u32 x106002_1] 24 (0, 0)) (by (with_reducible repeat (first | apply xn8 | apply xd8 | apply xa8)); exact BK105.1) hb); have n2_ := Aside0.mk (below_step (by with_reducible repeat (first | exact HB.1 | apply ya8 | apply yn8 | apply yd8 | refine below_set ?_ GE105.1)) hb); clear HO_3; clear BK105; clear HB; have HO_3 := n0_; have BK105 := n1_; have HB := n2_; clear n0_ n1_ n2_; (try clear hb); (try clear hb2); (try clear hk); (try clear hi)) | ((with_reducible refine gate_dst (N := 4) rfl ?_); refine box_event ?hg (N := 4) ?hd (cs := #[.int .u32 0, .int .u32 0, .int .u32 0]) (t := 24) ?hr ?_; (case hd => rfl); (case hg => rfl); (case hr => first | (go_simp; done) | (go_simp; rfl)); intro gb111 hg w10 hbox hb; have n0_ := Aside0.mk (Kd.R_below (by (with_reducible repeat (first | apply Kd.R_alloc | apply Kd.R_drewN | apply Kd.R_drew)); exact HO_3.out) hb); have n1_ := Aside0.mk (blk_below (g := gb105) (o := .cells #[.int .u32 x106000_1, .int .u32 x106001_1, .int .u32 x106002_1] 24 (0, 0)) (by (with_reducible repeat (first | apply xn8 | apply xd8 | apply xa8)); exact BK105.1) hb); have n2_ := Aside0.mk (below_step (by with_reducible repeat (first | exact HB.1 | apply ya8 | apply yn8 | apply yd8 | refine below_set ?_ GE105.1)) hb); have n3_ := Aside0.mk (hbox); have n4_ := Aside0.mk ((by rw [hg]; exact (below_size (by with_reducible repeat (first | exact HB.1 | apply ya8 | apply yn8 | apply yd8 | refine below_set ?_ GE105.1))) : w.heap.size ≤ gb111)); have n5_ := n4_; have n6_ := Aside0.mk ((by rw [hg]; exact Nat.ne_of_lt (blk_lt (g := gb105) (o := .cells #[.int .u32 x106000_1, .int .u32 x106001_1, .int .u32 x106002_1] 24 (0, 0)) (by (with_reducible repeat (first | apply xn8 | apply xd8 | apply xa8)); exact BK105.1)) : gb105 ≠ gb111)); have n7_ := Aside0.mk ((by rw [hg]; exact Nat.ne_of_gt (blk_lt (g := gb105) (o := .cells #[.int .u32 x106000_1, .int .u32 x106001_1, .int .u32 x106002_1] 24 (0, 0)) (by (with_reducible repeat (first | apply xn8 | apply xd8 | apply xa8)); exact BK105.1)) : gb111 ≠ gb105)); clear HO_3; clear BK105; clear HB; have HO_3 := n0_; have BK105 := n1_; have HB := n2_; have BK111 := n3_; have GW111 := n4_; have GE111 := n5_; have NB105_111 := n6_; have NB111_105 := n7_; clear n0_ n1_ n2_ n3_ n4_ n5_ n6_ n7_; clear hb hbox hg; have hnb11 := NB111_105.1; have hnc11 := NB105_111.1; obtain ⟨hcz12_0, hcz12_1, hcz12_2⟩ := c3_8 BK111.1; obtain ⟨hfz12_0, hfz12_1, hfz12_2⟩ := f3_8 BK111.1) | ((with_reducible refine gate_builtin (b := .append) (xs := #[.tmp 13, .tmp 18]) rfl ?_); at_builtin; refine Kd.R_append Kd.string (w0 := w) w.heap.size rfl (.tmp 13) (.tmp 18) 54 9 (.string ⟨#[]⟩) 16 rfl Try.underlying54 info9 rfl (by decide) (by omega) u3 x3_1 (Utf8.encode (wrap32 ((48 + t109) % 4294967296))) [.string (Utf8.encode (wrap32 ((48 + t109) % 4294967296)))] (fun _ => True) (fun _ => False) rfl (by first | (go_simp; done) | (go_simp; rfl)) ?aP (fun _ hk => hk.elim) ?aF ?aO ?aB ?aS ?aL ?_; (case aP => exact rfl); (case aB => exact (by with_reducible repeat (first | exact HB.1 | apply ya8 | apply yn8 | apply yd8 | refine below_set ?_ GE105.1 | refine below_set ?_ GE111.1))); (case aF => exact (fun _ _ => trivial)); (case aO => exact (by (with_reducible repeat (first | apply Kd.R_alloc | apply Kd.R_drewN | apply Kd.R_drew)); exact Kd.R_mono (Kd.R_far (p := ⟨gb111, 2, none⟩) (Kd.R_far (p := ⟨gb111, 1, none⟩) (Kd.R_far (p := ⟨gb111, 0, none⟩) (Kd.R_types HO_3.out BK111.1 (by decide)) (fun _ hk => hk.2) (.int .u32 t106)) (fun _ hk => hk.2) (.int .u32 t107)) (fun _ hk => hk.2) (.int .u32 t108)) (fun _ hk => trivial))); (case aS => exact (below_size (by with_reducible repeat (first | exact HB.1 | apply ya8 | apply yn8 | apply yd8 | refine below_set ?_ GE105.1 | refine below_set ?_ GE111.1)))); (case aL => have := LMc4.out; omega); intro v113 w13 ho hb hg hat; rw [← Ny112.out] at ho; have n0_ := Aside0.mk (blk_grown (g := gb105) (o := .cells #[.int .u32 x106000_1, .int .u32 x106001_1, .int .u32 x106002_1] 24 (0, 0)) (by (with_reducible repeat (first | apply xn8 | apply xd8 | apply xa8)); refine blk_far ?_ NB105_111.1 _; (with_reducible repeat (first | apply xn8 | apply xd8 | apply xa8)); refine blk_far ?_ NB105_111.1 _; (with_reducible repeat (first | apply xn8 | apply xd8 | apply xa8)); refine blk_far ?_ NB105_111.1 _; (with_reducible repeat (first | apply xn8 | apply xd8 | apply xa8)); exact BK105.1) hg (Kd.R_ne HO_3.out BK105.1 (by decide))); have n1_ := Aside0.mk (blk_grown (g := gb111) (o := .cells #[.int .u32 t106, .int .u32 t107, .int .u32 t108] 24 (0, 0)) (by (with_reducible repeat (first | apply xn8 | apply xd8 | apply xa8)); refine blk_put (cs := #[.int .u32 t106, .int .u32 t107, .int .u32 0]) ?_ 2 _ rfl; (with_reducible repeat (first | apply xn8 | apply xd8 | apply xa8)); refine blk_put (cs := #[.int .u32 t106, .int .u32 0, .int .u32 0]) ?_ 1 _ rfl; (with_reducible repeat (first | apply xn8 | apply xd8 | apply xa8)); refine blk_put (cs := #[.int .u32 0, .int .u32 0, .int .u32 0]) ?_ 0 _ rfl; (with_reducible repeat (first | apply xn8 | apply xd8 | apply xa8)); exact BK111.1) hg (Kd.R_ne HO_3.out BK111.1 (by decide))); have n2_ := Aside0.mk (hb); have n3_ := Aside0.mk (ho); clear BK105; clear BK111; clear HB; clear HO_3; have BK105 := n0_; have BK111 := n1_; have HB := n2_; have HO114 := n3_; clear n0_ n1_ n2_ n3_; clear ho hb hg hat; obtain ⟨hcz14_0, hcz14_1, hcz14_2⟩ := c3_8 BK111.1; obtain ⟨hfz14_0, hfz14_1, hfz14_2⟩ := f3_8 BK111.1; obtain ⟨hcz15_0, hcz15_1, hcz15_2⟩ := c3_8 BK105.1; obtain ⟨hfz15_0, hfz15_1, hfz15_2⟩ := f3_8 BK105.1) | ((with_reducible refine gate_store (t := 24) (p := 1) rfl ?_); refine store_event (t := 24) (p := 1) (v := ?vo_w16) (w1 := (((w13.setCell ⟨gb105, 0, none⟩ (.int .u32 t106)).setCell ⟨gb105, 1, none⟩ (.int .u32 t107)).setCell ⟨gb105, 2, none⟩ (.int .u32 t108))) ?hg ?ho ?hn ?hr ?_; (case ho => rfl); (case hg => rfl); (case hn => rfl); (case hr => first | (go_simp; done) | (go_simp; rfl)); intro w16 hw; have n0_ : Aside0 (Kd.R Kd.string 9 w16 w.heap.size (fun _ => True) v113 y112) := ⟨(by rw [hw]; exact (by (with_reducible repeat (first | apply Kd.R_alloc | apply Kd.R_drewN | apply Kd.R_drew)); exact Kd.R_mono (Kd.R_far (p := ⟨gb105, 2, none⟩) (Kd.R_far (p := ⟨gb105, 1, none⟩) (Kd.R_far (p := ⟨gb105, 0, none⟩) (Kd.R_types HO114.1 BK105.1 (by decide)) (fun _ hk => hk.2) (.int .u32 t106)) (fun _ hk => hk.2) (.int .u32 t107)) (fun _ hk => hk.2) (.int .u32 t108)) (fun _ hk => trivial)))⟩; have n1_ : Aside0 (w16.heap[gb105]? = some (.cells #[.int .u32 t106, .int .u32 t107, .int .u32 t108] 24 (0, 0))) := ⟨(by rw [hw]; exact (by (with_reducible repeat (first | apply xn8 | apply xd8 | apply xa8)); refine blk_put (cs := #[.int .u32 t106, .int .u32 t107, .int .u32 x106002_1]) ?_ 2 _ rfl; (with_reducible repeat (first | apply xn8 | apply xd8 | apply xa8)); refine blk_put (cs := #[.int .u32 t106, .int .u32 x106001_1, .int .u32 x106002_1]) ?_ 1 _ rfl; (with_reducible repeat (first | apply xn8 | apply xd8 | apply xa8)); refine blk_put (cs := #[.int .u32 x106000_1, .int .u32 x106001_1, .int .u32 x106002_1]) ?_ 0 _ rfl; (with_reducible repeat (first | apply xn8 | apply xd8 | apply xa8)); exact BK105.1))⟩; have n2_ : Aside0 (w16.heap[gb111]? = some (.cells #[.int .u32 t106, .int .u32 t107, .int .u32 t108] 24 (0, 0))) := ⟨(by rw [hw]; exact (by (with_reducible repeat (first | apply xn8 | apply xd8 | apply xa8)); refine blk_far ?_ NB111_105.1 _; (with_reducible repeat (first | apply xn8 | apply xd8 | apply xa8)); refine blk_far ?_ NB111_105.1 _; (with_reducible repeat (first | apply xn8 | apply xd8 | apply xa8)); refine blk_far ?_ NB111_105.1 _; (with_reducible repeat (first | apply xn8 | apply xd8 | apply xa8)); exact BK111.1))⟩; have n3_ : Aside0 (Below w.heap.size w w16) := ⟨(by rw [hw]; exact (by with_reducible repeat (first | exact HB.1 | apply ya8 | apply yn8 | apply yd8 | refine below_set ?_ GE105.1 | refine below_set ?_ GE111.1)))⟩; clear hw; clear HO114; clear BK105; clear BK111; clear HB; have HO114 := n0_; have BK105 := n1_; have BK111 := n2_; have HB := n3_; clear n0_ n1_ n2_ n3_; obtain ⟨hcz17_0, hcz17_1, hcz17_2⟩ := c3_8 BK105.1; obtain ⟨hfz17_0, hfz17_1, hfz17_2⟩ := f3_8 BK105.1; obtain ⟨Ao18, co18, eo18⟩ := Kd.R_slice HO114.1; subst eo18) | ((with_reducible refine gate_callee (f := 22) rfl ?_); refine goesL_ (some 25) rfl rfl Try.func22 (by kernel_rfl) rfl #[.slice Ao18 y112.length co18] rfl (by (try simp only [List.map_toArray, List.map_cons, List.map_nil]); first | done | rfl | (simp only [List.length_drop, List.length_take]; rfl)) ?_; (with_reducible refine (slices_Reverse_string_string.calls k1 (fun k_ => some k_ = (.slice Ao18 y112.length co18 : Value).ownBlock) (.slice Ao18 y112.length co18) y112 t115 w _ ?side1 ?side2 A6.out).mono ?_); (case side1 => repeat (first | (with_reducible first | exact HB.1 | apply below_alloc | apply pw_below_drewN | apply below_drew1 | refine below_set ?_ GE105.1 | refine below_set ?_ GE111.1) | exact HB.1)); (case side2 => exact Kd.R_tight rfl HO114.1); rintro e w19 ⟨rfl, hy0, hb, hkp⟩; refine ⟨_, rfl, ?_⟩; have n0_ := Aside0.mk (blk_kept (by (with_reducible repeat (first | apply xn8 | apply xd8 | apply xa8)); exact BK105.1) hkp (fun hs_ => (fun e_ => (Kd.R_ne HO114.1 BK105.1 (by decide)) e_) hs_)); have n1_ := Aside0.mk (blk_kept (by (with_reducible repeat (first | apply xn8 | apply xd8 | apply xa8)); exact BK111.1) hkp (fun hs_ => (fun e_ => (Kd.R_ne HO114.1 BK111.1 (by decide)) e_) hs_)); have n2_ := Aside0.mk (Kd.R_reok rfl hy0 (fun k_ e_ => HO114.1.1 k_ e_)); have n3_ := Aside0.mk (hb); clear BK105; clear BK111; clear HO114; clear HB; have BK105 := n0_; have BK111 := n1_; have HO114 := n2_; have HB := n3_; clear n0_ n1_ n2_ n3_; (try clear hb); (try clear hkp); (try clear hy0)) | ((with_reducible refine gate_callee (f := 23) rfl ?_); refine goesL_ (some 27) rfl rfl Try.func23 (by kernel_rfl) rfl #[.slice Ao18 t115.length co18, .string (⟨#[]⟩ : ByteArray)] rfl (by (try simp only [List.map_toArray, List.map_cons, List.map_nil]); first | done | (rw [show t115.length = y112.length from (Kd.R_reads' HO114.1).1.symm] <;> rfl) | rfl | (simp only [List.length_drop, List.length_take]; rfl)) ?_; (with_reducible refine (strings_Join.calls _ _ t115 (⟨#[]⟩ : ByteArray) t116 _ ?side1 ?side2 A7.out).mono ?_); (case side1 => repeat (first | exact (Kd.R_reads' HO114.1).2.2 | (with_reducible refine Kd.C_alloc ?_ _) | (with_reducible refine Kd.C_drewN ?_ _) | (with_reducible refine Kd.C_drew ?_))); (case side2 => rw [show t115.length = y112.length from (Kd.R_reads' HO114.1).1.symm]; exact (Kd.R_reads' HO114.1).2.1); rintro e w20 ⟨rfl, hb⟩; refine ⟨_, rfl, ?_⟩; have n0_ := Aside0.mk (Kd.R_below (by (with_reducible repeat (first | apply Kd.R_alloc | apply Kd.R_drewN | apply Kd.R_drew)); exact HO114.1) hb); have n1_ := Aside0.mk (blk_below (g := gb105) (o := .cells #[.int .u32 t106, .int .u32 t107, .int .u32 t108] 24 (0, 0)) (by (with_reducible repeat (first | apply xn8 | apply xd8 | apply xa8)); exact BK105.1) hb); have n2_ := Aside0.mk (blk_below (g := gb111) (o := .cells #[.int .u32 t106, .int .u32 t107, .int .u32 t108] 24 (0, 0)) (by (with_reducible repeat (first | apply xn8 | apply xd8 | apply xa8)); exact BK111.1) hb); have n3_ := Aside0.mk (below_step (by with_reducible repeat (first | exact HB.1 | apply ya8 | apply yn8 | apply yd8 | refine below_set ?_ GE105.1 | refine below_set ?_ GE111.1)) hb); clear HO114; clear BK105; clear BK111; clear HB; have HO114 := n0_; have BK105 := n1_; have BK111 := n2_; have HB := n3_; clear n0_ n1_ n2_ n3_; (try clear hb); (try clear hb2); (try clear hk); (try clear hi)))
          go_ret
          exact ⟨by first | rfl | (simp [errW_none, errW_some] <;> rfl) | (simp [*, errW_none, errW_some] <;> rfl), by repeat (first | (with_reducible first | exact HB.1 | apply below_alloc | apply pw_below_drewN | apply below_drew1 | refine below_set ?_ GE105.1 | refine below_set ?_ GE111.1) | exact HB.1)⟩
        · rw [if_neg c5] at H
          have c5b0 : (t106 == 0 && (t107 == 0 && (t108 == 0))) = false := by simpa using c5
          (try (have c5b1 : decide (t106 = 0 && (t107 == 0 && (t108 == 0))) = false := by simpa using c5))
          (try (have c5b2 : (t106 == 0 && (t107 == 0 && (t108 == 0))) = false := by simpa using c5))
          (try (have c5b3 : ¬ (t106 = 0 && (t107 == 0 && (t108 == 0))) := by simpa using c5))
          clear c5
          have H' := Aside0.mk H
          clear H
          obtain ⟨hcz21_0, hcz21_1, hcz21_2⟩ := c3_8 BK105.1
          obtain ⟨hfz21_0, hfz21_1, hfz21_2⟩ := f3_8 BK105.1
          go_wp2_with (first | ((with_reducible refine gate_callee (f := 21) rfl ?_); refine goesL_ (some 9) rfl rfl Try.func21 (by kernel_rfl) rfl #[.agg #[.int .u32 x106000_1, .int .u32 x106001_1, .int .u32 x106002_1], .int .u32 10] rfl (by (try simp only [List.map_toArray, List.map_cons, List.map_nil]); first | done | rfl | (simp only [List.length_drop, List.length_take]; rfl)) ?_; (with_reducible refine (words_Over.calls x106000_1 x106001_1 x106002_1 10 t106 t107 t108 t109 t110 _ A3.out).mono ?_); rintro e w22 ⟨rfl, hb⟩; refine ⟨_, rfl, ?_⟩; have n0_ := Aside0.mk (Kd.R_below (by (with_reducible repeat (first | apply Kd.R_alloc | apply Kd.R_drewN | apply Kd.R_drew)); exact HO_3.out) hb); have n1_ := Aside0.mk (blk_below (g := gb105) (o := .cells #[.int .u32 x106000_1, .int .u32 x106001_1, .int .u32 x106002_1] 24 (0, 0)) (by (with_reducible repeat (first | apply xn8 | apply xd8 | apply xa8)); exact BK105.1) hb); have n2_ := Aside0.mk (below_step (by with_reducible repeat (first | exact HB.1 | apply ya8 | apply yn8 | apply yd8 | refine below_set ?_ GE105.1)) hb); clear HO_3; clear BK105; clear HB; have HO_3 := n0_; have BK105 := n1_; have HB := n2_; clear n0_ n1_ n2_; (try clear hb); (try clear hb2); (try clear hk); (try clear hi)) | ((with_reducible refine gate_dst (N := 4) rfl ?_); refine box_event ?hg (N := 4) ?hd (cs := #[.int .u32 0, .int .u32 0, .int .u32 0]) (t := 24) ?hr ?_; (case hd => rfl); (case hg => rfl); (case hr => first | (go_simp; done) | (go_simp; rfl)); intro gb111 hg w23 hbox hb; have n0_ := Aside0.mk (Kd.R_below (by (with_reducible repeat (first | apply Kd.R_alloc | apply Kd.R_drewN | apply Kd.R_drew)); exact HO_3.out) hb); have n1_ := Aside0.mk (blk_below (g := gb105) (o := .cells #[.int .u32 x106000_1, .int .u32 x106001_1, .int .u32 x106002_1] 24 (0, 0)) (by (with_reducible repeat (first | apply xn8 | apply xd8 | apply xa8)); exact BK105.1) hb); have n2_ := Aside0.mk (below_step (by with_reducible repeat (first | exact HB.1 | apply ya8 | apply yn8 | apply yd8 | refine below_set ?_ GE105.1)) hb); have n3_ := Aside0.mk (hbox); have n4_ := Aside0.mk ((by rw [hg]; exact (below_size (by with_reducible repeat (first | exact HB.1 | apply ya8 | apply yn8 | apply yd8 | refine below_set ?_ GE105.1))) : w.heap.size ≤ gb111)); have n5_ := n4_; have n6_ := Aside0.mk ((by rw [hg]; exact Nat.ne_of_lt (blk_lt (g := gb105) (o := .cells #[.int .u32 x106000_1, .int .u32 x106001_1, .int .u32 x106002_1] 24 (0, 0)) (by (with_reducible repeat (first | apply xn8 | apply xd8 | apply xa8)); exact BK105.1)) : gb105 ≠ gb111)); have n7_ := Aside0.mk ((by rw [hg]; exact Nat.ne_of_gt (blk_lt (g := gb105) (o := .cells #[.int .u32 x106000_1, .int .u32 x106001_1, .int .u32 x106002_1] 24 (0, 0)) (by (with_reducible repeat (first | apply xn8 | apply xd8 | apply xa8)); exact BK105.1)) : gb111 ≠ gb105)); clear HO_3; clear BK105; clear HB; have HO_3 := n0_; have BK105 := n1_; have HB := n2_; have BK111 := n3_; have GW111 := n4_; have GE111 := n5_; have NB105_111 := n6_; have NB111_105 := n7_; clear n0_ n1_ n2_ n3_ n4_ n5_ n6_ n7_; clear hb hbox hg; have hnb24 := NB111_105.1; have hnc24 := NB105_111.1; obtain ⟨hcz25_0, hcz25_1, hcz25_2⟩ := c3_8 BK111.1; obtain ⟨hfz25_0, hfz25_1, hfz25_2⟩ := f3_8 BK111.1) | ((with_reducible refine gate_builtin (b := .append) (xs := #[.tmp 13, .tmp 18]) rfl ?_); at_builtin; refine Kd.R_append Kd.string (w0 := w) w.heap.size rfl (.tmp 13) (.tmp 18) 54 9 (.string ⟨#[]⟩) 16 rfl Try.underlying54 info9 rfl (by decide) (by omega) u3 x3_1 (Utf8.encode (wrap32 ((48 + t109) % 4294967296))) [.string (Utf8.encode (wrap32 ((48 + t109) % 4294967296)))] (fun _ => True) (fun _ => False) rfl (by first | (go_simp; done) | (go_simp; rfl)) ?aP (fun _ hk => hk.elim) ?aF ?aO ?aB ?aS ?aL ?_; (case aP => exact rfl); (case aB => exact (by with_reducible repeat (first | exact HB.1 | apply ya8 | apply yn8 | apply yd8 | refine below_set ?_ GE105.1 | refine below_set ?_ GE111.1))); (case aF => exact (fun _ _ => trivial)); (case aO => exact (by (with_reducible repeat (first | apply Kd.R_alloc | apply Kd.R_drewN | apply Kd.R_drew)); exact Kd.R_mono (Kd.R_far (p := ⟨gb111, 2, none⟩) (Kd.R_far (p := ⟨gb111, 1, none⟩) (Kd.R_far (p := ⟨gb111, 0, none⟩) (Kd.R_types HO_3.out BK111.1 (by decide)) (fun _ hk => hk.2) (.int .u32 t106)) (fun _ hk => hk.2) (.int .u32 t107)) (fun _ hk => hk.2) (.int .u32 t108)) (fun _ hk => trivial))); (case aS => exact (below_size (by with_reducible repeat (first | exact HB.1 | apply ya8 | apply yn8 | apply yd8 | refine below_set ?_ GE105.1 | refine below_set ?_ GE111.1)))); (case aL => have := LMc4.out; omega); intro v113 w26 ho hb hg hat; rw [← Ny112.out] at ho; have n0_ := Aside0.mk (blk_grown (g := gb105) (o := .cells #[.int .u32 x106000_1, .int .u32 x106001_1, .int .u32 x106002_1] 24 (0, 0)) (by (with_reducible repeat (first | apply xn8 | apply xd8 | apply xa8)); refine blk_far ?_ NB105_111.1 _; (with_reducible repeat (first | apply xn8 | apply xd8 | apply xa8)); refine blk_far ?_ NB105_111.1 _; (with_reducible repeat (first | apply xn8 | apply xd8 | apply xa8)); refine blk_far ?_ NB105_111.1 _; (with_reducible repeat (first | apply xn8 | apply xd8 | apply xa8)); exact BK105.1) hg (Kd.R_ne HO_3.out BK105.1 (by decide))); have n1_ := Aside0.mk (blk_grown (g := gb111) (o := .cells #[.int .u32 t106, .int .u32 t107, .int .u32 t108] 24 (0, 0)) (by (with_reducible repeat (first | apply xn8 | apply xd8 | apply xa8)); refine blk_put (cs := #[.int .u32 t106, .int .u32 t107, .int .u32 0]) ?_ 2 _ rfl; (with_reducible repeat (first | apply xn8 | apply xd8 | apply xa8)); refine blk_put (cs := #[.int .u32 t106, .int .u32 0, .int .u32 0]) ?_ 1 _ rfl; (with_reducible repeat (first | apply xn8 | apply xd8 | apply xa8)); refine blk_put (cs := #[.int .u32 0, .int .u32 0, .int .u32 0]) ?_ 0 _ rfl; (with_reducible repeat (first | apply xn8 | apply xd8 | apply xa8)); exact BK111.1) hg (Kd.R_ne HO_3.out BK111.1 (by decide))); have n2_ := Aside0.mk (hb); have n3_ := Aside0.mk (ho); clear BK105; clear BK111; clear HB; clear HO_3; have BK105 := n0_; have BK111 := n1_; have HB := n2_; have HO114 := n3_; clear n0_ n1_ n2_ n3_; clear ho hb hg hat; obtain ⟨hcz27_0, hcz27_1, hcz27_2⟩ := c3_8 BK111.1; obtain ⟨hfz27_0, hfz27_1, hfz27_2⟩ := f3_8 BK111.1; obtain ⟨hcz28_0, hcz28_1, hcz28_2⟩ := c3_8 BK105.1; obtain ⟨hfz28_0, hfz28_1, hfz28_2⟩ := f3_8 BK105.1))
          go_roundg k1
          case measure => have := HK1.out; omega
          case rel => exact ⟨(y112), (t106), (t107), (t108), H', ⟨by have := HK1.out; omega⟩, ⟨by (with_reducible repeat (first | apply Kd.R_alloc | apply Kd.R_drewN | apply Kd.R_drew)); exact Kd.R_mono (Kd.R_far (p := ⟨gb105, 2, none⟩) (Kd.R_far (p := ⟨gb105, 1, none⟩) (Kd.R_far (p := ⟨gb105, 0, none⟩) (Kd.R_types HO114.1 BK105.1 (by decide)) (fun _ hk => hk.2) (.int .u32 t106)) (fun _ hk => hk.2) (.int .u32 t107)) (fun _ hk => hk.2) (.int .u32 t108)) (fun _ hk => trivial)⟩, ⟨by (with_reducible repeat (first | apply xn8 | apply xd8 | apply xa8)); refine blk_put (cs := #[.int .u32 t106, .int .u32 t107, .int .u32 x106002_1]) ?_ 2 _ rfl; (with_reducible repeat (first | apply xn8 | apply xd8 | apply xa8)); refine blk_put (cs := #[.int .u32 t106, .int .u32 x106001_1, .int .u32 x106002_1]) ?_ 1 _ rfl; (with_reducible repeat (first | apply xn8 | apply xd8 | apply xa8)); refine blk_put (cs := #[.int .u32 x106000_1, .int .u32 x106001_1, .int .u32 x106002_1]) ?_ 0 _ rfl; (with_reducible repeat (first | apply xn8 | apply xd8 | apply xa8)); exact BK105.1⟩, ⟨by repeat (first | (with_reducible first | exact HB.1 | apply below_alloc | apply pw_below_drewN | apply below_drew1 | refine below_set ?_ GE105.1 | refine below_set ?_ GE111.1) | exact HB.1)⟩⟩
      · rw [if_neg c4] at H
        exact absurd H (by simp)

end Go.Proofs.Ytoookcmablnjfaa.PTokenFormats
