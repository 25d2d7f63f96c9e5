-- written by this session's program wip/xp/xprint.py (it drives the kit's print and adds to it)
import Derived.Test.YtoookcmablnjfaaPTokenFormatsx0
import Derived.Test.YtoookcmablnjfaaPTokenFormatsx2
import Derived.Test.YtoookcmablnjfaaPTokenFormatsx5
import Derived.Test.YtoookcmablnjfaaPTokenFormatsx6
import Derived.Test.YtoookcmablnjfaaPTokenFormatsx7
namespace Go.Proofs.Ytoookcmablnjfaa.PTokenFormats
open Go.RowKit Go.Proofs.YtoookcmablnjfaaW.PrintWords Go.Proofs.YtoookcmablnjfaaW.PrintLast Go.Proofs.YtoookcmablnjfaaW.PrintMore
attribute [local go_sem] max2_int min2_int max_two min_two max_three min_three max_four min_four   -- for this text's walks alone
set_option linter.unusedVariables false
set_option linter.unusedSimpArgs false

/-! ### trim -/
theorem wtrim_l0 (l : List Int) (hl : l.length ≤ 1000000) : ∀ n : Nat, n ≤ l.length → wval (l.take n) = wval l → ∃ m, m ≤ l.length ∧ Ev (fun k => vendmeterbig_trim.l0 k l (n : Int)) (l.take m) ∧ wtr (l.take m) ∧ wval (l.take m) = wval l
  | 0, hn, hv => by
    refine ⟨0, hn, Ev.step (f := fun _ => some (l.take 0)) (fun k => ?_) (Ev.now _), .inl rfl, hv⟩
    simp only [vendmeterbig_trim.l0]
    rw [if_neg (by omega), if_pos (by omega), if_pos (by omega)]
    rfl
  | n + 1, hn, hv => by
    have h1 : wrap64 (((n + 1 : Nat) : Int) - 1) = (n : Int) := by rw [ww64 ⟨by omega, by omega⟩]; omega
    by_cases hc : l.getD n 0 = 0
    · obtain ⟨m, hm, he, ht, hw⟩ := wtrim_l0 l hl n (by omega) (by rw [← hv, wval_take l n (by omega), hc]; omega)
      refine ⟨m, hm, Ev.step (fun k => ?_) he, ht, hw⟩
      simp only [vendmeterbig_trim.l0, h1, wrd]
      rw [if_pos (by omega), if_pos (by omega), if_pos (by omega), if_pos hc]
    · refine ⟨n + 1, hn, Ev.step (f := fun _ => some (l.take (n + 1))) (fun k => ?_) (Ev.now _), .inr ?_, hv⟩
      · simp only [vendmeterbig_trim.l0, h1, wrd]
        rw [if_pos (by omega), if_pos (by omega), if_pos (by omega), if_neg hc, if_pos (by omega), if_pos (by omega)]
        rfl
      · rw [List.length_take, Nat.min_eq_left hn]
        have : (l.take (n + 1)).getD n 0 = l.getD n 0 := by
          rw [List.getD_eq_getElem?_getD, List.getElem?_take_of_lt (by omega), List.getD_eq_getElem?_getD]
        simpa [this] using hc
theorem wtrim_ev (l : List Int) (h : wok l) (hl : l.length ≤ 1000000) : ∃ r, Ev (fun k => vendmeterbig_trim.f k l) r ∧ Wd r (wval l) ∧ r.length ≤ l.length := by
  obtain ⟨m, hm, he, ht, hw⟩ := wtrim_l0 l hl l.length (Nat.le_refl _) (by rw [List.take_length])
  exact ⟨l.take m, he, ⟨h.take m, ht, hw⟩, by rw [List.length_take]; omega⟩
/-! ### words -/
theorem wwords_ev (a : Int) (h : 0 ≤ a ∧ a < 18446744073709551616) : ∃ r, Ev (fun k => vendmeterbig_words.f k a) r ∧ Wd r a ∧ r.length ≤ 2 := by
  obtain ⟨r, h1, h2, h3⟩ := wtrim_ev [a % 4294967296, a / 4294967296 % 4294967296] (fun y hy => by simp at hy; omega) (by simp)
  refine ⟨r, Ev.bind h1 (Ev.now _), ?_, h3⟩
  have : wval [a % 4294967296, a / 4294967296 % 4294967296] = a := by simp only [wval]; omega
  rwa [this] at h2
/-! ### cmp -/
def wcmp (a b : Int) : Int := if a = b then 0 else if a < b then -1 else 1
theorem wcmp_l0 (x y : List Int) (hx : wok x) (hy : wok y) (hl : x.length = y.length) (hb : x.length ≤ 1000000) : ∀ n : Nat, n ≤ x.length → wval x - wval y = wval (x.take n) - wval (y.take n) → Ev (fun k => vendmeterbig_cmp.l0 k x y ((n : Int) - 1)) (wcmp (wval x) (wval y))
  | 0, hn, hv => by
    refine Ev.step (f := fun _ => some 0) (fun k => ?_) (WEv.ret ?_)
    · simp only [vendmeterbig_cmp.l0]; rw [if_neg (by omega)]
    · simp only [List.take_zero, wval] at hv; unfold wcmp; rw [if_pos (by omega)]
  | n + 1, hn, hv => by
    have h1 : ((n + 1 : Nat) : Int) - 1 = (n : Int) := by omega
    have h2 : wrap64 ((n : Int) - 1) = (n : Int) - 1 := ww64 ⟨by omega, by omega⟩
    rw [wval_take x n (by omega), wval_take y n (by omega)] at hv
    have tx := wval_lt (hx.take n)
    have ty := wval_lt (hy.take n)
    have nx := wval_nonneg (hx.take n)
    have ny := wval_nonneg (hy.take n)
    rw [List.length_take, Nat.min_eq_left (by omega)] at tx ty
    rw [h1]
    by_cases hc : x.getD n 0 = y.getD n 0
    · refine Ev.step (fun k => ?_) (wcmp_l0 x y hx hy hl hb n (by omega) (by rw [hc] at hv; omega))
      simp only [vendmeterbig_cmp.l0, wrd, h2]
      rw [if_pos (by omega), if_pos (by omega), if_pos (by omega), if_pos (by omega), if_pos hc]
    · by_cases hlt : x.getD n 0 < y.getD n 0
      · refine Ev.step (f := fun _ => some (-1)) (fun k => ?_) (WEv.ret ?_)
        · simp only [vendmeterbig_cmp.l0, wrd, h2]
          rw [if_pos (by omega), if_pos (by omega), if_pos (by omega), if_pos (by omega), if_neg hc, if_pos hlt]
        · have := Int.mul_le_mul_of_nonneg_left (show x.getD n 0 + 1 ≤ y.getD n 0 by omega) (Int.le_of_lt (W32.pos n))
          have e : W32 n * (x.getD n 0 + 1) = W32 n * x.getD n 0 + W32 n := by rw [Int.mul_add, Int.mul_one]
          unfold wcmp; rw [if_neg (by omega), if_pos (by omega)]
      · refine Ev.step (f := fun _ => some 1) (fun k => ?_) (WEv.ret ?_)
        · simp only [vendmeterbig_cmp.l0, wrd, h2]
          rw [if_pos (by omega), if_pos (by omega), if_pos (by omega), if_pos (by omega), if_neg hc, if_neg hlt]
        · have := Int.mul_le_mul_of_nonneg_left (show y.getD n 0 + 1 ≤ x.getD n 0 by omega) (Int.le_of_lt (W32.pos n))
          have e : W32 n * (y.getD n 0 + 1) = W32 n * y.getD n 0 + W32 n := by rw [Int.mul_add, Int.mul_one]
          unfold wcmp; rw [if_neg (by omega), if_neg (by omega)]
theorem wcmp_ev {x y : List Int} {a b : Int} (hx : Wd x a) (hy : Wd y b) (hbx : x.length ≤ 1000000) : Ev (fun k => vendmeterbig_cmp.f k x y) (wcmp a b) := by
  unfold vendmeterbig_cmp.f
  by_cases hl : x.length = y.length
  · refine WEv.pos (by omega) ?_
    rw [ww64 (a := (x.length : Int) - 1) ⟨by omega, by omega⟩]
    have := wcmp_l0 x y hx.ok hy.ok hl hbx x.length (Nat.le_refl _) (by rw [List.take_length, hl, List.take_length])
    rw [hx.val, hy.val] at this
    exact this
  · refine WEv.neg (by omega) ?_
    rcases Nat.lt_or_ge x.length y.length with g | g
    · have := hx.len_lt hy g
      exact WEv.pos (by omega) (WEv.ret (by unfold wcmp; rw [if_neg (by omega), if_pos (by omega)]))
    · have := hy.len_lt hx (by omega)
      exact WEv.neg (by omega) (WEv.ret (by unfold wcmp; rw [if_neg (by omega), if_neg (by omega)]))
/-! ### sub -/
theorem wsub_d {x c y : Int} (hx : 0 ≤ x ∧ x < 4294967296) (hc : 0 ≤ c ∧ c ≤ 1) (hy : 0 ≤ y ∧ y < 4294967296) :
    0 ≤ IntKind.u64.wrap (IntKind.u64.wrap (IntKind.u64.wrap x - c) - IntKind.u64.wrap y) / 9223372036854775808 ∧ IntKind.u64.wrap (IntKind.u64.wrap (IntKind.u64.wrap x - c) - IntKind.u64.wrap y) / 9223372036854775808 ≤ 1 ∧
    IntKind.u64.wrap (IntKind.u64.wrap (IntKind.u64.wrap x - c) - IntKind.u64.wrap y) % 4294967296 = x - c - y + 4294967296 * (IntKind.u64.wrap (IntKind.u64.wrap (IntKind.u64.wrap x - c) - IntKind.u64.wrap y) / 9223372036854775808) := by
  rw [wu64 (a := x) ⟨hx.1, by omega⟩, wu64 (a := y) ⟨hy.1, by omega⟩]
  have key : IntKind.u64.wrap (IntKind.u64.wrap (x - c) - y) = if 0 ≤ x - c - y then x - c - y else x - c - y + 18446744073709551616 := by
    have h1 : IntKind.u64.wrap (IntKind.u64.wrap (x - c) - y) = (x - c - y) % 18446744073709551616 := by
      rw [Go.IntKind.wrap_u64, Go.IntKind.wrap_u64, Int.sub_emod, Int.emod_emod, ← Int.sub_emod]
    rw [h1]
    split <;> omega
  rw [key]
  split <;> omega
theorem wsub_u (a : Int) : 0 ≤ IntKind.u64.wrap a ∧ IntKind.u64.wrap a < 18446744073709551616 := by rw [Go.IntKind.wrap_u64]; omega
theorem wsub_e {x c y : Int} (hx : 0 ≤ x ∧ x < 4294967296) (hc : 0 ≤ c ∧ c ≤ 1) (hy : 0 ≤ y ∧ y < 4294967296) :
    ∃ v c', Aside0 (IntKind.u64.wrap (IntKind.u64.wrap (IntKind.u64.wrap x - c) - IntKind.u64.wrap y) % 4294967296 = v ∧ IntKind.u64.wrap (IntKind.u64.wrap (IntKind.u64.wrap x - c) - IntKind.u64.wrap y) / 9223372036854775808 = c') ∧ (0 ≤ c' ∧ c' ≤ 1) ∧ (0 ≤ v ∧ v < 4294967296) ∧ v = x - c - y + 4294967296 * c' :=
  have h := wsub_d hx hc hy
  ⟨_, _, ⟨rfl, rfl⟩, ⟨h.1, h.2.1⟩, ⟨Int.emod_nonneg _ (by decide), Int.emod_lt_of_pos _ (by decide)⟩, h.2.2⟩
theorem wsub_f {x c : Int} (hx : 0 ≤ x ∧ x < 4294967296) (hc : 0 ≤ c ∧ c ≤ 1) :
    ∃ v c', Aside0 (IntKind.u64.wrap (IntKind.u64.wrap x - c) % 4294967296 = v ∧ IntKind.u64.wrap (IntKind.u64.wrap x - c) / 9223372036854775808 = c') ∧ (0 ≤ c' ∧ c' ≤ 1) ∧ (0 ≤ v ∧ v < 4294967296) ∧ v = x - c + 4294967296 * c' := by
  have h := wsub_e hx hc (show (0:Int) ≤ 0 ∧ (0:Int) < 4294967296 by decide)
  rw [show IntKind.u64.wrap 0 = 0 from wu64 (by decide), Int.sub_zero, wu64 (wsub_u (IntKind.u64.wrap x - c)), Int.sub_zero] at h
  exact h
theorem wn1 {i n : Nat} (h : i < n) (hn : n ≤ 1000000) : Aside0 (wrap64 ((i : Int) + 1) = ((i + 1 : Nat) : Int)) := ⟨by rw [ww64 ⟨by omega, by omega⟩]; omega⟩
theorem wsub_l0 (x y : List Int) (hx : wok x) (hy : wok y) (hl : y.length ≤ x.length) (hb : x.length ≤ 1000000) (hge : wval y ≤ wval x) : ∀ (d i : Nat) (o : List Int) (c : Int), i + d = x.length → o.length = x.length → wok o → (0 ≤ c ∧ c ≤ 1) → wval (o.take i) = wval (x.take i) - wval (y.take i) + c * W32 i →
    ∃ r, Ev (fun k => vendmeterbig_sub.l0 k x y o c (i : Int)) r ∧ Wd r (wval x - wval y) ∧ r.length ≤ x.length
  | 0, i, o, c, hi, ho, hk, hc, hv => by
    obtain ⟨r, h1, h2, h3⟩ := wtrim_ev o hk (by omega)
    have hix : i = x.length := by omega
    rw [hix, wval_take_over x _ (Nat.le_refl _), wval_take_over y _ hl, wval_take_over o _ (by omega)] at hv
    have hc0 : c = 0 := by
      rcases (show c = 0 ∨ c = 1 by omega) with g | g
      · exact g
      · have := wval_lt hk
        rw [ho] at this
        rw [g] at hv
        omega
    rw [hc0] at hv
    have hv : wval o = wval x - wval y := by omega
    rw [hv] at h2
    refine ⟨r, Ev.step (f := fun k => (vendmeterbig_trim.f k o).bind fun t => some t) (fun k => ?_) (Ev.bind h1 (Ev.now _)), h2, by omega⟩
    simp only [vendmeterbig_sub.l0]; rw [if_neg (by omega)]
  | d + 1, i, o, c, hi, ho, hk, hc, hv => by
    have bx := hx.at_ i
    have hi1 := wn1 (show i < x.length by omega) hb
    by_cases hy1 : i < y.length
    · obtain ⟨v, c', he, hc', hv', e⟩ := wsub_e bx hc (hy.at_ i)
      obtain ⟨r, h1, h2⟩ := wsub_l0 x y hx hy hl hb hge d (i + 1) (o.set i v) c' (by omega) (by rw [List.length_set]; exact ho) (hk.set i hv') hc' (by
        rw [wval_take_set o i _ (by omega), hv, wval_take x i (by omega), wval_take y i hy1, e, W32.succ]
        grind)
      refine ⟨r, Ev.step (fun k => ?_) h1, h2⟩
      simp only [vendmeterbig_sub.l0, wrd, he.out.1, he.out.2, Int.toNat_natCast, hi1.out]
      rw [if_pos (by omega), if_pos (by omega), if_pos (by omega), if_pos (by omega)]
    · obtain ⟨v, c', he, hc', hv', e⟩ := wsub_f bx hc
      obtain ⟨r, h1, h2⟩ := wsub_l0 x y hx hy hl hb hge d (i + 1) (o.set i v) c' (by omega) (by rw [List.length_set]; exact ho) (hk.set i hv') hc' (by
        rw [wval_take_set o i _ (by omega), hv, wval_take x i (by omega), wval_take_over y i (by omega), wval_take_over y (i + 1) (by omega), e, W32.succ]
        grind)
      refine ⟨r, Ev.step (fun k => ?_) h1, h2⟩
      simp only [vendmeterbig_sub.l0, wrd, he.out.1, he.out.2, Int.toNat_natCast, hi1.out]
      rw [if_pos (by omega), if_pos (by omega), if_neg (by omega), if_pos (by omega)]
theorem wsub_ev {x y : List Int} {a b : Int} (hx : Wd x a) (hy : Wd y b) (hbx : x.length ≤ 1000000) (hab : b ≤ a) : ∃ r, Ev (fun k => vendmeterbig_sub.f k x y) r ∧ Wd r (a - b) ∧ r.length ≤ x.length := by
  have hl : y.length ≤ x.length := by
    rcases Nat.lt_or_ge x.length y.length with g | g
    · have := hx.len_lt hy g; omega
    · exact g
  obtain ⟨r, h1, h2, h3⟩ := wsub_l0 x y hx.ok hy.ok hl hbx (by rw [hx.val, hy.val]; exact hab) x.length 0 (List.replicate x.length 0) 0 (by omega) (by simp) (wok.replicate _) (by decide) (by simp [wval])
  rw [hx.val, hy.val] at h2
  refine ⟨r, ?_, h2, h3⟩
  unfold vendmeterbig_sub.f
  exact WEv.pos (by omega) (WEv.pos (by omega) h1)
theorem winfo : (Try.prog.info? 22).map (fun i => (i.zero, i.size, i.bytes)) = some (some (.int .u32 0), 1, 4) := by kernel_rfl
/-! ### rows of words -/
theorem wput {W : World} {base g n cap : Nat} {ok : Nat → Prop} {l : List Int} (h : Kd.R (Kd.int .u32) 22 W base ok (.slice (some ⟨g, 0, none⟩) n cap) l) (i : Nat) (x : Int) : Kd.R (Kd.int .u32) 22 (W.setCell ⟨g, i, none⟩ (.int .u32 x)) base ok (.slice (some ⟨g, 0, none⟩) n cap) (l.set i x) := Kd.R_putn h (i : Int) x
theorem wcell {W : World} {base g n cap : Nat} {ok : Nat → Prop} {l : List Int} (h : Kd.R (Kd.int .u32) 22 W base ok (.slice (some ⟨g, 0, none⟩) n cap) l) (i : Nat) (hi : i < n) : W.cell? ⟨g, i, none⟩ = some (.int .u32 (l.getD i 0)) ∧ W.frozen? ⟨g, i, none⟩ = false := Kd.R_celln 0 h (i : Int) (by omega) (by omega)
theorem wread {w W : World} {A : Option Addr} {x : List Int} (h : Kd.C (Kd.int .u32) w A x.length x) (hb : Below w.heap.size w W) (i : Nat) (hi : i < x.length) : ∃ ad, A = some ad ∧ W.cell? (ad.add i) = some (.int .u32 (x.getD i 0)) := by
  obtain ⟨ad, e, hc⟩ := Kd.at_int h (i : Int) (by omega) (by omega)
  refine ⟨ad, e, ?_⟩
  rw [Int.toNat_natCast, wrd] at hc
  exact (hb.cell (World.block_lt_of_cell? w _ hc)).trans hc
theorem wR_len {W : World} {base n cap : Nat} {A : Option Addr} {ok : Nat → Prop} {l : List Int} (h : Kd.R (Kd.int .u32) 22 W base ok (.slice A n cap) l) : l.length = n := by
  obtain ⟨A', c', e⟩ := Kd.R_slice h
  injection e with _ e2 _
  exact e2.symm
theorem wblk {W : World} {base g n cap : Nat} {ok : Nat → Prop} {l : List Int} (h : Kd.R (Kd.int .u32) 22 W base ok (.slice (some ⟨g, 0, none⟩) n cap) l) (hn : 0 < n) : ∃ cells, W.heap[g]? = some (.cells cells 22 (0, 0)) := by
  obtain ⟨g', cap', e, _, _, cells, hc⟩ := Kd.R_form h (by rw [wR_len h]; exact hn)
  injection e with e1
  injection e1 with e1
  injection e1 with e1
  exact ⟨cells, by rw [e1]; exact hc⟩
theorem wfar {W : World} {base g n cap : Nat} {ok : Nat → Prop} {l : List Int} (h : Kd.R (Kd.int .u32) 22 W base ok (.slice (some ⟨g, 0, none⟩) n cap) l) (i j : Nat) (hj : j < n) (hij : i ≠ j) (u : Value) : (W.setCell ⟨g, i, none⟩ u).cell? ⟨g, j, none⟩ = some (.int .u32 (l.getD j 0)) ∧ (W.setCell ⟨g, i, none⟩ u).frozen? ⟨g, j, none⟩ = false := by
  obtain ⟨cells, hc⟩ := wblk h (by omega)
  refine ⟨?_, blk_frozen (blk_set hc i u) j⟩
  rw [← (wcell h j hj).1]
  exact World.cell?_setCell_other _ _ _ _ (fun e => hij (by simp at e))
theorem wbelow_d {w w1 : World} (h : Drawn0 w w1) : Below w.heap.size w w1 := h.below
theorem wRC {W : World} {base n cap : Nat} {A : Option Addr} {ok : Nat → Prop} {l : List Int} (h : Kd.R (Kd.int .u32) 22 W base ok (.slice A n cap) l) : Kd.C (Kd.int .u32) W A l.length l ∧ l.length ≤ cap := by
  obtain ⟨A', c', e, hle, hc⟩ := Kd.R_reads h
  injection e with e1 e2 e3
  subst e1 e2 e3
  exact ⟨hc, hle⟩
theorem wsrc {w : World} {A : Option Addr} {l : List Int} (h : Kd.C (Kd.int .u32) w A l.length l) (h0 : 0 < l.length) : ∃ ad, A = some ad ∧ ∀ j v, (l.map (Value.int .u32))[j]? = some v → w.cell? (ad.add j) = some v := by
  obtain ⟨ad, hA, _⟩ := wread h (Below.refl _ _) 0 h0
  refine ⟨ad, hA, fun j v hj => ?_⟩
  have hjl : j < l.length := by simpa using (List.getElem?_eq_some_iff.1 hj).1
  obtain ⟨ad', hA', hc⟩ := wread h (Below.refl _ _) j hjl
  obtain rfl : ad = ad' := by rw [hA] at hA'; exact Option.some.inj hA'
  rw [hc]
  rw [List.getElem?_map, List.getElem?_eq_getElem hjl] at hj
  rw [List.getD_eq_getElem?_getD, List.getElem?_eq_getElem hjl]
  exact hj
theorem wval_zero_of : ∀ (l : List Int), (∀ j, l.getD j 0 = 0) → wval l = 0
  | [], _ => rfl
  | a :: t, h => by
    have h0 : a = 0 := h 0
    have ht := wval_zero_of t (fun j => h (j + 1))
    simp only [wval, h0, ht]
    decide
theorem wval_low (l : List Int) (m : Nat) (hm : m ≤ l.length) (h : ∀ j, m ≤ j → l.getD j 0 = 0) : wval l = wval (l.take m) := by
  rw [wval_split l m hm, wval_zero_of (l.drop m) (fun j => by rw [List.getD_eq_getElem?_getD, List.getElem?_drop, ← List.getD_eq_getElem?_getD]; exact h _ (by omega)), Int.mul_zero, Int.add_zero]
theorem zero_getD (n j : Nat) : (List.replicate n (0 : Int)).getD j 0 = 0 := by
  rw [List.getD_eq_getElem?_getD, List.getElem?_replicate]; split <;> rfl
set_option maxHeartbeats 8000000 in
set_option maxRecDepth 100000 in
theorem vendmeterbig_add.calls (A0 : Option Addr) (c0 : Nat) (x : List Int) (a : Int) (A1 : Option Addr) (c1 : Nat) (y : List Int) (b : Int) (w : World) (hr0 : Kd.C (Kd.int .u32) w A0 x.length x) (hc0 : x.length ≤ c0) (hr1 : Kd.C (Kd.int .u32) w A1 y.length y) (hc1 : y.length ≤ c1) (hx : Wd x a) (hy : Wd y b) (hbx : x.length ≤ 100000) (hby : y.length ≤ 100000) :
    Calls Try.prog 101 #[.slice A0 x.length c0, .slice A1 y.length c1] w fun e w' => ∃ v r, e = .returned v ∧ Kd.R (Kd.int .u32) 22 w' w.heap.size (fun _ => True) v r ∧ Wd r (a + b) ∧ r.length ≤ x.length + y.length + 1 ∧ Below w.heap.size w w' := by
  have HR0 := Aside0.mk hr0
  have HR1 := Aside0.mk hr1
  clear hr0 hr1
  by_cases hsw : x.length < y.length
  · have hcmp : decide (x.length < y.length) = true := decide_eq_true (by omega)
    have hle : x.length ≤ y.length := by omega
    have HLE := Aside0.mk hle
    clear hsw hle
    go_enter Try.func101, Try.ntmps101
    go_wp2_with (first | ((with_reducible refine gate_dst (N := 18) rfl ?_); refine Kd.R_make (Kd.int .u32) _ 22 rfl (N := 18) rfl 42 _ _ rfl ((y.length : Int) + 1) rfl rfl Try.underlying42 (.int .u32 0) 4 winfo rfl (by decide) (by omega) 0 (ok := fun _ => True) (okp := fun _ => True) rfl (fun _ hk => hk) trivial (by omega) (by omega) (Below.refl _ _) (Nat.le_refl _) ?_; intro v5 w5 ho hb hg_ hnew_; clear hg_ hnew_; rw [show ((y.length : Int) + 1).toNat = y.length + 1 by omega] at ho; have HO := Aside0.mk ho; have HB := Aside0.mk hb; clear ho hb))
    obtain ⟨g, cap, rfl, hgb, hgl, _⟩ := Kd.R_form HO.out (by simp)
    have hlr : (List.replicate (y.length + 1) (0:Int)).length = y.length + 1 := by simp
    rw [hlr] at HO
    have HG := Aside0.mk hgb
    clear hgb hgl hlr
    simp only [List.length_replicate]
    go_loopg [6, 7] y.length (fun kq v6 v7 w' => ∃ (i : Nat) (c : Int) (l : List Int), v6 = .int .u64 c ∧ v7 = .int .i64 (i : Int) ∧ i ≤ y.length ∧ kq = y.length - i ∧ Aside0 (l.length = y.length + 1 ∧ wok l ∧ (0 ≤ c ∧ c ≤ 1) ∧ wval (l.take i) + c * W32 i = wval (y.take i) + wval (x.take i)) ∧ Aside0 (Kd.R (Kd.int .u32) 22 w' w.heap.size (fun _ => True) (.slice (some ⟨g, 0, none⟩) (y.length + 1) cap) l) ∧ Aside0 (Below w.heap.size w w'))
    case atStart => exact ⟨0, 0, List.replicate (y.length + 1) 0, rfl, rfl, Nat.zero_le _, rfl, ⟨by simp, wok.replicate _, by decide, by simp [wval]⟩, HO, HB⟩
    case round =>
      clear HO HB
      obtain ⟨i, c, l, rfl, rfl, hi, rfl, HI, HO, HB⟩ := hrel
      have bX := hy.ok.at_ i
      have bY := hx.ok.at_ i
      have bc := HI.out.2.2.1
      by_cases hlt : i < y.length
      · have hltb : decide (i < y.length) = true := decide_eq_true (by omega)
        have hi1 := wn1 hlt (by omega)
        obtain ⟨adx, ex, hcx⟩ := wread HR1.out HB.out i hlt
        cases ex
        obtain ⟨xi, hxi⟩ : ∃ xi, y.getD i 0 = xi := ⟨_, rfl⟩
        rw [hxi] at hcx bX
        have HXI := Aside0.mk hxi
        have BX := Aside0.mk bX
        clear hxi
        obtain ⟨hcl, hfl⟩ := wcell HO.out i (by omega)
        by_cases hy1 : i < x.length
        · have hltc : decide (i < x.length) = true := decide_eq_true (by omega)
          obtain ⟨ady, ey, hcy⟩ := wread HR0.out HB.out i hy1
          cases ey
          obtain ⟨yi, hyi⟩ : ∃ yi, x.getD i 0 = yi := ⟨_, rfl⟩
          rw [hyi] at hcy bY
          have HYI := Aside0.mk hyi
          have BY := Aside0.mk bY
          clear hyi
          have he : Aside0 (IntKind.u64.wrap (IntKind.u64.wrap (c + IntKind.u64.wrap (xi)) + IntKind.u64.wrap (yi)) = c + xi + yi) := ⟨by rw [wu64 (a := xi) ⟨bX.1, by omega⟩, wu64 (a := yi) ⟨bY.1, by omega⟩, wu64 (a := c + xi) ⟨by omega, by omega⟩, wu64 ⟨by omega, by omega⟩]⟩
          have HP := Aside0.mk (wput HO.out i ((c + xi + yi) % 4294967296))
          have HB2 := Aside0.mk (below_set (j := i) (v := .int .u32 ((c + xi + yi) % 4294967296)) HB.out HG.out)
          clear bX bY bc
          go_wp2
          go_roundg (y.length - (i + 1))
          case measure => have := of_decide_eq_true hltb; omega
          case rel =>
            have hlt := of_decide_eq_true hltb
            have hy1 := of_decide_eq_true hltc
            refine ⟨i + 1, (c + xi + yi) / 4294967296, l.set i ((c + xi + yi) % 4294967296), by rw [he.out], by first | rfl | rw [hi1.out] | simp, by omega, rfl, ⟨?_⟩, ⟨?_⟩, ⟨?_⟩⟩
            · have bX := BX.out
              have bY := BY.out
              obtain ⟨h1, h2, h3, h4⟩ := HI.out
              refine ⟨by rw [List.length_set]; exact h1, h2.set i ⟨by omega, by omega⟩, by omega, ?_⟩
              rw [wval_take_set l i _ (by omega), wval_take y i (by omega), wval_take x i (by omega), W32.succ, HXI.out, HYI.out]
              have e := Int.mul_ediv_add_emod (c + xi + yi) 4294967296
              generalize (c + xi + yi) / 4294967296 = q at *
              generalize (c + xi + yi) % 4294967296 = s at *
              clear he HP HB2
              grind
            · simpa [he.out] using HP.out
            · simpa [he.out] using HB2.out
        · have hltc : decide (i < x.length) = false := decide_eq_false (by omega)
          have he : Aside0 (IntKind.u64.wrap (c + IntKind.u64.wrap (xi)) = c + xi) := ⟨by rw [wu64 (a := xi) ⟨bX.1, by omega⟩, wu64 ⟨by omega, by omega⟩]⟩
          have HP := Aside0.mk (wput HO.out i ((c + xi) % 4294967296))
          have HB2 := Aside0.mk (below_set (j := i) (v := .int .u32 ((c + xi) % 4294967296)) HB.out HG.out)
          clear bX bY bc
          go_wp2
          go_roundg (y.length - (i + 1))
          case measure => have := of_decide_eq_true hltb; omega
          case rel =>
            have hlt := of_decide_eq_true hltb
            have hy1 := of_decide_eq_false hltc
            refine ⟨i + 1, (c + xi) / 4294967296, l.set i ((c + xi) % 4294967296), by rw [he.out], by first | rfl | rw [hi1.out] | simp, by omega, rfl, ⟨?_⟩, ⟨?_⟩, ⟨?_⟩⟩
            · have bX := BX.out
              obtain ⟨h1, h2, h3, h4⟩ := HI.out
              refine ⟨by rw [List.length_set]; exact h1, h2.set i ⟨by omega, by omega⟩, by omega, ?_⟩
              rw [wval_take_set l i _ (by omega), wval_take y i (by omega), wval_take_over x (i + 1) (by omega), W32.succ, HXI.out]
              rw [wval_take_over x i (by omega)] at h4
              have e := Int.mul_ediv_add_emod (c + xi) 4294967296
              generalize (c + xi) / 4294967296 = q at *
              generalize (c + xi) % 4294967296 = s at *
              clear he HP HB2
              grind
            · simpa [he.out] using HP.out
            · simpa [he.out] using HB2.out
      · have hltb : decide (i < y.length) = false := decide_eq_false (by omega)
        have hix : i = y.length := by omega
        subst hix
        obtain ⟨h1, h2, h3, h4⟩ := HI.out
        rw [wval_take_over y _ (Nat.le_refl _), wval_take_over x _ HLE.out] at h4
        obtain ⟨hcl, hfl⟩ := wcell HO.out y.length (by omega)
        have hcm : c % 4294967296 = c := Int.emod_eq_of_lt h3.1 (by omega)
        have HP := Aside0.mk (wput HO.out y.length c)
        have HB2 := Aside0.mk (below_set (j := y.length) (v := .int .u32 c) HB.out HG.out)
        have hval : wval (l.set y.length c) = wval y + wval x := by
          have := wval_take_set l y.length c (by omega)
          rw [List.take_of_length_le (by rw [List.length_set]; omega)] at this
          rw [this, ← h4, Int.mul_comm]
        obtain ⟨r, t1, t2, t3⟩ := wtrim_ev (l.set y.length c) (h2.set _ ⟨by omega, by omega⟩) (by rw [List.length_set]; omega)
        rw [List.length_set] at t3
        obtain ⟨kt, ht⟩ := Ev.rounds t1
        have HT := Aside0.mk ht
        have HRV := Aside0.mk (show Wd r (a + b) ∧ r.length ≤ x.length + y.length + 1 by
          rw [hval, hx.val, hy.val, Int.add_comm] at t2
          exact ⟨t2, by omega⟩)
        have hlen : (l.set y.length c).length = y.length + 1 := by rw [List.length_set]; exact h1
        have HL := Aside0.mk hlen
        clear HI h1 h2 h3 h4 hval t1 t2 t3 ht hlen HO HB
        go_wp2_with (first | ((with_reducible refine gate_callee (f := 99) rfl ?_); refine goesL_ (some 57) rfl rfl Try.func99 (by kernel_rfl) rfl #[.slice (some ⟨g, 0, none⟩) (y.length + 1) cap] rfl (by (try simp only [List.map_toArray, List.map_cons, List.map_nil]); first | done | rfl) ?_; (with_reducible refine (vendmeterbig_trim.calls kt (fun _ => True) (.slice (some ⟨g, 0, none⟩) (y.length + 1) cap) (l.set y.length c) r w _ ?side1 ?side2 HT.out).mono ?_); (case side1 => simpa [hcm] using HB2.out); (case side2 => simpa [hcm] using HP.out); rintro e w20 ⟨v0, rfl, ho0, hb, hkp⟩; refine ⟨_, rfl, ?_⟩; have HO3 := Aside0.mk (Kd.R_mono (ok' := fun k_ => True) ho0 (fun k_ hk_ => trivial)); have HB3 := Aside0.mk hb; clear ho0 hb hkp))
        go_ret
        exact ⟨v0, r, rfl, HO3.out, HRV.out.1, HRV.out.2, HB3.out⟩
  · have hcmp : decide (x.length < y.length) = false := decide_eq_false (by omega)
    have hle : y.length ≤ x.length := by omega
    have HLE := Aside0.mk hle
    clear hsw hle
    go_enter Try.func101, Try.ntmps101
    go_wp2_with (first | ((with_reducible refine gate_dst (N := 18) rfl ?_); refine Kd.R_make (Kd.int .u32) _ 22 rfl (N := 18) rfl 42 _ _ rfl ((x.length : Int) + 1) rfl rfl Try.underlying42 (.int .u32 0) 4 winfo rfl (by decide) (by omega) 0 (ok := fun _ => True) (okp := fun _ => True) rfl (fun _ hk => hk) trivial (by omega) (by omega) (Below.refl _ _) (Nat.le_refl _) ?_; intro v5 w5 ho hb hg_ hnew_; clear hg_ hnew_; rw [show ((x.length : Int) + 1).toNat = x.length + 1 by omega] at ho; have HO := Aside0.mk ho; have HB := Aside0.mk hb; clear ho hb))
    obtain ⟨g, cap, rfl, hgb, hgl, _⟩ := Kd.R_form HO.out (by simp)
    have hlr : (List.replicate (x.length + 1) (0:Int)).length = x.length + 1 := by simp
    rw [hlr] at HO
    have HG := Aside0.mk hgb
    clear hgb hgl hlr
    simp only [List.length_replicate]
    go_loopg [6, 7] x.length (fun kq v6 v7 w' => ∃ (i : Nat) (c : Int) (l : List Int), v6 = .int .u64 c ∧ v7 = .int .i64 (i : Int) ∧ i ≤ x.length ∧ kq = x.length - i ∧ Aside0 (l.length = x.length + 1 ∧ wok l ∧ (0 ≤ c ∧ c ≤ 1) ∧ wval (l.take i) + c * W32 i = wval (x.take i) + wval (y.take i)) ∧ Aside0 (Kd.R (Kd.int .u32) 22 w' w.heap.size (fun _ => True) (.slice (some ⟨g, 0, none⟩) (x.length + 1) cap) l) ∧ Aside0 (Below w.heap.size w w'))
    case atStart => exact ⟨0, 0, List.replicate (x.length + 1) 0, rfl, rfl, Nat.zero_le _, rfl, ⟨by simp, wok.replicate _, by decide, by simp [wval]⟩, HO, HB⟩
    case round =>
      clear HO HB
      obtain ⟨i, c, l, rfl, rfl, hi, rfl, HI, HO, HB⟩ := hrel
      have bX := hx.ok.at_ i
      have bY := hy.ok.at_ i
      have bc := HI.out.2.2.1
      by_cases hlt : i < x.length
      · have hltb : decide (i < x.length) = true := decide_eq_true (by omega)
        have hi1 := wn1 hlt (by omega)
        obtain ⟨adx, ex, hcx⟩ := wread HR0.out HB.out i hlt
        cases ex
        obtain ⟨xi, hxi⟩ : ∃ xi, x.getD i 0 = xi := ⟨_, rfl⟩
        rw [hxi] at hcx bX
        have HXI := Aside0.mk hxi
        have BX := Aside0.mk bX
        clear hxi
        obtain ⟨hcl, hfl⟩ := wcell HO.out i (by omega)
        by_cases hy1 : i < y.length
        · have hltc : decide (i < y.length) = true := decide_eq_true (by omega)
          obtain ⟨ady, ey, hcy⟩ := wread HR1.out HB.out i hy1
          cases ey
          obtain ⟨yi, hyi⟩ : ∃ yi, y.getD i 0 = yi := ⟨_, rfl⟩
          rw [hyi] at hcy bY
          have HYI := Aside0.mk hyi
          have BY := Aside0.mk bY
          clear hyi
          have he : Aside0 (IntKind.u64.wrap (IntKind.u64.wrap (c + IntKind.u64.wrap (xi)) + IntKind.u64.wrap (yi)) = c + xi + yi) := ⟨by rw [wu64 (a := xi) ⟨bX.1, by omega⟩, wu64 (a := yi) ⟨bY.1, by omega⟩, wu64 (a := c + xi) ⟨by omega, by omega⟩, wu64 ⟨by omega, by omega⟩]⟩
          have HP := Aside0.mk (wput HO.out i ((c + xi + yi) % 4294967296))
          have HB2 := Aside0.mk (below_set (j := i) (v := .int .u32 ((c + xi + yi) % 4294967296)) HB.out HG.out)
          clear bX bY bc
          go_wp2
          go_roundg (x.length - (i + 1))
          case measure => have := of_decide_eq_true hltb; omega
          case rel =>
            have hlt := of_decide_eq_true hltb
            have hy1 := of_decide_eq_true hltc
            refine ⟨i + 1, (c + xi + yi) / 4294967296, l.set i ((c + xi + yi) % 4294967296), by rw [he.out], by first | rfl | rw [hi1.out] | simp, by omega, rfl, ⟨?_⟩, ⟨?_⟩, ⟨?_⟩⟩
            · have bX := BX.out
              have bY := BY.out
              obtain ⟨h1, h2, h3, h4⟩ := HI.out
              refine ⟨by rw [List.length_set]; exact h1, h2.set i ⟨by omega, by omega⟩, by omega, ?_⟩
              rw [wval_take_set l i _ (by omega), wval_take x i (by omega), wval_take y i (by omega), W32.succ, HXI.out, HYI.out]
              have e := Int.mul_ediv_add_emod (c + xi + yi) 4294967296
              generalize (c + xi + yi) / 4294967296 = q at *
              generalize (c + xi + yi) % 4294967296 = s at *
              clear he HP HB2
              grind
            · simpa [he.out] using HP.out
            · simpa [he.out] using HB2.out
        · have hltc : decide (i < y.length) = false := decide_eq_false (by omega)
          have he : Aside0 (IntKind.u64.wrap (c + IntKind.u64.wrap (xi)) = c + xi) := ⟨by rw [wu64 (a := xi) ⟨bX.1, by omega⟩, wu64 ⟨by omega, by omega⟩]⟩
          have HP := Aside0.mk (wput HO.out i ((c + xi) % 4294967296))
          have HB2 := Aside0.mk (below_set (j := i) (v := .int .u32 ((c + xi) % 4294967296)) HB.out HG.out)
          clear bX bY bc
          go_wp2
          go_roundg (x.length - (i + 1))
          case measure => have := of_decide_eq_true hltb; omega
          case rel =>
            have hlt := of_decide_eq_true hltb
            have hy1 := of_decide_eq_false hltc
            refine ⟨i + 1, (c + xi) / 4294967296, l.set i ((c + xi) % 4294967296), by rw [he.out], by first | rfl | rw [hi1.out] | simp, by omega, rfl, ⟨?_⟩, ⟨?_⟩, ⟨?_⟩⟩
            · have bX := BX.out
              obtain ⟨h1, h2, h3, h4⟩ := HI.out
              refine ⟨by rw [List.length_set]; exact h1, h2.set i ⟨by omega, by omega⟩, by omega, ?_⟩
              rw [wval_take_set l i _ (by omega), wval_take x i (by omega), wval_take_over y (i + 1) (by omega), W32.succ, HXI.out]
              rw [wval_take_over y i (by omega)] at h4
              have e := Int.mul_ediv_add_emod (c + xi) 4294967296
              generalize (c + xi) / 4294967296 = q at *
              generalize (c + xi) % 4294967296 = s at *
              clear he HP HB2
              grind
            · simpa [he.out] using HP.out
            · simpa [he.out] using HB2.out
      · have hltb : decide (i < x.length) = false := decide_eq_false (by omega)
        have hix : i = x.length := by omega
        subst hix
        obtain ⟨h1, h2, h3, h4⟩ := HI.out
        rw [wval_take_over x _ (Nat.le_refl _), wval_take_over y _ HLE.out] at h4
        obtain ⟨hcl, hfl⟩ := wcell HO.out x.length (by omega)
        have hcm : c % 4294967296 = c := Int.emod_eq_of_lt h3.1 (by omega)
        have HP := Aside0.mk (wput HO.out x.length c)
        have HB2 := Aside0.mk (below_set (j := x.length) (v := .int .u32 c) HB.out HG.out)
        have hval : wval (l.set x.length c) = wval x + wval y := by
          have := wval_take_set l x.length c (by omega)
          rw [List.take_of_length_le (by rw [List.length_set]; omega)] at this
          rw [this, ← h4, Int.mul_comm]
        obtain ⟨r, t1, t2, t3⟩ := wtrim_ev (l.set x.length c) (h2.set _ ⟨by omega, by omega⟩) (by rw [List.length_set]; omega)
        rw [List.length_set] at t3
        obtain ⟨kt, ht⟩ := Ev.rounds t1
        have HT := Aside0.mk ht
        have HRV := Aside0.mk (show Wd r (a + b) ∧ r.length ≤ x.length + y.length + 1 by
          rw [hval, hx.val, hy.val] at t2
          exact ⟨t2, by omega⟩)
        have hlen : (l.set x.length c).length = x.length + 1 := by rw [List.length_set]; exact h1
        have HL := Aside0.mk hlen
        clear HI h1 h2 h3 h4 hval t1 t2 t3 ht hlen HO HB
        go_wp2_with (first | ((with_reducible refine gate_callee (f := 99) rfl ?_); refine goesL_ (some 57) rfl rfl Try.func99 (by kernel_rfl) rfl #[.slice (some ⟨g, 0, none⟩) (x.length + 1) cap] rfl (by (try simp only [List.map_toArray, List.map_cons, List.map_nil]); first | done | rfl) ?_; (with_reducible refine (vendmeterbig_trim.calls kt (fun _ => True) (.slice (some ⟨g, 0, none⟩) (x.length + 1) cap) (l.set x.length c) r w _ ?side1 ?side2 HT.out).mono ?_); (case side1 => simpa [hcm] using HB2.out); (case side2 => simpa [hcm] using HP.out); rintro e w20 ⟨v0, rfl, ho0, hb, hkp⟩; refine ⟨_, rfl, ?_⟩; have HO3 := Aside0.mk (Kd.R_mono (ok' := fun k_ => True) ho0 (fun k_ hk_ => trivial)); have HB3 := Aside0.mk hb; clear ho0 hb hkp))
        go_ret
        exact ⟨v0, r, rfl, HO3.out, HRV.out.1, HRV.out.2, HB3.out⟩

theorem wprod {c x y z : Int} (hc : 0 ≤ c ∧ c < 4294967296) (hx : 0 ≤ x ∧ x < 4294967296) (hy : 0 ≤ y ∧ y < 4294967296) (hz : 0 ≤ z ∧ z < 4294967296) :
    IntKind.u64.wrap (c + IntKind.u64.wrap (IntKind.u64.wrap (IntKind.u64.wrap x * IntKind.u64.wrap y) + IntKind.u64.wrap z)) = c + (x * y + z) ∧ 0 ≤ c + (x * y + z) ∧ c + (x * y + z) < 18446744073709551616 := by
  have h0 : 0 ≤ x * y := Int.mul_nonneg hx.1 hy.1
  have h1 : x * y ≤ 4294967295 * 4294967295 := Int.mul_le_mul (by omega) (by omega) hy.1 (by decide)
  generalize hq : x * y = q at *
  rw [wu64 (a := x) ⟨hx.1, by omega⟩, wu64 (a := y) ⟨hy.1, by omega⟩, wu64 (a := z) ⟨hz.1, by omega⟩, hq, wu64 (a := q) ⟨h0, by omega⟩, wu64 (a := q + z) ⟨by omega, by omega⟩, wu64 ⟨by omega, by omega⟩]
  omega
set_option maxHeartbeats 8000000 in
set_option maxRecDepth 100000 in
theorem vendmeterbig_mul.calls (A0 : Option Addr) (c0 : Nat) (x : List Int) (a : Int) (A1 : Option Addr) (c1 : Nat) (y : List Int) (b : Int) (w : World) (hr0 : Kd.C (Kd.int .u32) w A0 x.length x) (hc0 : x.length ≤ c0) (hr1 : Kd.C (Kd.int .u32) w A1 y.length y) (hc1 : y.length ≤ c1) (hx : Wd x a) (hy : Wd y b) (hbx : x.length ≤ 100000) (hby : y.length ≤ 100000) :
    Calls Try.prog 85 #[.slice A0 x.length c0, .slice A1 y.length c1] w fun e w' => ∃ v r, e = .returned v ∧ Kd.R (Kd.int .u32) 22 w' w.heap.size (fun _ => True) v r ∧ Wd r (a * b) ∧ r.length ≤ x.length + y.length ∧ Below w.heap.size w w' := by
  have HR0 := Aside0.mk hr0
  have HR1 := Aside0.mk hr1
  clear hr0 hr1
  by_cases hc : x.length = 0
  · have hcb : ((x.length : Int) == 0) = true := beq_iff_eq.mpr (by omega)
    have HZ := Aside0.mk (hx.nil_iff.1 hc)
    clear hc
    go_enter Try.func85, Try.ntmps85
    go_wp2
    go_ret
    exact ⟨_, [], rfl, Kd.R_nil _ _ _ _ _, by rw [HZ.out, Int.zero_mul]; exact Wd.zero, by simp, Below.refl _ _⟩
  have hcb : ((x.length : Int) == 0) = false := beq_eq_false_iff_ne.mpr (by omega)
  by_cases hd : y.length = 0
  · have hdb : ((y.length : Int) == 0) = true := beq_iff_eq.mpr (by omega)
    have HZ := Aside0.mk (hy.nil_iff.1 hd)
    clear hc hd
    go_enter Try.func85, Try.ntmps85
    go_wp2
    go_ret
    exact ⟨_, [], rfl, Kd.R_nil _ _ _ _ _, by rw [HZ.out, Int.mul_zero]; exact Wd.zero, by simp, Below.refl _ _⟩
  have hdb : ((y.length : Int) == 0) = false := beq_eq_false_iff_ne.mpr (by omega)
  obtain ⟨L, hL⟩ : ∃ L, x.length + y.length = L := ⟨_, rfl⟩
  have hL0 : 0 ≤ (x.length : Int) + (y.length : Int) := by omega
  have hL4 : ((x.length : Int) + (y.length : Int)).toNat * 4 ≤ 281474976710656 := by omega
  have E9 := Aside0.mk (show ((x.length : Int) + (y.length : Int)).toNat = L by omega)
  have HL := Aside0.mk hL
  have hL1 : 0 < L := by omega
  have HLR := Aside0.mk (show 0 < (List.replicate L (0:Int)).length by simpa using hL1)
  clear hc hd hL hL1
  go_enter Try.func85, Try.ntmps85
  go_wp2_with (first | ((with_reducible refine gate_dst (N := 22) rfl ?_); refine Kd.R_make (Kd.int .u32) _ 22 rfl (N := 22) rfl 42 _ _ rfl ((x.length : Int) + (y.length : Int)) rfl rfl Try.underlying42 (.int .u32 0) 4 winfo rfl (by decide) (by omega) 0 (ok := fun _ => True) (okp := fun _ => True) rfl (fun _ hk => hk) trivial hL0 hL4 (Below.refl _ _) (Nat.le_refl _) ?_; intro v5 w5 ho hb hg_ hnew_; clear hg_ hnew_; rw [E9.out] at ho; have HO := Aside0.mk ho; have HB := Aside0.mk hb; clear ho hb))
  obtain ⟨g, cap, rfl, hgb, hgl, _⟩ := Kd.R_form HO.out HLR.out
  have HG := Aside0.mk hgb
  clear hgb hgl hL0 hL4 hcb hdb
  simp only [List.length_replicate] at HO ⊢
  go_loopg [6] x.length (fun kq v6 w' => ∃ (i : Nat) (l : List Int), v6 = .int .i64 (i : Int) ∧ i ≤ x.length ∧ kq = x.length - i ∧ Aside0 (l.length = L ∧ wok l ∧ (∀ j, i + y.length ≤ j → l.getD j 0 = 0) ∧ wval (l.take (i + y.length)) = wval (x.take i) * b) ∧ Aside0 (Kd.R (Kd.int .u32) 22 w' w.heap.size (fun _ => True) (.slice (some ⟨g, 0, none⟩) L cap) l) ∧ Aside0 (Below w.heap.size w w'))
  case atStart =>
    refine ⟨0, List.replicate L 0, rfl, Nat.zero_le _, rfl, ⟨by simp, wok.replicate _, fun j _ => zero_getD L j, ?_⟩, HO, HB⟩
    rw [List.take_replicate, wval_zeros]
    simp [wval]
  case round =>
    clear HO HB
    obtain ⟨i, l, rfl, hi, rfl, HI, HO, HB⟩ := hrel
    by_cases hlt : i < x.length
    · have hltb : decide (i < x.length) = true := decide_eq_true hlt
      obtain ⟨xi, hxi⟩ : ∃ xi, x.getD i 0 = xi := ⟨_, rfl⟩
      have bX := hx.ok.at_ i
      rw [hxi] at bX
      have HXI := Aside0.mk hxi
      have BX := Aside0.mk bX
      clear hxi bX
      go_wp2
      go_loopg [7, 8] y.length (fun kq v7 v8 w' => ∃ (j : Nat) (c : Int) (l' : List Int), v7 = .int .u64 c ∧ v8 = .int .i64 (j : Int) ∧ j ≤ y.length ∧ kq = y.length - j ∧ Aside0 (l'.length = L ∧ wok l' ∧ (0 ≤ c ∧ c < 4294967296) ∧ (∀ m, i + j ≤ m → l'.getD m 0 = l.getD m 0) ∧ wval (l'.take (i + j)) + c * W32 (i + j) = wval (l.take (i + j)) + W32 i * xi * wval (y.take j)) ∧ Aside0 (Kd.R (Kd.int .u32) 22 w' w.heap.size (fun _ => True) (.slice (some ⟨g, 0, none⟩) L cap) l') ∧ Aside0 (Below w.heap.size w w'))
      case atStart => exact ⟨0, 0, l, rfl, rfl, Nat.zero_le _, rfl, ⟨HI.out.1, HI.out.2.1, by decide, fun _ _ => rfl, by simp [wval]⟩, HO, HB⟩
      case round =>
        clear HO HB
        obtain ⟨j, c, l', rfl, rfl, hj, rfl, HJ, HO, HB⟩ := hrel
        by_cases hjt : j < y.length
        · have hjb : decide (j < y.length) = true := decide_eq_true hjt
          have hl := HL.out
          have hij : i + j < L := by omega
          obtain ⟨adx, ex, hcx⟩ := wread HR0.out HB.out i hlt
          cases ex
          obtain ⟨ady, ey, hcy⟩ := wread HR1.out HB.out j hjt
          cases ey
          obtain ⟨yj, hyj⟩ : ∃ yj, y.getD j 0 = yj := ⟨_, rfl⟩
          have bY := hy.ok.at_ j
          rw [HXI.out] at hcx
          rw [hyj] at hcy bY
          obtain ⟨hcl, hfl⟩ := wcell HO.out (i + j) hij
          obtain ⟨q, hq⟩ : ∃ q, l'.getD (i + j) 0 = q := ⟨_, rfl⟩
          have bq := HJ.out.2.1.at_ (i + j)
          rw [hq] at hcl bq
          have HYJ := Aside0.mk hyj
          have BY := Aside0.mk bY
          have HQ := Aside0.mk hq
          have BQ := Aside0.mk bq
          clear hyj bY hq bq hl
          go_wp2
          go_quiet (fail)
          go_wp2
          go_roundg (y.length - (j + 1))
          case measure => omega
          case rel =>
            obtain ⟨e0, e1, e2⟩ := wprod HJ.out.2.2.1 BX.out BY.out BQ.out
            obtain ⟨h1, h2, h3, h4, h5⟩ := HJ.out
            refine ⟨j + 1, (c + (xi * yj + q)) / 4294967296, l'.set (i + j) ((c + (xi * yj + q)) % 4294967296), by rw [e0], by first | rfl | simp, by omega, rfl, ⟨?_⟩, ⟨by rw [e0]; exact wput (Kd.R_drewN HO.out _) (i + j) _⟩, ⟨below_set (pw_below_drewN HB.out _) HG.out⟩⟩
            have q0 : 0 ≤ (c + (xi * yj + q)) / 4294967296 := Int.ediv_nonneg e1 (by decide)
            have q1 : (c + (xi * yj + q)) / 4294967296 < 4294967296 := Int.ediv_lt_of_lt_mul (by decide) (by omega)
            refine ⟨by rw [List.length_set]; exact h1, h2.set _ ⟨Int.emod_nonneg _ (by decide), Int.emod_lt_of_pos _ (by decide)⟩, ⟨q0, q1⟩, fun m hm => ?_, ?_⟩
            · rw [getD_set_ne _ _ _ _ (by omega)]
              exact h4 m (by omega)
            · have hlq : l.getD (i + j) 0 = q := by rw [← h4 (i + j) (by omega)]; exact HQ.out
              rw [show i + (j + 1) = i + j + 1 by omega, wval_take_set _ _ _ (by omega), wval_take l (i + j) (by have := HI.out.1; omega), hlq, wval_take y j hjt, HYJ.out, W32.succ]
              have em := Int.mul_ediv_add_emod (c + (xi * yj + q)) 4294967296
              generalize (c + (xi * yj + q)) / 4294967296 = hi' at *
              generalize (c + (xi * yj + q)) % 4294967296 = lo' at *
              rw [W32.add] at *
              clear e0 e1 e2 q0 q1
              grind
        · have hjb : decide (j < y.length) = false := decide_eq_false hjt
          have hjy : j = y.length := by omega
          subst hjy
          obtain ⟨h1, h2, h3, h4, h5⟩ := HJ.out
          have hl := HL.out
          have hij : i + y.length < L := by omega
          obtain ⟨hcl, hfl⟩ := wcell HO.out (i + y.length) hij
          have hcm : c % 4294967296 = c := Int.emod_eq_of_lt h3.1 h3.2
          clear hl
          go_wp2
          go_roundg (x.length - (i + 1))
          case measure => omega
          case rel =>
            refine ⟨i + 1, l'.set (i + y.length) c, by first | rfl | simp, by omega, rfl, ⟨?_⟩, ⟨?_⟩, ⟨?_⟩⟩
            · obtain ⟨g1, g2, g3, g4⟩ := HI.out
              refine ⟨by rw [List.length_set]; exact h1, h2.set _ h3, fun m hm => ?_, ?_⟩
              · rw [getD_set_ne _ _ _ _ (by omega), h4 m (by omega)]
                exact g3 m (by omega)
              · rw [show i + 1 + y.length = i + y.length + 1 by omega, wval_take_set _ _ _ (by omega), wval_take x i hlt, HXI.out]
                rw [g4, wval_take_over y _ (Nat.le_refl _), hy.val] at h5
                clear hcl hfl hcm
                grind
            · first | exact wput HO.out (i + y.length) c | (rw [hcm]; exact wput HO.out (i + y.length) c)
            · exact below_set HB.out HG.out
    · have hltb : decide (i < x.length) = false := decide_eq_false hlt
      have hix : i = x.length := by omega
      subst hix
      obtain ⟨h1, h2, h3, h4⟩ := HI.out
      rw [List.take_of_length_le (by have := HL.out; omega), wval_take_over x _ (Nat.le_refl _), hx.val] at h4
      obtain ⟨r, t1, t2, t3⟩ := wtrim_ev l h2 (by have := HL.out; omega)
      rw [h4] at t2
      obtain ⟨kt, ht⟩ := Ev.rounds t1
      have HT := Aside0.mk ht
      have HRV := Aside0.mk (show Wd r (a * b) ∧ r.length ≤ x.length + y.length from ⟨t2, by have := HL.out; omega⟩)
      clear HI h1 h2 h3 h4 t1 t2 t3 ht
      go_wp2_with (first | ((with_reducible refine gate_callee (f := 99) rfl ?_); refine goesL_ (some 74) rfl rfl Try.func99 (by kernel_rfl) rfl #[.slice (some ⟨g, 0, none⟩) L cap] rfl (by (try simp only [List.map_toArray, List.map_cons, List.map_nil]); first | done | rfl) ?_; (with_reducible refine (vendmeterbig_trim.calls kt (fun _ => True) (.slice (some ⟨g, 0, none⟩) L cap) l r w _ ?side1 ?side2 HT.out).mono ?_); (case side1 => exact HB.out); (case side2 => exact HO.out); rintro e w20 ⟨v0, rfl, ho0, hb, hkp⟩; refine ⟨_, rfl, ?_⟩; have HO3 := Aside0.mk (Kd.R_mono (ok' := fun k_ => True) ho0 (fun k_ hk_ => trivial)); have HB3 := Aside0.mk hb; clear ho0 hb hkp))
      go_ret
      exact ⟨v0, r, rfl, HO3.out, HRV.out.1, HRV.out.2, HB3.out⟩
/-! ### Int: a sign and words behind a pointer -/
structure Only (z : Nat) (w w' : World) : Prop where
  os : w'.os = w.os
  tape : w'.tape = w.tape
  output : w'.output = w.output
  size : w.heap.size ≤ w'.heap.size
  block : ∀ k, k < w.heap.size → k ≠ z → w'.heap[k]? = w.heap[k]?
theorem Only.refl (z : Nat) (w : World) : Only z w w := ⟨rfl, rfl, rfl, Nat.le_refl _, fun _ _ _ => rfl⟩
theorem Only.trans {z : Nat} {a b c : World} (h : Only z a b) (k : Only z b c) : Only z a c :=
  ⟨k.os.trans h.os, k.tape.trans h.tape, k.output.trans h.output, Nat.le_trans h.size k.size, fun i hi hne => (k.block i (Nat.lt_of_lt_of_le hi h.size) hne).trans (h.block i hi hne)⟩
theorem Only.of_below {z : Nat} {a b : World} (h : Below a.heap.size a b) : Only z a b := ⟨h.os, h.tape, h.output, h.size, fun k hk _ => h.block k hk⟩
theorem Only.below {z : Nat} {a b c : World} (h : Below a.heap.size a b) (k : Only z b c) (hz : a.heap.size ≤ z) : Below a.heap.size a c :=
  ⟨k.os.trans h.os, k.tape.trans h.tape, k.output.trans h.output, Nat.le_trans h.size k.size, fun i hi => (k.block i (Nat.lt_of_lt_of_le hi h.size) (by omega)).trans (h.block i hi)⟩
theorem Only.set {z : Nat} {a b : World} (h : Only z a b) (i : Nat) (u : Value) : Only z a (b.setCell ⟨z, i, none⟩ u) :=
  ⟨h.os, h.tape, h.output, by simpa [World.setCell] using h.size, fun k hk hne => (Below.heap_setCell b ⟨z, i, none⟩ u k hne).trans (h.block k hk hne)⟩
theorem Only.drew {z : Nat} {a b : World} (h : Only z a b) (n : Nat) : Only z a (b.drewN n) := ⟨h.os, h.tape, h.output, h.size, h.block⟩
/-- A second's writes behind the first's: where the second's block is the first's, or new. -/
theorem Only.then_ {z z' : Nat} {a b c : World} (h : Only z a b) (k : Only z' b c) (hz : z' = z ∨ a.heap.size ≤ z') : Only z a c :=
  ⟨k.os.trans h.os, k.tape.trans h.tape, k.output.trans h.output, Nat.le_trans h.size k.size, fun i hi hne => (k.block i (Nat.lt_of_lt_of_le hi h.size) (by rcases hz with rfl | hz <;> omega)).trans (h.block i hi hne)⟩
/-- Words that are read, in a row of words. -/
def WC (w : World) (A : Option Addr) (l : List Int) : Prop := Kd.C (Kd.int .u32) w A l.length l ∧ (0 < l.length → ∃ ad cells, A = some ad ∧ w.heap[ad.block]? = some (.cells cells 22 (0, 0)))
theorem WC.c {w : World} {A : Option Addr} {l : List Int} (h : WC w A l) : Kd.C (Kd.int .u32) w A l.length l := h.1
theorem wRW {W : World} {base n cap : Nat} {A : Option Addr} {ok : Nat → Prop} {l : List Int} (h : Kd.R (Kd.int .u32) 22 W base ok (.slice A n cap) l) : WC W A l ∧ l.length ≤ cap := by
  refine ⟨⟨(wRC h).1, fun h0 => ?_⟩, (wRC h).2⟩
  obtain ⟨g, c, e, _, _, cells, hc⟩ := Kd.R_form h h0
  injection e with e1 _ _
  exact ⟨_, cells, e1, hc⟩
def IsI (w : World) (z : Nat) : Prop := ∃ b A n c, w.heap[z]? = some (.cells #[.bool b, .slice A n c] 99 (0, 0))
def BigA (w : World) (x : Nat) (n : Int) : Prop := ∃ A c l, w.heap[x]? = some (.cells #[.bool false, .slice A (List.length l) c] 99 (0, 0)) ∧ WC w A l ∧ l.length ≤ c ∧ Wd l n
theorem BigA.isI {w : World} {x : Nat} {n : Int} (h : BigA w x n) : IsI w x := by
  obtain ⟨A, c, l, h, _⟩ := h
  exact ⟨_, _, _, _, h⟩
theorem BigA.lt {w : World} {x : Nat} {n : Int} (h : BigA w x n) : x < w.heap.size := by
  obtain ⟨A, c, l, h, _⟩ := h
  exact blk_lt h
theorem IsI.lt {w : World} {x : Nat} (h : IsI w x) : x < w.heap.size := by
  obtain ⟨_, _, _, _, h⟩ := h
  exact blk_lt h
theorem IsI.keep {w w' : World} {z x : Nat} (h : IsI w x) (k : Only z w w') (hne : x ≠ z) : IsI w' x := by
  obtain ⟨b, A, n, c, h⟩ := h
  exact ⟨b, A, n, c, (k.block x (blk_lt h) hne).trans h⟩
theorem IsI.below {w w' : World} {x : Nat} (h : IsI w x) (k : Below w.heap.size w w') : IsI w' x := by
  obtain ⟨b, A, n, c, h⟩ := h
  exact ⟨b, A, n, c, (k.block x (blk_lt h)).trans h⟩
theorem IsI.new (w : World) : IsI (w.alloc (.cells #[.bool false, .slice none 0 0] 99)) w.heap.size := ⟨_, _, _, _, blk_new w _⟩
/-- Words stay where what is written is no row of words. -/
theorem words_keepT {w w' : World} {z : Nat} {A : Option Addr} {l : List Int} (h : WC w A l) {t : TypeId} {cs : Array Value} (hz : w.heap[z]? = some (.cells cs t (0, 0))) (ht : t ≠ 22) (k : Only z w w') : WC w' A l := by
  obtain ⟨h, hty⟩ := h
  refine ⟨⟨h.1, h.2.1, fun h0 => ?_⟩, fun h0 => ?_⟩
  · obtain ⟨ad, hA, hc⟩ := h.2.2 h0
    obtain ⟨ad', cells, hA', hb⟩ := hty h0
    obtain rfl : ad = ad' := by rw [hA] at hA'; exact Option.some.inj hA'
    refine ⟨ad, hA, fun j p hj => ?_⟩
    obtain ⟨cs', h1, h2, h3⟩ := hc j p hj
    refine ⟨cs', h1, h2, fun i u hu => ?_⟩
    have hc := h3 i u hu
    have hlt := World.block_lt_of_cell? w _ hc
    have hbl : (ad.add (j * (Kd.int IntKind.u32).sz + i)).block = ad.block := by unfold Addr.add; split <;> rfl
    have hne : (ad.add (j * (Kd.int IntKind.u32).sz + i)).block ≠ z := by
      rw [hbl]
      intro e
      rw [e, hz] at hb
      injection hb with hb
      injection hb with _ hb
      exact ht hb
    rw [← hc]
    have e := k.block _ hlt hne
    unfold World.cell?
    rw [e]
  · obtain ⟨ad, cells, hA, hb⟩ := hty h0
    refine ⟨ad, cells, hA, (k.block _ (blk_lt hb) ?_).trans hb⟩
    intro e
    rw [e, hz] at hb
    injection hb with hb
    injection hb with _ hb
    exact ht hb
theorem words_keep {w w' : World} {z : Nat} {A : Option Addr} {l : List Int} (h : WC w A l) (hz : IsI w z) (k : Only z w w') : WC w' A l := by
  obtain ⟨b, A', n, c, hz⟩ := hz
  exact words_keepT h hz (by decide) k
theorem words_below {w w' : World} {A : Option Addr} {l : List Int} (h : WC w A l) (k : Below w.heap.size w w') : WC w' A l := by
  refine ⟨Kd.C_below h.1 k, fun h0 => ?_⟩
  obtain ⟨ad, cells, hA, hb⟩ := h.2 h0
  exact ⟨ad, cells, hA, (k.block _ (blk_lt hb)).trans hb⟩
theorem WC.nil (w : World) (A : Option Addr) : WC w A [] := ⟨⟨rfl, by decide, fun h => absurd h (by decide)⟩, fun h => absurd h (by decide)⟩
theorem BigA.keepT {w w' : World} {z x : Nat} {n : Int} (h : BigA w x n) {t : TypeId} {cs : Array Value} (hz : w.heap[z]? = some (.cells cs t (0, 0))) (ht : t ≠ 22) (k : Only z w w') (hne : x ≠ z) : BigA w' x n := by
  obtain ⟨A, c, l, h1, h2, h3, h4⟩ := h
  exact ⟨A, c, l, (k.block x (blk_lt h1) hne).trans h1, words_keepT h2 hz ht k, h3, h4⟩
theorem BigA.keep {w w' : World} {z x : Nat} {n : Int} (h : BigA w x n) (hz : IsI w z) (k : Only z w w') (hne : x ≠ z) : BigA w' x n := by
  obtain ⟨A, c, l, h1, h2, h3, h4⟩ := h
  exact ⟨A, c, l, (k.block x (blk_lt h1) hne).trans h1, words_keep h2 hz k, h3, h4⟩
theorem BigA.below {w w' : World} {x : Nat} {n : Int} (h : BigA w x n) (k : Below w.heap.size w w') : BigA w' x n := by
  obtain ⟨A, c, l, h1, h2, h3, h4⟩ := h
  exact ⟨A, c, l, (k.block x (blk_lt h1)).trans h1, words_below h2 k, h3, h4⟩
theorem BigA.pos {w : World} {x : Nat} {n : Int} (h : BigA w x n) : 0 ≤ n := by
  obtain ⟨A, c, l, h1, h2, h3, h4⟩ := h
  exact h4.pos
set_option maxHeartbeats 4000000 in
theorem vendmeterbig_Int_give.calls (w : World) (z : Nat) (hz : IsI w z) (A : Option Addr) (c : Nat) (l : List Int) (n : Int) (hr : WC w A l) (hc : l.length ≤ c) (hw : Wd l n) :
    Calls Try.prog 84 #[.pointer (some ⟨z, 0, none⟩), .bool false, .slice A l.length c] w fun e w' => e = .returned (.pointer (some ⟨z, 0, none⟩)) ∧ BigA w' z n ∧ Only z w w' := by
  obtain ⟨b, A', n', c', hz0⟩ := hz
  have x0 : w.cell? ⟨z, 0, none⟩ = some (.bool b) := (blk_cell hz0 0).trans rfl
  have x1 : w.cell? ⟨z, 1, none⟩ = some (.slice A' n' c') := (blk_cell hz0 1).trans rfl
  have f1 := blk_frozen hz0 1
  have e1 := blk_set hz0 1 (.slice A l.length c)
  have x0' : (w.setCell ⟨z, 1, none⟩ (.slice A l.length c)).cell? ⟨z, 0, none⟩ = some (.bool b) := (blk_cell e1 0).trans rfl
  have f0 := blk_frozen e1 0
  have HZ := Aside0.mk hz0
  have E1 := Aside0.mk e1
  have HR := Aside0.mk hr
  clear hz0 e1 hr
  go_enter Try.func84, Try.ntmps84
  go_wp2
  go_ret
  have ho : Only z w ((w.setCell ⟨z, 1, none⟩ (.slice A l.length c)).setCell ⟨z, 0, none⟩ (.bool false)) := ((Only.refl z w).set 1 _).set 0 _
  refine ⟨rfl, ⟨A, c, l, ?_, words_keep HR.out ⟨_, _, _, _, HZ.out⟩ ho, hc, hw⟩, ho⟩
  exact (blk_set E1.out 0 (.bool false)).trans rfl
/-! ### sum -/
set_option maxHeartbeats 4000000 in
theorem vendmeterbig_sum.add (A0 : Option Addr) (c0 : Nat) (x : List Int) (a : Int) (A1 : Option Addr) (c1 : Nat) (y : List Int) (b : Int) (w : World) (hr0 : Kd.C (Kd.int .u32) w A0 x.length x) (hc0 : x.length ≤ c0) (hr1 : Kd.C (Kd.int .u32) w A1 y.length y) (hc1 : y.length ≤ c1) (hx : Wd x a) (hy : Wd y b) (hbx : x.length ≤ 10000) (hby : y.length ≤ 10000) :
    Calls Try.prog 87 #[.bool false, .slice A0 x.length c0, .bool false, .slice A1 y.length c1] w fun e w' => ∃ v r, e = .returned (.tuple #[.bool false, v]) ∧ Kd.R (Kd.int .u32) 22 w' w.heap.size (fun _ => True) v r ∧ Wd r (a + b) ∧ Below w.heap.size w w' := by
  have HA := Aside0.mk (vendmeterbig_add.calls A0 c0 x a A1 c1 y b w hr0 hc0 hr1 hc1 hx hy (by omega) (by omega))
  clear hr0 hr1
  go_enter Try.func87, Try.ntmps87
  go_wp2_with (go_at_call 101; refine HA.out.mono ?_; rintro e w1 ⟨v, r, rfl, hR, hW, _, hB⟩; have HR := Aside0.mk hR; have HB := Aside0.mk hB; clear hR hB)
  go_ret2
  exact ⟨v, r, rfl, HR.out, hW, HB.out⟩
set_option maxHeartbeats 4000000 in
theorem vendmeterbig_sum.sub (A0 : Option Addr) (c0 : Nat) (x : List Int) (a : Int) (A1 : Option Addr) (c1 : Nat) (y : List Int) (b : Int) (w : World) (hr0 : Kd.C (Kd.int .u32) w A0 x.length x) (hc0 : x.length ≤ c0) (hr1 : Kd.C (Kd.int .u32) w A1 y.length y) (hc1 : y.length ≤ c1) (hx : Wd x a) (hy : Wd y b) (hbx : x.length ≤ 10000) (hby : y.length ≤ 10000) (hab : b ≤ a) :
    Calls Try.prog 87 #[.bool false, .slice A0 x.length c0, .bool true, .slice A1 y.length c1] w fun e w' => ∃ v r, e = .returned (.tuple #[.bool false, v]) ∧ Kd.R (Kd.int .u32) 22 w' w.heap.size (fun _ => True) v r ∧ Wd r (a - b) ∧ Below w.heap.size w w' := by
  obtain ⟨kc, hcm⟩ := Ev.rounds (wcmp_ev hx hy (by omega))
  obtain ⟨r, t1, t2, _⟩ := wsub_ev hx hy (by omega) hab
  obtain ⟨ks, hs⟩ := Ev.rounds t1
  have HCM := Aside0.mk hcm
  have HS := Aside0.mk hs
  have HR0 := Aside0.mk hr0
  have HR1 := Aside0.mk hr1
  have HC0 := Aside0.mk hc0
  have HC1 := Aside0.mk hc1
  have hwb : decide (0 ≤ wcmp a b) = true := decide_eq_true (by unfold wcmp; rw [if_neg (show ¬ a < b by omega)]; split <;> decide)
  clear hr0 hr1 hc0 hc1 hcm hs t1
  go_enter Try.func87, Try.ntmps87
  go_wp2_with (first | (go_at_call 102; refine (vendmeterbig_cmp.calls kc _ _ x _ _ y (wcmp a b) _ HR0.out HC0.out HR1.out HC1.out HCM.out).mono ?_; rintro e w1 ⟨rfl, hd⟩; have HB := Aside0.mk (wbelow_d hd); clear hd) | (go_at_call 103; refine (vendmeterbig_sub.calls ks _ _ x _ _ y r _ (Kd.C_below HR0.out HB.out) HC0.out (Kd.C_below HR1.out HB.out) HC1.out HS.out).mono ?_; rintro e w2 ⟨v, rfl, hR, hB⟩; have HR := Aside0.mk (Kd.R_lower hR HB.out.size); have HB2 := Aside0.mk (below_then HB.out HB.out.size hB); clear hR hB))
  go_ret2
  exact ⟨v, r, rfl, HR.out, t2, HB2.out⟩
set_option maxHeartbeats 4000000 in
set_option maxRecDepth 100000 in
theorem vendmeterbig_Int_Add.calls (w : World) (z x y : Nat) (a b : Int) (hz : IsI w z) (hx : BigA w x a) (hy : BigA w y b) (ha : a < W32 1000) (hb : b < W32 1000) :
    Calls Try.prog 56 #[.pointer (some ⟨z, 0, none⟩), .pointer (some ⟨x, 0, none⟩), .pointer (some ⟨y, 0, none⟩)] w fun e w' => e = .returned (.pointer (some ⟨z, 0, none⟩)) ∧ BigA w' z (a + b) ∧ Only z w w' := by
  obtain ⟨Ax, cx, lx, hx1, hx2, hx3, hx4⟩ := hx
  obtain ⟨Ay, cy, ly, hy1, hy2, hy3, hy4⟩ := hy
  have lbx := hx4.len_le ha
  have lby := hy4.len_le hb
  have HX := Aside0.mk hx1
  have HY := Aside0.mk hy1
  have HCX := Aside0.mk hx2
  have HCY := Aside0.mk hy2
  clear hx1 hx2 hy1 hy2
  go_enter Try.func56, Try.ntmps56
  go_wp2
  refine start_ (n := 22) (S := fun w' => w'.cell? ⟨x, 0, none⟩ = some (.bool false) ∧ w'.cell? ⟨x, 1, none⟩ = some (.slice Ax lx.length cx) ∧ w'.cell? ⟨y, 0, none⟩ = some (.bool false) ∧ w'.cell? ⟨y, 1, none⟩ = some (.slice Ay ly.length cy)) (ds := [20]) #[false, false, false, false, false, false, false, false, false, false, false, false, false, false, false, false, false, false, false, false, false, false] (by kernel_rfl) rfl rfl ⟨(blk_cell HX.out 0).trans rfl, (blk_cell HX.out 1).trans rfl, (blk_cell HY.out 0).trans rfl, (blk_cell HY.out 1).trans rfl⟩ (fun hHeld => ?_)
  refine pure_ (i := 0) (N := some 7) (v := ?_) (a' := ?_) #[true, false, false, false, false, false, false, false, false, false, false, false, false, false, false, false, false, false, false, false, false, false] rfl rfl (by kernel_rfl) (fun _ _ _ h => h) (Or.inl ⟨by rfl, ?_⟩) ?_ ?_
  rotate_left
  · intro w'
    go_simp
    with_reducible rfl
  rotate_left
  · simp only [Act.put, List.setIfInBounds_toArray, List.set_cons_zero, List.set_cons_succ, i64_w, i32_w]
    rfl
  refine pure_ (i := 1) (N := some 8) (v := ?_) (a' := ?_) #[true, true, false, false, false, false, false, false, false, false, false, false, false, false, false, false, false, false, false, false, false, false] rfl rfl (by kernel_rfl) (fun _ _ _ h => h) (Or.inl ⟨by rfl, ?_⟩) ?_ ?_
  rotate_left
  · intro w'
    go_simp
    with_reducible rfl
  rotate_left
  · simp only [Act.put, List.setIfInBounds_toArray, List.set_cons_zero, List.set_cons_succ, i64_w, i32_w]
    rfl
  refine pure_ (i := 2) (N := some 9) (v := ?_) (a' := ?_) #[true, true, true, false, false, false, false, false, false, false, false, false, false, false, false, false, false, false, false, false, false, false] rfl rfl (by kernel_rfl) (fun _ _ _ h => h) (Or.inl ⟨by rfl, ?_⟩) ?_ ?_
  rotate_left
  · intro w'
    go_simp
    with_reducible rfl
  rotate_left
  · simp only [Act.put, List.setIfInBounds_toArray, List.set_cons_zero, List.set_cons_succ, i64_w, i32_w]
    rfl
  refine pure_ (i := 3) (N := some 10) (v := ?_) (a' := ?_) #[true, true, true, true, false, false, false, false, false, false, false, false, false, false, false, false, false, false, false, false, false, false] rfl rfl (by kernel_rfl) (fun _ _ _ h => h) (Or.inl ⟨by rfl, ?_⟩) ?_ ?_
  rotate_left
  · intro w'
    go_simp
    with_reducible rfl
  rotate_left
  · simp only [Act.put, List.setIfInBounds_toArray, List.set_cons_zero, List.set_cons_succ, i64_w, i32_w]
    rfl
  refine pure_ (i := 5) (N := some 12) (v := ?_) (a' := ?_) #[true, true, true, true, false, true, false, false, false, false, false, false, false, false, false, false, false, false, false, false, false, false] rfl rfl (by kernel_rfl) (fun _ _ _ h => h) (Or.inl ⟨by rfl, ?_⟩) ?_ ?_
  rotate_left
  · intro w'
    go_simp
    with_reducible rfl
  rotate_left
  · simp only [Act.put, List.setIfInBounds_toArray, List.set_cons_zero, List.set_cons_succ, i64_w, i32_w]
    rfl
  refine pure_ (i := 6) (N := some 13) (v := ?_) (a' := ?_) #[true, true, true, true, false, true, true, false, false, false, false, false, false, false, false, false, false, false, false, false, false, false] rfl rfl (by kernel_rfl) (fun _ _ _ h => h) (Or.inl ⟨by rfl, ?_⟩) ?_ ?_
  rotate_left
  · intro w'
    go_simp
    with_reducible rfl
  rotate_left
  · simp only [Act.put, List.setIfInBounds_toArray, List.set_cons_zero, List.set_cons_succ, i64_w, i32_w]
    rfl
  refine pure_ (i := 7) (N := some 14) (v := ?_) (a' := ?_) #[true, true, true, true, false, true, true, true, false, false, false, false, false, false, false, false, false, false, false, false, false, false] rfl rfl (by kernel_rfl) (fun _ _ _ h => h) (Or.inl ⟨by rfl, ?_⟩) ?_ ?_
  rotate_left
  · intro w'
    go_simp
    with_reducible rfl
  rotate_left
  · simp only [Act.put, List.setIfInBounds_toArray, List.set_cons_zero, List.set_cons_succ, i64_w, i32_w]
    rfl
  refine pure_ (i := 9) (N := some 16) (v := ?_) (a' := ?_) #[true, true, true, true, false, true, true, true, false, true, false, false, false, false, false, false, false, false, false, false, false, false] rfl rfl (by kernel_rfl) (fun _ _ _ h => h) (Or.inl ⟨by rfl, ?_⟩) ?_ ?_
  rotate_left
  · intro w'
    go_simp
    with_reducible rfl
  rotate_left
  · simp only [Act.put, List.setIfInBounds_toArray, List.set_cons_zero, List.set_cons_succ, i64_w, i32_w]
    rfl
  refine pure_ (i := 10) (N := some 17) (v := ?_) (a' := ?_) #[true, true, true, true, false, true, true, true, false, true, true, false, false, false, false, false, false, false, false, false, false, false] rfl rfl (by kernel_rfl) (fun _ _ _ h => h) (Or.inl ⟨by rfl, ?_⟩) ?_ ?_
  rotate_left
  · intro w'
    go_simp
    with_reducible rfl
  rotate_left
  · simp only [Act.put, List.setIfInBounds_toArray, List.set_cons_zero, List.set_cons_succ, i64_w, i32_w]
    rfl
  refine pure_ (i := 11) (N := some 18) (v := ?_) (a' := ?_) #[true, true, true, true, false, true, true, true, false, true, true, true, false, false, false, false, false, false, false, false, false, false] rfl rfl (by kernel_rfl) (fun _ _ _ h => h) (Or.inl ⟨by rfl, ?_⟩) ?_ ?_
  rotate_left
  · intro w'
    go_simp
    with_reducible rfl
  rotate_left
  · simp only [Act.put, List.setIfInBounds_toArray, List.set_cons_zero, List.set_cons_succ, i64_w, i32_w]
    rfl
  refine pure_ (i := 13) (N := some 20) (v := ?_) (a' := ?_) #[true, true, true, true, false, true, true, true, false, true, true, true, false, true, false, false, false, false, false, false, false, false] rfl rfl (by kernel_rfl) (fun _ _ _ h => h) (Or.inl ⟨by rfl, ?_⟩) ?_ ?_
  rotate_left
  · intro w'
    go_simp
    with_reducible rfl
  rotate_left
  · simp only [Act.put, List.setIfInBounds_toArray, List.set_cons_zero, List.set_cons_succ, i64_w, i32_w]
    rfl
  refine pure_ (i := 14) (N := some 21) (v := ?_) (a' := ?_) #[true, true, true, true, false, true, true, true, false, true, true, true, false, true, true, false, false, false, false, false, false, false] rfl rfl (by kernel_rfl) (fun _ _ _ h => h) (Or.inl ⟨by rfl, ?_⟩) ?_ ?_
  rotate_left
  · intro w'
    go_simp
    with_reducible rfl
  rotate_left
  · simp only [Act.put, List.setIfInBounds_toArray, List.set_cons_zero, List.set_cons_succ, i64_w, i32_w]
    rfl
  refine pure_ (i := 15) (N := some 22) (v := ?_) (a' := ?_) #[true, true, true, true, false, true, true, true, false, true, true, true, false, true, true, true, false, false, false, false, false, false] rfl rfl (by kernel_rfl) (fun _ _ _ h => h) (Or.inl ⟨by rfl, ?_⟩) ?_ ?_
  rotate_left
  · intro w'
    go_simp
    with_reducible rfl
  rotate_left
  · simp only [Act.put, List.setIfInBounds_toArray, List.set_cons_zero, List.set_cons_succ, i64_w, i32_w]
    rfl
  refine take_ (i := 4) (N := some 11) (v := ?_) (a' := ?_) #[true, true, true, true, true, true, true, true, false, true, true, true, false, true, true, true, false, false, false, false, false, false] rfl rfl (by kernel_rfl) (fun _ _ _ h => h) (Or.inl ⟨by rfl, ?_⟩) hHeld ?_ ?_
  rotate_left
  · rintro w' ⟨s0, s1, s2, s3⟩
    go_simp
    with_reducible rfl
  rotate_left
  · simp only [Act.put, List.setIfInBounds_toArray, List.set_cons_zero, List.set_cons_succ, i64_w, i32_w]
    rfl
  refine take_ (i := 8) (N := some 15) (v := ?_) (a' := ?_) #[true, true, true, true, true, true, true, true, true, true, true, true, false, true, true, true, false, false, false, false, false, false] rfl rfl (by kernel_rfl) (fun _ _ _ h => h) (Or.inl ⟨by rfl, ?_⟩) hHeld ?_ ?_
  rotate_left
  · rintro w' ⟨s0, s1, s2, s3⟩
    go_simp
    with_reducible rfl
  rotate_left
  · simp only [Act.put, List.setIfInBounds_toArray, List.set_cons_zero, List.set_cons_succ, i64_w, i32_w]
    rfl
  refine take_ (i := 12) (N := some 19) (v := ?_) (a' := ?_) #[true, true, true, true, true, true, true, true, true, true, true, true, true, true, true, true, false, false, false, false, false, false] rfl rfl (by kernel_rfl) (fun _ _ _ h => h) (Or.inl ⟨by rfl, ?_⟩) hHeld ?_ ?_
  rotate_left
  · rintro w' ⟨s0, s1, s2, s3⟩
    go_simp
    with_reducible rfl
  rotate_left
  · simp only [Act.put, List.setIfInBounds_toArray, List.set_cons_zero, List.set_cons_succ, i64_w, i32_w]
    rfl
  refine take_ (i := 16) (N := some 23) (v := ?_) (a' := ?_) #[true, true, true, true, true, true, true, true, true, true, true, true, true, true, true, true, true, false, false, false, false, false] rfl rfl (by kernel_rfl) (fun _ _ _ h => h) (Or.inl ⟨by rfl, ?_⟩) hHeld ?_ ?_
  rotate_left
  · rintro w' ⟨s0, s1, s2, s3⟩
    go_simp
    with_reducible rfl
  rotate_left
  · simp only [Act.put, List.setIfInBounds_toArray, List.set_cons_zero, List.set_cons_succ, i64_w, i32_w]
    rfl
  refine one_ (i := 17) (N := some 24) #[true, true, true, true, true, true, true, true, true, true, true, true, true, true, true, true, true, true, false, false, false, false] rfl rfl (by kernel_rfl) (by decide) (fun K hK => ?_)
  refine goes_ Try.func87 (by kernel_rfl) rfl #[.bool false, .slice Ax lx.length cx, .bool false, .slice Ay ly.length cy] (by rfl) rfl rfl (by (try simp only [List.map_toArray, List.map_cons, List.map_nil]); first | done | rfl) ?_
  with_reducible refine (vendmeterbig_sum.add Ax cx lx a Ay cy ly b w.drew (Kd.C_below (WC.c HCX.out) (below_drew1 (Below.refl _ _))) hx3 (Kd.C_below (WC.c HCY.out) (below_drew1 (Below.refl _ _))) hy3 hx4 hy4 (by omega) (by omega)).mono ?_
  rintro e w3 ⟨v3, r, rfl, hR, hW, hB⟩
  refine ⟨_, rfl, ?_⟩
  obtain ⟨Ar, cr, rfl⟩ := Kd.R_slice hR
  have HX1 := Aside0.mk (blk_below (blk_drew HX.out) hB)
  have HY1 := Aside0.mk (blk_below (blk_drew HY.out) hB)
  have HB3 := Aside0.mk (Below.trans (below_drew1 (Below.refl w.heap.size w)) (hB.mono (Nat.le_refl _)))
  have HR3 := Aside0.mk (wRW hR)
  have HW3 := Aside0.mk hW
  clear hR hW hB
  refine hK.out _ _ ⟨(blk_cell HX1.out 0).trans rfl, (blk_cell HX1.out 1).trans rfl, (blk_cell HY1.out 0).trans rfl, (blk_cell HY1.out 1).trans rfl⟩ (fun hHeld => ?_)
  clear hK K
  refine norm_ (a' := ?_) ?_ ?_
  rotate_left
  · show Act.put _ (some 24) _ = _
    simp only [Act.put, List.setIfInBounds_toArray, List.set_cons_zero, List.set_cons_succ, i64_w, i32_w]
    rfl
  refine pure_ (i := 18) (N := some 25) (v := ?_) (a' := ?_) #[true, true, true, true, true, true, true, true, true, true, true, true, true, true, true, true, true, true, true, false, false, false] rfl rfl (by kernel_rfl) (fun _ _ _ h => h) (Or.inl ⟨by rfl, ?_⟩) ?_ ?_
  rotate_left
  · intro w'
    go_simp
    with_reducible rfl
  rotate_left
  · simp only [Act.put, List.setIfInBounds_toArray, List.set_cons_zero, List.set_cons_succ, i64_w, i32_w]
    rfl
  refine pure_ (i := 19) (N := some 26) (v := ?_) (a' := ?_) #[true, true, true, true, true, true, true, true, true, true, true, true, true, true, true, true, true, true, true, true, false, false] rfl rfl (by kernel_rfl) (fun _ _ _ h => h) (Or.inl ⟨by rfl, ?_⟩) ?_ ?_
  rotate_left
  · intro w'
    go_simp
    with_reducible rfl
  rotate_left
  · simp only [Act.put, List.setIfInBounds_toArray, List.set_cons_zero, List.set_cons_succ, i64_w, i32_w]
    rfl
  refine last_ (i := 20) (N := some 27) #[true, true, true, true, true, true, true, true, true, true, true, true, true, true, true, true, true, true, true, true, true, false] rfl rfl (by kernel_rfl) (by decide) (fun K hK => ?_)
  refine goes_ Try.func84 (by kernel_rfl) rfl #[.pointer (some ⟨z, 0, none⟩), .bool false, .slice Ar r.length cr] (by rfl) rfl rfl (by (try simp only [List.map_toArray, List.map_cons, List.map_nil]); first | done | rfl) ?_
  with_reducible refine (vendmeterbig_Int_give.calls w3 z (hz.below HB3.out) Ar cr r _ HR3.out.1 HR3.out.2 HW3.out).mono ?_
  rintro e w4 ⟨rfl, hA, hO⟩
  refine ⟨_, rfl, ?_⟩
  have HA4 := Aside0.mk hA
  have HO4 := Aside0.mk ((Only.of_below HB3.out).trans hO)
  clear hA hO
  refine hK.out _ _ ?_
  clear hK K
  refine norm_ (a' := ?_) ?_ ?_
  rotate_left
  · show Act.put _ (some 27) _ = _
    simp only [Act.put, List.setIfInBounds_toArray, List.set_cons_zero, List.set_cons_succ, i64_w, i32_w]
    rfl
  refine pure_ (i := 21) (N := some 6) (v := ?_) (a' := ?_) #[true, true, true, true, true, true, true, true, true, true, true, true, true, true, true, true, true, true, true, true, true, true] rfl rfl (by kernel_rfl) (fun _ _ _ h => h) (Or.inl ⟨by rfl, ?_⟩) ?_ ?_
  rotate_left
  · intro w'
    go_simp
    with_reducible rfl
  rotate_left
  · simp only [Act.put, List.setIfInBounds_toArray, List.set_cons_zero, List.set_cons_succ, i64_w, i32_w]
    rfl
  refine done_ (by kernel_rfl) ?_
  go_wp2
  go_ret
  exact ⟨rfl, HA4.out, HO4.out⟩
set_option maxHeartbeats 4000000 in
set_option maxRecDepth 100000 in
theorem vendmeterbig_Int_Sub.calls (w : World) (z x y : Nat) (a b : Int) (hz : IsI w z) (hx : BigA w x a) (hy : BigA w y b) (ha : a < W32 1000) (hb : b < W32 1000) (hab : b ≤ a) :
    Calls Try.prog 105 #[.pointer (some ⟨z, 0, none⟩), .pointer (some ⟨x, 0, none⟩), .pointer (some ⟨y, 0, none⟩)] w fun e w' => e = .returned (.pointer (some ⟨z, 0, none⟩)) ∧ BigA w' z (a - b) ∧ Only z w w' := by
  obtain ⟨Ax, cx, lx, hx1, hx2, hx3, hx4⟩ := hx
  obtain ⟨Ay, cy, ly, hy1, hy2, hy3, hy4⟩ := hy
  have lbx := hx4.len_le ha
  have lby := hy4.len_le hb
  have HX := Aside0.mk hx1
  have HY := Aside0.mk hy1
  have HCX := Aside0.mk hx2
  have HCY := Aside0.mk hy2
  clear hx1 hx2 hy1 hy2
  go_enter Try.func105, Try.ntmps105
  go_wp2
  refine start_ (n := 23) (S := fun w' => w'.cell? ⟨x, 0, none⟩ = some (.bool false) ∧ w'.cell? ⟨x, 1, none⟩ = some (.slice Ax lx.length cx) ∧ w'.cell? ⟨y, 0, none⟩ = some (.bool false) ∧ w'.cell? ⟨y, 1, none⟩ = some (.slice Ay ly.length cy)) (ds := [21]) #[false, false, false, false, false, false, false, false, false, false, false, false, false, false, false, false, false, false, false, false, false, false, false] (by kernel_rfl) rfl rfl ⟨(blk_cell HX.out 0).trans rfl, (blk_cell HX.out 1).trans rfl, (blk_cell HY.out 0).trans rfl, (blk_cell HY.out 1).trans rfl⟩ (fun hHeld => ?_)
  refine pure_ (i := 0) (N := some 7) (v := ?_) (a' := ?_) #[true, false, false, false, false, false, false, false, false, false, false, false, false, false, false, false, false, false, false, false, false, false, false] rfl rfl (by kernel_rfl) (fun _ _ _ h => h) (Or.inl ⟨by rfl, ?_⟩) ?_ ?_
  rotate_left
  · intro w'
    go_simp
    with_reducible rfl
  rotate_left
  · simp only [Act.put, List.setIfInBounds_toArray, List.set_cons_zero, List.set_cons_succ, i64_w, i32_w]
    rfl
  refine pure_ (i := 1) (N := some 8) (v := ?_) (a' := ?_) #[true, true, false, false, false, false, false, false, false, false, false, false, false, false, false, false, false, false, false, false, false, false, false] rfl rfl (by kernel_rfl) (fun _ _ _ h => h) (Or.inl ⟨by rfl, ?_⟩) ?_ ?_
  rotate_left
  · intro w'
    go_simp
    with_reducible rfl
  rotate_left
  · simp only [Act.put, List.setIfInBounds_toArray, List.set_cons_zero, List.set_cons_succ, i64_w, i32_w]
    rfl
  refine pure_ (i := 2) (N := some 9) (v := ?_) (a' := ?_) #[true, true, true, false, false, false, false, false, false, false, false, false, false, false, false, false, false, false, false, false, false, false, false] rfl rfl (by kernel_rfl) (fun _ _ _ h => h) (Or.inl ⟨by rfl, ?_⟩) ?_ ?_
  rotate_left
  · intro w'
    go_simp
    with_reducible rfl
  rotate_left
  · simp only [Act.put, List.setIfInBounds_toArray, List.set_cons_zero, List.set_cons_succ, i64_w, i32_w]
    rfl
  refine pure_ (i := 3) (N := some 10) (v := ?_) (a' := ?_) #[true, true, true, true, false, false, false, false, false, false, false, false, false, false, false, false, false, false, false, false, false, false, false] rfl rfl (by kernel_rfl) (fun _ _ _ h => h) (Or.inl ⟨by rfl, ?_⟩) ?_ ?_
  rotate_left
  · intro w'
    go_simp
    with_reducible rfl
  rotate_left
  · simp only [Act.put, List.setIfInBounds_toArray, List.set_cons_zero, List.set_cons_succ, i64_w, i32_w]
    rfl
  refine pure_ (i := 5) (N := some 12) (v := ?_) (a' := ?_) #[true, true, true, true, false, true, false, false, false, false, false, false, false, false, false, false, false, false, false, false, false, false, false] rfl rfl (by kernel_rfl) (fun _ _ _ h => h) (Or.inl ⟨by rfl, ?_⟩) ?_ ?_
  rotate_left
  · intro w'
    go_simp
    with_reducible rfl
  rotate_left
  · simp only [Act.put, List.setIfInBounds_toArray, List.set_cons_zero, List.set_cons_succ, i64_w, i32_w]
    rfl
  refine pure_ (i := 6) (N := some 13) (v := ?_) (a' := ?_) #[true, true, true, true, false, true, true, false, false, false, false, false, false, false, false, false, false, false, false, false, false, false, false] rfl rfl (by kernel_rfl) (fun _ _ _ h => h) (Or.inl ⟨by rfl, ?_⟩) ?_ ?_
  rotate_left
  · intro w'
    go_simp
    with_reducible rfl
  rotate_left
  · simp only [Act.put, List.setIfInBounds_toArray, List.set_cons_zero, List.set_cons_succ, i64_w, i32_w]
    rfl
  refine pure_ (i := 7) (N := some 14) (v := ?_) (a' := ?_) #[true, true, true, true, false, true, true, true, false, false, false, false, false, false, false, false, false, false, false, false, false, false, false] rfl rfl (by kernel_rfl) (fun _ _ _ h => h) (Or.inl ⟨by rfl, ?_⟩) ?_ ?_
  rotate_left
  · intro w'
    go_simp
    with_reducible rfl
  rotate_left
  · simp only [Act.put, List.setIfInBounds_toArray, List.set_cons_zero, List.set_cons_succ, i64_w, i32_w]
    rfl
  refine pure_ (i := 9) (N := some 16) (v := ?_) (a' := ?_) #[true, true, true, true, false, true, true, true, false, true, false, false, false, false, false, false, false, false, false, false, false, false, false] rfl rfl (by kernel_rfl) (fun _ _ _ h => h) (Or.inl ⟨by rfl, ?_⟩) ?_ ?_
  rotate_left
  · intro w'
    go_simp
    with_reducible rfl
  rotate_left
  · simp only [Act.put, List.setIfInBounds_toArray, List.set_cons_zero, List.set_cons_succ, i64_w, i32_w]
    rfl
  refine pure_ (i := 10) (N := some 17) (v := ?_) (a' := ?_) #[true, true, true, true, false, true, true, true, false, true, true, false, false, false, false, false, false, false, false, false, false, false, false] rfl rfl (by kernel_rfl) (fun _ _ _ h => h) (Or.inl ⟨by rfl, ?_⟩) ?_ ?_
  rotate_left
  · intro w'
    go_simp
    with_reducible rfl
  rotate_left
  · simp only [Act.put, List.setIfInBounds_toArray, List.set_cons_zero, List.set_cons_succ, i64_w, i32_w]
    rfl
  refine pure_ (i := 11) (N := some 18) (v := ?_) (a' := ?_) #[true, true, true, true, false, true, true, true, false, true, true, true, false, false, false, false, false, false, false, false, false, false, false] rfl rfl (by kernel_rfl) (fun _ _ _ h => h) (Or.inl ⟨by rfl, ?_⟩) ?_ ?_
  rotate_left
  · intro w'
    go_simp
    with_reducible rfl
  rotate_left
  · simp only [Act.put, List.setIfInBounds_toArray, List.set_cons_zero, List.set_cons_succ, i64_w, i32_w]
    rfl
  refine pure_ (i := 14) (N := some 21) (v := ?_) (a' := ?_) #[true, true, true, true, false, true, true, true, false, true, true, true, false, false, true, false, false, false, false, false, false, false, false] rfl rfl (by kernel_rfl) (fun _ _ _ h => h) (Or.inl ⟨by rfl, ?_⟩) ?_ ?_
  rotate_left
  · intro w'
    go_simp
    with_reducible rfl
  rotate_left
  · simp only [Act.put, List.setIfInBounds_toArray, List.set_cons_zero, List.set_cons_succ, i64_w, i32_w]
    rfl
  refine pure_ (i := 15) (N := some 22) (v := ?_) (a' := ?_) #[true, true, true, true, false, true, true, true, false, true, true, true, false, false, true, true, false, false, false, false, false, false, false] rfl rfl (by kernel_rfl) (fun _ _ _ h => h) (Or.inl ⟨by rfl, ?_⟩) ?_ ?_
  rotate_left
  · intro w'
    go_simp
    with_reducible rfl
  rotate_left
  · simp only [Act.put, List.setIfInBounds_toArray, List.set_cons_zero, List.set_cons_succ, i64_w, i32_w]
    rfl
  refine pure_ (i := 16) (N := some 23) (v := ?_) (a' := ?_) #[true, true, true, true, false, true, true, true, false, true, true, true, false, false, true, true, true, false, false, false, false, false, false] rfl rfl (by kernel_rfl) (fun _ _ _ h => h) (Or.inl ⟨by rfl, ?_⟩) ?_ ?_
  rotate_left
  · intro w'
    go_simp
    with_reducible rfl
  rotate_left
  · simp only [Act.put, List.setIfInBounds_toArray, List.set_cons_zero, List.set_cons_succ, i64_w, i32_w]
    rfl
  refine take_ (i := 4) (N := some 11) (v := ?_) (a' := ?_) #[true, true, true, true, true, true, true, true, false, true, true, true, false, false, true, true, true, false, false, false, false, false, false] rfl rfl (by kernel_rfl) (fun _ _ _ h => h) (Or.inl ⟨by rfl, ?_⟩) hHeld ?_ ?_
  rotate_left
  · rintro w' ⟨s0, s1, s2, s3⟩
    go_simp
    with_reducible rfl
  rotate_left
  · simp only [Act.put, List.setIfInBounds_toArray, List.set_cons_zero, List.set_cons_succ, i64_w, i32_w]
    rfl
  refine take_ (i := 8) (N := some 15) (v := ?_) (a' := ?_) #[true, true, true, true, true, true, true, true, true, true, true, true, false, false, true, true, true, false, false, false, false, false, false] rfl rfl (by kernel_rfl) (fun _ _ _ h => h) (Or.inl ⟨by rfl, ?_⟩) hHeld ?_ ?_
  rotate_left
  · rintro w' ⟨s0, s1, s2, s3⟩
    go_simp
    with_reducible rfl
  rotate_left
  · simp only [Act.put, List.setIfInBounds_toArray, List.set_cons_zero, List.set_cons_succ, i64_w, i32_w]
    rfl
  refine take_ (i := 12) (N := some 19) (v := ?_) (a' := ?_) #[true, true, true, true, true, true, true, true, true, true, true, true, true, false, true, true, true, false, false, false, false, false, false] rfl rfl (by kernel_rfl) (fun _ _ _ h => h) (Or.inl ⟨by rfl, ?_⟩) hHeld ?_ ?_
  rotate_left
  · rintro w' ⟨s0, s1, s2, s3⟩
    go_simp
    with_reducible rfl
  rotate_left
  · simp only [Act.put, List.setIfInBounds_toArray, List.set_cons_zero, List.set_cons_succ, i64_w, i32_w]
    rfl
  refine pure_ (i := 13) (N := some 20) (v := ?_) (a' := ?_) #[true, true, true, true, true, true, true, true, true, true, true, true, true, true, true, true, true, false, false, false, false, false, false] rfl rfl (by kernel_rfl) (fun _ _ _ h => h) (Or.inl ⟨by rfl, ?_⟩) ?_ ?_
  rotate_left
  · intro w'
    go_simp
    with_reducible rfl
  rotate_left
  · simp only [Act.put, List.setIfInBounds_toArray, List.set_cons_zero, List.set_cons_succ, i64_w, i32_w]
    rfl
  refine take_ (i := 17) (N := some 24) (v := ?_) (a' := ?_) #[true, true, true, true, true, true, true, true, true, true, true, true, true, true, true, true, true, true, false, false, false, false, false] rfl rfl (by kernel_rfl) (fun _ _ _ h => h) (Or.inl ⟨by rfl, ?_⟩) hHeld ?_ ?_
  rotate_left
  · rintro w' ⟨s0, s1, s2, s3⟩
    go_simp
    with_reducible rfl
  rotate_left
  · simp only [Act.put, List.setIfInBounds_toArray, List.set_cons_zero, List.set_cons_succ, i64_w, i32_w]
    rfl
  refine one_ (i := 18) (N := some 25) #[true, true, true, true, true, true, true, true, true, true, true, true, true, true, true, true, true, true, true, false, false, false, false] rfl rfl (by kernel_rfl) (by decide) (fun K hK => ?_)
  refine goes_ Try.func87 (by kernel_rfl) rfl #[.bool false, .slice Ax lx.length cx, .bool true, .slice Ay ly.length cy] (by rfl) rfl rfl (by (try simp only [List.map_toArray, List.map_cons, List.map_nil]); first | done | rfl) ?_
  with_reducible refine (vendmeterbig_sum.sub Ax cx lx a Ay cy ly b w.drew (Kd.C_below (WC.c HCX.out) (below_drew1 (Below.refl _ _))) hx3 (Kd.C_below (WC.c HCY.out) (below_drew1 (Below.refl _ _))) hy3 hx4 hy4 (by omega) (by omega) hab).mono ?_
  rintro e w3 ⟨v3, r, rfl, hR, hW, hB⟩
  refine ⟨_, rfl, ?_⟩
  obtain ⟨Ar, cr, rfl⟩ := Kd.R_slice hR
  have HX1 := Aside0.mk (blk_below (blk_drew HX.out) hB)
  have HY1 := Aside0.mk (blk_below (blk_drew HY.out) hB)
  have HB3 := Aside0.mk (Below.trans (below_drew1 (Below.refl w.heap.size w)) (hB.mono (Nat.le_refl _)))
  have HR3 := Aside0.mk (wRW hR)
  have HW3 := Aside0.mk hW
  clear hR hW hB
  refine hK.out _ _ ⟨(blk_cell HX1.out 0).trans rfl, (blk_cell HX1.out 1).trans rfl, (blk_cell HY1.out 0).trans rfl, (blk_cell HY1.out 1).trans rfl⟩ (fun hHeld => ?_)
  clear hK K
  refine norm_ (a' := ?_) ?_ ?_
  rotate_left
  · show Act.put _ (some 25) _ = _
    simp only [Act.put, List.setIfInBounds_toArray, List.set_cons_zero, List.set_cons_succ, i64_w, i32_w]
    rfl
  refine pure_ (i := 19) (N := some 26) (v := ?_) (a' := ?_) #[true, true, true, true, true, true, true, true, true, true, true, true, true, true, true, true, true, true, true, true, false, false, false] rfl rfl (by kernel_rfl) (fun _ _ _ h => h) (Or.inl ⟨by rfl, ?_⟩) ?_ ?_
  rotate_left
  · intro w'
    go_simp
    with_reducible rfl
  rotate_left
  · simp only [Act.put, List.setIfInBounds_toArray, List.set_cons_zero, List.set_cons_succ, i64_w, i32_w]
    rfl
  refine pure_ (i := 20) (N := some 27) (v := ?_) (a' := ?_) #[true, true, true, true, true, true, true, true, true, true, true, true, true, true, true, true, true, true, true, true, true, false, false] rfl rfl (by kernel_rfl) (fun _ _ _ h => h) (Or.inl ⟨by rfl, ?_⟩) ?_ ?_
  rotate_left
  · intro w'
    go_simp
    with_reducible rfl
  rotate_left
  · simp only [Act.put, List.setIfInBounds_toArray, List.set_cons_zero, List.set_cons_succ, i64_w, i32_w]
    rfl
  refine last_ (i := 21) (N := some 28) #[true, true, true, true, true, true, true, true, true, true, true, true, true, true, true, true, true, true, true, true, true, true, false] rfl rfl (by kernel_rfl) (by decide) (fun K hK => ?_)
  refine goes_ Try.func84 (by kernel_rfl) rfl #[.pointer (some ⟨z, 0, none⟩), .bool false, .slice Ar r.length cr] (by rfl) rfl rfl (by (try simp only [List.map_toArray, List.map_cons, List.map_nil]); first | done | rfl) ?_
  with_reducible refine (vendmeterbig_Int_give.calls w3 z (hz.below HB3.out) Ar cr r _ HR3.out.1 HR3.out.2 HW3.out).mono ?_
  rintro e w4 ⟨rfl, hA, hO⟩
  refine ⟨_, rfl, ?_⟩
  have HA4 := Aside0.mk hA
  have HO4 := Aside0.mk ((Only.of_below HB3.out).trans hO)
  clear hA hO
  refine hK.out _ _ ?_
  clear hK K
  refine norm_ (a' := ?_) ?_ ?_
  rotate_left
  · show Act.put _ (some 28) _ = _
    simp only [Act.put, List.setIfInBounds_toArray, List.set_cons_zero, List.set_cons_succ, i64_w, i32_w]
    rfl
  refine pure_ (i := 22) (N := some 6) (v := ?_) (a' := ?_) #[true, true, true, true, true, true, true, true, true, true, true, true, true, true, true, true, true, true, true, true, true, true, true] rfl rfl (by kernel_rfl) (fun _ _ _ h => h) (Or.inl ⟨by rfl, ?_⟩) ?_ ?_
  rotate_left
  · intro w'
    go_simp
    with_reducible rfl
  rotate_left
  · simp only [Act.put, List.setIfInBounds_toArray, List.set_cons_zero, List.set_cons_succ, i64_w, i32_w]
    rfl
  refine done_ (by kernel_rfl) ?_
  go_wp2
  go_ret
  exact ⟨rfl, HA4.out, HO4.out⟩
set_option maxHeartbeats 4000000 in
set_option maxRecDepth 100000 in
theorem vendmeterbig_Int_Mul.calls (w : World) (z x y : Nat) (a b : Int) (hz : IsI w z) (hx : BigA w x a) (hy : BigA w y b) (ha : a < W32 1000) (hb : b < W32 1000) :
    Calls Try.prog 54 #[.pointer (some ⟨z, 0, none⟩), .pointer (some ⟨x, 0, none⟩), .pointer (some ⟨y, 0, none⟩)] w fun e w' => e = .returned (.pointer (some ⟨z, 0, none⟩)) ∧ BigA w' z (a * b) ∧ Only z w w' := by
  obtain ⟨Ax, cx, lx, hx1, hx2, hx3, hx4⟩ := hx
  obtain ⟨Ay, cy, ly, hy1, hy2, hy3, hy4⟩ := hy
  have lbx := hx4.len_le ha
  have lby := hy4.len_le hb
  have HX := Aside0.mk hx1
  have HY := Aside0.mk hy1
  have HCX := Aside0.mk hx2
  have HCY := Aside0.mk hy2
  clear hx1 hx2 hy1 hy2
  go_enter Try.func54, Try.ntmps54
  go_wp2
  refine start_ (n := 21) (S := fun w' => w'.cell? ⟨x, 0, none⟩ = some (.bool false) ∧ w'.cell? ⟨x, 1, none⟩ = some (.slice Ax lx.length cx) ∧ w'.cell? ⟨y, 0, none⟩ = some (.bool false) ∧ w'.cell? ⟨y, 1, none⟩ = some (.slice Ay ly.length cy)) (ds := [19]) #[false, false, false, false, false, false, false, false, false, false, false, false, false, false, false, false, false, false, false, false, false] (by kernel_rfl) rfl rfl ⟨(blk_cell HX.out 0).trans rfl, (blk_cell HX.out 1).trans rfl, (blk_cell HY.out 0).trans rfl, (blk_cell HY.out 1).trans rfl⟩ (fun hHeld => ?_)
  refine pure_ (i := 0) (N := some 7) (v := ?_) (a' := ?_) #[true, false, false, false, false, false, false, false, false, false, false, false, false, false, false, false, false, false, false, false, false] rfl rfl (by kernel_rfl) (fun _ _ _ h => h) (Or.inl ⟨by rfl, ?_⟩) ?_ ?_
  rotate_left
  · intro w'
    go_simp
    with_reducible rfl
  rotate_left
  · simp only [Act.put, List.setIfInBounds_toArray, List.set_cons_zero, List.set_cons_succ, i64_w, i32_w]
    rfl
  refine pure_ (i := 1) (N := some 8) (v := ?_) (a' := ?_) #[true, true, false, false, false, false, false, false, false, false, false, false, false, false, false, false, false, false, false, false, false] rfl rfl (by kernel_rfl) (fun _ _ _ h => h) (Or.inl ⟨by rfl, ?_⟩) ?_ ?_
  rotate_left
  · intro w'
    go_simp
    with_reducible rfl
  rotate_left
  · simp only [Act.put, List.setIfInBounds_toArray, List.set_cons_zero, List.set_cons_succ, i64_w, i32_w]
    rfl
  refine pure_ (i := 2) (N := some 9) (v := ?_) (a' := ?_) #[true, true, true, false, false, false, false, false, false, false, false, false, false, false, false, false, false, false, false, false, false] rfl rfl (by kernel_rfl) (fun _ _ _ h => h) (Or.inl ⟨by rfl, ?_⟩) ?_ ?_
  rotate_left
  · intro w'
    go_simp
    with_reducible rfl
  rotate_left
  · simp only [Act.put, List.setIfInBounds_toArray, List.set_cons_zero, List.set_cons_succ, i64_w, i32_w]
    rfl
  refine pure_ (i := 3) (N := some 10) (v := ?_) (a' := ?_) #[true, true, true, true, false, false, false, false, false, false, false, false, false, false, false, false, false, false, false, false, false] rfl rfl (by kernel_rfl) (fun _ _ _ h => h) (Or.inl ⟨by rfl, ?_⟩) ?_ ?_
  rotate_left
  · intro w'
    go_simp
    with_reducible rfl
  rotate_left
  · simp only [Act.put, List.setIfInBounds_toArray, List.set_cons_zero, List.set_cons_succ, i64_w, i32_w]
    rfl
  refine pure_ (i := 5) (N := some 12) (v := ?_) (a' := ?_) #[true, true, true, true, false, true, false, false, false, false, false, false, false, false, false, false, false, false, false, false, false] rfl rfl (by kernel_rfl) (fun _ _ _ h => h) (Or.inl ⟨by rfl, ?_⟩) ?_ ?_
  rotate_left
  · intro w'
    go_simp
    with_reducible rfl
  rotate_left
  · simp only [Act.put, List.setIfInBounds_toArray, List.set_cons_zero, List.set_cons_succ, i64_w, i32_w]
    rfl
  refine pure_ (i := 6) (N := some 13) (v := ?_) (a' := ?_) #[true, true, true, true, false, true, true, false, false, false, false, false, false, false, false, false, false, false, false, false, false] rfl rfl (by kernel_rfl) (fun _ _ _ h => h) (Or.inl ⟨by rfl, ?_⟩) ?_ ?_
  rotate_left
  · intro w'
    go_simp
    with_reducible rfl
  rotate_left
  · simp only [Act.put, List.setIfInBounds_toArray, List.set_cons_zero, List.set_cons_succ, i64_w, i32_w]
    rfl
  refine pure_ (i := 7) (N := some 14) (v := ?_) (a' := ?_) #[true, true, true, true, false, true, true, true, false, false, false, false, false, false, false, false, false, false, false, false, false] rfl rfl (by kernel_rfl) (fun _ _ _ h => h) (Or.inl ⟨by rfl, ?_⟩) ?_ ?_
  rotate_left
  · intro w'
    go_simp
    with_reducible rfl
  rotate_left
  · simp only [Act.put, List.setIfInBounds_toArray, List.set_cons_zero, List.set_cons_succ, i64_w, i32_w]
    rfl
  refine pure_ (i := 10) (N := some 17) (v := ?_) (a' := ?_) #[true, true, true, true, false, true, true, true, false, false, true, false, false, false, false, false, false, false, false, false, false] rfl rfl (by kernel_rfl) (fun _ _ _ h => h) (Or.inl ⟨by rfl, ?_⟩) ?_ ?_
  rotate_left
  · intro w'
    go_simp
    with_reducible rfl
  rotate_left
  · simp only [Act.put, List.setIfInBounds_toArray, List.set_cons_zero, List.set_cons_succ, i64_w, i32_w]
    rfl
  refine pure_ (i := 11) (N := some 18) (v := ?_) (a' := ?_) #[true, true, true, true, false, true, true, true, false, false, true, true, false, false, false, false, false, false, false, false, false] rfl rfl (by kernel_rfl) (fun _ _ _ h => h) (Or.inl ⟨by rfl, ?_⟩) ?_ ?_
  rotate_left
  · intro w'
    go_simp
    with_reducible rfl
  rotate_left
  · simp only [Act.put, List.setIfInBounds_toArray, List.set_cons_zero, List.set_cons_succ, i64_w, i32_w]
    rfl
  refine pure_ (i := 12) (N := some 19) (v := ?_) (a' := ?_) #[true, true, true, true, false, true, true, true, false, false, true, true, true, false, false, false, false, false, false, false, false] rfl rfl (by kernel_rfl) (fun _ _ _ h => h) (Or.inl ⟨by rfl, ?_⟩) ?_ ?_
  rotate_left
  · intro w'
    go_simp
    with_reducible rfl
  rotate_left
  · simp only [Act.put, List.setIfInBounds_toArray, List.set_cons_zero, List.set_cons_succ, i64_w, i32_w]
    rfl
  refine pure_ (i := 14) (N := some 21) (v := ?_) (a' := ?_) #[true, true, true, true, false, true, true, true, false, false, true, true, true, false, true, false, false, false, false, false, false] rfl rfl (by kernel_rfl) (fun _ _ _ h => h) (Or.inl ⟨by rfl, ?_⟩) ?_ ?_
  rotate_left
  · intro w'
    go_simp
    with_reducible rfl
  rotate_left
  · simp only [Act.put, List.setIfInBounds_toArray, List.set_cons_zero, List.set_cons_succ, i64_w, i32_w]
    rfl
  refine pure_ (i := 15) (N := some 22) (v := ?_) (a' := ?_) #[true, true, true, true, false, true, true, true, false, false, true, true, true, false, true, true, false, false, false, false, false] rfl rfl (by kernel_rfl) (fun _ _ _ h => h) (Or.inl ⟨by rfl, ?_⟩) ?_ ?_
  rotate_left
  · intro w'
    go_simp
    with_reducible rfl
  rotate_left
  · simp only [Act.put, List.setIfInBounds_toArray, List.set_cons_zero, List.set_cons_succ, i64_w, i32_w]
    rfl
  refine pure_ (i := 16) (N := some 23) (v := ?_) (a' := ?_) #[true, true, true, true, false, true, true, true, false, false, true, true, true, false, true, true, true, false, false, false, false] rfl rfl (by kernel_rfl) (fun _ _ _ h => h) (Or.inl ⟨by rfl, ?_⟩) ?_ ?_
  rotate_left
  · intro w'
    go_simp
    with_reducible rfl
  rotate_left
  · simp only [Act.put, List.setIfInBounds_toArray, List.set_cons_zero, List.set_cons_succ, i64_w, i32_w]
    rfl
  refine take_ (i := 4) (N := some 11) (v := ?_) (a' := ?_) #[true, true, true, true, true, true, true, true, false, false, true, true, true, false, true, true, true, false, false, false, false] rfl rfl (by kernel_rfl) (fun _ _ _ h => h) (Or.inl ⟨by rfl, ?_⟩) hHeld ?_ ?_
  rotate_left
  · rintro w' ⟨s0, s1, s2, s3⟩
    go_simp
    with_reducible rfl
  rotate_left
  · simp only [Act.put, List.setIfInBounds_toArray, List.set_cons_zero, List.set_cons_succ, i64_w, i32_w]
    rfl
  refine take_ (i := 8) (N := some 15) (v := ?_) (a' := ?_) #[true, true, true, true, true, true, true, true, true, false, true, true, true, false, true, true, true, false, false, false, false] rfl rfl (by kernel_rfl) (fun _ _ _ h => h) (Or.inl ⟨by rfl, ?_⟩) hHeld ?_ ?_
  rotate_left
  · rintro w' ⟨s0, s1, s2, s3⟩
    go_simp
    with_reducible rfl
  rotate_left
  · simp only [Act.put, List.setIfInBounds_toArray, List.set_cons_zero, List.set_cons_succ, i64_w, i32_w]
    rfl
  refine pure_ (i := 9) (N := some 16) (v := ?_) (a' := ?_) #[true, true, true, true, true, true, true, true, true, true, true, true, true, false, true, true, true, false, false, false, false] rfl rfl (by kernel_rfl) (fun _ _ _ h => h) (Or.inl ⟨by rfl, ?_⟩) ?_ ?_
  rotate_left
  · intro w'
    go_simp
    with_reducible rfl
  rotate_left
  · simp only [Act.put, List.setIfInBounds_toArray, List.set_cons_zero, List.set_cons_succ, i64_w, i32_w]
    rfl
  refine take_ (i := 13) (N := some 20) (v := ?_) (a' := ?_) #[true, true, true, true, true, true, true, true, true, true, true, true, true, true, true, true, true, false, false, false, false] rfl rfl (by kernel_rfl) (fun _ _ _ h => h) (Or.inl ⟨by rfl, ?_⟩) hHeld ?_ ?_
  rotate_left
  · rintro w' ⟨s0, s1, s2, s3⟩
    go_simp
    with_reducible rfl
  rotate_left
  · simp only [Act.put, List.setIfInBounds_toArray, List.set_cons_zero, List.set_cons_succ, i64_w, i32_w]
    rfl
  refine take_ (i := 17) (N := some 24) (v := ?_) (a' := ?_) #[true, true, true, true, true, true, true, true, true, true, true, true, true, true, true, true, true, true, false, false, false] rfl rfl (by kernel_rfl) (fun _ _ _ h => h) (Or.inl ⟨by rfl, ?_⟩) hHeld ?_ ?_
  rotate_left
  · rintro w' ⟨s0, s1, s2, s3⟩
    go_simp
    with_reducible rfl
  rotate_left
  · simp only [Act.put, List.setIfInBounds_toArray, List.set_cons_zero, List.set_cons_succ, i64_w, i32_w]
    rfl
  refine one_ (i := 18) (N := some 25) #[true, true, true, true, true, true, true, true, true, true, true, true, true, true, true, true, true, true, true, false, false] rfl rfl (by kernel_rfl) (by decide) (fun K hK => ?_)
  refine goes_ Try.func85 (by kernel_rfl) rfl #[.slice Ax lx.length cx, .slice Ay ly.length cy] (by rfl) rfl rfl (by (try simp only [List.map_toArray, List.map_cons, List.map_nil]); first | done | rfl) ?_
  with_reducible refine (vendmeterbig_mul.calls Ax cx lx a Ay cy ly b w.drew (Kd.C_below (WC.c HCX.out) (below_drew1 (Below.refl _ _))) hx3 (Kd.C_below (WC.c HCY.out) (below_drew1 (Below.refl _ _))) hy3 hx4 hy4 (by omega) (by omega)).mono ?_
  rintro e w3 ⟨v3, r, rfl, hR, hW, _, hB⟩
  refine ⟨_, rfl, ?_⟩
  obtain ⟨Ar, cr, rfl⟩ := Kd.R_slice hR
  have HX1 := Aside0.mk (blk_below (blk_drew HX.out) hB)
  have HY1 := Aside0.mk (blk_below (blk_drew HY.out) hB)
  have HB3 := Aside0.mk (Below.trans (below_drew1 (Below.refl w.heap.size w)) (hB.mono (Nat.le_refl _)))
  have HR3 := Aside0.mk (wRW hR)
  have HW3 := Aside0.mk hW
  clear hR hW hB
  refine hK.out _ _ ⟨(blk_cell HX1.out 0).trans rfl, (blk_cell HX1.out 1).trans rfl, (blk_cell HY1.out 0).trans rfl, (blk_cell HY1.out 1).trans rfl⟩ (fun hHeld => ?_)
  clear hK K
  refine norm_ (a' := ?_) ?_ ?_
  rotate_left
  · show Act.put _ (some 25) _ = _
    simp only [Act.put, List.setIfInBounds_toArray, List.set_cons_zero, List.set_cons_succ, i64_w, i32_w]
    rfl
  refine last_ (i := 19) (N := some 26) #[true, true, true, true, true, true, true, true, true, true, true, true, true, true, true, true, true, true, true, true, false] rfl rfl (by kernel_rfl) (by decide) (fun K hK => ?_)
  refine goes_ Try.func84 (by kernel_rfl) rfl #[.pointer (some ⟨z, 0, none⟩), .bool false, .slice Ar r.length cr] (by rfl) rfl rfl (by (try simp only [List.map_toArray, List.map_cons, List.map_nil]); first | done | rfl) ?_
  with_reducible refine (vendmeterbig_Int_give.calls w3 z (hz.below HB3.out) Ar cr r _ HR3.out.1 HR3.out.2 HW3.out).mono ?_
  rintro e w4 ⟨rfl, hA, hO⟩
  refine ⟨_, rfl, ?_⟩
  have HA4 := Aside0.mk hA
  have HO4 := Aside0.mk ((Only.of_below HB3.out).trans hO)
  clear hA hO
  refine hK.out _ _ ?_
  clear hK K
  refine norm_ (a' := ?_) ?_ ?_
  rotate_left
  · show Act.put _ (some 26) _ = _
    simp only [Act.put, List.setIfInBounds_toArray, List.set_cons_zero, List.set_cons_succ, i64_w, i32_w]
    rfl
  refine pure_ (i := 20) (N := some 6) (v := ?_) (a' := ?_) #[true, true, true, true, true, true, true, true, true, true, true, true, true, true, true, true, true, true, true, true, true] rfl rfl (by kernel_rfl) (fun _ _ _ h => h) (Or.inl ⟨by rfl, ?_⟩) ?_ ?_
  rotate_left
  · intro w'
    go_simp
    with_reducible rfl
  rotate_left
  · simp only [Act.put, List.setIfInBounds_toArray, List.set_cons_zero, List.set_cons_succ, i64_w, i32_w]
    rfl
  refine done_ (by kernel_rfl) ?_
  go_wp2
  go_ret
  exact ⟨rfl, HA4.out, HO4.out⟩
set_option maxHeartbeats 4000000 in
theorem vendmeterbig_Int_SetInt64.calls (w : World) (z : Nat) (v : Int) (hz : IsI w z) (hv : 0 ≤ v ∧ v ≤ 9223372036854775807) :
    Calls Try.prog 86 #[.pointer (some ⟨z, 0, none⟩), .int .i64 v] w fun e w' => e = .returned (.pointer (some ⟨z, 0, none⟩)) ∧ BigA w' z v ∧ Only z w w' := by
  obtain ⟨r, t1, hW, _⟩ := wwords_ev v ⟨hv.1, by omega⟩
  obtain ⟨kw, ht⟩ := Ev.rounds t1
  rw [← wu64 (a := v) ⟨hv.1, by omega⟩] at ht
  have HT := Aside0.mk ht
  have HW := Aside0.mk hW
  have hvb : decide (v < 0) = false := decide_eq_false (by omega)
  clear t1 ht hv hW
  go_enter Try.func86, Try.ntmps86
  go_wp2_with (first | (go_at_call 100; refine (vendmeterbig_words.calls kw _ r _ HT.out).mono ?_; rintro e w3 ⟨v3, rfl, hR, hB⟩; obtain ⟨Ar, cr, rfl⟩ := Kd.R_slice hR; have HB3 := Aside0.mk hB; have HR3 := Aside0.mk (wRW hR); clear hR hB) | (go_at_call 84; refine (vendmeterbig_Int_give.calls w3 z (hz.below HB3.out) Ar cr r _ HR3.out.1 HR3.out.2 HW.out).mono ?_; rintro e w4 ⟨rfl, hA, hO⟩; have HA4 := Aside0.mk hA; have HO4 := Aside0.mk ((Only.of_below HB3.out).trans hO); clear hA hO))
  go_ret
  exact ⟨rfl, HA4.out, HO4.out⟩
set_option maxHeartbeats 4000000 in
theorem vendmeterbig_NewInt.calls (w : World) (v : Int) (hv : 0 ≤ v ∧ v ≤ 9223372036854775807) :
    Calls Try.prog 55 #[.int .i64 v] w fun e w' => ∃ z, e = .returned (.pointer (some ⟨z, 0, none⟩)) ∧ w.heap.size ≤ z ∧ BigA w' z v ∧ Below w.heap.size w w' := by
  have HS := Aside0.mk (vendmeterbig_Int_SetInt64.calls (w.alloc (.cells #[.bool false, .slice none 0 0] 99)) w.heap.size v (IsI.new w) hv)
  clear hv
  go_enter Try.func55, Try.ntmps55
  go_wp2_with (go_at_call 86; refine HS.out.mono ?_; rintro e w3 ⟨rfl, hA, hO⟩; have HA := Aside0.mk hA; have HB := Aside0.mk (Only.below (below_alloc (Below.refl _ _) _) hO (Nat.le_refl _)); clear hA hO)
  go_ret
  exact ⟨w.heap.size, rfl, Nat.le_refl _, HA.out, HB.out⟩
/-! ### three words as a number, and back -/
def w3v (w0 w1 w2 : Int) : Nat → Int
  | 0 => wval [w0, w1, w2]
  | 1 => wval [w1, w2]
  | 2 => wval [w2]
  | _ => 0
theorem w3v_bd {w0 w1 w2 : Int} (h0 : 0 ≤ w0 ∧ w0 < 4294967296) (h1 : 0 ≤ w1 ∧ w1 < 4294967296) (h2 : 0 ≤ w2 ∧ w2 < 4294967296) (j : Nat) : 0 ≤ w3v w0 w1 w2 j ∧ w3v w0 w1 w2 j < W32 4 := by
  have e : W32 4 = 340282366920938463463374607431768211456 := by decide
  rw [e]
  match j with
  | 0 => simp only [w3v, wval]; omega
  | 1 => simp only [w3v, wval]; omega
  | 2 => simp only [w3v, wval]; omega
  | _ + 3 => simp only [w3v]; omega
theorem lt1000 {n : Int} {m : Nat} (h : n < W32 m) (hm : m ≤ 1000) : n < W32 1000 := Int.lt_of_lt_of_le h (W32.le hm)
set_option maxHeartbeats 4000000 in
set_option maxRecDepth 100000 in
theorem vendmeterref_big96.calls (w : World) (w0 w1 w2 : Int) (h0 : 0 ≤ w0 ∧ w0 < 4294967296) (h1 : 0 ≤ w1 ∧ w1 < 4294967296) (h2 : 0 ≤ w2 ∧ w2 < 4294967296) :
    Calls Try.prog 24 #[.agg #[.int .u32 w0, .int .u32 w1, .int .u32 w2]] w fun e w' => ∃ g, e = .returned (.pointer (some ⟨g, 0, none⟩)) ∧ w.heap.size ≤ g ∧ BigA w' g (wval [w0, w1, w2]) ∧ Below w.heap.size w w' := by
  have hu63 := Try.underlying24
  have HBD := Aside0.mk (w3v_bd h0 h1 h2)
  have HWB := Aside0.mk (And.intro h0 (And.intro h1 h2))
  clear h0 h1 h2
  go_enter Try.func24, Try.ntmps24
  go_wp2
  have HX := blk_alloc (blk_new w (.cells #[.int .u32 w0, .int .u32 w1, .int .u32 w2] 24)) (.cells #[.bool false, .slice none 0 0] 99)
  have HN := blk_new (w.alloc (.cells #[.int .u32 w0, .int .u32 w1, .int .u32 w2] 24)) (.cells #[.bool false, .slice none 0 0] 99)
  rw [World.size_alloc] at HN
  have HB := below_alloc (below_alloc (Below.refl w.heap.size w) (.cells #[.int .u32 w0, .int .u32 w1, .int .u32 w2] 24)) (.cells #[.bool false, .slice none 0 0] 99)
  go_loopg [4] 3 (fun kq v4 w' => ∃ jj : Int, v4 = .int .i64 jj ∧ Aside0 (jj = (kq : Int) - 1 ∧ kq ≤ 3) ∧ Aside0 (w'.heap[w.heap.size]? = some (.cells #[.int .u32 w0, .int .u32 w1, .int .u32 w2] 24 (0, 0))) ∧ Aside0 (BigA w' (w.heap.size + 1) (w3v w0 w1 w2 kq)) ∧ Aside0 (Below w.heap.size w w'))
  case atStart => exact ⟨2, rfl, ⟨rfl, by decide⟩, ⟨HX⟩, ⟨none, 0, [], HN, WC.nil _ _, Nat.le_refl _, Wd.zero⟩, ⟨HB⟩⟩
  case round =>
    clear HX HN HB
    obtain ⟨jj, rfl, hjj, HX, HA, HB⟩ := hrel
    obtain ⟨hj1, hj2⟩ := hjj.out
    cases gk with
    | zero =>
      have hneg : decide (0 ≤ jj) = false := decide_eq_false (by omega)
      clear hj1 hj2
      go_wp2
      go_ret
      exact ⟨w.heap.size + 1, rfl, Nat.le_succ _, HA.out, HB.out⟩
    | succ j =>
      obtain rfl : jj = (j : Int) := by omega
      have hj3 : j < 3 := by omega
      obtain ⟨d, hd⟩ : ∃ d, [w0, w1, w2].getD j 0 = d := ⟨_, rfl⟩
      have hbd : 0 ≤ d ∧ d < 4294967296 := by
        obtain ⟨b0, b1, b2⟩ := HWB.out
        match j, hj3 with
        | 0, _ => rw [← hd]; exact b0
        | 1, _ => rw [← hd]; exact b1
        | 2, _ => rw [← hd]; exact b2
      have hcell : ∀ W : World, W.heap[w.heap.size]? = some (.cells #[.int .u32 w0, .int .u32 w1, .int .u32 w2] 24 (0, 0)) → W.cell? ⟨w.heap.size, j, none⟩ = some (.int .u32 d) := fun W hW => by
        rw [blk_cell hW j]
        match j, hj3 with
        | 0, _ => rw [← hd]; rfl
        | 1, _ => rw [← hd]; rfl
        | 2, _ => rw [← hd]; rfl
      have hval : w3v w0 w1 w2 (j + 1) * 4294967296 + d = w3v w0 w1 w2 j := by
        match j, hj3 with
        | 0, _ => rw [← hd]; simp only [w3v, wval, List.getD_cons_zero]; omega
        | 1, _ => rw [← hd]; simp only [w3v, wval, List.getD_cons_succ, List.getD_cons_zero]; omega
        | 2, _ => rw [← hd]; simp only [w3v, wval, List.getD_cons_succ, List.getD_cons_zero]; omega
      have hlt1 : w3v w0 w1 w2 (j + 1) * 4294967296 < W32 5 := by have := (HBD.out (j + 1)).2; rw [W32.succ 4]; exact Int.mul_lt_mul_of_pos_right this (by decide)
      have HCELL := Aside0.mk hcell
      have HVAL := Aside0.mk hval
      have HLT := Aside0.mk hlt1
      have hd0 : 0 ≤ d := hbd.1
      have hd1 : d ≤ 4294967295 := by omega
      clear hcell hval hlt1 hd hj1 hj2 hbd
      go_upto_region 6 with (first | (go_at_call 55; refine (vendmeterbig_NewInt.calls wr 4294967296 (by decide)).mono ?_; rintro e wa ⟨ga, rfl, hga, hA, hb⟩; have HA1 := Aside0.mk (HA.out.below hb); have HP := Aside0.mk hA; have HX1 := Aside0.mk (blk_below HX.out hb); have HB1 := Aside0.mk (below_then HB.out HB.out.size hb); clear hga hA hb) | (go_at_call 54; refine (vendmeterbig_Int_Mul.calls wa (w.heap.size + 1) (w.heap.size + 1) ga _ _ HA1.out.isI HA1.out HP.out (lt1000 (HBD.out _).2 (by decide)) (lt1000 (m := 2) (by decide) (by decide))).mono ?_; rintro e wb ⟨rfl, hA, hO⟩; have HA2 := Aside0.mk hA; have HX2 := Aside0.mk ((hO.block _ (blk_lt HX1.out) (by omega)).trans HX1.out); have HB2 := Aside0.mk (Only.below HB1.out hO (Nat.le_succ _)); clear hA hO))
      have hc2 := HCELL.out wb HX2.out
      go_wp2_with (first | (go_at_call 55; refine (vendmeterbig_NewInt.calls wb d ⟨hd0, by omega⟩).mono ?_; rintro e wc ⟨gc, rfl, hga, hA, hb⟩; have HA3 := Aside0.mk (HA2.out.below hb); have HP3 := Aside0.mk hA; have HX3 := Aside0.mk (blk_below HX2.out hb); have HB3 := Aside0.mk (below_then HB2.out HB2.out.size hb); clear hga hA hb) | (go_at_call 56; refine (vendmeterbig_Int_Add.calls wc (w.heap.size + 1) (w.heap.size + 1) gc _ _ HA3.out.isI HA3.out HP3.out (lt1000 HLT.out (by decide)) (lt1000 (m := 2) (Int.lt_of_le_of_lt hd1 (by decide)) (by decide))).mono ?_; rintro e wd ⟨rfl, hA, hO⟩; have HA4 := Aside0.mk hA; have HX4 := Aside0.mk ((hO.block _ (blk_lt HX3.out) (by omega)).trans HX3.out); have HB4 := Aside0.mk (Only.below HB3.out hO (Nat.le_succ _)); clear hA hO))
      go_roundg j
      case measure => omega
      case rel => exact ⟨(j : Int) - 1, by first | rfl | simp, ⟨rfl, by omega⟩, HX4, ⟨by rw [← HVAL.out]; exact HA4.out⟩, HB4⟩

set_option maxHeartbeats 8000000 in
set_option maxRecDepth 100000 in
theorem vendmeterref_numberOf.at_ (w : World) (k : Nat) (c i a t b : Int) (hf : vendmeterref_BodyOf.f k c i a t = some (b, 0)) (hb : 0 ≤ b ∧ b ≤ 8796093022207) (ht : 0 ≤ t ∧ t ≤ 65535) :
    Calls Try.prog 31 #[.agg #[.int .i64 c, .int .i64 i, .int .i64 a, .int .i64 t]] w fun e w' => ∃ g, e = .returned (.pointer (some ⟨g, 0, none⟩)) ∧ w.heap.size ≤ g ∧ BigA w' g ((b * 65536 + t) * 97) ∧ Below w.heap.size w w' := by
  have hu28 := Try.underlying28
  have HF := Aside0.mk hf
  have HBD := Aside0.mk (And.intro hb ht)
  have HB := Aside0.mk (below_alloc (Below.refl w.heap.size w) (.cells #[.int .i64 c, .int .i64 i, .int .i64 a, .int .i64 t] 28))
  have H1 := Aside0.mk (blk_new w (.cells #[.int .i64 c, .int .i64 i, .int .i64 a, .int .i64 t] 28))
  have W3 := Aside0.mk (show W32 2 = 18446744073709551616 by decide)
  have L1 := Aside0.mk (show b < W32 1000 from lt1000 (m := 2) (by rw [W3.out]; omega) (by decide))
  have L2 := Aside0.mk (show b * 65536 < W32 1000 from lt1000 (m := 2) (by rw [W3.out]; omega) (by decide))
  have L3 := Aside0.mk (show t < W32 1000 from lt1000 (m := 2) (by rw [W3.out]; omega) (by decide))
  have L4 := Aside0.mk (show b * 65536 + t < W32 1000 from lt1000 (m := 2) (by rw [W3.out]; omega) (by decide))
  have L5 := Aside0.mk (show (65536 : Int) < W32 1000 from lt1000 (m := 2) (by decide) (by decide))
  have L6 := Aside0.mk (show (97 : Int) < W32 1000 from lt1000 (m := 2) (by decide) (by decide))
  clear hf hb ht
  go_enter Try.func31, Try.ntmps31
  go_upto_region 3 with (first | (go_at_call 69; refine (vendmeterref_BodyOf.calls k _ _ _ _ _ _ _ HF.out).mono ?_; rintro e wa ⟨rfl, hb⟩; have J1 := Aside0.mk (blk_below H1.out hb); have JB := Aside0.mk (below_then HB.out HB.out.size hb); clear hb) | (go_at_call 55; refine (vendmeterbig_NewInt.calls _ b (by have := HBD.out; omega)).mono ?_; rintro e wb ⟨g, rfl, hg, hA, hb⟩; have A1 := Aside0.mk hA; have K1 := Aside0.mk (blk_below J1.out hb); have KB := Aside0.mk (below_then JB.out JB.out.size hb); have GL := Aside0.mk (Nat.lt_of_lt_of_le (blk_lt J1.out) hg); clear hg hA hb))
  go_upto_region 4 with (first | (go_at_call 55; refine (vendmeterbig_NewInt.calls _ 65536 (by decide)).mono ?_; rintro e wc ⟨g2, rfl, hg, hA, hb⟩; have T1 := Aside0.mk hA; have A2 := Aside0.mk (A1.out.below hb); have L1_ := Aside0.mk (blk_below K1.out hb); have LB := Aside0.mk (below_then KB.out KB.out.size hb); clear hg hA hb) | (go_at_call 54; refine (vendmeterbig_Int_Mul.calls wc g g g2 _ _ A2.out.isI A2.out T1.out L1.out L5.out).mono ?_; rintro e wd ⟨rfl, hA, hO⟩; have A3 := Aside0.mk hA; have M1 := Aside0.mk ((hO.block _ (blk_lt L1_.out) (by have := GL.out; omega)).trans L1_.out); have MB := Aside0.mk (Only.below LB.out hO (by have := GL.out; omega)); clear hA hO))
  have y3_ : wd.cell? ⟨w.heap.size, 3, none⟩ = some (.int .i64 t) := (blk_cell M1.out 3).trans rfl
  go_upto_region 5 with (first | (go_at_call 55; refine (vendmeterbig_NewInt.calls _ t (by have := HBD.out; omega)).mono ?_; rintro e we ⟨g3, rfl, hg, hA, hb⟩; have T2 := Aside0.mk hA; have A4 := Aside0.mk (A3.out.below hb); have NB := Aside0.mk (below_then MB.out MB.out.size hb); clear hg hA hb y3_) | (go_at_call 56; refine (vendmeterbig_Int_Add.calls we g g g3 _ _ A4.out.isI A4.out T2.out L2.out L3.out).mono ?_; rintro e wf ⟨rfl, hA, hO⟩; have A5 := Aside0.mk hA; have PB := Aside0.mk (Only.below NB.out hO (by have := GL.out; omega)); clear hA hO))
  go_wp2_with (first | (go_at_call 55; refine (vendmeterbig_NewInt.calls _ 97 (by decide)).mono ?_; rintro e wg ⟨g4, rfl, hg, hA, hb⟩; have T3 := Aside0.mk hA; have A6 := Aside0.mk (A5.out.below hb); have QB := Aside0.mk (below_then PB.out PB.out.size hb); clear hg hA hb) | (go_at_call 54; refine (vendmeterbig_Int_Mul.calls wg g g g4 _ _ A6.out.isI A6.out T3.out L4.out L6.out).mono ?_; rintro e wh ⟨rfl, hA, hO⟩; have A7 := Aside0.mk hA; have RB := Aside0.mk (Only.below QB.out hO (by have := GL.out; omega)); clear hA hO))
  go_ret
  exact ⟨g, rfl, Nat.le_of_lt GL.out, A7.out, RB.out⟩

/-! ### small -/
theorem drop_set_lt {α : Type} (l : List α) (i j : Nat) (x : α) (h : i < j) : (l.set i x).drop j = l.drop j := by
  rw [List.drop_set, if_pos h]
theorem wval_drop_set (l : List Int) (i : Nat) (x : Int) (h : i < l.length) : wval ((l.set i x).drop i) = x + 4294967296 * wval (l.drop (i + 1)) := by
  rw [wval_drop _ _ (by rw [List.length_set]; exact h), getD_set_eq _ _ _ h, drop_set_lt _ _ _ _ (Nat.lt_succ_self _)]
theorem ediv_of {x q d r : Int} (h : x = q * d + r) (h0 : 0 ≤ r) (h1 : r < d) : x / d = q ∧ x % d = r := by
  subst h
  have hd : d ≠ 0 := by omega
  constructor
  · rw [Int.add_comm, Int.add_mul_ediv_right _ _ hd, Int.ediv_eq_zero_of_lt h0 h1, Int.zero_add]
  · rw [Int.add_comm, Int.add_mul_emod_self_right, Int.emod_eq_of_lt h0 h1]
theorem wsmall_l0 (x : List Int) (d : Int) (hx : wok x) (hd : 0 < d ∧ d < 4294967296) (hb : x.length ≤ 1000000) : ∀ (n : Nat) (o : List Int) (r : Int), n ≤ x.length → o.length = x.length → wok o → (0 ≤ r ∧ r < d) → wval (x.drop n) = wval (o.drop n) * d + r →
    ∃ q, Ev (fun k => vendmeterbig_small.l0 k x d o r ((n : Int) - 1)) (q, wval x % d) ∧ Wd q (wval x / d) ∧ q.length ≤ x.length
  | 0, o, r, hn, ho, hk, hr, hv => by
    obtain ⟨q, h1, h2, h3⟩ := wtrim_ev o hk (by omega)
    rw [List.drop_zero, List.drop_zero] at hv
    obtain ⟨e1, e2⟩ := ediv_of hv hr.1 hr.2
    refine ⟨q, Ev.step (f := fun k => (vendmeterbig_trim.f k o).bind fun t => some (t, r % 4294967296)) (fun k => ?_) (Ev.bind h1 (WEv.ret ?_)), by rw [e1]; exact h2, by omega⟩
    · simp only [vendmeterbig_small.l0]; rw [if_neg (by omega)]
    · rw [e2, Int.emod_eq_of_lt hr.1 (by omega)]
  | n + 1, o, r, hn, ho, hk, hr, hv => by
    have bx := hx.at_ n
    have h1 : ((n + 1 : Nat) : Int) - 1 = (n : Int) := by omega
    have h2 : wrap64 ((n : Int) - 1) = (n : Int) - 1 := ww64 ⟨by omega, by omega⟩
    obtain ⟨t, ht⟩ : ∃ t, r * 4294967296 + x.getD n 0 = t := ⟨_, rfl⟩
    have ht0 : 0 ≤ t := by omega
    have ht1 : t < 4294967296 * d := by
      have := Int.mul_le_mul_of_nonneg_right (show r + 1 ≤ d by omega) (show (0 : Int) ≤ 4294967296 by decide)
      omega
    have hq0 : 0 ≤ t / d := Int.ediv_nonneg ht0 (by omega)
    have hq1 : t / d < 4294967296 := Int.ediv_lt_of_lt_mul hd.1 ht1
    have hr0 : 0 ≤ t % d := Int.emod_nonneg _ (by omega)
    have hr1 : t % d < d := Int.emod_lt_of_pos _ hd.1
    have hq : t = t / d * d + t % d := by have := Int.mul_ediv_add_emod t d; rw [Int.mul_comm] at this; omega
    obtain ⟨q, g1, g2⟩ := wsmall_l0 x d hx hd hb n (o.set n (t / d)) (t % d) (by omega) (by rw [List.length_set]; exact ho) (hk.set n ⟨hq0, hq1⟩) ⟨hr0, hr1⟩ (by
      rw [wval_drop_set o n _ (by omega), wval_drop x n (by omega), hv]
      generalize t / d = a at *
      generalize t % d = b at *
      grind)
    refine ⟨q, Ev.step (fun k => ?_) g1, g2⟩
    have e1 : Go.bits .or .u64 (IntKind.u64.wrap (r * 4294967296)) (IntKind.u64.wrap (rd x (n : Int))) = t := by rw [wrd, wor ⟨hr.1, by omega⟩ bx, ht]
    have e2 : IntKind.u64.wrap d = d := wu64 ⟨by omega, by omega⟩
    rw [h1]
    simp only [vendmeterbig_small.l0, e1, e2, h2, Int.tdiv_eq_ediv_of_nonneg ht0, Int.tmod_eq_emod_of_nonneg ht0, wu64 (a := t / d) ⟨hq0, by omega⟩, Int.emod_eq_of_lt hq0 hq1, Int.toNat_natCast]
    rw [if_pos (by omega), if_pos (by omega), if_pos (by omega), if_neg (by omega), if_pos (by omega)]
theorem wsmall_ev {x : List Int} {a d : Int} (hx : Wd x a) (hd : 0 < d ∧ d < 4294967296) (hb : x.length ≤ 1000000) : ∃ q, Ev (fun k => vendmeterbig_small.f k x d) (q, a % d) ∧ Wd q (a / d) ∧ q.length ≤ x.length := by
  obtain ⟨q, h1, h2, h3⟩ := wsmall_l0 x d hx.ok hd hb x.length (List.replicate x.length 0) 0 (Nat.le_refl _) (by simp) (wok.replicate _) ⟨Int.le_refl _, hd.1⟩ (by
    rw [List.drop_of_length_le (Nat.le_refl _), List.drop_of_length_le (by simp)]; simp [wval])
  rw [hx.val] at h1 h2
  refine ⟨q, ?_, h2, h3⟩
  unfold vendmeterbig_small.f
  refine WEv.pos (by omega) (WEv.pos (by omega) ?_)
  rw [ww64 (a := (x.length : Int) - 1) ⟨by omega, by omega⟩]
  exact h1

theorem wtwin_eq (x : List Int) (h : x.length ≤ 1000000) : vendmeterbig_twin.f x = some x := by
  unfold vendmeterbig_twin.f
  rw [if_pos (by simp only [List.length_nil]; omega)]; rfl

def dgs (n : Nat) : List Int := if h : n < 10 then [48 + (n : Int)] else (48 + ((n % 10 : Nat) : Int)) :: dgs (n / 10)
termination_by n
decreasing_by omega
theorem dgs_small {n : Nat} (h : n < 10) : dgs n = [48 + (n : Int)] := by rw [dgs, dif_pos h]
theorem dgs_big {n : Nat} (h : ¬ n < 10) : dgs n = (48 + ((n % 10 : Nat) : Int)) :: dgs (n / 10) := by rw [dgs, dif_neg h]
def dgs0 (n : Nat) : List Int := if n = 0 then [] else dgs n
theorem dgs_step {n : Nat} : dgs n = (48 + ((n % 10 : Nat) : Int)) :: dgs0 (n / 10) := by
  by_cases h : n < 10
  · rw [dgs_small h, dgs0, if_pos (by omega), Nat.mod_eq_of_lt h]
  · rw [dgs_big h, dgs0, if_neg (by omega)]
theorem dgs_len : ∀ (d n : Nat), n < 10 ^ (d + 1) → (dgs n).length ≤ d + 1
  | 0, n, h => by rw [dgs_small (by simpa using h)]; simp
  | d + 1, n, h => by
    by_cases h10 : n < 10
    · rw [dgs_small h10]; simp
    · rw [dgs_big h10, List.length_cons]
      have := dgs_len d (n / 10) (by rw [Nat.div_lt_iff_lt_mul (by decide)]; rw [Nat.pow_succ] at h; omega)
      omega
theorem dgs_pos (n : Nat) : 0 < (dgs n).length := by rw [dgs_step]; simp
def decB (n : Int) : ByteArray := strOfNums (dgs n.toNat).reverse
def rvL (l : List Int) (i : Nat) : List Int := (List.range l.length).map fun t => if t < i ∨ l.length ≤ t + i then l.getD (l.length - 1 - t) 0 else l.getD t 0
theorem rvL_len (l : List Int) (i : Nat) : (rvL l i).length = l.length := by simp [rvL]
theorem rvL_get (l : List Int) (i t : Nat) (ht : t < l.length) : (rvL l i)[t]? = some (if t < i ∨ l.length ≤ t + i then l.getD (l.length - 1 - t) 0 else l.getD t 0) := by
  simp [rvL, List.getElem?_map, List.getElem?_range ht]
theorem rvL_getD (l : List Int) (i t : Nat) (ht : t < l.length) : (rvL l i).getD t 0 = if t < i ∨ l.length ≤ t + i then l.getD (l.length - 1 - t) 0 else l.getD t 0 := by
  rw [List.getD_eq_getElem?_getD, rvL_get l i t ht]; rfl
theorem rvL_zero (l : List Int) : rvL l 0 = l := by
  apply List.ext_getElem?
  intro t
  by_cases ht : t < l.length
  · rw [rvL_get l 0 t ht, if_neg (by omega), List.getD_eq_getElem?_getD, List.getElem?_eq_getElem ht]; rfl
  · rw [List.getElem?_eq_none (by rw [rvL_len]; omega), List.getElem?_eq_none (by omega)]
theorem rvL_end (l : List Int) (i : Nat) (hi : l.length ≤ i + i + 1) : rvL l i = l.reverse := by
  apply List.ext_getElem?
  intro t
  by_cases ht : t < l.length
  · rw [rvL_get l i t ht, List.getElem?_reverse ht]
    by_cases hc : t < i ∨ l.length ≤ t + i
    · rw [if_pos hc, List.getD_eq_getElem?_getD, List.getElem?_eq_getElem (show l.length - 1 - t < l.length by omega)]; rfl
    · rw [if_neg hc, show l.length - 1 - t = t by omega, List.getD_eq_getElem?_getD, List.getElem?_eq_getElem ht]; rfl
  · rw [List.getElem?_eq_none (by rw [rvL_len]; omega), List.getElem?_eq_none (by rw [List.length_reverse]; omega)]
theorem rvL_step (l : List Int) (i : Nat) (hi : i + i + 1 < l.length) : ((rvL l i).set i ((rvL l i).getD (l.length - 1 - i) 0)).set (l.length - 1 - i) ((rvL l i).getD i 0) = rvL l (i + 1) := by
  apply List.ext_getElem?
  intro t
  by_cases ht : t < l.length
  · rw [rvL_get l (i + 1) t ht, List.getElem?_set, List.length_set, rvL_len, List.getElem?_set, rvL_len, rvL_get l i t ht, rvL_getD l i i (by omega), rvL_getD l i (l.length - 1 - i) (by omega)]
    by_cases h1 : l.length - 1 - i = t
    · rw [if_pos h1, if_pos (by omega), if_neg (by omega), if_pos (by omega), show l.length - 1 - t = i by omega]
    · rw [if_neg h1]
      by_cases h2 : i = t
      · rw [if_pos h2, if_pos (by omega), if_neg (by omega), if_pos (by omega), h2]
      · rw [if_neg h2]
        by_cases hc : t < i ∨ l.length ≤ t + i
        · rw [if_pos hc, if_pos (by omega)]
        · rw [if_neg hc, if_neg (by omega)]
  · rw [List.getElem?_eq_none (by rw [List.length_set, List.length_set, rvL_len]; omega), List.getElem?_eq_none (by rw [rvL_len]; omega)]
theorem tx_keep {v6 : Value} {l : List Int} {W w1 : World} {v v1 : Value} {e base : Nat} (h : Kd.R (Kd.int .u32) e W base (fun k => some k ≠ v.ownBlock) v6 l) (hg : W.grownBy w1 v.ownBlock) (hat : v1.ownBlock = v.ownBlock ∨ ∃ b, v1.ownBlock = some b ∧ W.heap.size ≤ b) : Kd.R (Kd.int .u32) e w1 base (fun k => some k ≠ v1.ownBlock) v6 l :=
  Kd.R_mono (Kd.R_grown (Kd.R_bound h) hg (fun k hk => hk.1)) (fun k hk => by
    rcases hat with e | ⟨b, e, hb⟩
    · rw [e]; exact hk.1
    · rw [e]; intro e2; have := Option.some.inj e2; have := hk.2.2.1; omega)
theorem tx_info : (Try.prog.info? 5).map (fun i => (i.zero, i.size, i.bytes)) = some (some (.int .u8 0), 1, 1) := by kernel_rfl
theorem tx_put {W : World} {base g n cap : Nat} {ok : Nat → Prop} {l : List Int} (h : Kd.R (Kd.int .u8) 5 W base ok (.slice (some ⟨g, 0, none⟩) n cap) l) (i : Nat) (x : Int) : Kd.R (Kd.int .u8) 5 (W.setCell ⟨g, i, none⟩ (.int .u8 x)) base ok (.slice (some ⟨g, 0, none⟩) n cap) (l.set i x) := Kd.R_putn h (i : Int) x
theorem tx_cell {W : World} {base g n cap : Nat} {ok : Nat → Prop} {l : List Int} (h : Kd.R (Kd.int .u8) 5 W base ok (.slice (some ⟨g, 0, none⟩) n cap) l) (i : Nat) (hi : i < n) : W.cell? ⟨g, i, none⟩ = some (.int .u8 (l.getD i 0)) ∧ W.frozen? ⟨g, i, none⟩ = false := Kd.R_celln 0 h (i : Int) (by omega) (by omega)
theorem tx_far {W : World} {base g n cap : Nat} {ok : Nat → Prop} {l : List Int} (h : Kd.R (Kd.int .u8) 5 W base ok (.slice (some ⟨g, 0, none⟩) n cap) l) (i j : Nat) (hj : j < n) (hij : i ≠ j) (u : Value) : (W.setCell ⟨g, i, none⟩ u).cell? ⟨g, j, none⟩ = some (.int .u8 (l.getD j 0)) ∧ (W.setCell ⟨g, i, none⟩ u).frozen? ⟨g, j, none⟩ = false := by
  obtain ⟨A', c', e⟩ := Kd.R_slice h
  injection e with _ e2 _
  obtain ⟨g', cap', e, _, _, cells, hc⟩ := Kd.R_form h (by rw [← e2]; omega)
  injection e with e1
  have e3 := Option.some.inj e1
  injection e3 with e4
  subst e4
  refine ⟨?_, blk_frozen (blk_set hc i u) j⟩
  rw [← (tx_cell h j hj).1]
  exact World.cell?_setCell_other _ _ _ _ (fun e => hij (by simp at e))

set_option maxHeartbeats 8000000 in
set_option maxRecDepth 100000 in
theorem vendmeterbig_Int_Text.zero (w : World) (x : Nat) (hx : BigA w x 0) :
    Calls Try.prog 57 #[.pointer (some ⟨x, 0, none⟩), .int .i64 10] w fun e w' => e = .returned (.string (decB 0)) ∧ Below w.heap.size w w' := by
  obtain ⟨A, c, l, hx1, hx2, hx3, hx4⟩ := hx
  have hl : l.length = 0 := hx4.nil_iff.2 rfl
  rw [hl] at hx1
  have x1 : w.cell? ⟨x, 1, none⟩ = some (.slice A 0 c) := (blk_cell hx1 1).trans rfl
  clear hx1 hx2 hx3 hx4 hl
  go_enter Try.func57, Try.ntmps57
  go_wp2
  go_ret
  refine ⟨?_, Below.refl _ _⟩
  have e : decB 0 = ⟨#[48]⟩ := by unfold decB; rw [show (0 : Int).toNat = 0 from rfl, dgs_small (by decide)]; decide
  rw [e]
  rfl
set_option maxHeartbeats 8000000 in
set_option maxRecDepth 100000 in
theorem vendmeterbig_Int_Text.at_ (w : World) (x : Nat) (n : Int) (hx : BigA w x n) (hn0 : 0 < n) (hn : n < W32 4) :
    Calls Try.prog 57 #[.pointer (some ⟨x, 0, none⟩), .int .i64 10] w fun e w' => e = .returned (.string (decB n)) ∧ Below w.heap.size w w' := by
  obtain ⟨A, c, l, hx1, hx2, hx3, hx4⟩ := hx
  obtain ⟨N, rfl⟩ : ∃ N : Nat, n = (N : Int) := ⟨n.toNat, by omega⟩
  have hl0 : l.length ≠ 0 := fun h => by have := hx4.nil_iff.1 h; omega
  have hlm : l.length ≤ 4 := hx4.len_le hn
  have x1 : w.cell? ⟨x, 1, none⟩ = some (.slice A l.length c) := (blk_cell hx1 1).trans rfl
  have t1 : (l.length == 0) = false := beq_eq_false_iff_ne.mpr hl0
  have t1i : ((l.length : Int) == 0) = false := beq_eq_false_iff_ne.mpr (by omega)
  have HX := Aside0.mk hx1
  have HC := Aside0.mk hx2
  have HCC := Aside0.mk hx3
  have HW := Aside0.mk hx4
  have HNL := Aside0.mk (show (dgs N).length ≤ 39 from dgs_len 38 N (by have e : W32 4 = 340282366920938463463374607431768211456 := by decide
                                                                        omega))
  have HN0 := Aside0.mk (show 0 < N by omega)
  have HLM := Aside0.mk hlm
  clear hx1 hx2 hx3 hx4 hl0 hlm hn0 hn
  go_enter Try.func57, Try.ntmps57
  go_wp2_with (go_at_call 88; refine (vendmeterbig_twin.calls _ _ l l _ (WC.c HC.out) HCC.out (wtwin_eq l (by have := HLM.out; omega))).mono ?_; rintro e wa ⟨v0, rfl, hR, hb⟩; have HR0 := Aside0.mk hR; have HB0 := Aside0.mk hb; clear hR hb)
  go_loopg [5, 6, 7] N (fun kq v5 v6 v7 w' => ∃ (l dn : List Int), Aside0 (Wd l (kq : Int) ∧ l.length ≤ 1000000) ∧ Aside0 (dn ++ dgs0 kq = dgs N) ∧ Aside0 (Kd.R (Kd.int .u32) 22 w' w.heap.size (fun k => some k ≠ v5.ownBlock) v6 l) ∧ Aside0 (Kd.R (Kd.int .u8) 5 w' w.heap.size (fun _ => True) v5 dn) ∧ Aside0 (Below w.heap.size w w'))
  case atStart => exact ⟨l, [], ⟨HW.out, by have := HLM.out; omega⟩, ⟨by rw [List.nil_append, dgs0, if_neg (by have := HN0.out; omega)]⟩, ⟨Kd.R_mono HR0.out (fun k _ => by simp [Value.ownBlock])⟩, ⟨Kd.R_nil _ _ _ _ _⟩, HB0⟩
  case round =>
    clear HR0 HB0 t1 t1i x1
    obtain ⟨l, dn, HL, HD, H6, H5, HB⟩ := hrel
    obtain ⟨A6, c6, rfl, hc6, hC6⟩ := Kd.R_reads H6.out
    rcases Nat.eq_zero_or_pos gk with hk | hk
    · subst hk
      have hll : l.length = 0 := HL.out.1.nil_iff.2 rfl
      have hdn : dn = dgs N := by have := HD.out; rw [dgs0, if_pos rfl, List.append_nil] at this; exact this
      subst hdn
      obtain ⟨g, cap, rfl, hgb, hgl, _⟩ := Kd.R_form H5.out (dgs_pos N)
      have HG := Aside0.mk hgb
      have x0 : wr.cell? ⟨x, 0, none⟩ = some (.bool false) := (blk_cell (blk_below HX.out HB.out) 0).trans rfl
      obtain ⟨L, hL⟩ : ∃ L, (dgs N).length = L := ⟨_, rfl⟩
      have HLL := Aside0.mk (And.intro hL (show 0 < L by rw [← hL]; exact dgs_pos N))
      have t1 : decide (0 < l.length) = false := decide_eq_false (by omega)
      have t1b : decide ((0 : Int) < (l.length : Int)) = false := decide_eq_false (by omega)
      have hLb : 0 < L ∧ L ≤ 39 := ⟨HLL.out.2, by rw [← hL]; exact HNL.out⟩
      rw [hL] at H5 ⊢
      rw [hll]
      have ej : wrap64 ((L : Int) - 1) = (L : Int) - 1 := ww64 ⟨by omega, by omega⟩
      have eji : IntKind.i64.wrap ((L : Int) - 1) = (L : Int) - 1 := by rw [Go.IntKind.wrap_i64]; omega
      clear hL hll hgb hgl hC6 hc6 H6 HD HL t1 t1b hLb
      go_wp2
      go_loopg [8, 9, 10] L (fun kq v8 v9 v10 w' => ∃ (i : Nat) (jj : Int), v8 = .int .i64 (i : Int) ∧ v9 = .int .i64 jj ∧ Aside0 (jj = (L : Int) - 1 - i ∧ i + i ≤ L ∧ kq = L - i) ∧ Aside0 (Kd.R (Kd.int .u8) 5 w' w.heap.size (fun _ => True) (.slice (some ⟨g, 0, none⟩) L cap) (rvL (dgs N) i)) ∧ Aside0 (Below w.heap.size w w'))
      case atStart => exact ⟨0, (L : Int) - 1, rfl, rfl, ⟨by simp, by omega, by omega⟩, ⟨by rw [rvL_zero]; exact H5.out⟩, HB⟩
      case round =>
        clear H5 HB ej eji x0
        obtain ⟨i, jj, rfl, rfl, HJ, H5, HB⟩ := hrel
        by_cases hlt : (i : Int) < jj
        · obtain ⟨j, rfl⟩ : ∃ j : Nat, jj = (j : Int) := ⟨jj.toNat, by omega⟩
          have hij : i < j := by omega
          have t2 : decide (i < j) = true := decide_eq_true hij
          have hjl : j < L := by have := HJ.out; omega
          have hil : i < L := by omega
          obtain ⟨ci, fi⟩ := tx_cell H5.out i hil
          obtain ⟨cj, fj⟩ := tx_cell H5.out j hjl
          obtain ⟨ai, hai⟩ : ∃ a, (rvL (dgs N) i).getD i 0 = a := ⟨_, rfl⟩
          obtain ⟨aj, haj⟩ : ∃ a, (rvL (dgs N) i).getD j 0 = a := ⟨_, rfl⟩
          have fa := fun u => (tx_far H5.out i j hjl (by omega) u).1
          have fb := fun u => (tx_far H5.out i j hjl (by omega) u).2
          rw [hai] at ci
          rw [haj] at cj fa
          have HA := Aside0.mk (And.intro hai haj)
          have HIJ := Aside0.mk (And.intro hij hjl)
          clear hlt hai haj hij
          go_wp2
          go_roundg (L - (i + 1))
          case measure => have := HIJ.out; have := HJ.out; omega
          case rel =>
            obtain ⟨h1, h2, h3⟩ := HJ.out
            obtain ⟨h4, h5⟩ := HIJ.out
            obtain ⟨e1, e2⟩ := HA.out
            have hl := HLL.out.1
            have hj : j = (dgs N).length - 1 - i := by omega
            have hNL := HNL.out
            refine ⟨i + 1, (j : Int) - 1, by rw [ww64 ⟨by omega, by omega⟩]; rfl, by rw [ww64 ⟨by omega, by omega⟩], ⟨by omega, by omega, rfl⟩, ⟨?_⟩, ⟨below_set (below_set HB.out HG.out) HG.out⟩⟩
            rw [← rvL_step (dgs N) i (by omega), ← hj, e1, e2]
            exact tx_put (tx_put H5.out i aj) j ai
        · have t2 : decide ((i : Int) < jj) = false := decide_eq_false hlt
          have he := rvL_end (dgs N) i (by have := HJ.out; have := HLL.out.1; omega)
          rw [he] at H5
          have hCC := Kd.R_reads H5.out
          obtain ⟨A9, c9, e9, hc9, hC9⟩ := hCC
          injection e9 with e91 e92 e93
          subst e91; subst e93
          rw [← e92] at hC9
          have hcv := Kd.C_string (P := Try.prog) (A := some ⟨g, 0, none⟩) (c := cap) Try.underlying90 Try.underlying5 Try.underlying9 hC9
          clear hC9 hc9 e92 hlt he
          go_wp2
          go_ret
          exact ⟨rfl, HB.out⟩
    · have hll : 0 < l.length := by
        rcases Nat.eq_zero_or_pos l.length with h | h
        · have := HL.out.1.nil_iff.1 h; omega
        · exact h
      have t1 : decide (0 < l.length) = true := decide_eq_true hll
      obtain ⟨q, hq1, hq2, hq3⟩ := wsmall_ev HL.out.1 (d := 10) ⟨by decide, by decide⟩ HL.out.2
      obtain ⟨ks, hks⟩ := Ev.rounds hq1
      obtain ⟨rr, hrr⟩ : ∃ rr : Int, (gk : Int) % 10 = rr := ⟨_, rfl⟩
      rw [hrr] at hks
      have hrb : 0 ≤ rr ∧ rr < 10 := by omega
      have t2 : decide (rr < 10) = true := decide_eq_true hrb.2
      obtain ⟨cc, hcc⟩ : ∃ cc : Int, 48 + rr = cc := ⟨_, rfl⟩
      have e1 : (48 + rr) % 4294967296 = cc := by omega
      have e2 : cc % 256 = cc := by omega
      have HKS := Aside0.mk hks
      have H6C := Aside0.mk hC6
      have HC6 := Aside0.mk hc6
      have hdl : dn.length ≤ 39 := by
        have h1 := congrArg List.length HD.out
        rw [List.length_append] at h1
        have := HNL.out
        omega
      have HDL := Aside0.mk hdl
      have hge : ((gk / 10 : Nat) : Int) = (gk : Int) / 10 := by omega
      have HQ := Aside0.mk (show Wd q ((gk / 10 : Nat) : Int) ∧ q.length ≤ 1000000 from ⟨by rw [hge]; exact hq2, by have := HL.out.2; omega⟩)
      have HDN := Aside0.mk (show (dn ++ [cc]) ++ dgs0 (gk / 10) = dgs N by
        have h := HD.out
        rw [dgs0, if_neg (by omega), dgs_step] at h
        rw [← h, List.append_assoc]
        congr 1
        simp
        omega)
      have HGK := Aside0.mk hk
      clear hge hk hll hq1 hq2 hq3 hks hrr hrb hcc hC6 hc6 hdl
      go_wp2_with (first | (go_at_call 89; refine (vendmeterbig_small.calls ks _ _ l 10 q rr _ H6C.out HC6.out HKS.out).mono ?_; rintro e wb ⟨v0, rfl, hR, hb⟩; have I5 := Aside0.mk (Kd.R_below H5.out hb); have I6 := Aside0.mk (Kd.R_mono (Kd.R_lower (Kd.R_new hR (Kd.R_own H5.out).choose_spec) HB.out.size) (fun k hk => hk.2)); have IB := Aside0.mk (below_then HB.out HB.out.size hb); clear hR hb) | ((with_reducible refine gate_builtin (b := .append) (xs := #[.tmp 36, .tmp 40]) rfl ?_); at_builtin; refine Kd.R_append (Kd.int .u8) (w0 := w) w.heap.size rfl (.tmp 36) (.tmp 40) 90 5 (.int .u8 0) 1 rfl Try.underlying90 tx_info rfl (by decide) (by omega) u5 dn cc [.int .u8 cc] (fun _ => True) (fun _ => False) rfl rfl rfl (fun _ hk => hk.elim) (fun _ _ => trivial) I5.out IB.out IB.out.size (by have := HDL.out; omega) ?_; intro v9 wc ho hb hg hat; have J5 := Aside0.mk ho; have J6 := Aside0.mk (tx_keep I6.out hg hat); have JB := Aside0.mk hb; clear ho hb hg hat))
      go_roundg (gk / 10)
      case measure => have := HGK.out; omega
      case rel => exact ⟨q, dn ++ [cc], HQ, HDN, J6, J5, JB⟩
set_option maxHeartbeats 8000000 in
set_option maxRecDepth 100000 in
theorem vendmeterbig_Int_Text.all (w : World) (x : Nat) (n : Int) (hx : BigA w x n) (hn : n < W32 4) :
    Calls Try.prog 57 #[.pointer (some ⟨x, 0, none⟩), .int .i64 10] w fun e w' => e = .returned (.string (decB n)) ∧ Below w.heap.size w w' := by
  rcases Int.lt_or_le 0 n with h | h
  · exact vendmeterbig_Int_Text.at_ w x n hx h hn
  · have h0 := hx.pos
    obtain rfl : n = 0 := by omega
    exact vendmeterbig_Int_Text.zero w x hx
set_option maxHeartbeats 8000000 in
set_option maxRecDepth 100000 in
theorem vendmeterbig_Int_String.at_ (w : World) (x : Nat) (n : Int) (hx : BigA w x n) (hn : n < W32 4) :
    Calls Try.prog 25 #[.pointer (some ⟨x, 0, none⟩)] w fun e w' => e = .returned (.string (decB n)) ∧ Below w.heap.size w w' := by
  have HX := Aside0.mk hx
  have HN := Aside0.mk hn
  clear hx hn
  go_enter Try.func25, Try.ntmps25
  go_wp2_with (go_at_call 57; refine (vendmeterbig_Int_Text.all _ x n HX.out HN.out).mono ?_; rintro e wa ⟨rfl, hb⟩; have HB := Aside0.mk hb; clear hb)
  go_ret
  exact ⟨rfl, HB.out⟩

/-- A text with noughts ahead, to a length. -/
def padB (s : ByteArray) : Nat → ByteArray
  | 0 => s
  | n + 1 => (⟨#[48]⟩ : ByteArray) ++ padB s n
theorem padB_size (s : ByteArray) : ∀ n, (padB s n).size = s.size + n
  | 0 => rfl
  | n + 1 => by simp only [padB]; rw [ByteArray.size_append, padB_size s n]; show 1 + _ = _; omega

set_option maxHeartbeats 8000000 in
set_option maxRecDepth 100000 in
theorem vendmeterref_Formatted.bad (w : World) (k : Nat) (c i a t er : Int) (hf : vendmeterref_TokenFault.f k c i a t = some er) (he : er ≠ 0) :
    Calls Try.prog 13 #[.agg #[.int .i64 c, .int .i64 i, .int .i64 a, .int .i64 t]] w fun e w' => e = .returned (.tuple #[.string ⟨#[]⟩, .int .i64 er]) ∧ Below w.heap.size w w' := by
  have hu28 := Try.underlying28
  have HF := Aside0.mk hf
  have t1 : (er != 0) = true := bne_iff_ne.mpr he
  have t2 : (er == 0) = false := beq_eq_false_iff_ne.mpr he
  have HB := Aside0.mk (below_alloc (Below.refl w.heap.size w) (.cells #[.int .i64 c, .int .i64 i, .int .i64 a, .int .i64 t] 28))
  clear hf he
  go_enter Try.func13, Try.ntmps13
  go_wp2_with (go_at_call 29; refine (vendmeterref_TokenFault.calls k _ _ _ _ _ _ HF.out).mono ?_; rintro e wa ⟨rfl, hb⟩; have JB := Aside0.mk (below_then HB.out HB.out.size hb); clear hb)
  go_ret2
  exact ⟨rfl, JB.out⟩
set_option maxHeartbeats 8000000 in
set_option maxRecDepth 100000 in
theorem vendmeterref_Formatted.at_ (w : World) (k k2 : Nat) (c i a t b : Int) (hf : vendmeterref_TokenFault.f k c i a t = some 0) (hf2 : vendmeterref_BodyOf.f k2 c i a t = some (b, 0)) (hb : 0 ≤ b ∧ b ≤ 8796093022207) (ht : 0 ≤ t ∧ t ≤ 65535) (hs : (decB ((b * 65536 + t) * 97)).size ≤ 20) :
    Calls Try.prog 13 #[.agg #[.int .i64 c, .int .i64 i, .int .i64 a, .int .i64 t]] w fun e w' => e = .returned (.tuple #[.string (padB (decB ((b * 65536 + t) * 97)) (20 - (decB ((b * 65536 + t) * 97)).size)), .int .i64 0]) ∧ Below w.heap.size w w' := by
  have hu28 := Try.underlying28
  have HF := Aside0.mk hf
  have HF2 := Aside0.mk hf2
  have HBD := Aside0.mk (And.intro hb ht)
  have HB := Aside0.mk (below_alloc (Below.refl w.heap.size w) (.cells #[.int .i64 c, .int .i64 i, .int .i64 a, .int .i64 t] 28))
  have H1 := Aside0.mk (blk_new w (.cells #[.int .i64 c, .int .i64 i, .int .i64 a, .int .i64 t] 28))
  have W3 := Aside0.mk (show W32 4 = 340282366920938463463374607431768211456 by decide)
  obtain ⟨S, hS⟩ : ∃ S, decB ((b * 65536 + t) * 97) = S := ⟨_, rfl⟩
  have HS := Aside0.mk hS
  rw [hS] at hs ⊢
  have HSZ := Aside0.mk hs
  clear hf hf2 hb ht hs hS
  go_enter Try.func13, Try.ntmps13
  go_upto_region 5 with (first | (go_at_call 29; refine (vendmeterref_TokenFault.calls k _ _ _ _ _ _ HF.out).mono ?_; rintro e wa ⟨rfl, hb⟩; have J1 := Aside0.mk (blk_below H1.out hb); have JB := Aside0.mk (below_then HB.out HB.out.size hb); have y0_ : wa.cell? ⟨w.heap.size, 0, none⟩ = some (.int .i64 c) := (blk_cell J1.out 0).trans rfl; have y1_ : wa.cell? ⟨w.heap.size, 1, none⟩ = some (.int .i64 i) := (blk_cell J1.out 1).trans rfl; have y2_ : wa.cell? ⟨w.heap.size, 2, none⟩ = some (.int .i64 a) := (blk_cell J1.out 2).trans rfl; have y3_ : wa.cell? ⟨w.heap.size, 3, none⟩ = some (.int .i64 t) := (blk_cell J1.out 3).trans rfl; clear hb) | (go_at_call 31; refine (vendmeterref_numberOf.at_ _ k2 c i a t b HF2.out HBD.out.1 HBD.out.2).mono ?_; rintro e wb ⟨g, rfl, hg, hA, hb⟩; have A1 := Aside0.mk hA; have KB := Aside0.mk (below_then JB.out JB.out.size hb); clear hg hA hb y0_ y1_ y2_ y3_) | (go_at_call 25; refine (vendmeterbig_Int_String.at_ wb g _ A1.out (by have := HBD.out; rw [W3.out]; omega)).mono ?_; rw [HS.out]; rintro e wc ⟨rfl, hb⟩; have LB := Aside0.mk (below_then KB.out KB.out.size hb); clear hb))
  go_loopg [5] (20 - S.size) (fun kq v5 w' => ∃ (n : Nat) (s : ByteArray), v5 = .string s ∧ Aside0 (s = padB S n ∧ n ≤ 20 - S.size ∧ kq = 20 - S.size - n) ∧ Aside0 (Below w.heap.size w w'))
  case atStart => exact ⟨0, S, rfl, ⟨rfl, Nat.zero_le _, rfl⟩, LB⟩
  case round =>
    clear LB
    obtain ⟨n, s, rfl, HI, HB⟩ := hrel
    have hz : s.size = S.size + n := by rw [HI.out.1]; exact padB_size S n
    by_cases hlt : n < 20 - S.size
    · have t1 : decide (s.size < 20) = true := decide_eq_true (by omega)
      have t1b : decide ((s.size : Int) < 20) = true := decide_eq_true (by omega)
      have p1 : (9223372036854775807 < 1 + s.size) = False := eq_false (by omega)
      have p2 : (1 + s.size ≤ 9223372036854775807) = True := eq_true (by omega)
      have HL := Aside0.mk hlt
      clear hz hlt
      go_wp2
      go_roundg (20 - S.size - (n + 1))
      case measure => have := HL.out; have := HI.out; omega
      case rel => exact ⟨n + 1, _, rfl, ⟨by rw [HI.out.1]; rfl, HL.out, rfl⟩, HB⟩
    · have t1 : decide (s.size < 20) = false := decide_eq_false (by have := HSZ.out; omega)
      have t1b : decide ((s.size : Int) < 20) = false := decide_eq_false (by have := HSZ.out; omega)
      have HN := Aside0.mk (show n = 20 - S.size by have := HI.out; omega)
      clear hz hlt
      go_wp2
      go_ret2
      exact ⟨by rw [HI.out.1, HN.out]; rfl, HB.out⟩

/-! ### vendmeterref_Formatted: function 13 (by hand) -/
def vendmeterref_Formatted.f (k : Nat) (a0_0 : Int) (a0_1 : Int) (a0_2 : Int) (a0_3 : Int) : Option (ByteArray × Int) := (vendmeterref_TokenFault.f k a0_0 a0_1 a0_2 a0_3).bind fun er => if er = 0 then ((vendmeterref_BodyOf.f k a0_0 a0_1 a0_2 a0_3).bind fun b => if (0 ≤ b.1 ∧ b.1 ≤ 8796093022207) ∧ (0 ≤ a0_3 ∧ a0_3 ≤ 65535) ∧ b.2 = 0 ∧ (decB ((b.1 * 65536 + a0_3) * 97)).size ≤ 20 then some (padB (decB ((b.1 * 65536 + a0_3) * 97)) (20 - (decB ((b.1 * 65536 + a0_3) * 97)).size), 0) else none) else some ((⟨#[]⟩ : ByteArray), er)
theorem vendmeterref_Formatted.mono : ∀ a0_0 a0_1 a0_2 a0_3 k, LeO (vendmeterref_Formatted.f k a0_0 a0_1 a0_2 a0_3) (vendmeterref_Formatted.f (k + 1) a0_0 a0_1 a0_2 a0_3) := by
  intro a0_0 a0_1 a0_2 a0_3 k
  unfold vendmeterref_Formatted.f
  repeat' first
    | (with_reducible exact vendmeterref_TokenFault.mono _ _ _ _ _)
    | (with_reducible exact vendmeterref_BodyOf.mono _ _ _ _ _)
    | (with_reducible exact LeO.refl _)
    | (with_reducible refine LeO.ite ?_ ?_)
    | (with_reducible refine LeO.bind ?_ (fun _ => ?_))
theorem vendmeterref_Formatted.calls (k : Nat) (a0_0 : Int) (a0_1 : Int) (a0_2 : Int) (a0_3 : Int) (r1 : ByteArray) (r2 : Int) (w : World) (h : vendmeterref_Formatted.f k a0_0 a0_1 a0_2 a0_3 = some (r1, r2)) :
    Calls Try.prog 13 #[.agg #[.int .i64 a0_0, .int .i64 a0_1, .int .i64 a0_2, .int .i64 a0_3]] w fun e w' => e = .returned (.tuple #[.string r1, .int .i64 r2]) ∧ Below w.heap.size w w' := by
  unfold vendmeterref_Formatted.f at h
  obtain ⟨er, hf, h⟩ := Option.bind_eq_some_iff.mp h
  split at h
  · rename_i h0
    subst h0
    obtain ⟨⟨b, e2⟩, hf2, h⟩ := Option.bind_eq_some_iff.mp h
    split at h
    · rename_i hc
      simp only [Option.some.injEq, Prod.mk.injEq] at h
      obtain ⟨rfl, rfl⟩ := h
      simp only at hc
      obtain rfl : e2 = 0 := hc.2.2.1
      exact vendmeterref_Formatted.at_ w k k a0_0 a0_1 a0_2 a0_3 b hf hf2 hc.1 hc.2.1 hc.2.2.2
    · cases h
  · rename_i h0
    simp only [Option.some.injEq, Prod.mk.injEq] at h
    obtain ⟨rfl, rfl⟩ := h
    exact vendmeterref_Formatted.bad w k a0_0 a0_1 a0_2 a0_3 er hf h0

end Go.Proofs.Ytoookcmablnjfaa.PTokenFormats
