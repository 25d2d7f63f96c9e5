-- written by this session's program wip/xp/xprint.py (it drives the kit's print and adds to it)
import Derived.Test.YtocolmpfpbclbaaGreatDoorPReceiptShowsx0
import Derived.Test.YtocolmpfpbclbaaGreatDoorPReceiptShowsx1
import Derived.Test.YtocolmpfpbclbaaGreatDoorPReceiptShowsx3
import Derived.Test.YtocolmpfpbclbaaGreatDoorPReceiptShowsx6
import Derived.Test.YtocolmpfpbclbaaGreatDoorPReceiptShowsx7
import Derived.Test.YtocolmpfpbclbaaGreatDoorPReceiptShowsx8
namespace Go.Proofs.YtocolmpfpbclbaaGreatDoor.PReceiptShows
open Go.RowKit Go.Proofs.YtocolmpfpbclbaaGreatDoorW.PrintWords Go.Proofs.YtocolmpfpbclbaaGreatDoorW.PrintLast Go.Proofs.YtocolmpfpbclbaaGreatDoorW.PrintMore
attribute [local go_sem] max2_int min2_int max_two min_two max_three min_three max_four min_four
set_option linter.unusedVariables false
set_option linter.unusedSimpArgs false

/-! ### trim -/
theorem wtrim_l0 (l : List Int) (hl : l.length ≤ 1000000) : ∀ n : Nat, n ≤ l.length → wval (l.take n) = wval l → ∃ m, m ≤ l.length ∧ Ev (fun k => vendmeterbig_trim.l0 k l (n : Int)) (l.take m) ∧ wtr (l.take m) ∧ wval (l.take m) = wval l
 | 0, hn, hv => by
  refine ⟨0, hn, Ev.step (f := fun _ => some (l.take 0)) (fun k => ?_) (Ev.now _), .inl rfl, hv⟩
  simp only [vendmeterbig_trim.l0]
  rw [if_neg (by omega), if_pos (by omega), if_pos (by omega)]
  rfl
 | n + 1, hn, hv => by
  have h1 : wrap64 (((n + 1 : Nat) : Int) - 1) = (n : Int) := by rw [ww64 ⟨by omega, by omega⟩]; omega
  by_cases hc : l.getD n 0 = 0
  ·
   obtain ⟨m, hm, he, ht, hw⟩ := wtrim_l0 l hl n (by omega) (by rw [← hv, wval_take l n (by omega), hc]; omega)
   refine ⟨m, hm, Ev.step (fun k => ?_) he, ht, hw⟩
   simp only [vendmeterbig_trim.l0, h1, wrd]
   rw [if_pos (by omega), if_pos (by omega), if_pos (by omega), if_pos hc]
  ·
   refine ⟨n + 1, hn, Ev.step (f := fun _ => some (l.take (n + 1))) (fun k => ?_) (Ev.now _), .inr ?_, hv⟩
   ·
    simp only [vendmeterbig_trim.l0, h1, wrd]
    rw [if_pos (by omega), if_pos (by omega), if_pos (by omega), if_neg hc, if_pos (by omega), if_pos (by omega)]
    rfl
   ·
    rw [List.length_take, Nat.min_eq_left hn]
    have : (l.take (n + 1)).getD n 0 = l.getD n 0 := by
     rw [List.getD_eq_getElem?_getD, List.getElem?_take_of_lt (by omega), List.getD_eq_getElem?_getD]
    simpa [this] using hc
theorem wtrim_ev (l : List Int) (h : wok l) (hl : l.length ≤ 1000000) : ∃ r, Ev (fun k => vendmeterbig_trim.f k l) r ∧ Wd r (wval l) ∧ r.length ≤ l.length := by
 obtain ⟨m, hm, he, ht, hw⟩ := wtrim_l0 l hl l.length (Nat.le_refl _) (by rw [List.take_length])
 exact ⟨l.take m, he, ⟨h.take m, ht, hw⟩, by rw [List.length_take]; omega⟩
/-! ### words -/
theorem wwords_ev (a : Int) (h : 0 ≤ a ∧ a < 18446744073709551616) : ∃ r, Ev (fun k => vendmeterbig_words.f k a) r ∧ Wd r a ∧ r.length ≤ 2 := by
 obtain ⟨r, h1, h2, h3⟩ := wtrim_ev [a % 4294967296, a / 4294967296 % 4294967296] (fun y hy => by simp at hy; omega) (by simp)
 refine ⟨r, Ev.bind h1 (Ev.now _), ?_, h3⟩
 have : wval [a % 4294967296, a / 4294967296 % 4294967296] = a := by simp only [wval]; omega
 rwa [this] at h2
/-! ### cmp -/
def wcmp (a b : Int) : Int := if a = b then 0 else if a < b then -1 else 1
theorem wcmp_l0 (x y : List Int) (hx : wok x) (hy : wok y) (hl : x.length = y.length) (hb : x.length ≤ 1000000) : ∀ n : Nat, n ≤ x.length → wval x - wval y = wval (x.take n) - wval (y.take n) → Ev (fun k => vendmeterbig_cmp.l0 k x y ((n : Int) - 1)) (wcmp (wval x) (wval y))
 | 0, hn, hv => by
  refine Ev.step (f := fun _ => some 0) (fun k => ?_) (WEv.ret ?_)
  ·
   simp only [vendmeterbig_cmp.l0]; rw [if_neg (by omega)]
  ·
   simp only [List.take_zero, wval] at hv; unfold wcmp; rw [if_pos (by omega)]
 | n + 1, hn, hv => by
  have h1 : ((n + 1 : Nat) : Int) - 1 = (n : Int) := by omega
  have h2 : wrap64 ((n : Int) - 1) = (n : Int) - 1 := ww64 ⟨by omega, by omega⟩
  rw [wval_take x n (by omega), wval_take y n (by omega)] at hv
  have tx := wval_lt (hx.take n)
  have ty := wval_lt (hy.take n)
  have nx := wval_nonneg (hx.take n)
  have ny := wval_nonneg (hy.take n)
  rw [List.length_take, Nat.min_eq_left (by omega)] at tx ty
  rw [h1]
  by_cases hc : x.getD n 0 = y.getD n 0
  ·
   refine Ev.step (fun k => ?_) (wcmp_l0 x y hx hy hl hb n (by omega) (by rw [hc] at hv; omega))
   simp only [vendmeterbig_cmp.l0, wrd, h2]
   rw [if_pos (by omega), if_pos (by omega), if_pos (by omega), if_pos (by omega), if_pos hc]
  ·
   by_cases hlt : x.getD n 0 < y.getD n 0
   ·
    refine Ev.step (f := fun _ => some (-1)) (fun k => ?_) (WEv.ret ?_)
    ·
     simp only [vendmeterbig_cmp.l0, wrd, h2]
     rw [if_pos (by omega), if_pos (by omega), if_pos (by omega), if_pos (by omega), if_neg hc, if_pos hlt]
    ·
     have := Int.mul_le_mul_of_nonneg_left (show x.getD n 0 + 1 ≤ y.getD n 0 by omega) (Int.le_of_lt (W32.pos n))
     have e : W32 n * (x.getD n 0 + 1) = W32 n * x.getD n 0 + W32 n := by rw [Int.mul_add, Int.mul_one]
     unfold wcmp; rw [if_neg (by omega), if_pos (by omega)]
   ·
    refine Ev.step (f := fun _ => some 1) (fun k => ?_) (WEv.ret ?_)
    ·
     simp only [vendmeterbig_cmp.l0, wrd, h2]
     rw [if_pos (by omega), if_pos (by omega), if_pos (by omega), if_pos (by omega), if_neg hc, if_neg hlt]
    ·
     have := Int.mul_le_mul_of_nonneg_left (show y.getD n 0 + 1 ≤ x.getD n 0 by omega) (Int.le_of_lt (W32.pos n))
     have e : W32 n * (y.getD n 0 + 1) = W32 n * y.getD n 0 + W32 n := by rw [Int.mul_add, Int.mul_one]
     unfold wcmp; rw [if_neg (by omega), if_neg (by omega)]
theorem wcmp_ev {x y : List Int} {a b : Int} (hx : Wd x a) (hy : Wd y b) (hbx : x.length ≤ 1000000) : Ev (fun k => vendmeterbig_cmp.f k x y) (wcmp a b) := by
 unfold vendmeterbig_cmp.f
 by_cases hl : x.length = y.length
 ·
  refine WEv.pos (by omega) ?_
  rw [ww64 (a := (x.length : Int) - 1) ⟨by omega, by omega⟩]
  have := wcmp_l0 x y hx.ok hy.ok hl hbx x.length (Nat.le_refl _) (by rw [List.take_length, hl, List.take_length])
  rw [hx.val, hy.val] at this
  exact this
 ·
  refine WEv.neg (by omega) ?_
  rcases Nat.lt_or_ge x.length y.length with g | g
  ·
   have := hx.len_lt hy g
   exact WEv.pos (by omega) (WEv.ret (by unfold wcmp; rw [if_neg (by omega), if_pos (by omega)]))
  ·
   have := hy.len_lt hx (by omega)
   exact WEv.neg (by omega) (WEv.ret (by unfold wcmp; rw [if_neg (by omega), if_neg (by omega)]))
/-! ### sub -/
theorem wsub_d {x c y : Int} (hx : 0 ≤ x ∧ x < 4294967296) (hc : 0 ≤ c ∧ c ≤ 1) (hy : 0 ≤ y ∧ y < 4294967296) :
  0 ≤ IntKind.u64.wrap (IntKind.u64.wrap (IntKind.u64.wrap x - c) - IntKind.u64.wrap y) / 9223372036854775808 ∧ IntKind.u64.wrap (IntKind.u64.wrap (IntKind.u64.wrap x - c) - IntKind.u64.wrap y) / 9223372036854775808 ≤ 1 ∧
  IntKind.u64.wrap (IntKind.u64.wrap (IntKind.u64.wrap x - c) - IntKind.u64.wrap y) % 4294967296 = x - c - y + 4294967296 * (IntKind.u64.wrap (IntKind.u64.wrap (IntKind.u64.wrap x - c) - IntKind.u64.wrap y) / 9223372036854775808) := by
 rw [wu64 (a := x) ⟨hx.1, by omega⟩, wu64 (a := y) ⟨hy.1, by omega⟩]
 have key : IntKind.u64.wrap (IntKind.u64.wrap (x - c) - y) = if 0 ≤ x - c - y then x - c - y else x - c - y + 18446744073709551616 := by
  have h1 : IntKind.u64.wrap (IntKind.u64.wrap (x - c) - y) = (x - c - y) % 18446744073709551616 := by
   rw [Go.IntKind.wrap_u64, Go.IntKind.wrap_u64, Int.sub_emod, Int.emod_emod, ← Int.sub_emod]
  rw [h1]
  split <;> omega
 rw [key]
 split <;> omega
theorem wsub_u (a : Int) : 0 ≤ IntKind.u64.wrap a ∧ IntKind.u64.wrap a < 18446744073709551616 := by rw [Go.IntKind.wrap_u64]; omega
theorem wsub_e {x c y : Int} (hx : 0 ≤ x ∧ x < 4294967296) (hc : 0 ≤ c ∧ c ≤ 1) (hy : 0 ≤ y ∧ y < 4294967296) :
  ∃ v c', Aside0 (IntKind.u64.wrap (IntKind.u64.wrap (IntKind.u64.wrap x - c) - IntKind.u64.wrap y) % 4294967296 = v ∧ IntKind.u64.wrap (IntKind.u64.wrap (IntKind.u64.wrap x - c) - IntKind.u64.wrap y) / 9223372036854775808 = c') ∧ (0 ≤ c' ∧ c' ≤ 1) ∧ (0 ≤ v ∧ v < 4294967296) ∧ v = x - c - y + 4294967296 * c' :=
 have h := wsub_d hx hc hy
 ⟨_, _, ⟨rfl, rfl⟩, ⟨h.1, h.2.1⟩, ⟨Int.emod_nonneg _ (by decide), Int.emod_lt_of_pos _ (by decide)⟩, h.2.2⟩
theorem wsub_f {x c : Int} (hx : 0 ≤ x ∧ x < 4294967296) (hc : 0 ≤ c ∧ c ≤ 1) :
  ∃ v c', Aside0 (IntKind.u64.wrap (IntKind.u64.wrap x - c) % 4294967296 = v ∧ IntKind.u64.wrap (IntKind.u64.wrap x - c) / 9223372036854775808 = c') ∧ (0 ≤ c' ∧ c' ≤ 1) ∧ (0 ≤ v ∧ v < 4294967296) ∧ v = x - c + 4294967296 * c' := by
 have h := wsub_e hx hc (show (0:Int) ≤ 0 ∧ (0:Int) < 4294967296 by decide)
 rw [show IntKind.u64.wrap 0 = 0 from wu64 (by decide), Int.sub_zero, wu64 (wsub_u (IntKind.u64.wrap x - c)), Int.sub_zero] at h
 exact h
theorem wn1 {i n : Nat} (h : i < n) (hn : n ≤ 1000000) : Aside0 (wrap64 ((i : Int) + 1) = ((i + 1 : Nat) : Int)) := ⟨by rw [ww64 ⟨by omega, by omega⟩]; omega⟩
theorem wsub_l0 (x y : List Int) (hx : wok x) (hy : wok y) (hl : y.length ≤ x.length) (hb : x.length ≤ 1000000) (hge : wval y ≤ wval x) : ∀ (d i : Nat) (o : List Int) (c : Int), i + d = x.length → o.length = x.length → wok o → (0 ≤ c ∧ c ≤ 1) → wval (o.take i) = wval (x.take i) - wval (y.take i) + c * W32 i →
  ∃ r, Ev (fun k => vendmeterbig_sub.l0 k x y o c (i : Int)) r ∧ Wd r (wval x - wval y) ∧ r.length ≤ x.length
 | 0, i, o, c, hi, ho, hk, hc, hv => by
  obtain ⟨r, h1, h2, h3⟩ := wtrim_ev o hk (by omega)
  have hix : i = x.length := by omega
  rw [hix, wval_take_over x _ (Nat.le_refl _), wval_take_over y _ hl, wval_take_over o _ (by omega)] at hv
  have hc0 : c = 0 := by
   rcases (show c = 0 ∨ c = 1 by omega) with g | g
   ·
    exact g
   ·
    have := wval_lt hk
    rw [ho] at this
    rw [g] at hv
    omega
  rw [hc0] at hv
  have hv : wval o = wval x - wval y := by omega
  rw [hv] at h2
  refine ⟨r, Ev.step (f := fun k => (vendmeterbig_trim.f k o).bind fun t => some t) (fun k => ?_) (Ev.bind h1 (Ev.now _)), h2, by omega⟩
  simp only [vendmeterbig_sub.l0]; rw [if_neg (by omega)]
 | d + 1, i, o, c, hi, ho, hk, hc, hv => by
  have bx := hx.at_ i
  have hi1 := wn1 (show i < x.length by omega) hb
  by_cases hy1 : i < y.length
  ·
   obtain ⟨v, c', he, hc', hv', e⟩ := wsub_e bx hc (hy.at_ i)
   obtain ⟨r, h1, h2⟩ := wsub_l0 x y hx hy hl hb hge d (i + 1) (o.set i v) c' (by omega) (by rw [List.length_set]; exact ho) (hk.set i hv') hc' (by
    rw [wval_take_set o i _ (by omega), hv, wval_take x i (by omega), wval_take y i hy1, e, W32.succ]
    grind)
   refine ⟨r, Ev.step (fun k => ?_) h1, h2⟩
   simp only [vendmeterbig_sub.l0, wrd, he.out.1, he.out.2, Int.toNat_natCast, hi1.out]
   rw [if_pos (by omega), if_pos (by omega), if_pos (by omega), if_pos (by omega)]
  ·
   obtain ⟨v, c', he, hc', hv', e⟩ := wsub_f bx hc
   obtain ⟨r, h1, h2⟩ := wsub_l0 x y hx hy hl hb hge d (i + 1) (o.set i v) c' (by omega) (by rw [List.length_set]; exact ho) (hk.set i hv') hc' (by
    rw [wval_take_set o i _ (by omega), hv, wval_take x i (by omega), wval_take_over y i (by omega), wval_take_over y (i + 1) (by omega), e, W32.succ]
    grind)
   refine ⟨r, Ev.step (fun k => ?_) h1, h2⟩
   simp only [vendmeterbig_sub.l0, wrd, he.out.1, he.out.2, Int.toNat_natCast, hi1.out]
   rw [if_pos (by omega), if_pos (by omega), if_neg (by omega), if_pos (by omega)]
theorem wsub_ev {x y : List Int} {a b : Int} (hx : Wd x a) (hy : Wd y b) (hbx : x.length ≤ 1000000) (hab : b ≤ a) : ∃ r, Ev (fun k => vendmeterbig_sub.f k x y) r ∧ Wd r (a - b) ∧ r.length ≤ x.length := by
 have hl : y.length ≤ x.length := by
  rcases Nat.lt_or_ge x.length y.length with g | g
  ·
   have := hx.len_lt hy g; omega
  ·
   exact g
 obtain ⟨r, h1, h2, h3⟩ := wsub_l0 x y hx.ok hy.ok hl hbx (by rw [hx.val, hy.val]; exact hab) x.length 0 (List.replicate x.length 0) 0 (by omega) (by simp) (wok.replicate _) (by decide) (by simp [wval])
 rw [hx.val, hy.val] at h2
 refine ⟨r, ?_, h2, h3⟩
 unfold vendmeterbig_sub.f
 exact WEv.pos (by omega) (WEv.pos (by omega) h1)
theorem winfo : (Tryz.prog.info? 84).map (fun i => (i.zero, i.size, i.bytes)) = some (some (.int .u32 0), 1, 4) := by kernel_rfl
/-! ### rows of words -/
theorem wput {W : World} {base g n cap : Nat} {ok : Nat → Prop} {l : List Int} (h : Kd.R (Kd.int .u32) 84 W base ok (.slice (some ⟨g, 0, none⟩) n cap) l) (i : Nat) (x : Int) : Kd.R (Kd.int .u32) 84 (W.setCell ⟨g, i, none⟩ (.int .u32 x)) base ok (.slice (some ⟨g, 0, none⟩) n cap) (l.set i x) := Kd.R_putn h (i : Int) x
theorem wcell {W : World} {base g n cap : Nat} {ok : Nat → Prop} {l : List Int} (h : Kd.R (Kd.int .u32) 84 W base ok (.slice (some ⟨g, 0, none⟩) n cap) l) (i : Nat) (hi : i < n) : W.cell? ⟨g, i, none⟩ = some (.int .u32 (l.getD i 0)) ∧ W.frozen? ⟨g, i, none⟩ = false := Kd.R_celln 0 h (i : Int) (by omega) (by omega)
theorem wread {w W : World} {A : Option Addr} {x : List Int} (h : Kd.C (Kd.int .u32) w A x.length x) (hb : Below w.heap.size w W) (i : Nat) (hi : i < x.length) : ∃ ad, A = some ad ∧ W.cell? (ad.add i) = some (.int .u32 (x.getD i 0)) := by
 obtain ⟨ad, e, hc⟩ := Kd.at_int h (i : Int) (by omega) (by omega)
 refine ⟨ad, e, ?_⟩
 rw [Int.toNat_natCast, wrd] at hc
 exact (hb.cell (World.block_lt_of_cell? w _ hc)).trans hc
theorem wR_len {W : World} {base n cap : Nat} {A : Option Addr} {ok : Nat → Prop} {l : List Int} (h : Kd.R (Kd.int .u32) 84 W base ok (.slice A n cap) l) : l.length = n := by
 obtain ⟨A', c', e⟩ := Kd.R_slice h
 injection e with _ e2 _
 exact e2.symm
theorem wblk {W : World} {base g n cap : Nat} {ok : Nat → Prop} {l : List Int} (h : Kd.R (Kd.int .u32) 84 W base ok (.slice (some ⟨g, 0, none⟩) n cap) l) (hn : 0 < n) : ∃ cells, W.heap[g]? = some (.cells cells 84 (0, 0)) := by
 obtain ⟨g', cap', e, _, _, cells, hc⟩ := Kd.R_form h (by rw [wR_len h]; exact hn)
 injection e with e1
 injection e1 with e1
 injection e1 with e1
 exact ⟨cells, by rw [e1]; exact hc⟩
theorem wfar {W : World} {base g n cap : Nat} {ok : Nat → Prop} {l : List Int} (h : Kd.R (Kd.int .u32) 84 W base ok (.slice (some ⟨g, 0, none⟩) n cap) l) (i j : Nat) (hj : j < n) (hij : i ≠ j) (u : Value) : (W.setCell ⟨g, i, none⟩ u).cell? ⟨g, j, none⟩ = some (.int .u32 (l.getD j 0)) ∧ (W.setCell ⟨g, i, none⟩ u).frozen? ⟨g, j, none⟩ = false := by
 obtain ⟨cells, hc⟩ := wblk h (by omega)
 refine ⟨?_, blk_frozen (blk_set hc i u) j⟩
 rw [← (wcell h j hj).1]
 exact World.cell?_setCell_other _ _ _ _ (fun e => hij (by simp at e))
theorem wbelow_d {w w1 : World} (h : Drawn0 w w1) : Below w.heap.size w w1 := h.below
theorem wRC {W : World} {base n cap : Nat} {A : Option Addr} {ok : Nat → Prop} {l : List Int} (h : Kd.R (Kd.int .u32) 84 W base ok (.slice A n cap) l) : Kd.C (Kd.int .u32) W A l.length l ∧ l.length ≤ cap := by
 obtain ⟨A', c', e, hle, hc⟩ := Kd.R_reads h
 injection e with e1 e2 e3
 subst e1 e2 e3
 exact ⟨hc, hle⟩
theorem wsrc {w : World} {A : Option Addr} {l : List Int} (h : Kd.C (Kd.int .u32) w A l.length l) (h0 : 0 < l.length) : ∃ ad, A = some ad ∧ ∀ j v, (l.map (Value.int .u32))[j]? = some v → w.cell? (ad.add j) = some v := by
 obtain ⟨ad, hA, _⟩ := wread h (Below.refl _ _) 0 h0
 refine ⟨ad, hA, fun j v hj => ?_⟩
 have hjl : j < l.length := by simpa using (List.getElem?_eq_some_iff.1 hj).1
 obtain ⟨ad', hA', hc⟩ := wread h (Below.refl _ _) j hjl
 obtain rfl : ad = ad' := by rw [hA] at hA'; exact Option.some.inj hA'
 rw [hc]
 rw [List.getElem?_map, List.getElem?_eq_getElem hjl] at hj
 rw [List.getD_eq_getElem?_getD, List.getElem?_eq_getElem hjl]
 exact hj
theorem wval_zero_of : ∀ (l : List Int), (∀ j, l.getD j 0 = 0) → wval l = 0
 | [], _ => rfl
 | a :: t, h => by
  have h0 : a = 0 := h 0
  have ht := wval_zero_of t (fun j => h (j + 1))
  simp only [wval, h0, ht]
  decide
theorem wval_low (l : List Int) (m : Nat) (hm : m ≤ l.length) (h : ∀ j, m ≤ j → l.getD j 0 = 0) : wval l = wval (l.take m) := by
 rw [wval_split l m hm, wval_zero_of (l.drop m) (fun j => by rw [List.getD_eq_getElem?_getD, List.getElem?_drop, ← List.getD_eq_getElem?_getD]; exact h _ (by omega)), Int.mul_zero, Int.add_zero]
theorem zero_getD (n j : Nat) : (List.replicate n (0 : Int)).getD j 0 = 0 := by
 rw [List.getD_eq_getElem?_getD, List.getElem?_replicate]; split <;> rfl
set_option maxHeartbeats 8000000 in
set_option maxRecDepth 100000 in
theorem vendmeterbig_add.calls (A0 : Option Addr) (c0 : Nat) (x : List Int) (a : Int) (A1 : Option Addr) (c1 : Nat) (y : List Int) (b : Int) (w : World) (hr0 : Kd.C (Kd.int .u32) w A0 x.length x) (hc0 : x.length ≤ c0) (hr1 : Kd.C (Kd.int .u32) w A1 y.length y) (hc1 : y.length ≤ c1) (hx : Wd x a) (hy : Wd y b) (hbx : x.length ≤ 100000) (hby : y.length ≤ 100000) :
  Calls Tryz.prog 137 #[.slice A0 x.length c0, .slice A1 y.length c1] w fun e w' => ∃ v r, e = .returned v ∧ Kd.R (Kd.int .u32) 84 w' w.heap.size (fun _ => True) v r ∧ Wd r (a + b) ∧ r.length ≤ x.length + y.length + 1 ∧ Below w.heap.size w w' := by
 have HR0 := am hr0
 have HR1 := am hr1
 clear hr0 hr1
 by_cases hsw : x.length < y.length
 ·
  have hcmp : decide (x.length < y.length) = true := decide_eq_true (by omega)
  have hle : x.length ≤ y.length := by omega
  have HLE := am hle
  clear hsw hle
  go_enter Tryz.func137, Tryz.ntmps137
  go_wp2_with (first | ((with_reducible refine gate_dst (N := 18) rfl ?_); refine Kd.R_make (Kd.int .u32) _ 84 rfl (N := 18) rfl 102 _ _ rfl ((y.length : Int) + 1) rfl rfl Tryz.underlying102 (.int .u32 0) 4 winfo rfl (by decide) (by omega) 0 (ok := fun _ => True) (okp := fun _ => True) rfl (fun _ hk => hk) trivial (by omega) (by omega) (Below.refl _ _) (Nat.le_refl _) ?_; intro v5 w5 ho hb hg_ hnew_; clear hg_ hnew_; rw [show ((y.length : Int) + 1).toNat = y.length + 1 by omega] at ho; have HO := am ho; have HB := am hb; clear ho hb))
  obtain ⟨g, cap, rfl, hgb, hgl, _⟩ := Kd.R_form HO.out (by simp)
  have hlr : (List.replicate (y.length + 1) (0:Int)).length = y.length + 1 := by simp
  rw [hlr] at HO
  have HG := am hgb
  clear hgb hgl hlr
  simp only [List.length_replicate]
  go_loopg [6, 7] y.length (fun kq v6 v7 w' => ∃ (i : Nat) (c : Int) (l : List Int), v6 = .int .u64 c ∧ v7 = .int .i64 (i : Int) ∧ i ≤ y.length ∧ kq = y.length - i ∧ Aside0 (l.length = y.length + 1 ∧ wok l ∧ (0 ≤ c ∧ c ≤ 1) ∧ wval (l.take i) + c * W32 i = wval (y.take i) + wval (x.take i)) ∧ Aside0 (Kd.R (Kd.int .u32) 84 w' w.heap.size (fun _ => True) (.slice (some ⟨g, 0, none⟩) (y.length + 1) cap) l) ∧ Aside0 (Below w.heap.size w w'))
  case atStart => exact ⟨0, 0, List.replicate (y.length + 1) 0, rfl, rfl, Nat.zero_le _, rfl, ⟨by simp, wok.replicate _, by decide, by simp [wval]⟩, HO, HB⟩
  case round =>
   clear HO HB
   obtain ⟨i, c, l, rfl, rfl, hi, rfl, HI, HO, HB⟩ := hrel
   have bX := hy.ok.at_ i
   have bY := hx.ok.at_ i
   have bc := HI.out.2.2.1
   by_cases hlt : i < y.length
   ·
    have hltb : decide (i < y.length) = true := decide_eq_true (by omega)
    have hi1 := wn1 hlt (by omega)
    obtain ⟨adx, ex, hcx⟩ := wread HR1.out HB.out i hlt
    cases ex
    obtain ⟨xi, hxi⟩ : ∃ xi, y.getD i 0 = xi := ⟨_, rfl⟩
    rw [hxi] at hcx bX
    have HXI := am hxi
    have BX := am bX
    clear hxi
    obtain ⟨hcl, hfl⟩ := wcell HO.out i (by omega)
    by_cases hy1 : i < x.length
    ·
     have hltc : decide (i < x.length) = true := decide_eq_true (by omega)
     obtain ⟨ady, ey, hcy⟩ := wread HR0.out HB.out i hy1
     cases ey
     obtain ⟨yi, hyi⟩ : ∃ yi, x.getD i 0 = yi := ⟨_, rfl⟩
     rw [hyi] at hcy bY
     have HYI := am hyi
     have BY := am bY
     clear hyi
     have he : Aside0 (IntKind.u64.wrap (IntKind.u64.wrap (c + IntKind.u64.wrap (xi)) + IntKind.u64.wrap (yi)) = c + xi + yi) := ⟨by rw [wu64 (a := xi) ⟨bX.1, by omega⟩, wu64 (a := yi) ⟨bY.1, by omega⟩, wu64 (a := c + xi) ⟨by omega, by omega⟩, wu64 ⟨by omega, by omega⟩]⟩
     have HP := am (wput HO.out i ((c + xi + yi) % 4294967296))
     have HB2 := am (below_set (j := i) (v := .int .u32 ((c + xi + yi) % 4294967296)) HB.out HG.out)
     clear bX bY bc
     go_wp2
     go_roundg (y.length - (i + 1))
     case measure => have := of_decide_eq_true hltb; omega
     case rel =>
      have hlt := of_decide_eq_true hltb
      have hy1 := of_decide_eq_true hltc
      refine ⟨i + 1, (c + xi + yi) / 4294967296, l.set i ((c + xi + yi) % 4294967296), by rw [he.out], by first | rfl | rw [hi1.out] | simp, by omega, rfl, ⟨?_⟩, ⟨?_⟩, ⟨?_⟩⟩
      ·
       have bX := BX.out
       have bY := BY.out
       obtain ⟨h1, h2, h3, h4⟩ := HI.out
       refine ⟨by rw [List.length_set]; exact h1, h2.set i ⟨by omega, by omega⟩, by omega, ?_⟩
       rw [wval_take_set l i _ (by omega), wval_take y i (by omega), wval_take x i (by omega), W32.succ, HXI.out, HYI.out]
       have e := Int.mul_ediv_add_emod (c + xi + yi) 4294967296
       generalize (c + xi + yi) / 4294967296 = q at *
       generalize (c + xi + yi) % 4294967296 = s at *
       clear he HP HB2
       grind
      ·
       simpa [he.out] using HP.out
      ·
       simpa [he.out] using HB2.out
    ·
     have hltc : decide (i < x.length) = false := decide_eq_false (by omega)
     have he : Aside0 (IntKind.u64.wrap (c + IntKind.u64.wrap (xi)) = c + xi) := ⟨by rw [wu64 (a := xi) ⟨bX.1, by omega⟩, wu64 ⟨by omega, by omega⟩]⟩
     have HP := am (wput HO.out i ((c + xi) % 4294967296))
     have HB2 := am (below_set (j := i) (v := .int .u32 ((c + xi) % 4294967296)) HB.out HG.out)
     clear bX bY bc
     go_wp2
     go_roundg (y.length - (i + 1))
     case measure => have := of_decide_eq_true hltb; omega
     case rel =>
      have hlt := of_decide_eq_true hltb
      have hy1 := of_decide_eq_false hltc
      refine ⟨i + 1, (c + xi) / 4294967296, l.set i ((c + xi) % 4294967296), by rw [he.out], by first | rfl | rw [hi1.out] | simp, by omega, rfl, ⟨?_⟩, ⟨?_⟩, ⟨?_⟩⟩
      ·
       have bX := BX.out
       obtain ⟨h1, h2, h3, h4⟩ := HI.out
       refine ⟨by rw [List.length_set]; exact h1, h2.set i ⟨by omega, by omega⟩, by omega, ?_⟩
       rw [wval_take_set l i _ (by omega), wval_take y i (by omega), wval_take_over x (i + 1) (by omega), W32.succ, HXI.out]
       rw [wval_take_over x i (by omega)] at h4
       have e := Int.mul_ediv_add_emod (c + xi) 4294967296
       generalize (c + xi) / 4294967296 = q at *
       generalize (c + xi) % 4294967296 = s at *
       clear he HP HB2
       grind
      ·
       simpa [he.out] using HP.out
      ·
       simpa [he.out] using HB2.out
   ·
    have hltb : decide (i < y.length) = false := decide_eq_false (by omega)
    have hix : i = y.length := by omega
    subst hix
    obtain ⟨h1, h2, h3, h4⟩ := HI.out
    rw [wval_take_over y _ (Nat.le_refl _), wval_take_over x _ HLE.out] at h4
    obtain ⟨hcl, hfl⟩ := wcell HO.out y.length (by omega)
    have hcm : c % 4294967296 = c := Int.emod_eq_of_lt h3.1 (by omega)
    have HP := am (wput HO.out y.length c)
    have HB2 := am (below_set (j := y.length) (v := .int .u32 c) HB.out HG.out)
    have hval : wval (l.set y.length c) = wval y + wval x := by
     have := wval_take_set l y.length c (by omega)
     rw [List.take_of_length_le (by rw [List.length_set]; omega)] at this
     rw [this, ← h4, Int.mul_comm]
    obtain ⟨r, t1, t2, t3⟩ := wtrim_ev (l.set y.length c) (h2.set _ ⟨by omega, by omega⟩) (by rw [List.length_set]; omega)
    rw [List.length_set] at t3
    obtain ⟨kt, ht⟩ := Ev.rounds t1
    have HT := am ht
    have HRV := am (show Wd r (a + b) ∧ r.length ≤ x.length + y.length + 1 by
     rw [hval, hx.val, hy.val, Int.add_comm] at t2
     exact ⟨t2, by omega⟩)
    have hlen : (l.set y.length c).length = y.length + 1 := by rw [List.length_set]; exact h1
    have HL := am hlen
    clear HI h1 h2 h3 h4 hval t1 t2 t3 ht hlen HO HB
    go_wp2_with (first | ((with_reducible refine gate_callee (f := 135) rfl ?_); refine goesL_ (some 57) rfl rfl Tryz.func135 (by kernel_rfl) rfl #[.slice (some ⟨g, 0, none⟩) (y.length + 1) cap] rfl (by (try simp only [List.map_toArray, List.map_cons, List.map_nil]); first | done | rfl) ?_; (with_reducible refine (vendmeterbig_trim.calls kt (fun _ => True) (.slice (some ⟨g, 0, none⟩) (y.length + 1) cap) (l.set y.length c) r w _ ?side1 ?side2 HT.out).mono ?_); (case side1 => simpa [hcm] using HB2.out); (case side2 => simpa [hcm] using HP.out); rintro e w20 ⟨v0, rfl, ho0, hb, hkp⟩; refine ⟨_, rfl, ?_⟩; have HO3 := am (Kd.R_mono (ok' := fun k_ => True) ho0 (fun k_ hk_ => trivial)); have HB3 := am hb; clear ho0 hb hkp))
    go_ret
    exact ⟨v0, r, rfl, HO3.out, HRV.out.1, HRV.out.2, HB3.out⟩
 ·
  have hcmp : decide (x.length < y.length) = false := decide_eq_false (by omega)
  have hle : y.length ≤ x.length := by omega
  have HLE := am hle
  clear hsw hle
  go_enter Tryz.func137, Tryz.ntmps137
  go_wp2_with (first | ((with_reducible refine gate_dst (N := 18) rfl ?_); refine Kd.R_make (Kd.int .u32) _ 84 rfl (N := 18) rfl 102 _ _ rfl ((x.length : Int) + 1) rfl rfl Tryz.underlying102 (.int .u32 0) 4 winfo rfl (by decide) (by omega) 0 (ok := fun _ => True) (okp := fun _ => True) rfl (fun _ hk => hk) trivial (by omega) (by omega) (Below.refl _ _) (Nat.le_refl _) ?_; intro v5 w5 ho hb hg_ hnew_; clear hg_ hnew_; rw [show ((x.length : Int) + 1).toNat = x.length + 1 by omega] at ho; have HO := am ho; have HB := am hb; clear ho hb))
  obtain ⟨g, cap, rfl, hgb, hgl, _⟩ := Kd.R_form HO.out (by simp)
  have hlr : (List.replicate (x.length + 1) (0:Int)).length = x.length + 1 := by simp
  rw [hlr] at HO
  have HG := am hgb
  clear hgb hgl hlr
  simp only [List.length_replicate]
  go_loopg [6, 7] x.length (fun kq v6 v7 w' => ∃ (i : Nat) (c : Int) (l : List Int), v6 = .int .u64 c ∧ v7 = .int .i64 (i : Int) ∧ i ≤ x.length ∧ kq = x.length - i ∧ Aside0 (l.length = x.length + 1 ∧ wok l ∧ (0 ≤ c ∧ c ≤ 1) ∧ wval (l.take i) + c * W32 i = wval (x.take i) + wval (y.take i)) ∧ Aside0 (Kd.R (Kd.int .u32) 84 w' w.heap.size (fun _ => True) (.slice (some ⟨g, 0, none⟩) (x.length + 1) cap) l) ∧ Aside0 (Below w.heap.size w w'))
  case atStart => exact ⟨0, 0, List.replicate (x.length + 1) 0, rfl, rfl, Nat.zero_le _, rfl, ⟨by simp, wok.replicate _, by decide, by simp [wval]⟩, HO, HB⟩
  case round =>
   clear HO HB
   obtain ⟨i, c, l, rfl, rfl, hi, rfl, HI, HO, HB⟩ := hrel
   have bX := hx.ok.at_ i
   have bY := hy.ok.at_ i
   have bc := HI.out.2.2.1
   by_cases hlt : i < x.length
   ·
    have hltb : decide (i < x.length) = true := decide_eq_true (by omega)
    have hi1 := wn1 hlt (by omega)
    obtain ⟨adx, ex, hcx⟩ := wread HR0.out HB.out i hlt
    cases ex
    obtain ⟨xi, hxi⟩ : ∃ xi, x.getD i 0 = xi := ⟨_, rfl⟩
    rw [hxi] at hcx bX
    have HXI := am hxi
    have BX := am bX
    clear hxi
    obtain ⟨hcl, hfl⟩ := wcell HO.out i (by omega)
    by_cases hy1 : i < y.length
    ·
     have hltc : decide (i < y.length) = true := decide_eq_true (by omega)
     obtain ⟨ady, ey, hcy⟩ := wread HR1.out HB.out i hy1
     cases ey
     obtain ⟨yi, hyi⟩ : ∃ yi, y.getD i 0 = yi := ⟨_, rfl⟩
     rw [hyi] at hcy bY
     have HYI := am hyi
     have BY := am bY
     clear hyi
     have he : Aside0 (IntKind.u64.wrap (IntKind.u64.wrap (c + IntKind.u64.wrap (xi)) + IntKind.u64.wrap (yi)) = c + xi + yi) := ⟨by rw [wu64 (a := xi) ⟨bX.1, by omega⟩, wu64 (a := yi) ⟨bY.1, by omega⟩, wu64 (a := c + xi) ⟨by omega, by omega⟩, wu64 ⟨by omega, by omega⟩]⟩
     have HP := am (wput HO.out i ((c + xi + yi) % 4294967296))
     have HB2 := am (below_set (j := i) (v := .int .u32 ((c + xi + yi) % 4294967296)) HB.out HG.out)
     clear bX bY bc
     go_wp2
     go_roundg (x.length - (i + 1))
     case measure => have := of_decide_eq_true hltb; omega
     case rel =>
      have hlt := of_decide_eq_true hltb
      have hy1 := of_decide_eq_true hltc
      refine ⟨i + 1, (c + xi + yi) / 4294967296, l.set i ((c + xi + yi) % 4294967296), by rw [he.out], by first | rfl | rw [hi1.out] | simp, by omega, rfl, ⟨?_⟩, ⟨?_⟩, ⟨?_⟩⟩
      ·
       have bX := BX.out
       have bY := BY.out
       obtain ⟨h1, h2, h3, h4⟩ := HI.out
       refine ⟨by rw [List.length_set]; exact h1, h2.set i ⟨by omega, by omega⟩, by omega, ?_⟩
       rw [wval_take_set l i _ (by omega), wval_take x i (by omega), wval_take y i (by omega), W32.succ, HXI.out, HYI.out]
       have e := Int.mul_ediv_add_emod (c + xi + yi) 4294967296
       generalize (c + xi + yi) / 4294967296 = q at *
       generalize (c + xi + yi) % 4294967296 = s at *
       clear he HP HB2
       grind
      ·
       simpa [he.out] using HP.out
      ·
       simpa [he.out] using HB2.out
    ·
     have hltc : decide (i < y.length) = false := decide_eq_false (by omega)
     have he : Aside0 (IntKind.u64.wrap (c + IntKind.u64.wrap (xi)) = c + xi) := ⟨by rw [wu64 (a := xi) ⟨bX.1, by omega⟩, wu64 ⟨by omega, by omega⟩]⟩
     have HP := am (wput HO.out i ((c + xi) % 4294967296))
     have HB2 := am (below_set (j := i) (v := .int .u32 ((c + xi) % 4294967296)) HB.out HG.out)
     clear bX bY bc
     go_wp2
     go_roundg (x.length - (i + 1))
     case measure => have := of_decide_eq_true hltb; omega
     case rel =>
      have hlt := of_decide_eq_true hltb
      have hy1 := of_decide_eq_false hltc
      refine ⟨i + 1, (c + xi) / 4294967296, l.set i ((c + xi) % 4294967296), by rw [he.out], by first | rfl | rw [hi1.out] | simp, by omega, rfl, ⟨?_⟩, ⟨?_⟩, ⟨?_⟩⟩
      ·
       have bX := BX.out
       obtain ⟨h1, h2, h3, h4⟩ := HI.out
       refine ⟨by rw [List.length_set]; exact h1, h2.set i ⟨by omega, by omega⟩, by omega, ?_⟩
       rw [wval_take_set l i _ (by omega), wval_take x i (by omega), wval_take_over y (i + 1) (by omega), W32.succ, HXI.out]
       rw [wval_take_over y i (by omega)] at h4
       have e := Int.mul_ediv_add_emod (c + xi) 4294967296
       generalize (c + xi) / 4294967296 = q at *
       generalize (c + xi) % 4294967296 = s at *
       clear he HP HB2
       grind
      ·
       simpa [he.out] using HP.out
      ·
       simpa [he.out] using HB2.out
   ·
    have hltb : decide (i < x.length) = false := decide_eq_false (by omega)
    have hix : i = x.length := by omega
    subst hix
    obtain ⟨h1, h2, h3, h4⟩ := HI.out
    rw [wval_take_over x _ (Nat.le_refl _), wval_take_over y _ HLE.out] at h4
    obtain ⟨hcl, hfl⟩ := wcell HO.out x.length (by omega)
    have hcm : c % 4294967296 = c := Int.emod_eq_of_lt h3.1 (by omega)
    have HP := am (wput HO.out x.length c)
    have HB2 := am (below_set (j := x.length) (v := .int .u32 c) HB.out HG.out)
    have hval : wval (l.set x.length c) = wval x + wval y := by
     have := wval_take_set l x.length c (by omega)
     rw [List.take_of_length_le (by rw [List.length_set]; omega)] at this
     rw [this, ← h4, Int.mul_comm]
    obtain ⟨r, t1, t2, t3⟩ := wtrim_ev (l.set x.length c) (h2.set _ ⟨by omega, by omega⟩) (by rw [List.length_set]; omega)
    rw [List.length_set] at t3
    obtain ⟨kt, ht⟩ := Ev.rounds t1
    have HT := am ht
    have HRV := am (show Wd r (a + b) ∧ r.length ≤ x.length + y.length + 1 by
     rw [hval, hx.val, hy.val] at t2
     exact ⟨t2, by omega⟩)
    have hlen : (l.set x.length c).length = x.length + 1 := by rw [List.length_set]; exact h1
    have HL := am hlen
    clear HI h1 h2 h3 h4 hval t1 t2 t3 ht hlen HO HB
    go_wp2_with (first | ((with_reducible refine gate_callee (f := 135) rfl ?_); refine goesL_ (some 57) rfl rfl Tryz.func135 (by kernel_rfl) rfl #[.slice (some ⟨g, 0, none⟩) (x.length + 1) cap] rfl (by (try simp only [List.map_toArray, List.map_cons, List.map_nil]); first | done | rfl) ?_; (with_reducible refine (vendmeterbig_trim.calls kt (fun _ => True) (.slice (some ⟨g, 0, none⟩) (x.length + 1) cap) (l.set x.length c) r w _ ?side1 ?side2 HT.out).mono ?_); (case side1 => simpa [hcm] using HB2.out); (case side2 => simpa [hcm] using HP.out); rintro e w20 ⟨v0, rfl, ho0, hb, hkp⟩; refine ⟨_, rfl, ?_⟩; have HO3 := am (Kd.R_mono (ok' := fun k_ => True) ho0 (fun k_ hk_ => trivial)); have HB3 := am hb; clear ho0 hb hkp))
    go_ret
    exact ⟨v0, r, rfl, HO3.out, HRV.out.1, HRV.out.2, HB3.out⟩

theorem wprod {c x y z : Int} (hc : 0 ≤ c ∧ c < 4294967296) (hx : 0 ≤ x ∧ x < 4294967296) (hy : 0 ≤ y ∧ y < 4294967296) (hz : 0 ≤ z ∧ z < 4294967296) :
  IntKind.u64.wrap (c + IntKind.u64.wrap (IntKind.u64.wrap (IntKind.u64.wrap x * IntKind.u64.wrap y) + IntKind.u64.wrap z)) = c + (x * y + z) ∧ 0 ≤ c + (x * y + z) ∧ c + (x * y + z) < 18446744073709551616 := by
 have h0 : 0 ≤ x * y := Int.mul_nonneg hx.1 hy.1
 have h1 : x * y ≤ 4294967295 * 4294967295 := Int.mul_le_mul (by omega) (by omega) hy.1 (by decide)
 generalize hq : x * y = q at *
 rw [wu64 (a := x) ⟨hx.1, by omega⟩, wu64 (a := y) ⟨hy.1, by omega⟩, wu64 (a := z) ⟨hz.1, by omega⟩, hq, wu64 (a := q) ⟨h0, by omega⟩, wu64 (a := q + z) ⟨by omega, by omega⟩, wu64 ⟨by omega, by omega⟩]
 omega
set_option maxHeartbeats 8000000 in
set_option maxRecDepth 100000 in
theorem vendmeterbig_mul.calls (A0 : Option Addr) (c0 : Nat) (x : List Int) (a : Int) (A1 : Option Addr) (c1 : Nat) (y : List Int) (b : Int) (w : World) (hr0 : Kd.C (Kd.int .u32) w A0 x.length x) (hc0 : x.length ≤ c0) (hr1 : Kd.C (Kd.int .u32) w A1 y.length y) (hc1 : y.length ≤ c1) (hx : Wd x a) (hy : Wd y b) (hbx : x.length ≤ 100000) (hby : y.length ≤ 100000) :
  Calls Tryz.prog 103 #[.slice A0 x.length c0, .slice A1 y.length c1] w fun e w' => ∃ v r, e = .returned v ∧ Kd.R (Kd.int .u32) 84 w' w.heap.size (fun _ => True) v r ∧ Wd r (a * b) ∧ r.length ≤ x.length + y.length ∧ Below w.heap.size w w' := by
 have HR0 := am hr0
 have HR1 := am hr1
 clear hr0 hr1
 by_cases hc : x.length = 0
 ·
  have hcb : ((x.length : Int) == 0) = true := beq_iff_eq.mpr (by omega)
  have HZ := am (hx.nil_iff.1 hc)
  clear hc
  go_enter Tryz.func103, Tryz.ntmps103
  go_wp2
  go_ret
  exact ⟨_, [], rfl, Kd.R_nil _ _ _ _ _, by rw [HZ.out, Int.zero_mul]; exact Wd.zero, by simp, Below.refl _ _⟩
 have hcb : ((x.length : Int) == 0) = false := beq_eq_false_iff_ne.mpr (by omega)
 by_cases hd : y.length = 0
 ·
  have hdb : ((y.length : Int) == 0) = true := beq_iff_eq.mpr (by omega)
  have HZ := am (hy.nil_iff.1 hd)
  clear hc hd
  go_enter Tryz.func103, Tryz.ntmps103
  go_wp2
  go_ret
  exact ⟨_, [], rfl, Kd.R_nil _ _ _ _ _, by rw [HZ.out, Int.mul_zero]; exact Wd.zero, by simp, Below.refl _ _⟩
 have hdb : ((y.length : Int) == 0) = false := beq_eq_false_iff_ne.mpr (by omega)
 obtain ⟨L, hL⟩ : ∃ L, x.length + y.length = L := ⟨_, rfl⟩
 have hL0 : 0 ≤ (x.length : Int) + (y.length : Int) := by omega
 have hL4 : ((x.length : Int) + (y.length : Int)).toNat * 4 ≤ 281474976710656 := by omega
 have E9 := am (show ((x.length : Int) + (y.length : Int)).toNat = L by omega)
 have HL := am hL
 have hL1 : 0 < L := by omega
 have HLR := am (show 0 < (List.replicate L (0:Int)).length by simpa using hL1)
 clear hc hd hL hL1
 go_enter Tryz.func103, Tryz.ntmps103
 go_wp2_with (first | ((with_reducible refine gate_dst (N := 22) rfl ?_); refine Kd.R_make (Kd.int .u32) _ 84 rfl (N := 22) rfl 102 _ _ rfl ((x.length : Int) + (y.length : Int)) rfl rfl Tryz.underlying102 (.int .u32 0) 4 winfo rfl (by decide) (by omega) 0 (ok := fun _ => True) (okp := fun _ => True) rfl (fun _ hk => hk) trivial hL0 hL4 (Below.refl _ _) (Nat.le_refl _) ?_; intro v5 w5 ho hb hg_ hnew_; clear hg_ hnew_; rw [E9.out] at ho; have HO := am ho; have HB := am hb; clear ho hb))
 obtain ⟨g, cap, rfl, hgb, hgl, _⟩ := Kd.R_form HO.out HLR.out
 have HG := am hgb
 clear hgb hgl hL0 hL4 hcb hdb
 simp only [List.length_replicate] at HO ⊢
 go_loopg [6] x.length (fun kq v6 w' => ∃ (i : Nat) (l : List Int), v6 = .int .i64 (i : Int) ∧ i ≤ x.length ∧ kq = x.length - i ∧ Aside0 (l.length = L ∧ wok l ∧ (∀ j, i + y.length ≤ j → l.getD j 0 = 0) ∧ wval (l.take (i + y.length)) = wval (x.take i) * b) ∧ Aside0 (Kd.R (Kd.int .u32) 84 w' w.heap.size (fun _ => True) (.slice (some ⟨g, 0, none⟩) L cap) l) ∧ Aside0 (Below w.heap.size w w'))
 case atStart =>
  refine ⟨0, List.replicate L 0, rfl, Nat.zero_le _, rfl, ⟨by simp, wok.replicate _, fun j _ => zero_getD L j, ?_⟩, HO, HB⟩
  rw [List.take_replicate, wval_zeros]
  simp [wval]
 case round =>
  clear HO HB
  obtain ⟨i, l, rfl, hi, rfl, HI, HO, HB⟩ := hrel
  by_cases hlt : i < x.length
  ·
   have hltb : decide (i < x.length) = true := decide_eq_true hlt
   obtain ⟨xi, hxi⟩ : ∃ xi, x.getD i 0 = xi := ⟨_, rfl⟩
   have bX := hx.ok.at_ i
   rw [hxi] at bX
   have HXI := am hxi
   have BX := am bX
   clear hxi bX
   go_wp2
   go_loopg [7, 8] y.length (fun kq v7 v8 w' => ∃ (j : Nat) (c : Int) (l' : List Int), v7 = .int .u64 c ∧ v8 = .int .i64 (j : Int) ∧ j ≤ y.length ∧ kq = y.length - j ∧ Aside0 (l'.length = L ∧ wok l' ∧ (0 ≤ c ∧ c < 4294967296) ∧ (∀ m, i + j ≤ m → l'.getD m 0 = l.getD m 0) ∧ wval (l'.take (i + j)) + c * W32 (i + j) = wval (l.take (i + j)) + W32 i * xi * wval (y.take j)) ∧ Aside0 (Kd.R (Kd.int .u32) 84 w' w.heap.size (fun _ => True) (.slice (some ⟨g, 0, none⟩) L cap) l') ∧ Aside0 (Below w.heap.size w w'))
   case atStart => exact ⟨0, 0, l, rfl, rfl, Nat.zero_le _, rfl, ⟨HI.out.1, HI.out.2.1, by decide, fun _ _ => rfl, by simp [wval]⟩, HO, HB⟩
   case round =>
    clear HO HB
    obtain ⟨j, c, l', rfl, rfl, hj, rfl, HJ, HO, HB⟩ := hrel
    by_cases hjt : j < y.length
    ·
     have hjb : decide (j < y.length) = true := decide_eq_true hjt
     have hl := HL.out
     have hij : i + j < L := by omega
     obtain ⟨adx, ex, hcx⟩ := wread HR0.out HB.out i hlt
     cases ex
     obtain ⟨ady, ey, hcy⟩ := wread HR1.out HB.out j hjt
     cases ey
     obtain ⟨yj, hyj⟩ : ∃ yj, y.getD j 0 = yj := ⟨_, rfl⟩
     have bY := hy.ok.at_ j
     rw [HXI.out] at hcx
     rw [hyj] at hcy bY
     obtain ⟨hcl, hfl⟩ := wcell HO.out (i + j) hij
     obtain ⟨q, hq⟩ : ∃ q, l'.getD (i + j) 0 = q := ⟨_, rfl⟩
     have bq := HJ.out.2.1.at_ (i + j)
     rw [hq] at hcl bq
     have HYJ := am hyj
     have BY := am bY
     have HQ := am hq
     have BQ := am bq
     clear hyj bY hq bq hl
     go_wp2
     go_quiet (fail)
     go_wp2
     go_roundg (y.length - (j + 1))
     case measure => omega
     case rel =>
      obtain ⟨e0, e1, e2⟩ := wprod HJ.out.2.2.1 BX.out BY.out BQ.out
      obtain ⟨h1, h2, h3, h4, h5⟩ := HJ.out
      refine ⟨j + 1, (c + (xi * yj + q)) / 4294967296, l'.set (i + j) ((c + (xi * yj + q)) % 4294967296), by rw [e0], by first | rfl | simp, by omega, rfl, ⟨?_⟩, ⟨by rw [e0]; exact wput (Kd.R_drewN HO.out _) (i + j) _⟩, ⟨below_set (pw_below_drewN HB.out _) HG.out⟩⟩
      have q0 : 0 ≤ (c + (xi * yj + q)) / 4294967296 := Int.ediv_nonneg e1 (by decide)
      have q1 : (c + (xi * yj + q)) / 4294967296 < 4294967296 := Int.ediv_lt_of_lt_mul (by decide) (by omega)
      refine ⟨by rw [List.length_set]; exact h1, h2.set _ ⟨Int.emod_nonneg _ (by decide), Int.emod_lt_of_pos _ (by decide)⟩, ⟨q0, q1⟩, fun m hm => ?_, ?_⟩
      ·
       rw [getD_set_ne _ _ _ _ (by omega)]
       exact h4 m (by omega)
      ·
       have hlq : l.getD (i + j) 0 = q := by rw [← h4 (i + j) (by omega)]; exact HQ.out
       rw [show i + (j + 1) = i + j + 1 by omega, wval_take_set _ _ _ (by omega), wval_take l (i + j) (by have := HI.out.1; omega), hlq, wval_take y j hjt, HYJ.out, W32.succ]
       have em := Int.mul_ediv_add_emod (c + (xi * yj + q)) 4294967296
       generalize (c + (xi * yj + q)) / 4294967296 = hi' at *
       generalize (c + (xi * yj + q)) % 4294967296 = lo' at *
       rw [W32.add] at *
       clear e0 e1 e2 q0 q1
       grind
    ·
     have hjb : decide (j < y.length) = false := decide_eq_false hjt
     have hjy : j = y.length := by omega
     subst hjy
     obtain ⟨h1, h2, h3, h4, h5⟩ := HJ.out
     have hl := HL.out
     have hij : i + y.length < L := by omega
     obtain ⟨hcl, hfl⟩ := wcell HO.out (i + y.length) hij
     have hcm : c % 4294967296 = c := Int.emod_eq_of_lt h3.1 h3.2
     clear hl
     go_wp2
     go_roundg (x.length - (i + 1))
     case measure => omega
     case rel =>
      refine ⟨i + 1, l'.set (i + y.length) c, by first | rfl | simp, by omega, rfl, ⟨?_⟩, ⟨?_⟩, ⟨?_⟩⟩
      ·
       obtain ⟨g1, g2, g3, g4⟩ := HI.out
       refine ⟨by rw [List.length_set]; exact h1, h2.set _ h3, fun m hm => ?_, ?_⟩
       ·
        rw [getD_set_ne _ _ _ _ (by omega), h4 m (by omega)]
        exact g3 m (by omega)
       ·
        rw [show i + 1 + y.length = i + y.length + 1 by omega, wval_take_set _ _ _ (by omega), wval_take x i hlt, HXI.out]
        rw [g4, wval_take_over y _ (Nat.le_refl _), hy.val] at h5
        clear hcl hfl hcm
        grind
      ·
       first | exact wput HO.out (i + y.length) c | (rw [hcm]; exact wput HO.out (i + y.length) c)
      ·
       exact below_set HB.out HG.out
  ·
   have hltb : decide (i < x.length) = false := decide_eq_false hlt
   have hix : i = x.length := by omega
   subst hix
   obtain ⟨h1, h2, h3, h4⟩ := HI.out
   rw [List.take_of_length_le (by have := HL.out; omega), wval_take_over x _ (Nat.le_refl _), hx.val] at h4
   obtain ⟨r, t1, t2, t3⟩ := wtrim_ev l h2 (by have := HL.out; omega)
   rw [h4] at t2
   obtain ⟨kt, ht⟩ := Ev.rounds t1
   have HT := am ht
   have HRV := am (show Wd r (a * b) ∧ r.length ≤ x.length + y.length from ⟨t2, by have := HL.out; omega⟩)
   clear HI h1 h2 h3 h4 t1 t2 t3 ht
   go_wp2_with (first | ((with_reducible refine gate_callee (f := 135) rfl ?_); refine goesL_ (some 74) rfl rfl Tryz.func135 (by kernel_rfl) rfl #[.slice (some ⟨g, 0, none⟩) L cap] rfl (by (try simp only [List.map_toArray, List.map_cons, List.map_nil]); first | done | rfl) ?_; (with_reducible refine (vendmeterbig_trim.calls kt (fun _ => True) (.slice (some ⟨g, 0, none⟩) L cap) l r w _ ?side1 ?side2 HT.out).mono ?_); (case side1 => exact HB.out); (case side2 => exact HO.out); rintro e w20 ⟨v0, rfl, ho0, hb, hkp⟩; refine ⟨_, rfl, ?_⟩; have HO3 := am (Kd.R_mono (ok' := fun k_ => True) ho0 (fun k_ hk_ => trivial)); have HB3 := am hb; clear ho0 hb hkp))
   go_ret
   exact ⟨v0, r, rfl, HO3.out, HRV.out.1, HRV.out.2, HB3.out⟩
/-! ### Int: a sign and words behind a pointer -/
/-- Words that are read, in a row of words. -/
def WC (w : World) (A : Option Addr) (l : List Int) : Prop := Kd.C (Kd.int .u32) w A l.length l ∧ (0 < l.length → ∃ ad cells, A = some ad ∧ w.heap[ad.block]? = some (.cells cells 84 (0, 0)))
theorem WC.c {w : World} {A : Option Addr} {l : List Int} (h : WC w A l) : Kd.C (Kd.int .u32) w A l.length l := h.1
theorem wRW {W : World} {base n cap : Nat} {A : Option Addr} {ok : Nat → Prop} {l : List Int} (h : Kd.R (Kd.int .u32) 84 W base ok (.slice A n cap) l) : WC W A l ∧ l.length ≤ cap := by
 refine ⟨⟨(wRC h).1, fun h0 => ?_⟩, (wRC h).2⟩
 obtain ⟨g, c, e, _, _, cells, hc⟩ := Kd.R_form h h0
 injection e with e1 _ _
 exact ⟨_, cells, e1, hc⟩
def IsI (w : World) (z : Nat) : Prop := ∃ b A n c, w.heap[z]? = some (.cells #[.bool b, .slice A n c] 104 (0, 0))
def BigA (w : World) (x : Nat) (n : Int) : Prop := ∃ A c l, w.heap[x]? = some (.cells #[.bool false, .slice A (List.length l) c] 104 (0, 0)) ∧ WC w A l ∧ l.length ≤ c ∧ Wd l n
theorem BigA.isI {w : World} {x : Nat} {n : Int} (h : BigA w x n) : IsI w x := by
 obtain ⟨A, c, l, h, _⟩ := h
 exact ⟨_, _, _, _, h⟩
theorem BigA.lt {w : World} {x : Nat} {n : Int} (h : BigA w x n) : x < w.heap.size := by
 obtain ⟨A, c, l, h, _⟩ := h
 exact blk_lt h
theorem IsI.lt {w : World} {x : Nat} (h : IsI w x) : x < w.heap.size := by
 obtain ⟨_, _, _, _, h⟩ := h
 exact blk_lt h
theorem IsI.keep {w w' : World} {z x : Nat} (h : IsI w x) (k : Only z w w') (hne : x ≠ z) : IsI w' x := by
 obtain ⟨b, A, n, c, h⟩ := h
 exact ⟨b, A, n, c, (k.block x (blk_lt h) hne).trans h⟩
theorem IsI.below {w w' : World} {x : Nat} (h : IsI w x) (k : Below w.heap.size w w') : IsI w' x := by
 obtain ⟨b, A, n, c, h⟩ := h
 exact ⟨b, A, n, c, (k.block x (blk_lt h)).trans h⟩
theorem IsI.new (w : World) : IsI (w.alloc (.cells #[.bool false, .slice none 0 0] 104)) w.heap.size := ⟨_, _, _, _, blk_new w _⟩
/-- Words stay where what is written is no row of words. -/
theorem words_keepT {w w' : World} {z : Nat} {A : Option Addr} {l : List Int} (h : WC w A l) {t : TypeId} {cs : Array Value} (hz : w.heap[z]? = some (.cells cs t (0, 0))) (ht : t ≠ 84) (k : Only z w w') : WC w' A l := by
 obtain ⟨h, hty⟩ := h
 refine ⟨⟨h.1, h.2.1, fun h0 => ?_⟩, fun h0 => ?_⟩
 ·
  obtain ⟨ad, hA, hc⟩ := h.2.2 h0
  obtain ⟨ad', cells, hA', hb⟩ := hty h0
  obtain rfl : ad = ad' := by rw [hA] at hA'; exact Option.some.inj hA'
  refine ⟨ad, hA, fun j p hj => ?_⟩
  obtain ⟨cs', h1, h2, h3⟩ := hc j p hj
  refine ⟨cs', h1, h2, fun i u hu => ?_⟩
  have hc := h3 i u hu
  have hlt := World.block_lt_of_cell? w _ hc
  have hbl : (ad.add (j * (Kd.int IntKind.u32).sz + i)).block = ad.block := by unfold Addr.add; split <;> rfl
  have hne : (ad.add (j * (Kd.int IntKind.u32).sz + i)).block ≠ z := by
   rw [hbl]
   intro e
   rw [e, hz] at hb
   injection hb with hb
   injection hb with _ hb
   exact ht hb
  rw [← hc]
  have e := k.block _ hlt hne
  unfold World.cell?
  rw [e]
 ·
  obtain ⟨ad, cells, hA, hb⟩ := hty h0
  refine ⟨ad, cells, hA, (k.block _ (blk_lt hb) ?_).trans hb⟩
  intro e
  rw [e, hz] at hb
  injection hb with hb
  injection hb with _ hb
  exact ht hb
theorem words_keep {w w' : World} {z : Nat} {A : Option Addr} {l : List Int} (h : WC w A l) (hz : IsI w z) (k : Only z w w') : WC w' A l := by
 obtain ⟨b, A', n, c, hz⟩ := hz
 exact words_keepT h hz (by decide) k
theorem words_below {w w' : World} {A : Option Addr} {l : List Int} (h : WC w A l) (k : Below w.heap.size w w') : WC w' A l := by
 refine ⟨Kd.C_below h.1 k, fun h0 => ?_⟩
 obtain ⟨ad, cells, hA, hb⟩ := h.2 h0
 exact ⟨ad, cells, hA, (k.block _ (blk_lt hb)).trans hb⟩
theorem WC.nil (w : World) (A : Option Addr) : WC w A [] := ⟨⟨rfl, by decide, fun h => absurd h (by decide)⟩, fun h => absurd h (by decide)⟩
theorem BigA.keepT {w w' : World} {z x : Nat} {n : Int} (h : BigA w x n) {t : TypeId} {cs : Array Value} (hz : w.heap[z]? = some (.cells cs t (0, 0))) (ht : t ≠ 84) (k : Only z w w') (hne : x ≠ z) : BigA w' x n := by
 obtain ⟨A, c, l, h1, h2, h3, h4⟩ := h
 exact ⟨A, c, l, (k.block x (blk_lt h1) hne).trans h1, words_keepT h2 hz ht k, h3, h4⟩
theorem BigA.keep {w w' : World} {z x : Nat} {n : Int} (h : BigA w x n) (hz : IsI w z) (k : Only z w w') (hne : x ≠ z) : BigA w' x n := by
 obtain ⟨A, c, l, h1, h2, h3, h4⟩ := h
 exact ⟨A, c, l, (k.block x (blk_lt h1) hne).trans h1, words_keep h2 hz k, h3, h4⟩
theorem BigA.below {w w' : World} {x : Nat} {n : Int} (h : BigA w x n) (k : Below w.heap.size w w') : BigA w' x n := by
 obtain ⟨A, c, l, h1, h2, h3, h4⟩ := h
 exact ⟨A, c, l, (k.block x (blk_lt h1)).trans h1, words_below h2 k, h3, h4⟩
theorem BigA.pos {w : World} {x : Nat} {n : Int} (h : BigA w x n) : 0 ≤ n := by
 obtain ⟨A, c, l, h1, h2, h3, h4⟩ := h
 exact h4.pos
set_option maxHeartbeats 4000000 in
theorem vendmeterbig_Int_give.calls (w : World) (z : Nat) (hz : IsI w z) (A : Option Addr) (c : Nat) (l : List Int) (n : Int) (hr : WC w A l) (hc : l.length ≤ c) (hw : Wd l n) :
  Calls Tryz.prog 102 #[.pointer (some ⟨z, 0, none⟩), .bool false, .slice A l.length c] w fun e w' => e = .returned (.pointer (some ⟨z, 0, none⟩)) ∧ BigA w' z n ∧ Only z w w' := by
 obtain ⟨b, A', n', c', hz0⟩ := hz
 have x0 : w.cell? ⟨z, 0, none⟩ = some (.bool b) := (blk_cell hz0 0).trans rfl
 have x1 : w.cell? ⟨z, 1, none⟩ = some (.slice A' n' c') := (blk_cell hz0 1).trans rfl
 have f1 := blk_frozen hz0 1
 have e1 := blk_set hz0 1 (.slice A l.length c)
 have x0' : (w.setCell ⟨z, 1, none⟩ (.slice A l.length c)).cell? ⟨z, 0, none⟩ = some (.bool b) := (blk_cell e1 0).trans rfl
 have f0 := blk_frozen e1 0
 have HZ := am hz0
 have E1 := am e1
 have HR := am hr
 clear hz0 e1 hr
 go_enter Tryz.func102, Tryz.ntmps102
 go_wp2
 go_ret
 have ho : Only z w ((w.setCell ⟨z, 1, none⟩ (.slice A l.length c)).setCell ⟨z, 0, none⟩ (.bool false)) := ((Only.refl z w).set 1 _).set 0 _
 refine ⟨rfl, ⟨A, c, l, ?_, words_keep HR.out ⟨_, _, _, _, HZ.out⟩ ho, hc, hw⟩, ho⟩
 exact (blk_set E1.out 0 (.bool false)).trans rfl
/-! ### sum -/
set_option maxHeartbeats 4000000 in
theorem vendmeterbig_sum.add (A0 : Option Addr) (c0 : Nat) (x : List Int) (a : Int) (A1 : Option Addr) (c1 : Nat) (y : List Int) (b : Int) (w : World) (hr0 : Kd.C (Kd.int .u32) w A0 x.length x) (hc0 : x.length ≤ c0) (hr1 : Kd.C (Kd.int .u32) w A1 y.length y) (hc1 : y.length ≤ c1) (hx : Wd x a) (hy : Wd y b) (hbx : x.length ≤ 10000) (hby : y.length ≤ 10000) :
  Calls Tryz.prog 105 #[.bool false, .slice A0 x.length c0, .bool false, .slice A1 y.length c1] w fun e w' => ∃ v r, e = .returned (.tuple #[.bool false, v]) ∧ Kd.R (Kd.int .u32) 84 w' w.heap.size (fun _ => True) v r ∧ Wd r (a + b) ∧ Below w.heap.size w w' := by
 have HA := am (vendmeterbig_add.calls A0 c0 x a A1 c1 y b w hr0 hc0 hr1 hc1 hx hy (by omega) (by omega))
 clear hr0 hr1
 go_enter Tryz.func105, Tryz.ntmps105
 go_wp2_with (go_at_call 137; refine HA.out.mono ?_; rintro e w1 ⟨v, r, rfl, hR, hW, _, hB⟩; have HR := am hR; have HB := am hB; clear hR hB)
 go_ret2
 exact ⟨v, r, rfl, HR.out, hW, HB.out⟩
set_option maxHeartbeats 4000000 in
theorem vendmeterbig_sum.sub (A0 : Option Addr) (c0 : Nat) (x : List Int) (a : Int) (A1 : Option Addr) (c1 : Nat) (y : List Int) (b : Int) (w : World) (hr0 : Kd.C (Kd.int .u32) w A0 x.length x) (hc0 : x.length ≤ c0) (hr1 : Kd.C (Kd.int .u32) w A1 y.length y) (hc1 : y.length ≤ c1) (hx : Wd x a) (hy : Wd y b) (hbx : x.length ≤ 10000) (hby : y.length ≤ 10000) (hab : b ≤ a) :
  Calls Tryz.prog 105 #[.bool false, .slice A0 x.length c0, .bool true, .slice A1 y.length c1] w fun e w' => ∃ v r, e = .returned (.tuple #[.bool false, v]) ∧ Kd.R (Kd.int .u32) 84 w' w.heap.size (fun _ => True) v r ∧ Wd r (a - b) ∧ Below w.heap.size w w' := by
 obtain ⟨kc, hcm⟩ := Ev.rounds (wcmp_ev hx hy (by omega))
 obtain ⟨r, t1, t2, _⟩ := wsub_ev hx hy (by omega) hab
 obtain ⟨ks, hs⟩ := Ev.rounds t1
 have HCM := am hcm
 have HS := am hs
 have HR0 := am hr0
 have HR1 := am hr1
 have HC0 := am hc0
 have HC1 := am hc1
 have hwb : decide (0 ≤ wcmp a b) = true := decide_eq_true (by unfold wcmp; rw [if_neg (show ¬ a < b by omega)]; split <;> decide)
 clear hr0 hr1 hc0 hc1 hcm hs t1
 go_enter Tryz.func105, Tryz.ntmps105
 go_wp2_with (first | (go_at_call 138; refine (vendmeterbig_cmp.calls kc _ _ x _ _ y (wcmp a b) _ HR0.out HC0.out HR1.out HC1.out HCM.out).mono ?_; rintro e w1 ⟨rfl, hd⟩; have HB := am (wbelow_d hd); clear hd) | (go_at_call 139; refine (vendmeterbig_sub.calls ks _ _ x _ _ y r _ (Kd.C_below HR0.out HB.out) HC0.out (Kd.C_below HR1.out HB.out) HC1.out HS.out).mono ?_; rintro e w2 ⟨v, rfl, hR, hB⟩; have HR := am (Kd.R_lower hR HB.out.size); have HB2 := am (below_then HB.out HB.out.size hB); clear hR hB))
 go_ret2
 exact ⟨v, r, rfl, HR.out, t2, HB2.out⟩
set_option maxHeartbeats 4000000 in
set_option maxRecDepth 100000 in
theorem vendmeterbig_Int_Add.calls (w : World) (z x y : Nat) (a b : Int) (hz : IsI w z) (hx : BigA w x a) (hy : BigA w y b) (ha : a < W32 1000) (hb : b < W32 1000) :
  Calls Tryz.prog 67 #[.pointer (some ⟨z, 0, none⟩), .pointer (some ⟨x, 0, none⟩), .pointer (some ⟨y, 0, none⟩)] w fun e w' => e = .returned (.pointer (some ⟨z, 0, none⟩)) ∧ BigA w' z (a + b) ∧ Only z w w' := by
 obtain ⟨Ax, cx, lx, hx1, hx2, hx3, hx4⟩ := hx
 obtain ⟨Ay, cy, ly, hy1, hy2, hy3, hy4⟩ := hy
 have lbx := hx4.len_le ha
 have lby := hy4.len_le hb
 have HX := am hx1
 have HY := am hy1
 have HCX := am hx2
 have HCY := am hy2
 clear hx1 hx2 hy1 hy2
 go_enter Tryz.func67, Tryz.ntmps67
 go_wp2
 refine start_ (n := 22) (S := fun w' => w'.cell? ⟨x, 0, none⟩ = some (.bool false) ∧ w'.cell? ⟨x, 1, none⟩ = some (.slice Ax lx.length cx) ∧ w'.cell? ⟨y, 0, none⟩ = some (.bool false) ∧ w'.cell? ⟨y, 1, none⟩ = some (.slice Ay ly.length cy)) (ds := [20]) #[false, false, false, false, false, false, false, false, false, false, false, false, false, false, false, false, false, false, false, false, false, false] (by kernel_rfl) rfl rfl ⟨(blk_cell HX.out 0).trans rfl, (blk_cell HX.out 1).trans rfl, (blk_cell HY.out 0).trans rfl, (blk_cell HY.out 1).trans rfl⟩ (fun hHeld => ?_)
 refine czpp 0 7 ?_
 refine czpp 1 8 ?_
 refine czpp 2 9 ?_
 refine czpp 3 10 ?_
 refine czpp 5 12 ?_
 refine czpp 6 13 ?_
 refine czpp 7 14 ?_
 refine czpp 9 16 ?_
 refine czpp 10 17 ?_
 refine czpp 11 18 ?_
 refine czpp 13 20 ?_
 refine czpp 14 21 ?_
 refine czpp 15 22 ?_
 refine cztk 4 11 ?_
 refine cztk 8 15 ?_
 refine cztk 12 19 ?_
 refine cztk 16 23 ?_
 refine one_ (i := 17) (N := some 24) #[true, true, true, true, true, true, true, true, true, true, true, true, true, true, true, true, true, true, false, false, false, false] rfl rfl (by kernel_rfl) (by decide) (fun K hK => ?_)
 refine goes_ Tryz.func105 (by kernel_rfl) rfl #[.bool false, .slice Ax lx.length cx, .bool false, .slice Ay ly.length cy] (by rfl) rfl rfl (by (try simp only [List.map_toArray, List.map_cons, List.map_nil]); first | done | rfl) ?_
 with_reducible refine (vendmeterbig_sum.add Ax cx lx a Ay cy ly b w.drew (Kd.C_below (WC.c HCX.out) (below_drew1 (Below.refl _ _))) hx3 (Kd.C_below (WC.c HCY.out) (below_drew1 (Below.refl _ _))) hy3 hx4 hy4 (by omega) (by omega)).mono ?_
 rintro e w3 ⟨v3, r, rfl, hR, hW, hB⟩
 refine ⟨_, rfl, ?_⟩
 obtain ⟨Ar, cr, rfl⟩ := Kd.R_slice hR
 have HX1 := am (blk_below (blk_drew HX.out) hB)
 have HY1 := am (blk_below (blk_drew HY.out) hB)
 have HB3 := am (Below.trans (below_drew1 (Below.refl w.heap.size w)) (hB.mono (Nat.le_refl _)))
 have HR3 := am (wRW hR)
 have HW3 := am hW
 clear hR hW hB
 refine hK.out _ _ ⟨(blk_cell HX1.out 0).trans rfl, (blk_cell HX1.out 1).trans rfl, (blk_cell HY1.out 0).trans rfl, (blk_cell HY1.out 1).trans rfl⟩ (fun hHeld => ?_)
 clear hK K
 refine norm_ (a' := ?_) ?_ ?_
 rotate_left
 ·
  show Act.put _ (some 24) _ = _
  simp only [Act.put, List.setIfInBounds_toArray, List.set_cons_zero, List.set_cons_succ, i64_w, i32_w]
  rfl
 refine czpp 18 25 ?_
 refine czpp 19 26 ?_
 refine last_ (i := 20) (N := some 27) #[true, true, true, true, true, true, true, true, true, true, true, true, true, true, true, true, true, true, true, true, true, false] rfl rfl (by kernel_rfl) (by decide) (fun K hK => ?_)
 refine goes_ Tryz.func102 (by kernel_rfl) rfl #[.pointer (some ⟨z, 0, none⟩), .bool false, .slice Ar r.length cr] (by rfl) rfl rfl (by (try simp only [List.map_toArray, List.map_cons, List.map_nil]); first | done | rfl) ?_
 with_reducible refine (vendmeterbig_Int_give.calls w3 z (hz.below HB3.out) Ar cr r _ HR3.out.1 HR3.out.2 HW3.out).mono ?_
 rintro e w4 ⟨rfl, hA, hO⟩
 refine ⟨_, rfl, ?_⟩
 have HA4 := am hA
 have HO4 := am ((Only.of_below HB3.out).trans hO)
 clear hA hO
 refine hK.out _ _ ?_
 clear hK K
 refine norm_ (a' := ?_) ?_ ?_
 rotate_left
 ·
  show Act.put _ (some 27) _ = _
  simp only [Act.put, List.setIfInBounds_toArray, List.set_cons_zero, List.set_cons_succ, i64_w, i32_w]
  rfl
 refine czpp 21 6 ?_
 refine done_ (by kernel_rfl) ?_
 go_wp2
 go_ret
 exact ⟨rfl, HA4.out, HO4.out⟩
set_option maxHeartbeats 4000000 in
set_option maxRecDepth 100000 in
theorem vendmeterbig_Int_Mul.calls (w : World) (z x y : Nat) (a b : Int) (hz : IsI w z) (hx : BigA w x a) (hy : BigA w y b) (ha : a < W32 1000) (hb : b < W32 1000) :
  Calls Tryz.prog 65 #[.pointer (some ⟨z, 0, none⟩), .pointer (some ⟨x, 0, none⟩), .pointer (some ⟨y, 0, none⟩)] w fun e w' => e = .returned (.pointer (some ⟨z, 0, none⟩)) ∧ BigA w' z (a * b) ∧ Only z w w' := by
 obtain ⟨Ax, cx, lx, hx1, hx2, hx3, hx4⟩ := hx
 obtain ⟨Ay, cy, ly, hy1, hy2, hy3, hy4⟩ := hy
 have lbx := hx4.len_le ha
 have lby := hy4.len_le hb
 have HX := am hx1
 have HY := am hy1
 have HCX := am hx2
 have HCY := am hy2
 clear hx1 hx2 hy1 hy2
 go_enter Tryz.func65, Tryz.ntmps65
 go_wp2
 refine start_ (n := 21) (S := fun w' => w'.cell? ⟨x, 0, none⟩ = some (.bool false) ∧ w'.cell? ⟨x, 1, none⟩ = some (.slice Ax lx.length cx) ∧ w'.cell? ⟨y, 0, none⟩ = some (.bool false) ∧ w'.cell? ⟨y, 1, none⟩ = some (.slice Ay ly.length cy)) (ds := [19]) #[false, false, false, false, false, false, false, false, false, false, false, false, false, false, false, false, false, false, false, false, false] (by kernel_rfl) rfl rfl ⟨(blk_cell HX.out 0).trans rfl, (blk_cell HX.out 1).trans rfl, (blk_cell HY.out 0).trans rfl, (blk_cell HY.out 1).trans rfl⟩ (fun hHeld => ?_)
 refine czpp 0 7 ?_
 refine czpp 1 8 ?_
 refine czpp 2 9 ?_
 refine czpp 3 10 ?_
 refine czpp 5 12 ?_
 refine czpp 6 13 ?_
 refine czpp 7 14 ?_
 refine czpp 10 17 ?_
 refine czpp 11 18 ?_
 refine czpp 12 19 ?_
 refine czpp 14 21 ?_
 refine czpp 15 22 ?_
 refine czpp 16 23 ?_
 refine cztk 4 11 ?_
 refine cztk 8 15 ?_
 refine czpp 9 16 ?_
 refine cztk 13 20 ?_
 refine cztk 17 24 ?_
 refine one_ (i := 18) (N := some 25) #[true, true, true, true, true, true, true, true, true, true, true, true, true, true, true, true, true, true, true, false, false] rfl rfl (by kernel_rfl) (by decide) (fun K hK => ?_)
 refine goes_ Tryz.func103 (by kernel_rfl) rfl #[.slice Ax lx.length cx, .slice Ay ly.length cy] (by rfl) rfl rfl (by (try simp only [List.map_toArray, List.map_cons, List.map_nil]); first | done | rfl) ?_
 with_reducible refine (vendmeterbig_mul.calls Ax cx lx a Ay cy ly b w.drew (Kd.C_below (WC.c HCX.out) (below_drew1 (Below.refl _ _))) hx3 (Kd.C_below (WC.c HCY.out) (below_drew1 (Below.refl _ _))) hy3 hx4 hy4 (by omega) (by omega)).mono ?_
 rintro e w3 ⟨v3, r, rfl, hR, hW, _, hB⟩
 refine ⟨_, rfl, ?_⟩
 obtain ⟨Ar, cr, rfl⟩ := Kd.R_slice hR
 have HX1 := am (blk_below (blk_drew HX.out) hB)
 have HY1 := am (blk_below (blk_drew HY.out) hB)
 have HB3 := am (Below.trans (below_drew1 (Below.refl w.heap.size w)) (hB.mono (Nat.le_refl _)))
 have HR3 := am (wRW hR)
 have HW3 := am hW
 clear hR hW hB
 refine hK.out _ _ ⟨(blk_cell HX1.out 0).trans rfl, (blk_cell HX1.out 1).trans rfl, (blk_cell HY1.out 0).trans rfl, (blk_cell HY1.out 1).trans rfl⟩ (fun hHeld => ?_)
 clear hK K
 refine norm_ (a' := ?_) ?_ ?_
 rotate_left
 ·
  show Act.put _ (some 25) _ = _
  simp only [Act.put, List.setIfInBounds_toArray, List.set_cons_zero, List.set_cons_succ, i64_w, i32_w]
  rfl
 refine last_ (i := 19) (N := some 26) #[true, true, true, true, true, true, true, true, true, true, true, true, true, true, true, true, true, true, true, true, false] rfl rfl (by kernel_rfl) (by decide) (fun K hK => ?_)
 refine goes_ Tryz.func102 (by kernel_rfl) rfl #[.pointer (some ⟨z, 0, none⟩), .bool false, .slice Ar r.length cr] (by rfl) rfl rfl (by (try simp only [List.map_toArray, List.map_cons, List.map_nil]); first | done | rfl) ?_
 with_reducible refine (vendmeterbig_Int_give.calls w3 z (hz.below HB3.out) Ar cr r _ HR3.out.1 HR3.out.2 HW3.out).mono ?_
 rintro e w4 ⟨rfl, hA, hO⟩
 refine ⟨_, rfl, ?_⟩
 have HA4 := am hA
 have HO4 := am ((Only.of_below HB3.out).trans hO)
 clear hA hO
 refine hK.out _ _ ?_
 clear hK K
 refine norm_ (a' := ?_) ?_ ?_
 rotate_left
 ·
  show Act.put _ (some 26) _ = _
  simp only [Act.put, List.setIfInBounds_toArray, List.set_cons_zero, List.set_cons_succ, i64_w, i32_w]
  rfl
 refine czpp 20 6 ?_
 refine done_ (by kernel_rfl) ?_
 go_wp2
 go_ret
 exact ⟨rfl, HA4.out, HO4.out⟩
set_option maxHeartbeats 4000000 in
theorem vendmeterbig_Int_SetInt64.calls (w : World) (z : Nat) (v : Int) (hz : IsI w z) (hv : 0 ≤ v ∧ v ≤ 9223372036854775807) :
  Calls Tryz.prog 104 #[.pointer (some ⟨z, 0, none⟩), .int .i64 v] w fun e w' => e = .returned (.pointer (some ⟨z, 0, none⟩)) ∧ BigA w' z v ∧ Only z w w' := by
 obtain ⟨r, t1, hW, _⟩ := wwords_ev v ⟨hv.1, by omega⟩
 obtain ⟨kw, ht⟩ := Ev.rounds t1
 rw [← wu64 (a := v) ⟨hv.1, by omega⟩] at ht
 have HT := am ht
 have HW := am hW
 have hvb : decide (v < 0) = false := decide_eq_false (by omega)
 clear t1 ht hv hW
 go_enter Tryz.func104, Tryz.ntmps104
 go_wp2_with (first | (go_at_call 136; refine (vendmeterbig_words.calls kw _ r _ HT.out).mono ?_; rintro e w3 ⟨v3, rfl, hR, hB⟩; obtain ⟨Ar, cr, rfl⟩ := Kd.R_slice hR; have HB3 := am hB; have HR3 := am (wRW hR); clear hR hB) | (go_at_call 102; refine (vendmeterbig_Int_give.calls w3 z (hz.below HB3.out) Ar cr r _ HR3.out.1 HR3.out.2 HW.out).mono ?_; rintro e w4 ⟨rfl, hA, hO⟩; have HA4 := am hA; have HO4 := am ((Only.of_below HB3.out).trans hO); clear hA hO))
 go_ret
 exact ⟨rfl, HA4.out, HO4.out⟩
set_option maxHeartbeats 4000000 in
theorem vendmeterbig_NewInt.calls (w : World) (v : Int) (hv : 0 ≤ v ∧ v ≤ 9223372036854775807) :
  Calls Tryz.prog 66 #[.int .i64 v] w fun e w' => ∃ z, e = .returned (.pointer (some ⟨z, 0, none⟩)) ∧ w.heap.size ≤ z ∧ BigA w' z v ∧ Below w.heap.size w w' := by
 have HS := am (vendmeterbig_Int_SetInt64.calls (w.alloc (.cells #[.bool false, .slice none 0 0] 104)) w.heap.size v (IsI.new w) hv)
 clear hv
 go_enter Tryz.func66, Tryz.ntmps66
 go_wp2_with (go_at_call 104; refine HS.out.mono ?_; rintro e w3 ⟨rfl, hA, hO⟩; have HA := am hA; have HB := am (Only.below (below_alloc (Below.refl _ _) _) hO (Nat.le_refl _)); clear hA hO)
 go_ret
 exact ⟨w.heap.size, rfl, Nat.le_refl _, HA.out, HB.out⟩
/-! ### three words as a number, and back -/
def w3v (w0 w1 w2 : Int) : Nat → Int
 | 0 => wval [w0, w1, w2]
 | 1 => wval [w1, w2]
 | 2 => wval [w2]
 | _ => 0
theorem w3v_bd {w0 w1 w2 : Int} (h0 : 0 ≤ w0 ∧ w0 < 4294967296) (h1 : 0 ≤ w1 ∧ w1 < 4294967296) (h2 : 0 ≤ w2 ∧ w2 < 4294967296) (j : Nat) : 0 ≤ w3v w0 w1 w2 j ∧ w3v w0 w1 w2 j < W32 4 := by
 have e : W32 4 = 340282366920938463463374607431768211456 := by decide
 rw [e]
 match j with
 | 0 => simp only [w3v, wval]; omega
 | 1 => simp only [w3v, wval]; omega
 | 2 => simp only [w3v, wval]; omega
 | _ + 3 => simp only [w3v]; omega
theorem lt1000 {n : Int} {m : Nat} (h : n < W32 m) (hm : m ≤ 1000) : n < W32 1000 := Int.lt_of_lt_of_le h (W32.le hm)
/-! ### small -/
theorem drop_set_lt {α : Type} (l : List α) (i j : Nat) (x : α) (h : i < j) : (l.set i x).drop j = l.drop j := by
 rw [List.drop_set, if_pos h]
theorem wval_drop_set (l : List Int) (i : Nat) (x : Int) (h : i < l.length) : wval ((l.set i x).drop i) = x + 4294967296 * wval (l.drop (i + 1)) := by
 rw [wval_drop _ _ (by rw [List.length_set]; exact h), getD_set_eq _ _ _ h, drop_set_lt _ _ _ _ (Nat.lt_succ_self _)]
theorem ediv_of {x q d r : Int} (h : x = q * d + r) (h0 : 0 ≤ r) (h1 : r < d) : x / d = q ∧ x % d = r := by
 subst h
 have hd : d ≠ 0 := by omega
 constructor
 ·
  rw [Int.add_comm, Int.add_mul_ediv_right _ _ hd, Int.ediv_eq_zero_of_lt h0 h1, Int.zero_add]
 ·
  rw [Int.add_comm, Int.add_mul_emod_self_right, Int.emod_eq_of_lt h0 h1]
theorem wsmall_l0 (x : List Int) (d : Int) (hx : wok x) (hd : 0 < d ∧ d < 4294967296) (hb : x.length ≤ 1000000) : ∀ (n : Nat) (o : List Int) (r : Int), n ≤ x.length → o.length = x.length → wok o → (0 ≤ r ∧ r < d) → wval (x.drop n) = wval (o.drop n) * d + r →
  ∃ q, Ev (fun k => vendmeterbig_small.l0 k x d o r ((n : Int) - 1)) (q, wval x % d) ∧ Wd q (wval x / d) ∧ q.length ≤ x.length
 | 0, o, r, hn, ho, hk, hr, hv => by
  obtain ⟨q, h1, h2, h3⟩ := wtrim_ev o hk (by omega)
  rw [List.drop_zero, List.drop_zero] at hv
  obtain ⟨e1, e2⟩ := ediv_of hv hr.1 hr.2
  refine ⟨q, Ev.step (f := fun k => (vendmeterbig_trim.f k o).bind fun t => some (t, r % 4294967296)) (fun k => ?_) (Ev.bind h1 (WEv.ret ?_)), by rw [e1]; exact h2, by omega⟩
  ·
   simp only [vendmeterbig_small.l0]; rw [if_neg (by omega)]
  ·
   rw [e2, Int.emod_eq_of_lt hr.1 (by omega)]
 | n + 1, o, r, hn, ho, hk, hr, hv => by
  have bx := hx.at_ n
  have h1 : ((n + 1 : Nat) : Int) - 1 = (n : Int) := by omega
  have h2 : wrap64 ((n : Int) - 1) = (n : Int) - 1 := ww64 ⟨by omega, by omega⟩
  obtain ⟨t, ht⟩ : ∃ t, r * 4294967296 + x.getD n 0 = t := ⟨_, rfl⟩
  have ht0 : 0 ≤ t := by omega
  have ht1 : t < 4294967296 * d := by
   have := Int.mul_le_mul_of_nonneg_right (show r + 1 ≤ d by omega) (show (0 : Int) ≤ 4294967296 by decide)
   omega
  have hq0 : 0 ≤ t / d := Int.ediv_nonneg ht0 (by omega)
  have hq1 : t / d < 4294967296 := Int.ediv_lt_of_lt_mul hd.1 ht1
  have hr0 : 0 ≤ t % d := Int.emod_nonneg _ (by omega)
  have hr1 : t % d < d := Int.emod_lt_of_pos _ hd.1
  have hq : t = t / d * d + t % d := by have := Int.mul_ediv_add_emod t d; rw [Int.mul_comm] at this; omega
  obtain ⟨q, g1, g2⟩ := wsmall_l0 x d hx hd hb n (o.set n (t / d)) (t % d) (by omega) (by rw [List.length_set]; exact ho) (hk.set n ⟨hq0, hq1⟩) ⟨hr0, hr1⟩ (by
   rw [wval_drop_set o n _ (by omega), wval_drop x n (by omega), hv]
   generalize t / d = a at *
   generalize t % d = b at *
   grind)
  refine ⟨q, Ev.step (fun k => ?_) g1, g2⟩
  have e1 : Go.bits .or .u64 (IntKind.u64.wrap (r * 4294967296)) (IntKind.u64.wrap (rd x (n : Int))) = t := by rw [wrd, wor ⟨hr.1, by omega⟩ bx, ht]
  have e2 : IntKind.u64.wrap d = d := wu64 ⟨by omega, by omega⟩
  rw [h1]
  simp only [vendmeterbig_small.l0, e1, e2, h2, Int.tdiv_eq_ediv_of_nonneg ht0, Int.tmod_eq_emod_of_nonneg ht0, wu64 (a := t / d) ⟨hq0, by omega⟩, Int.emod_eq_of_lt hq0 hq1, Int.toNat_natCast]
  rw [if_pos (by omega), if_pos (by omega), if_pos (by omega), if_neg (by omega), if_pos (by omega)]
theorem wsmall_ev {x : List Int} {a d : Int} (hx : Wd x a) (hd : 0 < d ∧ d < 4294967296) (hb : x.length ≤ 1000000) : ∃ q, Ev (fun k => vendmeterbig_small.f k x d) (q, a % d) ∧ Wd q (a / d) ∧ q.length ≤ x.length := by
 obtain ⟨q, h1, h2, h3⟩ := wsmall_l0 x d hx.ok hd hb x.length (List.replicate x.length 0) 0 (Nat.le_refl _) (by simp) (wok.replicate _) ⟨Int.le_refl _, hd.1⟩ (by
  rw [List.drop_of_length_le (Nat.le_refl _), List.drop_of_length_le (by simp)]; simp [wval])
 rw [hx.val] at h1 h2
 refine ⟨q, ?_, h2, h3⟩
 unfold vendmeterbig_small.f
 refine WEv.pos (by omega) (WEv.pos (by omega) ?_)
 rw [ww64 (a := (x.length : Int) - 1) ⟨by omega, by omega⟩]
 exact h1

theorem wtwin_eq (x : List Int) (h : x.length ≤ 1000000) : vendmeterbig_twin.f x = some x := by
 unfold vendmeterbig_twin.f
 rw [if_pos (by simp only [List.length_nil]; omega)]; rfl

/-! ### twin, plain -/
theorem wlow (l : List Int) (h : wok l) : (if 1 < l.length then l.getD 1 0 * 4294967296 + l.getD 0 0 else if 0 < l.length then l.getD 0 0 else 0) = wval l % 18446744073709551616 := by
 match l, h with
 | [], _ => simp [wval]
 | [a], h => have := h.head; simp [wval]; omega
 | a :: b :: t, h =>
  have h1 := h.head
  have h2 := h.tail.head
  have h3 := wval_nonneg h.tail.tail
  simp only [wval, List.length_cons]
  rw [if_pos (by omega)]
  simp
  omega
theorem wplain_eq {x : List Int} {a : Int} (hx : Wd x a) (hb : x.length ≤ 1000000) : vendmeterbig_plain.f x = some (a % 18446744073709551616) := by
 have b0 := hx.ok.at_ 0
 have b1 := hx.ok.at_ 1
 have e0 : rd x 0 = x.getD 0 0 := Eq.trans rfl rfl
 have e1 : rd x 1 = x.getD 1 0 := Eq.trans rfl rfl
 have hw := wlow x hx.ok
 rw [hx.val] at hw
 unfold vendmeterbig_plain.f
 rw [e0, e1]
 by_cases g0 : 0 < x.length
 ·
  rw [if_pos (by omega), if_pos (by omega)]
  by_cases g1 : 1 < x.length
  ·
   rw [if_pos (by omega), if_pos (by omega), wor' b1 b0, ← hw, if_pos g1]
  ·
   rw [if_neg (by omega), ← hw, if_neg g1, if_pos g0, wu64 ⟨b0.1, by omega⟩]
 ·
  rw [if_neg (by omega), if_neg (by omega), ← hw, if_neg (by omega), if_neg g0]
/-! ### length -/
theorem wlen_l0 (x : List Int) (hb : x.length ≤ 1000000) (h0 : 0 < x.length) : ∀ (t : Nat) (n : Nat), n + t ≤ 4294967296 → ∃ m : Nat, Ev (fun k => vendmeterbig_length.l0 k x (n : Int) (t : Int)) (((32 * (x.length - 1) + (n + m) : Nat)) : Int) ∧ t < 2 ^ m ∧ (t = 0 → m = 0) ∧ (0 < t → 2 ^ (m - 1) ≤ t ∧ 0 < m) := by
 intro t
 induction t using Nat.strongRecOn with
 | ind t ih =>
  intro n hn
  by_cases g : t = 0
  ·
   subst g
   refine ⟨0, Ev.step (f := fun _ => some (((32 * (x.length - 1) + (n + 0) : Nat)) : Int)) (fun k => ?_) (Ev.now _), by decide, fun _ => rfl, fun h => absurd h (by decide)⟩
   simp only [vendmeterbig_length.l0]
   rw [if_pos (by omega), ww64 (a := (x.length : Int) - 1) ⟨by omega, by omega⟩, ww64 (a := ((x.length : Int) - 1) * 32) ⟨by omega, by omega⟩, ww64 ⟨by omega, by omega⟩]
   congr 1
   omega
  ·
   obtain ⟨m, h1, h2, h3, h4⟩ := ih (t / 2) (by omega) (n + 1) (by omega)
   rw [show n + 1 + m = n + (m + 1) by omega] at h1
   refine ⟨m + 1, Ev.step (fun k => ?_) h1, by rw [Nat.pow_succ]; omega, fun h => absurd h g, fun _ => ⟨?_, by omega⟩⟩
   ·
    simp only [vendmeterbig_length.l0]
    rw [if_neg (by omega), ww64 ⟨by omega, by omega⟩]
    rfl
   ·
    rw [Nat.add_sub_cancel]
    by_cases g2 : t / 2 = 0
    ·
     rw [h3 g2]; simpa using (show 1 ≤ t by omega)
    ·
     have h5 := (h4 (by omega)).1
     have h6 := (h4 (by omega)).2
     obtain ⟨m', rfl⟩ : ∃ m', m = m' + 1 := ⟨m - 1, by omega⟩
     rw [Nat.add_sub_cancel] at h5
     rw [Nat.pow_succ]
     omega
theorem W32.two (i : Nat) : W32 i = ((2 ^ (32 * i) : Nat) : Int) := by
 rw [Nat.pow_mul]; simp [W32]
theorem wlength_ev {x : List Int} {a : Int} (hx : Wd x a) (hb : x.length ≤ 1000000) : ∃ r : Nat, Ev (fun k => vendmeterbig_length.f k x) (r : Int) ∧ a < ((2 ^ r : Nat) : Int) ∧ (0 < a → ((2 ^ (r - 1) : Nat) : Int) ≤ a ∧ 0 < r) := by
 unfold vendmeterbig_length.f
 by_cases g : x.length = 0
 ·
  have h0 := hx.nil_iff.1 g
  exact ⟨0, WEv.pos (by omega) (Ev.now _), by rw [h0]; decide, fun h => by omega⟩
 ·
  have bl := hx.ok.at_ (x.length - 1)
  obtain ⟨t, ht⟩ := Int.eq_ofNat_of_zero_le bl.1
  have hl : rd x ((x.length : Int) - 1) = (t : Int) := by rw [show (x.length : Int) - 1 = ((x.length - 1 : Nat) : Int) by omega, wrd, ht]
  obtain ⟨m, h1, h2, h3, h4⟩ := wlen_l0 x hb (by omega) t 0 (by omega)
  rw [Nat.zero_add] at h1
  have hv := wval_split x (x.length - 1) (by omega)
  rw [wval_drop x _ (by omega), List.drop_of_length_le (show x.length ≤ x.length - 1 + 1 by omega), hx.val, ht, W32.two] at hv
  have hlt := wval_lt (hx.ok.take (x.length - 1))
  rw [List.length_take, Nat.min_eq_left (by omega), W32.two] at hlt
  have hge := wval_nonneg (hx.ok.take (x.length - 1))
  simp only [wval] at hv
  have hpos : t ≠ 0 := by
   rcases hx.tr with q | q
   ·
    rw [q] at g; exact absurd rfl g
   ·
    intro e; rw [ht, e] at q; exact q rfl
  obtain ⟨h4a, h4b⟩ := h4 (by omega)
  have e1 : 2 ^ (32 * (x.length - 1) + m) = 2 ^ (32 * (x.length - 1)) * 2 ^ m := Nat.pow_add _ _ _
  have e2 : 2 ^ (32 * (x.length - 1) + m - 1) = 2 ^ (32 * (x.length - 1)) * 2 ^ (m - 1) := by rw [← Nat.pow_add]; congr 1; omega
  have m1 := Nat.mul_le_mul_left (2 ^ (32 * (x.length - 1))) (show t + 1 ≤ 2 ^ m by omega)
  have m2 := Nat.mul_le_mul_left (2 ^ (32 * (x.length - 1))) h4a
  rw [Nat.mul_add, Nat.mul_one] at m1
  have e3 : ((2 ^ (32 * (x.length - 1)) : Nat) : Int) * ((t : Int) + 4294967296 * 0) = ((2 ^ (32 * (x.length - 1)) * t : Nat) : Int) := by push_cast; simp
  rw [e3] at hv
  refine ⟨32 * (x.length - 1) + m, WEv.neg (by omega) (WEv.pos (by rw [ww64 ⟨by omega, by omega⟩]; omega) (WEv.pos (by rw [ww64 ⟨by omega, by omega⟩]; omega) ?_)), ?_, fun _ => ⟨?_, by omega⟩⟩
  ·
   rw [ww64 (a := (x.length : Int) - 1) ⟨by omega, by omega⟩, hl]
   exact h1
  ·
   rw [e1]; omega
  ·
   rw [e2]; omega
/-! ### right -/
theorem wshr {p m d0 d1 V1 V2 : Int} (hB : p * m = 4294967296) (hp : 0 < p) (h0 : 0 ≤ d0 ∧ d0 < 4294967296) (hV : V1 = d1 + 4294967296 * V2) : (d0 + 4294967296 * V1) / p = (d0 + 4294967296 * d1) / p % 4294967296 + 4294967296 * (V1 / p) := by
 have e1 : (d0 + 4294967296 * V1) / p / 4294967296 = V1 / p := by
  rw [Int.ediv_ediv_of_nonneg (Int.le_of_lt hp), Int.mul_comm p, ← Int.ediv_ediv_of_nonneg (by decide), show (d0 + 4294967296 * V1) / 4294967296 = V1 by omega]
 have e2 : (d0 + 4294967296 * V1) / p = (d0 + 4294967296 * d1) / p + m * V2 * 4294967296 := by
  have : d0 + 4294967296 * V1 = (d0 + 4294967296 * d1) + (m * V2 * 4294967296) * p := by rw [hV]; grind
  rw [this, Int.add_mul_ediv_right _ _ (by omega)]
 have e3 : (d0 + 4294967296 * V1) / p % 4294967296 = (d0 + 4294967296 * d1) / p % 4294967296 := by rw [e2, Int.add_mul_emod_self_right]
 have := Int.mul_ediv_add_emod ((d0 + 4294967296 * V1) / p) 4294967296
 rw [e1, e3] at this
 omega
theorem Wd.unique : ∀ {l l' : List Int} {n : Int}, Wd l n → Wd l' n → l = l'
 | [], [], _, _, _ => rfl
 | [], x :: t, n, h, h' => by
  have h0 : n = 0 := h.nil_iff.1 rfl
  have := h'.nil_iff.2 h0
  simp at this
 | x :: t, [], n, h, h' => by
  have h0 : n = 0 := h'.nil_iff.1 rfl
  have := h.nil_iff.2 h0
  simp at this
 | x :: t, x' :: t', n, h, h' => by
  have e := h.val
  have e' := h'.val
  simp only [wval] at e e'
  have b := h.ok.head
  have b' := h'.ok.head
  have hx : x = x' := by omega
  have ht : wval t = wval t' := by omega
  have tl : ∀ {y : Int} {s : List Int}, wtr (y :: s) → wtr s := fun {y s} g => by
   match s, g with
   | [], _ => exact .inl rfl
   | z :: s', g =>
    rcases g with g | g
    ·
     simp at g
    ·
     right
     simpa using g
  rw [hx, Wd.unique ⟨h.ok.tail, tl h.tr, rfl⟩ ⟨h'.ok.tail, tl h'.tr, ht.symm⟩]
theorem wtop {v : List Int} (m : Nat) {c : Int} (hc : 0 < c ∧ c < 4294967296) (h : Wd v (c * W32 m)) : v.length = m + 1 ∧ v.getD m 0 = c ∧ ∀ i, i < m → v.getD i 0 = 0 := by
 have e : Wd (List.replicate m 0 ++ [c]) (c * W32 m) := by
  refine ⟨fun y hy => ?_, .inr ?_, ?_⟩
  ·
   rcases List.mem_append.1 hy with g | g
   ·
    exact wok.replicate m y g
   ·
    rw [List.mem_singleton.1 g]; omega
  ·
   simp; omega
  ·
   rw [wval_append, wval_zeros, List.length_replicate]; simp [wval, Int.mul_comm]
 rw [h.unique e]
 refine ⟨by simp, by simp, fun i hi => ?_⟩
 rw [List.getD_eq_getElem?_getD, List.getElem?_append_left (by simpa using hi), List.getElem?_replicate]
 simp [hi]
theorem wmade {W : World} {B g n cap : Nat} {ok : Nat → Prop} (h : Kd.R (Kd.int .u32) 84 W B ok (.slice (some ⟨g, 0, none⟩) n cap) (List.replicate n 0)) (hn : 1 ≤ n) : ∃ cur : Array Value, W.heap[g]? = some (.cells cur 84 (0, 0)) ∧ n ≤ cap ∧ cap ≤ maxLen ∧ cur.size = cap ∧ cur.toList.take n = (List.replicate n (0 : Int)).map (Value.int .u32) ∧ B ≤ g := by
 obtain ⟨_, ho⟩ := Kd.own_of_R h
 simp only [List.length_replicate] at ho
 rcases ho with ⟨_, h0⟩ | ⟨g', cap', cur, e, hg1, hg2, hg3, hg4, hg5, h6⟩
 ·
  omega
 ·
  injection e with e1 _ e3
  injection e1 with e1
  injection e1 with e1
  subst e1 e3
  exact ⟨cur, hg2, hg3, hg4, by omega, by rw [Nat.mul_one] at h6; exact h6, hg1⟩
theorem wfilled {W : World} {g n cap B : Nat} {cur : Array Value} {l : List Int} (h : W.heap[g]? = some (.cells (splice cur.toList 0 (l.map (Value.int .u32))).toArray 84 (0, 0))) (hB : B ≤ g) (hl : l.length ≤ n) (hn : n ≤ cap) (hc : cap ≤ maxLen) (hs : cur.size = cap) (ht : cur.toList.take n = (List.replicate n (0 : Int)).map (Value.int .u32)) : Kd.R (Kd.int .u32) 84 W B (fun _ => True) (.slice (some ⟨g, 0, none⟩) n cap) (l ++ List.replicate (n - l.length) 0) := by
 have hlen : (l ++ List.replicate (n - l.length) (0 : Int)).length = n := by simp; omega
 have e : cur.toList.length = cap := by rw [← hs]; exact Array.length_toList
 have hown : W.ownsRow B 84 1 (.slice (some ⟨g, 0, none⟩) n cap) n (encs (Value.int .u32) (l ++ List.replicate (n - l.length) 0)) := by
  refine ⟨by rw [encs, List.length_map, hlen, Nat.mul_one], .inr ⟨g, cap, _, rfl, hB, h, hn, hc, ?_, ?_⟩⟩
  ·
   rw [List.size_toArray, length_splice _ _ _ (by rw [List.length_map]; omega)]; omega
  ·
   rw [Nat.mul_one, List.toList_toArray]
   unfold splice encs
   rw [List.take_zero, List.nil_append, List.length_map, Nat.zero_add, List.map_append, List.take_append, List.length_map, List.take_of_length_le (by rw [List.length_map]; exact hl)]
   congr 1
   have : (cur.toList.drop l.length).take (n - l.length) = (cur.toList.take n).drop l.length := by rw [List.drop_take]
   rw [this, ht, ← List.map_drop, List.drop_replicate]
 have := Kd.R_of_own (enc := Value.int .u32) (h1 := fun _ => rfl) (xs := l ++ List.replicate (n - l.length) (0 : Int)) (by rw [hlen]; exact hown) (ok := fun _ => True) (fun _ _ => trivial)
 exact this
theorem wbits_nn (x y : Int) : 0 ≤ Go.bits .or .u64 x y := by
 unfold Go.bits
 simp
 exact (wsub_u _).1
theorem wother {W : World} {base n cap g gq : Nat} {q : List Int} (h : Kd.R (Kd.int .u32) 84 W base (fun _ => True) (.slice (some ⟨gq, 0, none⟩) n cap) q) (hne : gq ≠ g) (i : Nat) (u : Value) : Kd.R (Kd.int .u32) 84 (W.setCell ⟨g, i, none⟩ u) base (fun _ => True) (.slice (some ⟨gq, 0, none⟩) n cap) q :=
 Kd.R_mono (Kd.R_step (Kd.R_tight rfl h) (fun k hk _ => Below.heap_setCell W ⟨g, i, none⟩ u k (by
  have : k = gq := by simpa [Value.ownBlock] using hk
  rw [this]; exact hne))) (fun _ _ => trivial)
theorem set_self (l : List Int) (i : Nat) {v : Int} (hi : i < l.length) (h : l.getD i 0 = v) : l.set i v = l := by
 apply List.ext_getElem?
 intro j
 by_cases hj : j = i
 ·
  subst hj
  rw [List.getElem?_set_self hi, List.getElem?_eq_getElem hi, ← h, List.getD_eq_getElem?_getD, List.getElem?_eq_getElem hi]; rfl
 ·
  rw [List.getElem?_set_ne (fun e => hj e.symm)]
theorem wknuth {U1 U0 gg rr h : Int} (h1 : U1 * 4294967296 + U0 = h) (hU1 : 0 ≤ U1) (hU0 : 0 ≤ U0 ∧ U0 < 4294967296) (h2 : h = gg * 2147483648 + rr) (hg : 0 ≤ gg ∧ gg < 4294967296) (hr : 0 ≤ rr ∧ rr < 2147483648) :
  IntKind.u64.wrap (IntKind.u64.wrap U0 - gg * 2147483648 % 4294967296) % 4294967296 = rr ∧ gg * 2147483648 / 4294967296 + IntKind.u64.wrap (IntKind.u64.wrap U0 - gg * 2147483648 % 4294967296) / 9223372036854775808 = U1 ∧ (0 ≤ IntKind.u64.wrap (IntKind.u64.wrap U0 - gg * 2147483648 % 4294967296) / 9223372036854775808 ∧ IntKind.u64.wrap (IntKind.u64.wrap U0 - gg * 2147483648 % 4294967296) / 9223372036854775808 ≤ 1) ∧ (0 ≤ gg * 2147483648 / 4294967296 ∧ gg * 2147483648 / 4294967296 < 4294967296) := by
 rw [wu64 (a := U0) ⟨hU0.1, by omega⟩]
 have key : IntKind.u64.wrap (U0 - gg * 2147483648 % 4294967296) = if 0 ≤ U0 - gg * 2147483648 % 4294967296 then U0 - gg * 2147483648 % 4294967296 else U0 - gg * 2147483648 % 4294967296 + 18446744073709551616 := by
  rw [Go.IntKind.wrap_u64]
  split <;> omega
 rw [key]
 split <;> omega
theorem wkn_zero {u q : List Int} {a b : Int} {m0 N s : Nat} (hN : N = m0 + 1) (hul : N ≤ u.length) (u2 : wok u) (u3 : ∀ i, 0 + N ≤ i → u.getD i 0 = 0) (u4 : u.getD (0 + N - 1) 0 < 2147483648) (hb : 0 < b) (hbs : b * 2 ^ s = 2147483648 * W32 m0) (u5 : a * 2 ^ s = wval u + 2147483648 * W32 m0 * (W32 0 * wval (q.drop 0))) : wval q = a / b ∧ wval u = a % b * 2 ^ s := by
 have w1 := wval_low u N (by omega) (fun i' hi' => u3 i' (by omega))
 rw [hN, wval_take u m0 (by omega)] at w1
 rw [show 0 + N - 1 = m0 by omega] at u4
 have b0 := wval_nonneg (u2.take m0)
 have b1 := wval_lt (u2.take m0)
 rw [List.length_take, Nat.min_eq_left (by omega)] at b1
 have b2 := (u2.at_ m0).1
 have hs0 : (0 : Int) < 2 ^ s := Int.pow_pos (by decide)
 rw [List.drop_zero, show W32 0 = 1 from rfl, Int.one_mul, ← hbs] at u5
 have hw := W32.pos m0
 generalize W32 m0 = P at *
 generalize u.getD m0 0 = t at *
 generalize wval (u.take m0) = V at *
 have b3 := Int.mul_le_mul_of_nonneg_left (show t + 1 ≤ 2147483648 by omega) (Int.le_of_lt hw)
 have b4 := Int.mul_nonneg (Int.le_of_lt hw) b2
 rw [Int.mul_add, Int.mul_one] at b3
 have hu0 : 0 ≤ wval u ∧ wval u < b * 2 ^ s := by rw [hbs, w1]; generalize P * t = Pt at *; omega
 generalize wval u = Wu at *
 generalize wval q = Wq at *
 clear w1 b0 b1 b2 b3 b4 u3 u4 u2 hul hN hbs hw
 have m1 : 0 ≤ a % b := Int.emod_nonneg _ (by omega)
 have m2 : a % b < b := Int.emod_lt_of_pos _ hb
 have hda := Int.mul_ediv_add_emod a b
 generalize (2 : Int) ^ s = S at *
 have m3 := Int.mul_lt_mul_of_pos_right m2 hs0
 have m4 := Int.mul_nonneg m1 (Int.le_of_lt hs0)
 obtain ⟨d1, d2⟩ := ediv_of (show a * S = Wq * (b * S) + Wu by rw [u5, Int.mul_comm Wq]; generalize b * S * Wq = z; omega) hu0.1 hu0.2
 obtain ⟨d3, d4⟩ := ediv_of (show a * S = a / b * (b * S) + a % b * S by
  generalize a / b = X at *
  generalize a % b = Y at *
  rw [← hda]
  clear u5 hu0 m1 m2 m3 m4 hda d1 d2
  grind) m4 m3
 exact ⟨by rw [← d1, d3], by rw [← d2, d4]⟩
theorem wkn_step {u q : List Int} {A U1 U0 gg rr h : Int} {m0 N j p1 : Nat} (hN : N = p1 + 1) (hp : p1 = m0) (hul : j + N < u.length) (hql : j < q.length) (u3 : ∀ i, j + 1 + N ≤ i → u.getD i 0 = 0) (h1 : u.getD (j + N) 0 = U1) (h0 : u.getD (j + p1) 0 = U0) (hh : U1 * 4294967296 + U0 = h) (hg : h = gg * 2147483648 + rr)
  (u5 : A = wval u + 2147483648 * W32 m0 * (W32 (j + 1) * wval (q.drop (j + 1)))) : A = wval ((u.set (j + p1) rr).set (j + N) 0) + 2147483648 * W32 m0 * (W32 j * wval ((q.set j gg).drop j)) := by
 have w1 := wval_low u (j + N + 1) (by omega) (fun i' hi' => u3 i' (by omega))
 rw [wval_take u _ (by omega), h1, show j + N = j + p1 + 1 by omega, wval_take u _ (by omega), h0] at w1
 have w2' := wval_low ((u.set (j + p1) rr).set (j + N) 0) (j + N + 1) (by rw [List.length_set, List.length_set]; omega) (fun i' hi' => by
  rw [getD_set_ne _ _ _ _ (by omega), getD_set_ne _ _ _ _ (by omega)]
  exact u3 i' (by omega))
 rw [wval_take_set _ _ _ (by rw [List.length_set]; omega), show j + N = j + p1 + 1 by omega, wval_take_set u _ _ (by omega)] at w2'
 rw [show (u.set (j + p1) rr).set (j + N) 0 = (u.set (j + p1) rr).set (j + p1 + 1) 0 by rw [show j + N = j + p1 + 1 by omega], w2', wval_drop_set q j gg hql, u5, w1]
 rw [W32.succ, W32.succ, W32.add, hp]
 generalize W32 m0 = P
 generalize W32 j = Q
 generalize wval (List.take (j + m0) u) = V
 generalize wval (List.drop (j + 1) q) = Z
 clear w1 w2' u5 u3 h1 h0
 grind
theorem wor32 {q v p : Int} (hq : 0 ≤ q ∧ q < p) (hp : ∃ s : Nat, s < 32 ∧ p = 2 ^ s) (hv : 0 ≤ v ∧ v < 4294967296) (hd : p ∣ v) : Go.bits .or .u32 q v = q + v ∧ q + v < 4294967296 := by
 obtain ⟨s, hs, rfl⟩ := hp
 obtain ⟨a, rfl⟩ := Int.eq_ofNat_of_zero_le hq.1
 obtain ⟨c, rfl⟩ := Int.eq_ofNat_of_zero_le hv.1
 have e : (2 : Int) ^ s = ((2 ^ s : Nat) : Int) := by simp
 rw [e] at hd hq
 have hd' : 2 ^ s ∣ c := Int.natCast_dvd_natCast.1 hd
 have ha : a < 2 ^ s := by omega
 have h32 : 2 ^ s ≤ 2 ^ 32 := Nat.pow_le_pow_right (by decide) (by omega)
 obtain ⟨b, rfl⟩ := hd'
 have hlt : 2 ^ s * b + 2 ^ s ≤ 2 ^ 32 := by
  have : 2 ^ 32 = 2 ^ s * 2 ^ (32 - s) := by rw [← Nat.pow_add]; congr 1; omega
  rw [this]
  have hb : b < 2 ^ (32 - s) := by
   refine Nat.lt_of_mul_lt_mul_left (a := 2 ^ s) ?_
   rw [← this]; omega
  have := Nat.mul_le_mul_left (2 ^ s) (show b + 1 ≤ 2 ^ (32 - s) from hb)
  rw [Nat.mul_add, Nat.mul_one] at this
  exact this
 rw [u32_or_nat _ _ (by omega) (by omega), Nat.or_comm, ← Nat.two_pow_add_eq_or_of_lt ha]
 omega
theorem wor0 {v : Int} (hv : 0 ≤ v ∧ v < 4294967296) : Go.bits .or .u32 0 v = v := by
 obtain ⟨c, rfl⟩ := Int.eq_ofNat_of_zero_le hv.1
 have := u32_or_nat 0 c (by decide) (by omega)
 rw [Nat.zero_or] at this
 exact this
set_option maxHeartbeats 8000000 in
set_option maxRecDepth 100000 in
theorem vendmeterbig_left.calls (A0 : Option Addr) (c0 : Nat) (x : List Int) (a : Int) (n : Nat) (w : World) (hr0 : Kd.C (Kd.int .u32) w A0 x.length x) (hc0 : x.length ≤ c0) (hx : Wd x a) (hbx : x.length ≤ 100000) (hn : n ≤ 100000) :
  Calls Tryz.prog 143 #[.slice A0 x.length c0, .int .u64 (n : Int)] w fun e w' => ∃ v r, e = .returned v ∧ Kd.R (Kd.int .u32) 84 w' w.heap.size (fun _ => True) v r ∧ Wd r (a * 2 ^ n) ∧ r.length ≤ x.length + n / 32 + 1 ∧ Below w.heap.size w w' := by
 have HR0 := am hr0
 clear hr0
 obtain ⟨W, hW⟩ : ∃ W, n / 32 = W := ⟨_, rfl⟩
 obtain ⟨s, hs⟩ : ∃ s, n % 32 = s := ⟨_, rfl⟩
 have E5 := am (show Int.tdiv (n : Int) 32 = (W : Int) by rw [Int.tdiv_eq_ediv_of_nonneg (by omega)]; omega)
 have E6 := am (show Int.tmod (n : Int) 32 = (s : Int) by rw [Int.tmod_eq_emod_of_nonneg (by omega)]; omega)
 have hWb : W ≤ 100000 := by omega
 have hsb : s < 32 := by omega
 have HE := am (And.intro hW hs)
 clear hW hs
 by_cases hc : x.length = 0
 ·
  have hcb : (x.length == 0) = true := beq_iff_eq.mpr hc
  have HZ := am (hx.nil_iff.1 hc)
  clear hc
  go_enter Tryz.func143, Tryz.ntmps143
  go_wp2
  go_ret
  exact ⟨_, [], rfl, Kd.R_nil _ _ _ _ _, by rw [HZ.out, Int.zero_mul]; exact Wd.zero, by simp, Below.refl _ _⟩
 ·
  have hcb : (x.length == 0) = false := beq_eq_false_iff_ne.mpr hc
  obtain ⟨L, hL⟩ : ∃ L, x.length + W + 1 = L := ⟨_, rfl⟩
  have hL0 : 0 ≤ (x.length : Int) + (W : Int) + 1 := by omega
  have hL4 : ((x.length : Int) + (W : Int) + 1).toNat * 4 ≤ 281474976710656 := by omega
  have E9 := am (show ((x.length : Int) + (W : Int) + 1).toNat = L by omega)
  have HL := am hL
  have hL1 : 0 < L := by omega
  have HLR := am (show 0 < (List.replicate L (0:Int)).length by simpa using hL1)
  clear hc hL hL1
  have e5 := E5.out; have e6 := E6.out
  go_enter Tryz.func143, Tryz.ntmps143
  go_wp2_with (first | ((with_reducible refine gate_dst (N := 23) rfl ?_); refine Kd.R_make (Kd.int .u32) _ 84 rfl (N := 23) rfl 102 _ _ rfl ((x.length : Int) + (W : Int) + 1) rfl rfl Tryz.underlying102 (.int .u32 0) 4 winfo rfl (by decide) (by omega) 0 (ok := fun _ => True) (okp := fun _ => True) rfl (fun _ hk => hk) trivial hL0 hL4 (Below.refl _ _) (Nat.le_refl _) ?_; intro v5 w5 ho hb hg_ hnew_; clear hg_ hnew_; rw [E9.out] at ho; have HO := am ho; have HB := am hb; clear ho hb))
  obtain ⟨g, cap, rfl, hgb, hgl, _⟩ := Kd.R_form HO.out HLR.out
  have HG := am hgb
  clear hgb hgl e5 e6 hL0 hL4
  simp only [List.length_replicate] at HO ⊢
  go_loopg [8] x.length (fun kq v8 w' => ∃ (i : Nat) (l : List Int), v8 = .int .i64 (i : Int) ∧ i ≤ x.length ∧ kq = x.length - i ∧ Aside0 (l.length = L ∧ wok l ∧ (∀ j, i + W < j → l.getD j 0 = 0) ∧ l.getD (i + W) 0 < 2 ^ s ∧ wval (l.take (i + W + 1)) = wval (x.take i) * 2 ^ s * W32 W) ∧ Aside0 (Kd.R (Kd.int .u32) 84 w' w.heap.size (fun _ => True) (.slice (some ⟨g, 0, none⟩) L cap) l) ∧ Aside0 (Below w.heap.size w w'))
  case atStart =>
   have hz : ∀ j, (List.replicate L (0 : Int)).getD j 0 = 0 := fun j => by
    rw [List.getD_eq_getElem?_getD, List.getElem?_replicate]; split <;> rfl
   refine ⟨0, List.replicate L 0, rfl, Nat.zero_le _, rfl, ⟨by simp, wok.replicate _, fun j _ => hz j, by rw [hz]; exact Int.pow_pos (by decide), ?_⟩, HO, HB⟩
   rw [List.take_replicate, wval_zeros]
   simp [wval]
  case round =>
   clear HO HB
   obtain ⟨i, l, rfl, hi, rfl, HI, HO, HB⟩ := hrel
   by_cases hlt : i < x.length
   ·
    have hltb : decide (i < x.length) = true := decide_eq_true hlt
    have hl := HL.out
    obtain ⟨h1, h2, h3, h4, h5⟩ := HI.out
    have hiL : i + W < L := by omega
    have hiL1 : i + W + 1 < L := by omega
    obtain ⟨adx, ex, hcx⟩ := wread HR0.out HB.out i hlt
    cases ex
    obtain ⟨xi, hxi⟩ : ∃ xi, x.getD i 0 = xi := ⟨_, rfl⟩
    have bX := hx.ok.at_ i
    rw [hxi] at hcx bX
    obtain ⟨hcl, hfl⟩ := wcell HO.out (i + W) hiL
    obtain ⟨q, hq⟩ : ∃ q, l.getD (i + W) 0 = q := ⟨_, rfl⟩
    have bq := h2.at_ (i + W)
    rw [hq] at hcl h4 bq
    have hcm' := fun u => (wfar HO.out (i + W) (i + W + 1) hiL1 (by omega) u).1
    have hfm' := fun u => (wfar HO.out (i + W) (i + W + 1) hiL1 (by omega) u).2
    rw [h3 (i + W + 1) (by omega)] at hcm'
    have HXI := am hxi
    have BX := am bX
    have HQ := am hq
    have BQ := am (And.intro bq h4)
    clear hxi bX h1 h2 h3 h4 h5 hl hq bq
    go_wp2
    go_roundg (x.length - (i + 1))
    case measure => omega
    case rel =>
     have bX := BX.out
     obtain ⟨h1, h2, h3, h4, h5⟩ := HI.out
     obtain ⟨bq, bq2⟩ := BQ.out
     have hl := HL.out
     obtain ⟨p, hp⟩ : ∃ p : Int, (2 : Int) ^ s = p := ⟨_, rfl⟩
     have hp0 : 0 < p := by rw [← hp]; exact Int.pow_pos (by decide)
     have hp1 : p ≤ 4294967296 := by
      rw [← hp]
      have h32 : 2 ^ s ≤ 2 ^ 32 := Nat.pow_le_pow_right (by decide) (by omega)
      have e : (2 : Int) ^ s = ((2 ^ s : Nat) : Int) := by simp
      omega
     have hpd : p ∣ 4294967296 := ⟨2 ^ (32 - s), by rw [← hp, ← Int.pow_add, show s + (32 - s) = 32 by omega]; decide⟩
     have hv0 : 0 ≤ xi * p := Int.mul_nonneg bX.1 (by omega)
     have hv1 : xi * p < 4294967296 * p := Int.mul_lt_mul_of_pos_right bX.2 hp0
     have hv2 : xi * p < 18446744073709551616 := by omega
     have hlo : p ∣ xi * p % 4294967296 := by
      rw [Int.emod_def]
      exact Int.dvd_sub (Int.dvd_mul_left _ _) (Int.dvd_trans hpd (Int.dvd_mul_right _ _))
     have hh0 : 0 ≤ xi * p / 4294967296 := Int.ediv_nonneg hv0 (by decide)
     have hh1 : xi * p / 4294967296 < p := Int.ediv_lt_of_lt_mul (by decide) (by omega)
     rw [hp] at bq2
     obtain ⟨o1, o2⟩ := wor32 ⟨bq.1, bq2⟩ ⟨s, hsb, hp.symm⟩ ⟨Int.emod_nonneg (xi * p) (by decide), Int.emod_lt_of_pos _ (by decide)⟩ hlo
     have e0 : IntKind.u64.wrap (IntKind.u64.wrap xi * 2 ^ s) = xi * p := by rw [hp, wu64 (a := xi) ⟨bX.1, by omega⟩, wu64 ⟨hv0, hv2⟩]
     have e1 : xi * p / 4294967296 % 4294967296 = xi * p / 4294967296 := Int.emod_eq_of_lt hh0 (by omega)
     refine ⟨i + 1, (l.set (i + W) (q + xi * p % 4294967296)).set (i + W + 1) (xi * p / 4294967296), by first | rfl | simp, by omega, rfl, ⟨?_⟩, ⟨?_⟩, ⟨below_set (below_set HB.out HG.out) HG.out⟩⟩
     ·
      have lm0 := Int.emod_nonneg (xi * p) (show (4294967296 : Int) ≠ 0 by decide)
      refine ⟨by rw [List.length_set, List.length_set]; exact h1, (h2.set _ ⟨by omega, o2⟩).set _ ⟨hh0, by omega⟩, fun j hj => ?_, ?_, ?_⟩
      ·
       rw [getD_set_ne _ _ _ _ (by omega), getD_set_ne _ _ _ _ (by omega)]
       exact h3 j (by omega)
      ·
       rw [show i + 1 + W = i + W + 1 by omega, getD_set_eq _ _ _ (by rw [List.length_set]; omega), hp]
       exact hh1
      ·
       rw [show i + 1 + W + 1 = i + W + 1 + 1 by omega, wval_take_set _ _ _ (by rw [List.length_set]; omega), wval_take_set _ _ _ (by omega), wval_take x i hlt, HXI.out, hp]
       rw [wval_take l (i + W) (by omega), HQ.out, hp] at h5
       have em := Int.mul_ediv_add_emod (xi * p) 4294967296
       rw [W32.succ, W32.add] at *
       generalize xi * p / 4294967296 = hi' at *
       generalize xi * p % 4294967296 = lo' at *
       clear e0 e1 o1 o2 hlo
       grind
     ·
      rw [e0, e1, o1, wor0 ⟨hh0, by omega⟩]
      exact wput (wput HO.out (i + W) _) (i + W + 1) _
   ·
    have hltb : decide (i < x.length) = false := decide_eq_false hlt
    have hix : i = x.length := by omega
    subst hix
    obtain ⟨h1, h2, h3, h4, h5⟩ := HI.out
    rw [List.take_of_length_le (by have := HL.out; omega), wval_take_over x _ (Nat.le_refl _), hx.val] at h5
    obtain ⟨r, t1, t2, t3⟩ := wtrim_ev l h2 (by have := HL.out; omega)
    have h6 : a * 2 ^ s * W32 W = a * 2 ^ n := by
     rw [W32.two, Int.mul_assoc]
     congr 1
     have e : ((2 ^ (32 * W) : Nat) : Int) = (2 : Int) ^ (32 * W) := by simp
     rw [e, ← Int.pow_add]
     congr 1
     have := HE.out
     omega
    rw [h5, h6] at t2
    obtain ⟨kt, ht⟩ := Ev.rounds t1
    have HT := am ht
    have HRV := am (show Wd r (a * 2 ^ n) ∧ r.length ≤ x.length + n / 32 + 1 from ⟨t2, by have := HL.out; have := HE.out; omega⟩)
    clear HI h1 h2 h3 h4 h5 h6 t1 t2 t3 ht
    go_wp2_with (first | ((with_reducible refine gate_callee (f := 135) rfl ?_); refine goesL_ (some 60) rfl rfl Tryz.func135 (by kernel_rfl) rfl #[.slice (some ⟨g, 0, none⟩) L cap] rfl (by (try simp only [List.map_toArray, List.map_cons, List.map_nil]); first | done | rfl) ?_; (with_reducible refine (vendmeterbig_trim.calls kt (fun _ => True) (.slice (some ⟨g, 0, none⟩) L cap) l r w _ ?side1 ?side2 HT.out).mono ?_); (case side1 => exact HB.out); (case side2 => exact HO.out); rintro e w20 ⟨v0, rfl, ho0, hb, hkp⟩; refine ⟨_, rfl, ?_⟩; have HO3 := am (Kd.R_mono (ok' := fun k_ => True) ho0 (fun k_ hk_ => trivial)); have HB3 := am hb; clear ho0 hb hkp))
    go_ret
    exact ⟨v0, r, rfl, HO3.out, HRV.out.1, HRV.out.2, HB3.out⟩
theorem wright_val {x : List Int} {a : Int} (hx : Wd x a) (n : Nat) (h : n / 32 ≤ x.length) : wval (x.drop (n / 32)) / 2 ^ (n % 32) = a / 2 ^ n := by
 have h1 := wval_split x (n / 32) h
 have h2 := wval_nonneg (hx.ok.take (n / 32))
 have h3 := wval_lt (hx.ok.take (n / 32))
 rw [List.length_take, Nat.min_eq_left h] at h3
 rw [hx.val, Int.mul_comm] at h1
 have h4 := (ediv_of (show a = wval (x.drop (n / 32)) * W32 (n / 32) + wval (x.take (n / 32)) by omega) h2 h3).1
 rw [← h4, Int.ediv_ediv_of_nonneg (Int.le_of_lt (W32.pos _)), W32.two]
 congr 1
 have : (2 : Int) ^ n = 2 ^ (32 * (n / 32) + n % 32) := by congr 1; omega
 rw [this, Int.pow_add]
 congr 1
theorem wright_zero {x : List Int} {a : Int} (hx : Wd x a) (n : Nat) (h : x.length ≤ n / 32) : a / 2 ^ n = 0 := by
 refine Int.ediv_eq_zero_of_lt hx.pos ?_
 have h1 := hx.lt
 have h2 := W32.le h
 rw [W32.two (n / 32)] at h2
 have h3 : 2 ^ (32 * (n / 32)) ≤ 2 ^ n := Nat.pow_le_pow_right (by decide) (by omega)
 have h4 : ((2 ^ n : Nat) : Int) = 2 ^ n := by simp
 omega
set_option maxHeartbeats 8000000 in
set_option maxRecDepth 100000 in
theorem vendmeterbig_right.calls (A0 : Option Addr) (c0 : Nat) (x : List Int) (a : Int) (n : Nat) (w : World) (hr0 : Kd.C (Kd.int .u32) w A0 x.length x) (hc0 : x.length ≤ c0) (hx : Wd x a) (hbx : x.length ≤ 100000) (hn : n ≤ 100000) :
  Calls Tryz.prog 144 #[.slice A0 x.length c0, .int .u64 (n : Int)] w fun e w' => ∃ v r, e = .returned v ∧ Kd.R (Kd.int .u32) 84 w' w.heap.size (fun _ => True) v r ∧ Wd r (a / 2 ^ n) ∧ r.length ≤ x.length ∧ Below w.heap.size w w' := by
 have HR0 := am hr0
 clear hr0
 obtain ⟨W, hW⟩ : ∃ W, n / 32 = W := ⟨_, rfl⟩
 obtain ⟨s, hs⟩ : ∃ s, n % 32 = s := ⟨_, rfl⟩
 have E5 := am (show Int.tdiv (n : Int) 32 = (W : Int) by rw [Int.tdiv_eq_ediv_of_nonneg (by omega)]; omega)
 have E6 := am (show Int.tmod (n : Int) 32 = (s : Int) by rw [Int.tmod_eq_emod_of_nonneg (by omega)]; omega)
 have hWb : W ≤ 100000 := by omega
 have hsb : s < 32 := by omega
 have HE := am (And.intro hW hs)
 clear hW hs
 by_cases hc : x.length ≤ W
 ·
  have hcb : decide (x.length ≤ W) = true := decide_eq_true hc
  have HZ := am (wright_zero hx n (by rw [HE.out.1]; exact hc))
  have e5 := E5.out; have e6 := E6.out
  go_enter Tryz.func144, Tryz.ntmps144
  go_wp2
  go_ret
  exact ⟨_, [], rfl, Kd.R_nil _ _ _ _ _, by rw [HZ.out]; exact Wd.zero, by simp, Below.refl _ _⟩
 ·
  have hcb : decide (x.length ≤ W) = false := decide_eq_false hc
  obtain ⟨L, hL⟩ : ∃ L, x.length - W = L := ⟨_, rfl⟩
  have HLX := am (show x.length = L + W by omega)
  have hL0 : 0 ≤ (x.length : Int) - (W : Int) := by omega
  have hL4 : ((x.length : Int) - (W : Int)).toNat * 4 ≤ 281474976710656 := by omega
  have hL1 : 0 < L := by omega
  have HLR := am (show 0 < (List.replicate L (0:Int)).length by simpa using hL1)
  have E9 := am (show (x.length : Int) - (W : Int) = (L : Int) by omega)
  clear hc hL
  have e5 := E5.out; have e6 := E6.out
  go_enter Tryz.func144, Tryz.ntmps144
  go_wp2_with (first | ((with_reducible refine gate_dst (N := 23) rfl ?_); refine Kd.R_make (Kd.int .u32) _ 84 rfl (N := 23) rfl 102 _ _ rfl ((x.length : Int) - (W : Int)) rfl rfl Tryz.underlying102 (.int .u32 0) 4 winfo rfl (by decide) (by omega) 0 (ok := fun _ => True) (okp := fun _ => True) rfl (fun _ hk => hk) trivial hL0 hL4 (Below.refl _ _) (Nat.le_refl _) ?_; intro v5 w5 ho hb hg_ hnew_; clear hg_ hnew_; rw [E9.out, Int.toNat_natCast] at ho; have HO := am ho; have HB := am hb; clear ho hb))
  obtain ⟨g, cap, rfl, hgb, hgl, _⟩ := Kd.R_form HO.out HLR.out
  have HG := am hgb
  clear hgb hgl e5 e6
  simp only [List.length_replicate] at HO ⊢
  go_loopg [8] L (fun kq v8 w' => ∃ (i : Nat) (l : List Int), v8 = .int .i64 (i : Int) ∧ i ≤ L ∧ kq = L - i ∧ Aside0 (l.length = L ∧ wok l ∧ wval (l.take i) + W32 i * (wval (x.drop (W + i)) / 2 ^ s) = wval (x.drop W) / 2 ^ s) ∧ Aside0 (Kd.R (Kd.int .u32) 84 w' w.heap.size (fun _ => True) (.slice (some ⟨g, 0, none⟩) L cap) l) ∧ Aside0 (Below w.heap.size w w'))
  case atStart => exact ⟨0, List.replicate L 0, rfl, Nat.zero_le _, rfl, ⟨by simp, wok.replicate _, by simp [wval]⟩, HO, HB⟩
  case round =>
   clear HO HB
   have hlx := HLX.out
   obtain ⟨i, l, rfl, hi, rfl, HI, HO, HB⟩ := hrel
   by_cases hlt : i < L
   ·
    have hltb : decide (i < L) = true := decide_eq_true hlt
    obtain ⟨adx, ex, hcx⟩ := wread HR0.out HB.out (i + W) (by omega)
    cases ex
    obtain ⟨xi, hxi⟩ : ∃ xi, x.getD (i + W) 0 = xi := ⟨_, rfl⟩
    have bX := hx.ok.at_ (i + W)
    rw [hxi] at hcx bX
    have HXI := am hxi
    have BX := am bX
    clear hxi bX
    have hix : i + W < x.length := by omega
    clear hlx
    obtain ⟨hcl, hfl⟩ := wcell HO.out i (by omega)
    by_cases hy1 : i + W + 1 < x.length
    ·
     have hltc : decide ((i : Int) + (W : Int) + 1 < (x.length : Int)) = true := decide_eq_true (by omega)
     obtain ⟨ady, ey, hcy⟩ := wread HR0.out HB.out (i + W + 1) hy1
     cases ey
     obtain ⟨yi, hyi⟩ : ∃ yi, x.getD (i + W + 1) 0 = yi := ⟨_, rfl⟩
     have bY := hx.ok.at_ (i + W + 1)
     rw [hyi] at hcy bY
     have HYI := am hyi
     have BY := am bY
     clear hyi bY
     rw [Addr.add_succ'] at hcy
     go_wp2
     go_roundg (L - (i + 1))
     case measure => omega
     case rel =>
      have he : Go.bits .or .u64 (IntKind.u64.wrap xi) (IntKind.u64.wrap (IntKind.u64.wrap yi * 4294967296)) / 2 ^ s = (xi + 4294967296 * yi) / 2 ^ s := by rw [wor' BY.out BX.out, Int.add_comm, Int.mul_comm]
      refine ⟨i + 1, l.set i ((xi + 4294967296 * yi) / 2 ^ s % 4294967296), by first | rfl | simp, by omega, rfl, ⟨?_⟩, ⟨by rw [he]; exact wput HO.out i _⟩, ⟨below_set HB.out HG.out⟩⟩
      obtain ⟨h1, h2, h3⟩ := HI.out
      refine ⟨by rw [List.length_set]; exact h1, h2.set i ⟨Int.emod_nonneg _ (by decide), Int.emod_lt_of_pos _ (by decide)⟩, ?_⟩
      have hp : (2 : Int) ^ s * 2 ^ (32 - s) = 4294967296 := by rw [← Int.pow_add, show s + (32 - s) = 32 by omega]; decide
      have hv := wshr (V1 := wval (x.drop (i + W + 1))) (d0 := xi) (d1 := yi) (V2 := wval (x.drop (i + W + 2))) hp (Int.pow_pos (by decide)) BX.out (by rw [wval_drop x (i + W + 1) hy1, HYI.out])
      rw [wval_take_set l i _ (by omega), ← h3, show W + (i + 1) = i + W + 1 by omega, show W + i = i + W by omega, wval_drop x (i + W) hix, HXI.out, hv, W32.succ]
      generalize (xi + 4294967296 * yi) / 2 ^ s % 4294967296 = A
      generalize wval (x.drop (i + W + 1)) / 2 ^ s = C
      clear hv he
      grind
    ·
     have hltc : decide ((i : Int) + (W : Int) + 1 < (x.length : Int)) = false := decide_eq_false (by omega)
     go_wp2
     go_roundg (L - (i + 1))
     case measure => omega
     case rel =>
      have he : IntKind.u64.wrap xi / 2 ^ s = (xi + 4294967296 * 0) / 2 ^ s := by rw [wu64 (a := xi) ⟨BX.out.1, by have := BX.out.2; omega⟩, Int.mul_zero, Int.add_zero]
      refine ⟨i + 1, l.set i ((xi + 4294967296 * 0) / 2 ^ s % 4294967296), by first | rfl | simp, by omega, rfl, ⟨?_⟩, ⟨by rw [he]; exact wput HO.out i _⟩, ⟨below_set HB.out HG.out⟩⟩
      obtain ⟨h1, h2, h3⟩ := HI.out
      refine ⟨by rw [List.length_set]; exact h1, h2.set i ⟨Int.emod_nonneg _ (by decide), Int.emod_lt_of_pos _ (by decide)⟩, ?_⟩
      have hp : (2 : Int) ^ s * 2 ^ (32 - s) = 4294967296 := by rw [← Int.pow_add, show s + (32 - s) = 32 by omega]; decide
      have hv := wshr (V1 := wval (x.drop (i + W + 1))) (d0 := xi) (d1 := 0) (V2 := 0) hp (Int.pow_pos (by decide)) BX.out (by rw [List.drop_of_length_le (by omega)]; rfl)
      rw [wval_take_set l i _ (by omega), ← h3, show W + (i + 1) = i + W + 1 by omega, show W + i = i + W by omega, wval_drop x (i + W) hix, HXI.out, hv, W32.succ]
      generalize (xi + 4294967296 * 0) / 2 ^ s % 4294967296 = A
      generalize wval (x.drop (i + W + 1)) / 2 ^ s = C
      clear hv he
      grind
   ·
    have hltb : decide (i < L) = false := decide_eq_false hlt
    have hix : i = L := by omega
    subst hix
    obtain ⟨h1, h2, h3⟩ := HI.out
    rw [List.take_of_length_le (by omega), List.drop_of_length_le (by omega)] at h3
    simp only [wval, Int.zero_ediv, Int.mul_zero, Int.add_zero] at h3
    rw [← HE.out.1, ← HE.out.2, wright_val hx n (by rw [HE.out.1]; omega)] at h3
    obtain ⟨r, t1, t2, t3⟩ := wtrim_ev l h2 (by omega)
    rw [h3] at t2
    obtain ⟨kt, ht⟩ := Ev.rounds t1
    have HT := am ht
    have HRV := am (show Wd r (a / 2 ^ n) ∧ r.length ≤ x.length from ⟨t2, by omega⟩)
    clear HI h1 h2 h3 t1 t2 t3 ht
    go_wp2_with (first | ((with_reducible refine gate_callee (f := 135) rfl ?_); refine goesL_ (some 63) rfl rfl Tryz.func135 (by kernel_rfl) rfl #[.slice (some ⟨g, 0, none⟩) i cap] rfl (by (try simp only [List.map_toArray, List.map_cons, List.map_nil]); first | done | rfl) ?_; (with_reducible refine (vendmeterbig_trim.calls kt (fun _ => True) (.slice (some ⟨g, 0, none⟩) i cap) l r w _ ?side1 ?side2 HT.out).mono ?_); (case side1 => exact HB.out); (case side2 => exact HO.out); rintro e w20 ⟨v0, rfl, ho0, hb, hkp⟩; refine ⟨_, rfl, ?_⟩; have HO3 := am (Kd.R_mono (ok' := fun k_ => True) ho0 (fun k_ hk_ => trivial)); have HB3 := am hb; clear ho0 hb hkp))
    go_ret
    exact ⟨v0, r, rfl, HO3.out, HRV.out.1, HRV.out.2, HB3.out⟩
set_option maxHeartbeats 8000000 in
set_option maxRecDepth 100000 in
theorem vendmeterbig_div.small (A0 : Option Addr) (c0 : Nat) (x : List Int) (a : Int) (A1 : Option Addr) (c1 : Nat) (y : List Int) (b : Int) (w : World) (hr0 : Kd.C (Kd.int .u32) w A0 x.length x) (hc0 : x.length ≤ c0) (hr1 : Kd.C (Kd.int .u32) w A1 y.length y) (hc1 : y.length ≤ c1) (hx : Wd x a) (hy : Wd y b) (hbx : x.length ≤ 50000) (hby : y.length ≤ 50000) (hb : 0 < b) (hs : b < 4294967296 ∨ a < 18446744073709551616 ∨ a < b) :
  Calls Tryz.prog 107 #[.slice A0 x.length c0, .slice A1 y.length c1] w fun e w' => ∃ vq vr q r, e = .returned (.tuple #[vq, vr]) ∧ Kd.R (Kd.int .u32) 84 w' w.heap.size (fun _ => True) vq q ∧ Kd.R (Kd.int .u32) 84 w' w.heap.size (fun _ => True) vr r ∧ Wd q (a / b) ∧ Wd r (a % b) ∧ q.length ≤ x.length + 2 ∧ r.length ≤ x.length + y.length + 5 ∧ Below w.heap.size w w' := by
 have HR0 := am hr0
 have HR1 := am hr1
 have HC0 := am hc0
 have HC1 := am hc1
 have hyl : y.length ≠ 0 := fun h => by have := hy.nil_iff.1 h; omega
 have hyb : ((y.length : Int) == 0) = false := beq_eq_false_iff_ne.mpr (by omega)
 have hyb' : (y.length == 0) = false := beq_eq_false_iff_ne.mpr hyl
 obtain ⟨kc, hcm⟩ := Ev.rounds (wcmp_ev hx hy (by omega))
 have HCM := am hcm
 clear hr0 hr1 hcm
 by_cases hlt : a < b
 ·
  have HW := am (show wcmp a b = -1 by unfold wcmp; rw [if_neg (by omega), if_pos hlt])
  have HQ := am (And.intro (Int.ediv_eq_zero_of_lt hx.pos hlt) (Int.emod_eq_of_lt hx.pos hlt))
  go_enter Tryz.func107, Tryz.ntmps107
  go_wp2_with (first | (go_at_call 138; refine (vendmeterbig_cmp.calls kc _ _ x _ _ y (wcmp a b) _ HR0.out HC0.out HR1.out HC1.out HCM.out).mono ?_; rintro e w1 ⟨rfl, hd⟩; rw [HW.out]; have HB := am (wbelow_d hd); clear hd) | (go_at_call 140; refine (vendmeterbig_twin.calls _ _ x x _ (Kd.C_below HR0.out HB.out) HC0.out (wtwin_eq x (by omega))).mono ?_; rintro e w2 ⟨v0, rfl, hR, hb2⟩; have HB2 := am (below_then HB.out HB.out.size hb2); have HR2 := am (Kd.R_lower hR HB.out.size); clear hR hb2))
  go_ret2
  exact ⟨_, v0, [], x, rfl, Kd.R_nil _ _ _ _ _, HR2.out, by rw [HQ.out.1]; exact Wd.zero, by rw [HQ.out.2]; exact hx, by simp, by omega, HB2.out⟩
 have HW := am (show ¬ wcmp a b < 0 by unfold wcmp; rw [if_neg hlt]; split <;> decide)
 have hwb : decide (wcmp a b < 0) = false := decide_eq_false HW.out
 by_cases ha : a < 18446744073709551616
 ·
  have hxl : x.length ≤ 2 := hx.len_le (m := 2) (by simpa [W32] using ha)
  have hyl2 : y.length ≤ 2 := hy.len_le (m := 2) (by have : b < W32 2 := (by simpa [W32] using (show b < 18446744073709551616 by omega)); exact this)
  have hxb : decide (x.length ≤ 2) = true := decide_eq_true hxl
  have hpx := wplain_eq hx (by omega)
  have hpy := wplain_eq hy (by omega)
  rw [Int.emod_eq_of_lt hx.pos ha] at hpx
  rw [Int.emod_eq_of_lt hy.pos (by omega)] at hpy
  have q0 : 0 ≤ a / b := Int.ediv_nonneg hx.pos (by omega)
  have q1 : a / b ≤ a := Int.ediv_le_self _ hx.pos
  have r0 : 0 ≤ a % b := Int.emod_nonneg _ (by omega)
  have r1 : a % b < b := Int.emod_lt_of_pos _ hb
  have eq1 : Int.tdiv a b = a / b := Int.tdiv_eq_ediv_of_nonneg hx.pos
  have er1 : Int.tmod a b = a % b := Int.tmod_eq_emod_of_nonneg hx.pos
  obtain ⟨q, t1, t2, t3⟩ := wwords_ev (a / b) ⟨q0, by omega⟩
  obtain ⟨r, s1, s2, s3⟩ := wwords_ev (a % b) ⟨r0, by omega⟩
  obtain ⟨kq, hq⟩ := Ev.rounds t1
  obtain ⟨kr, hr⟩ := Ev.rounds s1
  have HPX := am hpx
  have HPY := am hpy
  have HV := am (And.intro (And.intro t2 s2) (And.intro (show q.length ≤ x.length + 2 by omega) (show r.length ≤ x.length + y.length + 5 by omega)))
  rw [show a / b = IntKind.u64.wrap (Int.tdiv a b) by rw [eq1, wu64 ⟨q0, by omega⟩]] at hq
  rw [← er1] at hr
  have HKQ := am hq
  have HKR := am hr
  have hb0 : (b = 0) = False := eq_false (by omega)
  clear hpx hpy hq hr t1 t2 t3 s1 s2 s3 q0 q1 r0 r1 hlt eq1 er1
  go_enter Tryz.func107, Tryz.ntmps107
  go_wp2_with (first | (go_at_call 138; refine (vendmeterbig_cmp.calls kc _ _ x _ _ y (wcmp a b) _ HR0.out HC0.out HR1.out HC1.out HCM.out).mono ?_; rintro e w1 ⟨rfl, hd⟩; have HB := am (wbelow_d hd); clear hd) | (go_at_call 141; refine (vendmeterbig_plain.calls _ _ x a _ (Kd.C_below HR0.out HB.out) HC0.out HPX.out).mono ?_; rintro e w1 ⟨rfl, hd⟩; replace HB := am (below_then HB.out HB.out.size (wbelow_d hd)); clear hd; clear HPX) | (go_at_call 141; refine (vendmeterbig_plain.calls _ _ y b _ (Kd.C_below HR1.out HB.out) HC1.out HPY.out).mono ?_; rintro e w1 ⟨rfl, hd⟩; replace HB := am (below_then HB.out HB.out.size (wbelow_d hd)); clear hd))
  refine start_ (n := 10) (S := fun w' => True) (ds := []) #[false, false, false, false, false, false, false, false, false, false] (by kernel_rfl) rfl rfl trivial (fun hHeld => ?_)
  refine czpp 0 44 ?_
  refine czpp 1 45 ?_
  refine czpp 2 46 ?_
  refine czpp 4 48 ?_
  refine czpp 5 49 ?_
  refine czpp 6 50 ?_
  refine one_ (i := 3) (N := some 47) #[true, true, true, true, true, true, true, false, false, false] rfl rfl (by kernel_rfl) (by decide) (fun K hK => ?_)
  refine goes_ Tryz.func136 (by kernel_rfl) rfl #[.int .u64 (IntKind.u64.wrap (Int.tdiv a b))] (by rfl) rfl rfl (by (try simp only [List.map_toArray, List.map_cons, List.map_nil]); first | done | rfl) ?_
  with_reducible refine (vendmeterbig_words.calls kq _ q _ HKQ.out).mono ?_
  rintro e w4 ⟨v4, rfl, hR4, hb4⟩
  refine ⟨_, rfl, ?_⟩
  have HB4 := am (below_then (below_drew1 HB.out) HB.out.size hb4)
  have HR4 := am (Kd.R_lower hR4 HB.out.size)
  clear hR4 hb4
  refine hK.out _ _ trivial (fun hHeld => ?_)
  clear hK K
  refine norm_ (a' := ?_) ?_ ?_
  rotate_left
  ·
   show Act.put _ (some 47) _ = _
   simp only [Act.put, List.setIfInBounds_toArray, List.set_cons_zero, List.set_cons_succ, i64_w, i32_w]
   rfl
  refine one_ (i := 7) (N := some 51) #[true, true, true, true, true, true, true, true, false, false] rfl rfl (by kernel_rfl) (by decide) (fun K hK => ?_)
  refine goes_ Tryz.func136 (by kernel_rfl) rfl #[.int .u64 (Int.tmod a b)] (by rfl) rfl rfl (by (try simp only [List.map_toArray, List.map_cons, List.map_nil]); first | done | rfl) ?_
  with_reducible refine (vendmeterbig_words.calls kr _ r _ HKR.out).mono ?_
  rintro e w5 ⟨v5, rfl, hR5, hb5⟩
  refine ⟨_, rfl, ?_⟩
  have HB5 := am (below_then HB4.out HB4.out.size hb5)
  have HR5 := am (Kd.R_lower hR5 HB4.out.size)
  replace HR4 := am (Kd.R_below HR4.out hb5)
  clear hR5 hb5
  refine hK.out _ _ trivial (fun hHeld => ?_)
  clear hK K
  refine norm_ (a' := ?_) ?_ ?_
  rotate_left
  ·
   show Act.put _ (some 51) _ = _
   simp only [Act.put, List.setIfInBounds_toArray, List.set_cons_zero, List.set_cons_succ, i64_w, i32_w]
   rfl
  refine czpp 8 4 ?_
  refine czpp 9 5 ?_
  refine done_ (by kernel_rfl) ?_

  go_wp2
  go_ret2
  exact ⟨v4, v5, q, r, rfl, HR4.out, HR5.out, HV.out.1.1, HV.out.1.2, HV.out.2.1, HV.out.2.2, HB5.out⟩
 ·
  have hb32 : b < 4294967296 := by omega
  have hxl : ¬ x.length ≤ 2 := fun h => by
   have h1 := hx.lt
   have h2 := W32.le h
   have h3 : W32 2 = 18446744073709551616 := by decide
   omega
  have hxb : decide (x.length ≤ 2) = false := decide_eq_false hxl
  have hyl1 : y.length ≤ 1 := hy.len_le (m := 1) (by simpa [W32] using hb32)
  have hyb1 : (y.length == 1) = true := beq_iff_eq.mpr (by omega)
  have hyb2 : ((y.length : Int) == 1) = true := beq_iff_eq.mpr (by omega)
  have hy0 : y.getD 0 0 = b := by
   match y, hyl1, hyl, hy with
   | [z], _, _, hy => have := hy.val; simpa [wval] using this
  obtain ⟨q, t1, t2, t3⟩ := wsmall_ev hx ⟨hb, hb32⟩ (by omega)
  obtain ⟨kq, hq⟩ := Ev.rounds t1
  have r0 : 0 ≤ a % b := Int.emod_nonneg _ (by omega)
  have r1 : a % b < b := Int.emod_lt_of_pos _ hb
  obtain ⟨r, s1, s2, s3⟩ := wtrim_ev [a % b] (fun z hz => by rw [List.mem_singleton.1 hz]; exact ⟨r0, by omega⟩) (by simp)
  rw [show wval [a % b] = a % b by simp [wval]] at s2
  obtain ⟨kr, hr⟩ := Ev.rounds s1
  have HKQ := am hq
  have HKR := am hr
  have HV := am (And.intro (And.intro t2 s2) (And.intro (show q.length ≤ x.length + 2 by omega) (show r.length ≤ x.length + y.length + 5 by simp at s3; omega)))
  obtain ⟨ady, ey, hcy⟩ := wread HR1.out (Below.refl _ _) 0 (by omega)
  rw [hy0, Addr.add_zero'] at hcy
  have HCY := am hcy
  have hyp : 0 < y.length := by omega
  clear hq hr t1 t2 t3 s1 s2 s3 r0 r1 hlt hcy hy0 ha hyl1
  cases ey
  go_enter Tryz.func107, Tryz.ntmps107
  go_wp2_with (first | (go_at_call 138; refine (vendmeterbig_cmp.calls kc _ _ x _ _ y (wcmp a b) _ HR0.out HC0.out HR1.out HC1.out HCM.out).mono ?_; rintro e w1 ⟨rfl, hd⟩; have HB := am (wbelow_d hd); have hcy := (HB.out.cell (World.block_lt_of_cell? w _ HCY.out)).trans HCY.out; clear hd) | (go_at_call 142; refine (vendmeterbig_small.calls kq _ _ x b q (a % b) _ (Kd.C_below HR0.out HB.out) HC0.out HKQ.out).mono ?_; rintro e w1 ⟨v4, rfl, hR4, hb4⟩; have HR4 := am (Kd.R_lower hR4 HB.out.size); have HB4 := am (below_then HB.out HB.out.size hb4); clear hR4 hb4 hcy) | ((with_reducible refine gate_dst (N := 65) rfl ?_); refine Kd.R_lit (Kd.int .u32) w.heap.size 84 ?hg (N := 65) ?hd (xs := ([a % b] : List Int)) (inner := [.int .u32 (a % b)]) (ok := fun _ => True) (okp := fun _ => True) ?hr ?hp (fun _ hk => hk) trivial HB4.out HB4.out.size (by simp) ?_; (case hd => rfl); (case hg => rfl); (case hr => first | (go_simp; done) | (go_simp; rfl)); (case hp => exact (Reps.one (show Kd.M (Kd.int .u32) _ _ _ (a % b) [.int .u32 (a % b)] from rfl) (Reps.none _ _))); intro v6 w6 ho6 hb6 hg_ hnew_; have HRN := am hnew_; have hr4b := Kd.R_mono (Kd.R_bound HR4.out) (fun k h => h.2.2.1); replace HR4 := am (Kd.R_grown2 hr4b rfl hg_ (by intro k h; cases h)); clear hr4b; have HO6 := am ho6; have HB6 := am hb6; clear hg_ hnew_ ho6 hb6) | ((with_reducible refine gate_callee (f := 135) rfl ?_); refine goesL_ (some 66) rfl rfl Tryz.func135 (by kernel_rfl) rfl #[v6] rfl (by (try simp only [List.map_toArray, List.map_cons, List.map_nil]); first | done | rfl) ?_; (with_reducible refine (vendmeterbig_trim.calls kr (fun k_ => some k_ = v6.ownBlock) v6 [a % b] r w _ ?side1 ?side2 HKR.out).mono ?_); (case side1 => exact HB6.out); (case side2 => exact Kd.R_tight rfl HO6.out); rintro e w7 ⟨v7, rfl, ho0, hb, hkp⟩; refine ⟨_, rfl, ?_⟩; have HO7 := am (Kd.R_mono (ok' := fun k_ => True) ho0 (fun k_ hk_ => trivial)); have HB7 := am hb; have HKP := am hkp; clear ho0 hb hkp))
  go_ret2
  exact ⟨v4, v7, q, r, rfl, Kd.R_mono (Kd.R_kept HR4.out HKP.out (fun k hk e => by obtain ⟨b', hb1, hb2⟩ := HRN.out; rw [hb1] at e; injection e with e; omega)) (fun _ _ => trivial), HO7.out, HV.out.1.1, HV.out.1.2, HV.out.2.1, HV.out.2.2, HB7.out⟩
set_option maxHeartbeats 16000000 in
set_option maxRecDepth 100000 in
theorem vendmeterbig_div.pow (A0 : Option Addr) (c0 : Nat) (x : List Int) (a : Int) (A1 : Option Addr) (c1 : Nat) (y : List Int) (k : Nat) (w : World) (hr0 : Kd.C (Kd.int .u32) w A0 x.length x) (hc0 : x.length ≤ c0) (hr1 : Kd.C (Kd.int .u32) w A1 y.length y) (hc1 : y.length ≤ c1) (hx : Wd x a) (hy : Wd y (2 ^ k)) (hbx : x.length ≤ 50000) (hk : 32 ≤ k) (hk1 : k ≤ 1000000) (hab : 2 ^ k ≤ a) (ha : 18446744073709551616 ≤ a) :
  Calls Tryz.prog 107 #[.slice A0 x.length c0, .slice A1 y.length c1] w fun e w' => ∃ vq vr q r, e = .returned (.tuple #[vq, vr]) ∧ Kd.R (Kd.int .u32) 84 w' w.heap.size (fun _ => True) vq q ∧ Kd.R (Kd.int .u32) 84 w' w.heap.size (fun _ => True) vr r ∧ Wd q (a / 2 ^ k) ∧ Wd r (a % 2 ^ k) ∧ q.length ≤ x.length + 2 ∧ r.length ≤ x.length + y.length + 5 ∧ Below w.heap.size w w' := by
 have HR0 := am hr0
 have HR1 := am hr1
 have HC0 := am hc0
 have HC1 := am hc1
 clear hr0 hr1 hc0 hc1
 obtain ⟨m0, hm0⟩ : ∃ m0, k / 32 = m0 := ⟨_, rfl⟩
 obtain ⟨s, hs⟩ : ∃ s, 31 - k % 32 = s := ⟨_, rfl⟩
 have hp2 : (2 : Int) ^ k = 2 ^ (k % 32) * W32 m0 := by
  rw [W32.two, ← hm0]
  have e : ((2 ^ (32 * (k / 32)) : Nat) : Int) = (2 : Int) ^ (32 * (k / 32)) := by simp
  rw [e, ← Int.pow_add]
  congr 1
  omega
 have hc2 : 0 < (2 : Int) ^ (k % 32) ∧ (2 : Int) ^ (k % 32) < 4294967296 := by
  refine ⟨Int.pow_pos (by decide), ?_⟩
  have h32 : 2 ^ (k % 32) < 2 ^ 32 := Nat.pow_lt_pow_right (by decide) (by omega)
  have e : (2 : Int) ^ (k % 32) = ((2 ^ (k % 32) : Nat) : Int) := by simp
  omega
 obtain ⟨hyl, _, _⟩ := wtop m0 hc2 (by rw [← hp2]; exact hy)
 have hbs : (2 : Int) ^ k * 2 ^ s = 2147483648 * W32 m0 := by
  rw [← Int.pow_add, W32.two, ← hm0]
  have e : ((2 ^ (32 * (k / 32)) : Nat) : Int) = (2 : Int) ^ (32 * (k / 32)) := by simp
  rw [e, show (2147483648 : Int) = 2 ^ 31 by decide, ← Int.pow_add]
  congr 1
  omega
 have hxy : y.length ≤ x.length := by
  rcases Nat.lt_or_ge x.length y.length with g | g
  ·
   have := hx.len_lt hy g; omega
  ·
   exact g
 have hx3 : 3 ≤ x.length := by
  rcases Nat.lt_or_ge x.length 3 with g | g
  ·
   have h1 := hx.lt
   have h2 := W32.le (show x.length ≤ 2 by omega)
   have h3 : W32 2 = 18446744073709551616 := by decide
   omega
  ·
   exact g
 obtain ⟨kc, hcm⟩ := Ev.rounds (wcmp_ev hx hy (by omega))
 obtain ⟨rl, hrl, hrl1, hrl2⟩ := wlength_ev hy (by omega)
 have hrk : rl = k + 1 := by
  obtain ⟨g1, g2⟩ := hrl2 (Int.pow_pos (by decide))
  have e : (2 : Int) ^ k = ((2 ^ k : Nat) : Int) := by simp
  rw [e] at hrl1 g1
  have h1 : 2 ^ k < 2 ^ rl := by omega
  have h2 : 2 ^ (rl - 1) ≤ 2 ^ k := by omega
  have h3 := (Nat.pow_lt_pow_iff_right (show 1 < 2 by decide)).1 h1
  have h4 := (Nat.pow_le_pow_iff_right (show 1 < 2 by decide)).1 h2
  omega
 obtain ⟨kl, hkl⟩ := Ev.rounds hrl
 rw [hrk] at hkl
 have HCM := am hcm
 have HKL := am hkl
 have HBS := am hbs
 have HK := am hm0
 have hW := am (show ¬ wcmp a (2 ^ k) < 0 by unfold wcmp; rw [if_neg (Int.not_lt.mpr hab)]; split <;> decide)
 have hwb : decide (wcmp a (2 ^ k) < 0) = false := decide_eq_false hW.out
 have hyb0 : (y.length == 0) = false := beq_eq_false_iff_ne.mpr (by omega)
 have hyb0' : ((y.length : Int) == 0) = false := beq_eq_false_iff_ne.mpr (by omega)
 have hyb1 : (y.length == 1) = false := beq_eq_false_iff_ne.mpr (by omega)
 have hyb1' : ((y.length : Int) == 1) = false := beq_eq_false_iff_ne.mpr (by omega)
 have hxb : decide (x.length ≤ 2) = false := decide_eq_false (by omega)
 have hsb : s < 32 := by omega
 obtain ⟨t, ht⟩ : ∃ t, k % 32 = t := ⟨_, rfl⟩
 have htb : t < 32 := by omega
 have ek : Int.tmod (k : Int) 32 = (t : Int) := by rw [Int.tmod_eq_emod_of_nonneg (by omega)]; omega
 have es : (32 : Int) - (t : Int) - 1 = (s : Int) := by omega
 have HSB := am hs
 clear hp2 hc2 hbs hcm hrl hrl1 hrl2 hrk hkl hm0 hs ht
 obtain ⟨b, hb⟩ : ∃ b : Int, (2 : Int) ^ k = b := ⟨_, rfl⟩
 rw [hb] at hy hab HCM HBS hwb hW
 rw [hb]
 have HBK := am hb
 have HYL := am hyl
 have hyb : y.length ≤ 50000 := by omega
 have hyw := hy
 obtain ⟨M1, hM1⟩ : ∃ M1, x.length - m0 + 1 = M1 := ⟨_, rfl⟩
 have HM1 := am hM1
 have hM1b : M1 ≤ 50001 := by omega
 clear hM1
 have hx20 : 0 ≤ (x.length : Int) + 2 := by omega
 have hx24 : ((x.length : Int) + 2).toNat * 4 ≤ 281474976710656 := by omega
 have EX2 := am (show ((x.length : Int) + 2).toNat = x.length + 2 by omega)
 clear hb hW hyl
 go_enter Tryz.func107, Tryz.ntmps107
 go_wp2_with (first | (go_at_call 138; refine (vendmeterbig_cmp.calls kc _ _ x _ _ y (wcmp a b) _ HR0.out HC0.out HR1.out HC1.out HCM.out).mono ?_; rintro e w1 ⟨rfl, hd⟩; have HB := am (wbelow_d hd); clear hd) | (go_at_call 106; refine (vendmeterbig_length.calls kl _ _ y ((k + 1 : Nat) : Int) _ (Kd.C_below HR1.out HB.out) HC1.out HKL.out).mono ?_; rintro e w1 ⟨rfl, hd⟩; replace HB := am (below_then HB.out HB.out.size (wbelow_d hd)); clear hd) | (go_at_call 143; refine (vendmeterbig_left.calls _ _ y b s _ (Kd.C_below HR1.out HB.out) HC1.out hy (by omega) (by omega)).mono ?_; rintro e w2 ⟨v11, rv, rfl, hR, hWv, hlv, hb2⟩; obtain ⟨Av, cv, rfl⟩ := Kd.R_slice hR; have HRV := am (Kd.R_lower hR HB.out.size); have HSH := am (wtop m0 (c := 2147483648) (by decide) (by rw [← HBS.out]; exact hWv)); have HWV := am hWv; have HBV := am (below_then HB.out HB.out.size hb2); clear hR hWv hb2 HB HR1) | ((with_reducible refine gate_dst (N := 80) rfl ?_); refine Kd.R_make (Kd.int .u32) (w0 := w2) w2.heap.size 84 rfl (N := 80) rfl 102 _ _ rfl ((x.length : Int) + 2) rfl rfl Tryz.underlying102 (.int .u32 0) 4 winfo rfl (by decide) (by omega) 0 (ok := fun _ => True) (okp := fun _ => True) rfl (fun _ hk => hk) trivial hx20 hx24 (Below.refl _ _) (Nat.le_refl _) ?_; intro v5 w5 ho hb5 hg_ hnew_; rw [EX2.out] at ho; obtain ⟨g, cap, rfl, hgb, hgl, _⟩ := Kd.R_form ho (by simp); rw [List.length_replicate] at ho; obtain ⟨cur, hu1, hu2, hu3, hu4, hu5, hu6⟩ := wmade ho (by omega); have HU := am (And.intro hu1 (And.intro hu2 (And.intro hu3 (And.intro hu4 (And.intro hu5 hgb))))); have HB5 := am hb5; clear ho hb5 hg_ hnew_ hu1 hu2 hu3 hu4 hu5 hu6 hgb hgl; simp only [List.length_replicate]) | (go_at_call 143; refine (vendmeterbig_left.calls _ _ x a s _ (Kd.C_below HR0.out (below_then HBV.out HBV.out.size HB5.out)) HC0.out hx (by omega) (by omega)).mono ?_; rintro e w6 ⟨v12, la, rfl, hR, hWl, hll, hb6⟩; obtain ⟨Al, cl, rfl⟩ := Kd.R_slice hR; have HLA := am hR; have HWL := am hWl; have HLL := am (show la.length ≤ x.length + 1 by omega); have HU6 := am ((hb6.block g (blk_lt HU.out.1)).trans HU.out.1); have HB6 := am (HB5.out.trans (hb6.mono HB5.out.size)); clear hR hWl hll hb6) | ((with_reducible refine gate_builtin (b := .copy) (xs := #[.tmp 81, .tmp 84]) rfl ?_); refine wpList_copy_splice rfl (.tmp 81) (.tmp 84) 102 102 rfl 84 Tryz.underlying102 (by kernel_rfl) (some ⟨g, 0, none⟩) Al (x.length + 2) cap la.length cl rfl rfl g 0 cur.toList 84 (by rw [Array.toArray_toList]; exact HU6.out) (la.map (Value.int .u32)) ?cN ?cP ?cF ?cO w2.heap.size w2 HB6.out HU.out.2.2.2.2.2 ?_; (case cN => rw [List.length_map]; exact (Nat.min_eq_left (by have := HLL.out; omega)).symm); (case cP => exact fun h0 => ⟨rfl, wsrc (wRC HLA.out).1 (by simpa using h0)⟩); (case cF => have h7 := HU.out.2.1; have h8 := HU.out.2.2.2.1; have h9 : cur.toList.length = cur.size := Array.length_toList; have := HLL.out; rw [List.length_map]; omega); (case cO => intro v hv; obtain ⟨z, _, rfl⟩ := List.mem_map.mp hv; rfl); intro w7 hw7 hb7; have HO7 := am (wfilled hw7.out HU.out.2.2.2.2.2 (by have := HLL.out; omega) HU.out.2.1 HU.out.2.2.1 HU.out.2.2.2.1 HU.out.2.2.2.2.1); have HB7 := am hb7; clear hw7 hb7) | ((with_reducible refine gate_dst (N := 95) rfl ?_); have hsh := HSH.out.1; have hyy := HYL.out; refine Kd.R_make (Kd.int .u32) (w0 := w7) w7.heap.size 84 rfl (N := 95) rfl 102 _ _ rfl ((x.length : Int) + 2 - (rv.length : Int)) rfl rfl Tryz.underlying102 (.int .u32 0) 4 winfo rfl (by decide) (by omega) 0 (ok := fun _ => True) (okp := fun _ => True) rfl (fun _ hk => hk) trivial (by omega) (by omega) (Below.refl _ _) (Nat.le_refl _) ?_; intro v8 w8 ho8 hb8 hg_ hnew_; have hM : ((x.length : Int) + 2 - (rv.length : Int)).toNat = M1 := (by have := HM1.out; omega); rw [hM] at ho8; obtain ⟨gq, capq, rfl, hgqb, hgql, _⟩ := Kd.R_form ho8 (by simp; have := HM1.out; omega); rw [List.length_replicate] at ho8; have HO8 := am ho8; have HU8 := am (Kd.R_below (Kd.R_bound HO7.out) hb8); have HB8 := am (HB7.out.trans (hb8.mono HB7.out.size)); have HGQ := am hgqb; have HGU := am (show g < w7.heap.size from (by obtain ⟨cs_, hcs_⟩ := wblk HO7.out (by omega); exact blk_lt hcs_)); clear ho8 hb8 hg_ hnew_ hsh hyy hM hgqb hgql; simp only [List.length_replicate]) | fail)
 have hW2 := (wRC HRV.out).1
 have hcv2 : ∀ i, i < rv.length → ∀ ad, Av = some ad → w2.cell? (ad.add i) = some (.int .u32 (rv.getD i 0)) := fun i hi ad hA => by
  obtain ⟨ad', e, h⟩ := wread hW2 (Below.refl _ _) i hi
  obtain rfl : ad = ad' := by rw [hA] at e; exact Option.some.inj e
  exact h
 have hW1 := (wRC (Kd.R_below HRV.out HB8.out)).1
 have hsh := HSH.out
 have hsh1 := hsh.1
 obtain ⟨adv, eav, hv1⟩ := wread hW1 (Below.refl _ _) (rv.length - 1) (by omega)
 obtain ⟨adv', eav', hv0⟩ := wread hW1 (Below.refl _ _) (rv.length - 2) (by omega)
 cases eav
 cases eav'
 rw [show rv.length - 1 = m0 by omega, hsh.2.1] at hv1
 rw [hsh.2.2 (rv.length - 2) (by have := HYL.out; have := HK.out; omega)] at hv0
 have hc21 := hcv2 (rv.length - 1) (by omega) adv rfl
 have hc20 := hcv2 (rv.length - 2) (by omega) adv rfl
 rw [show rv.length - 1 = m0 by omega, hsh.2.1] at hc21
 rw [hsh.2.2 (rv.length - 2) (by have := HYL.out; have := HK.out; omega)] at hc20
 have HVC0 := am (And.intro hc21 hc20)
 have hvc := fun i hi => hcv2 i hi adv rfl
 have HVALL := am hvc
 clear hvc hcv2 hc21 hc20 hW2
 obtain ⟨p1, hp1⟩ : ∃ p, rv.length - 1 = p := ⟨_, rfl⟩
 have ep1 : ((rv.length : Int) - 1).toNat = p1 := by omega
 rw [show m0 = p1 by omega] at hv1
 obtain ⟨p2, hp2⟩ : ∃ p, rv.length - 2 = p := ⟨_, rfl⟩
 have ep2 : ((rv.length : Int) - 2).toNat = p2 := by omega
 rw [hp2] at hv0
 have hrv2 : 2 ≤ rv.length := by have := HYL.out; have := HK.out; omega
 have hrvX : rv.length ≤ 50000 := by have := HYL.out; have := HK.out; omega
 have hpp1 := am (show p1 = m0 ∧ p2 + 1 = m0 ∧ rv.length = m0 + 1 by have := HYL.out; have := HK.out; omega)
 clear hsh hsh1 hp1 hp2 hW1
 go_quiet (fail)
 go_wp2
 have HVC := am (show w2.cell? (adv.add p1) = some (.int .u32 2147483648) ∧ w2.cell? (adv.add p2) = some (.int .u32 0) from (by have h := hpp1.out; rw [h.1, show p2 = rv.length - 2 by omega]; exact HVC0.out))
 clear hv1 hv0 ep1 ep2
 go_loopg [18] (M1) (fun kq v18 w' => ∃ (jj : Int) (u q : List Int), v18 = .int .i64 jj ∧ Aside0 (jj = (kq : Int) - 1 ∧ kq ≤ M1) ∧ Aside0 ((u.length = x.length + 2 ∧ wok u) ∧ (∀ i, kq + rv.length ≤ i → u.getD i 0 = 0) ∧ u.getD (kq + rv.length - 1) 0 < 2147483648 ∧ (q.length = M1 ∧ wok q) ∧ a * 2 ^ s = wval u + 2147483648 * W32 m0 * (W32 kq * wval (q.drop kq))) ∧ Aside0 (Kd.R (Kd.int .u32) 84 w' w2.heap.size (fun _ => True) (.slice (some ⟨g, 0, none⟩) (x.length + 2) cap) u) ∧ Aside0 (Kd.R (Kd.int .u32) 84 w' w7.heap.size (fun _ => True) (.slice (some ⟨gq, 0, none⟩) (M1) capq) q) ∧ Aside0 (Below w2.heap.size w2 w'))
 case atStart =>
  have hpp := hpp1.out
  have hll := HLL.out
  have hyl2 := HYL.out
  have hm1 := HM1.out
  refine ⟨_, la ++ List.replicate (x.length + 2 - la.length) 0, List.replicate (M1) 0, rfl, ⟨by omega, Nat.le_refl _⟩, ⟨⟨by simp; omega, fun z hz => ?_⟩, fun i hi => ?_, ?_, ⟨by simp, wok.replicate _⟩, ?_⟩, ⟨Kd.R_drewN (Kd.R_mono HU8.out (fun _ _ => trivial)) _⟩, ⟨Kd.R_drewN HO8.out _⟩, ⟨pw_below_drewN HB8.out _⟩⟩
  ·
   rcases List.mem_append.1 hz with h | h
   ·
    exact HWL.out.ok z h
   ·
    exact wok.replicate _ z h
  ·
   rw [List.getD_eq_getElem?_getD, List.getElem?_eq_none (by simp; omega)]; rfl
  ·
   rw [List.getD_eq_getElem?_getD, List.getElem?_append_right (by omega), List.getElem?_replicate]
   split <;> decide
  ·
   rw [List.drop_of_length_le (by simp), wval_append, wval_zeros, HWL.out.val]
   simp [wval]
 case round =>
  have HB7L := am HB7.out.size
  clear HO7 HU8 HO8 HB8 HB7 HB6 HU6
  obtain ⟨jj, u, q, rfl, hjj, HI, HU2, HQ2, HBL⟩ := hrel
  obtain ⟨hj1, hj2⟩ := hjj.out
  have hm1 := HM1.out
  have HMX := HM1
  cases gk with
  | zero =>
   obtain rfl : jj = -1 := by omega
   obtain ⟨⟨u1, u2⟩, u3, u4, ⟨q1, q2⟩, u5⟩ := HI.out
   have hpp := hpp1.out
   have hbp : 0 < b := by rw [← HBK.out]; exact Int.pow_pos (by decide)
   have hs0 : (2 : Int) ^ s ≠ 0 := Int.ne_of_gt (Int.pow_pos (by decide))
   have hNu : rv.length ≤ u.length := by clear hbp hs0 u5; omega
   have hq5 : q.length ≤ 1000000 ∧ q.length ≤ x.length + 2 := by clear hbp hs0 u5; omega
   have hu5 : u.length ≤ 1000000 ∧ u.length ≤ x.length + 2 := by clear hbp hs0 u5; omega
   obtain ⟨eq1, eq2⟩ := wkn_zero hpp.2.2 hNu u2 u3 u4 hbp HBS.out u5
   clear u3 u4 u5 hbp
   obtain ⟨fq, t1, t2, t3⟩ := wtrim_ev q q2 hq5.1
   obtain ⟨fu, s1, s2, s3⟩ := wtrim_ev u u2 hu5.1
   rw [eq1] at t2
   rw [eq2] at s2
   obtain ⟨kq', hkq⟩ := Ev.rounds t1
   obtain ⟨ku', hku⟩ := Ev.rounds s1
   have HKQ := am hkq
   have HKU := am hku
   have HFQ := am (And.intro t2 (Nat.le_trans t3 hq5.2))
   have HFU := am s2
   have HFL := am (Nat.le_trans s3 hu5.2)
   have ed : a % b * 2 ^ s / 2 ^ s = a % b := Int.mul_ediv_cancel _ hs0
   have HED := am ed
   have HQL := am (Kd.R_lower HQ2.out HB7L.out)
   have HNE := am (show gq ≠ g from fun e_ => by have h1_ := HGQ.out; have h2_ := HGU.out; rw [e_] at h1_; exact absurd h2_ (Nat.not_lt.mpr h1_))
   clear HI u1 u2 q1 q2 hpp hs0 eq1 eq2 t1 t2 t3 s1 s2 s3 hkq hku ed hj1 hj2 hm1 hNu hq5 hu5
   go_wp2_with (first | ((with_reducible refine gate_callee (f := 135) rfl ?_); refine goesL_ (some 268) rfl rfl Tryz.func135 (by kernel_rfl) rfl #[.slice (some ⟨gq, 0, none⟩) M1 capq] rfl (by (try simp only [List.map_toArray, List.map_cons, List.map_nil]); first | done | rfl) ?_; (with_reducible refine (vendmeterbig_trim.calls kq' (fun k_ => some k_ = some gq) (.slice (some ⟨gq, 0, none⟩) M1 capq) q fq w2 _ ?side1 ?side2 HKQ.out).mono ?_); (case side1 => exact HBL.out); (case side2 => exact Kd.R_mono (Kd.R_tight rfl HQL.out) (fun k_ hk_ => hk_)); rintro e w20 ⟨v20, rfl, ho0, hb, hkp⟩; refine ⟨_, rfl, ?_⟩; have HO20 := am ho0; have HB20 := am hb; have HU20 := am (Kd.R_kept (Kd.R_tight rfl HU2.out) hkp (fun k_ hk_ e_ => HNE.out (by rw [show k_ = g by simpa [Value.ownBlock] using hk_] at e_; injection e_ with e_; exact e_.symm))); clear ho0 hb hkp) | ((with_reducible refine gate_callee (f := 135) rfl ?_); refine goesL_ (some 270) rfl rfl Tryz.func135 (by kernel_rfl) rfl #[.slice (some ⟨g, 0, none⟩) (x.length + 2) cap] rfl (by (try simp only [List.map_toArray, List.map_cons, List.map_nil]); first | done | rfl) ?_; (with_reducible refine (vendmeterbig_trim.calls ku' (fun k_ => some k_ = some g) (.slice (some ⟨g, 0, none⟩) (x.length + 2) cap) u fu w2 _ ?side1 ?side2 HKU.out).mono ?_); (case side1 => exact HB20.out); (case side2 => exact Kd.R_mono HU20.out (fun k_ hk_ => hk_)); rintro e w21 ⟨v21, rfl, ho0, hb, hkp⟩; refine ⟨_, rfl, ?_⟩; obtain ⟨A21, c21, rfl⟩ := Kd.R_slice ho0; have HO21 := am ho0; have HB21 := am hb; have HQ21 := am (Kd.R_kept HO20.out hkp (fun k_ hk_ e_ => by injection e_ with e_; rcases hk_ with h_ | h_; (injection h_ with h_; exact HNE.out (h_.symm.trans e_)); (have hg_ := blk_lt (wblk HU2.out (by omega)).choose_spec; omega))); clear ho0 hb hkp) | (go_at_call 144; refine (vendmeterbig_right.calls _ _ fu (a % b * 2 ^ s) s _ (wRC HO21.out).1 (wRC HO21.out).2 HFU.out (by have := HFL.out; omega) (by omega)).mono ?_; rintro e w22 ⟨v22, fr, rfl, hR, hWr, hlr, hb2⟩; have HB22 := am (HB21.out.trans (hb2.mono HB21.out.size)); have HR22 := am (Kd.R_lower hR HB21.out.size); have HQ22 := am (Kd.R_below HQ21.out hb2); rw [HED.out] at hWr; have HWR := am (And.intro hWr (show fr.length ≤ x.length + 2 by have := HFL.out; omega)); clear hR hWr hlr hb2))
   go_ret2
   exact ⟨v20, v22, fq, fr, rfl, Kd.R_mono (Kd.R_lower HQ22.out HBV.out.size) (fun _ _ => trivial), Kd.R_lower HR22.out HBV.out.size, HFQ.out.1, HWR.out.1, HFQ.out.2, by have := HWR.out.2; omega, HBV.out.trans (HB22.out.mono HBV.out.size)⟩
  | succ j =>
   obtain rfl : jj = (j : Int) := by omega
   obtain ⟨⟨u1, u2⟩, u3, u4, ⟨q1, q2⟩, u5⟩ := HI.out
   have hpp := hpp1.out
   have hnl : j + rv.length < x.length + 2 := by omega
   have hjn : j + rv.length = (j + p1) + 1 := by omega
   have hv1 := (HBL.out.cell (World.block_lt_of_cell? w2 _ HVC.out.1)).trans HVC.out.1
   have hv0 := (HBL.out.cell (World.block_lt_of_cell? w2 _ HVC.out.2)).trans HVC.out.2
   obtain ⟨hcu1, hfu1⟩ := wcell HU2.out (j + rv.length) (by omega)
   obtain ⟨hcu0, hfu0⟩ := wcell HU2.out (j + p1) (by omega)
   obtain ⟨hcu2, hfu2⟩ := wcell HU2.out (j + p2) (by omega)
   obtain ⟨U1, hU1⟩ : ∃ U, u.getD (j + rv.length) 0 = U := ⟨_, rfl⟩
   obtain ⟨U0, hU0⟩ : ∃ U, u.getD (j + p1) 0 = U := ⟨_, rfl⟩
   obtain ⟨U2, hU2⟩ : ∃ U, u.getD (j + p2) 0 = U := ⟨_, rfl⟩
   have bU1 := u2.at_ (j + rv.length)
   have bU0 := u2.at_ (j + p1)
   rw [hU1] at hcu1 bU1
   rw [hU0] at hcu0 bU0
   rw [hU2] at hcu2
   rw [show j + 1 + rv.length - 1 = j + rv.length by omega, hU1] at u4
   have HN := am (And.intro hU1 (And.intro hU0 (And.intro bU1 (And.intro bU0 u4))))
   have ejn : ((j : Int) + (rv.length : Int) - 1).toNat = j + p1 := by omega
   have ejm : ((j : Int) + (rv.length : Int) - 2).toNat = j + p2 := by omega
   have hj0 : 0 ≤ (j : Int) := by omega
   have hjb : j ≤ 50000 := by omega
   have hjq : j < M1 := by omega
   clear hU1 hU0 hU2 u1 u2 u3 u4 q1 q2 u5 hpp hjn bU1 bU0 hj1 hj2 hm1
   go_wp2
   go_quiet (fail)
   go_wp2
   obtain ⟨h, hh⟩ : ∃ h, U1 * 4294967296 + U0 = h := ⟨_, rfl⟩
   have eh : Go.bits .or .u64 (IntKind.u64.wrap (IntKind.u64.wrap U1 * 4294967296)) (IntKind.u64.wrap U0) = h := by
    obtain ⟨_, _, bU1, bU0, _⟩ := HN.out
    rw [wu64 (a := U1) ⟨bU1.1, by omega⟩, wor bU1 bU0, hh]
   rw [eh]
   have hh0 : 0 ≤ h := by obtain ⟨_, _, bU1, bU0, _⟩ := HN.out; omega
   have hh1 : h < 9223372036854775808 := by obtain ⟨_, _, bU1, bU0, u4⟩ := HN.out; omega
   have HH := am hh
   clear eh hh
   go_quiet (fail)
   go_wp2
   obtain ⟨gg, hgg⟩ : ∃ gg, h / 2147483648 = gg := ⟨_, rfl⟩
   obtain ⟨rr, hrr⟩ : ∃ rr, h % 2147483648 = rr := ⟨_, rfl⟩
   have HGR := am (show h = gg * 2147483648 + rr ∧ (0 ≤ gg ∧ gg < 4294967296) ∧ (0 ≤ rr ∧ rr < 2147483648) from ⟨by omega, ⟨by omega, by omega⟩, ⟨by omega, by omega⟩⟩)
   rw [hgg, hrr]
   clear hgg hrr hh0 hh1
   go_loopg [20, 21] 1 (fun kq v20 v21 w' => v20 = .int .u64 gg ∧ v21 = .int .u64 rr ∧ Aside0 (Kd.R (Kd.int .u32) 84 w' w2.heap.size (fun _ => True) (.slice (some ⟨g, 0, none⟩) (x.length + 2) cap) u) ∧ Aside0 (Kd.R (Kd.int .u32) 84 w' w7.heap.size (fun _ => True) (.slice (some ⟨gq, 0, none⟩) (M1) capq) q) ∧ Aside0 (Below w2.heap.size w2 w'))
   case atStart => exact ⟨rfl, rfl, ⟨Kd.R_drewN (Kd.R_drewN HU2.out _) _⟩, ⟨Kd.R_drewN (Kd.R_drewN HQ2.out _) _⟩, ⟨pw_below_drewN (pw_below_drewN HBL.out _) _⟩⟩
   case round =>
    clear HU2 HQ2 HBL hcu1 hfu1 hcu0 hfu0 hcu2 hfu2 hv1 hv0
    obtain ⟨rfl, rfl, HU2, HQ2, HBL⟩ := hrel
    obtain ⟨hcu2, hfu2⟩ := wcell HU2.out (j + p2) (by have := hpp1.out; omega)
    have hgb : decide (4294967295 < gg) = false := decide_eq_false (by have := HGR.out; omega)
    have hgb2 : IntKind.u64.wrap (gg * 0) = 0 := by rw [Int.mul_zero]; decide
    have hbn : ∀ x y : Int, decide (Go.bits .or .u64 x y < 0) = false := fun x y => decide_eq_false (Int.not_lt.mpr (wbits_nn x y))
    go_wp2
    clear hcu2 hfu2 hgb hgb2 hbn
    go_loopg [22, 23, 24] rv.length (fun kq v22 v23 v24 w' => ∃ (i : Nat) (c d : Int) (u' : List Int), v22 = .int .u64 c ∧ v23 = .int .u64 d ∧ v24 = .int .i64 (i : Int) ∧ i ≤ rv.length ∧ kq = rv.length - i ∧ Aside0 ((i < rv.length → c = 0 ∧ d = 0 ∧ u' = u) ∧ (i = rv.length → c + d = U1 ∧ (0 ≤ c ∧ c < 4294967296) ∧ (0 ≤ d ∧ d ≤ 1) ∧ u' = u.set (j + p1) rr)) ∧ Aside0 (Kd.R (Kd.int .u32) 84 w' w2.heap.size (fun _ => True) (.slice (some ⟨g, 0, none⟩) (x.length + 2) cap) u') ∧ Aside0 (Kd.R (Kd.int .u32) 84 w' w7.heap.size (fun _ => True) (.slice (some ⟨gq, 0, none⟩) (M1) capq) q) ∧ Aside0 (Below w2.heap.size w2 w'))
    case atStart => exact ⟨0, 0, 0, u, rfl, rfl, rfl, Nat.zero_le _, rfl, ⟨fun _ => ⟨rfl, rfl, rfl⟩, fun h => by omega⟩, HU2, HQ2, HBL⟩
    case round =>
     clear HU2 HQ2 HBL
     obtain ⟨i, c, d, u', rfl, rfl, rfl, hi, rfl, HC, HU2, HQ2, HBL⟩ := hrel
     by_cases hlt : i < rv.length
     ·
      obtain ⟨rfl, rfl, rfl⟩ := HC.out.1 hlt
      have hltb : decide (i < rv.length) = true := decide_eq_true hlt
      have hij : i + j < x.length + 2 := by omega
      obtain ⟨hcl, hfl⟩ := wcell HU2.out (i + j) hij
      have hcv := (HBL.out.cell (World.block_lt_of_cell? w2 _ (HVALL.out i hlt))).trans (HVALL.out i hlt)
      by_cases hip : i = p1
      ·
       subst hip
       have hi0 : rv.getD i 0 = 2147483648 := by rw [hpp1.out.1]; exact HSH.out.2.1
       rw [hi0] at hcv
       have hUi : u'.getD (i + j) 0 = U0 := by rw [Nat.add_comm]; exact HN.out.2.1
       rw [hUi] at hcl
       clear hi0 hUi
       go_wp2
       go_roundg (rv.length - (i + 1))
       case measure => omega
       case rel =>
        obtain ⟨hu1', hu0', bU1, bU0, u4⟩ := HN.out
        obtain ⟨g1, g2, g3⟩ := HGR.out
        obtain ⟨k1, k2, k3, k4⟩ := wknuth HH.out bU1.1 bU0 g1 g2 g3
        have hpp := hpp1.out
        have e0 : IntKind.u64.wrap (IntKind.u64.wrap (gg * 2147483648)) = gg * 2147483648 := by rw [wu64 (a := gg * 2147483648) ⟨by omega, by omega⟩, wu64 (a := gg * 2147483648) ⟨by omega, by omega⟩]
        have e1 : IntKind.u64.wrap (IntKind.u64.wrap (IntKind.u64.wrap U0 - gg * 2147483648 % 4294967296)) = IntKind.u64.wrap (IntKind.u64.wrap U0 - gg * 2147483648 % 4294967296) := wu64 (wsub_u _)
        refine ⟨i + 1, gg * 2147483648 / 4294967296, IntKind.u64.wrap (IntKind.u64.wrap U0 - gg * 2147483648 % 4294967296) / 9223372036854775808, u'.set (j + i) rr, by rw [e0], by rw [e0, e1], by first | rfl | simp, by omega, rfl, ⟨fun hh => ?_, fun _ => ⟨k2, k4, k3, rfl⟩⟩, ⟨?_⟩, ⟨wother HQ2.out (by have := HGQ.out; have := HGU.out; omega) _ _⟩, ⟨HBL.out.setCell (p := ⟨g, i + j, none⟩) HU.out.2.2.2.2.2 _⟩⟩
        ·
         omega
        ·
         rw [e0, e1, k1, Nat.add_comm j i]
         exact wput HU2.out (i + j) rr
      ·
       have hi0 : rv.getD i 0 = 0 := HSH.out.2.2 i (by have := hpp1.out; omega)
       rw [hi0] at hcv
       obtain ⟨Ui, hUi⟩ : ∃ U, u'.getD (i + j) 0 = U := ⟨_, rfl⟩
       rw [hUi] at hcl
       have HUI := am hUi
       clear hi0 hUi
       go_wp2
       go_roundg (rv.length - (i + 1))
       case measure => omega
       case rel =>
        have bUi : 0 ≤ Ui ∧ Ui < 4294967296 := by rw [← HUI.out]; exact HI.out.1.2.at_ (i + j)
        have hul := HI.out.1.1
        have e0 : IntKind.u64.wrap (IntKind.u64.wrap (IntKind.u64.wrap Ui)) = Ui := by rw [wu64 (a := Ui) ⟨bUi.1, by omega⟩, wu64 (a := Ui) ⟨bUi.1, by omega⟩, wu64 (a := Ui) ⟨bUi.1, by omega⟩]
        have e1 : Ui % 4294967296 = Ui := Int.emod_eq_of_lt bUi.1 bUi.2
        have e2 : Ui / 9223372036854775808 = 0 := Int.ediv_eq_zero_of_lt bUi.1 (by omega)
        refine ⟨i + 1, 0, 0, u', rfl, by rw [e0, e2], by first | rfl | simp, by omega, rfl, ⟨fun _ => ⟨rfl, rfl, rfl⟩, fun hh => ?_⟩, ⟨?_⟩, ⟨wother HQ2.out (by have := HGQ.out; have := HGU.out; omega) _ _⟩, ⟨HBL.out.setCell (p := ⟨g, i + j, none⟩) HU.out.2.2.2.2.2 _⟩⟩
        ·
         have := hpp1.out; omega
        ·
         rw [e0, e1]
         have := wput HU2.out (i + j) Ui
         rwa [set_self _ _ (by omega) HUI.out] at this
     ·
      have hltb : decide (i < rv.length) = false := decide_eq_false hlt
      obtain rfl : i = rv.length := by omega
      obtain ⟨k2, k4, k3, rfl⟩ := HC.out.2 rfl
      obtain ⟨hu1', hu0', bU1, bU0, u4⟩ := HN.out
      have hpp := hpp1.out
      have hul := HI.out.1.1
      have hql := HI.out.2.2.2.1.1
      have hm1 := HM1.out
      have ez : IntKind.u64.wrap (IntKind.u64.wrap (IntKind.u64.wrap U1 - c) - d) = 0 := by
       rw [wu64 (a := U1) ⟨bU1.1, by omega⟩, wu64 (a := U1 - c) ⟨by omega, by omega⟩, wu64 ⟨by omega, by omega⟩]
       omega
      obtain ⟨hcl, hfl⟩ := wcell HU2.out (j + rv.length) (by omega)
      rw [getD_set_ne _ _ _ _ (by omega), hu1'] at hcl
      have HQ3 := am (wother (g := g) HQ2.out (by have := HGQ.out; have := HGU.out; omega) (j + rv.length) (.int .u32 0))
      obtain ⟨hcq, hfq⟩ := wcell HQ3.out j (by omega)
      have HU3 := am (wput HU2.out (j + rv.length) 0)
      have HKU := am (And.intro k2 (And.intro k4 k3))
      clear k2 k4 k3 hu1' hu0' bU1 bU0 u4 hpp hul hql hm1
      go_wp2
      go_roundg j
      case measure => omega
      case rel =>
       obtain ⟨g1, g2, g3⟩ := HGR.out
       obtain ⟨⟨u1, u2⟩, u3, u4, ⟨q1, q2⟩, u5⟩ := HI.out
       obtain ⟨hu1', hu0', bU1, bU0, _⟩ := HN.out
       have hpp := hpp1.out
       have hm1 := HM1.out
       have hh := HH.out
       have egg : gg % 4294967296 = gg := Int.emod_eq_of_lt g2.1 g2.2
       refine ⟨(j : Int) - 1, (u.set (j + p1) rr).set (j + rv.length) 0, q.set j gg, by first | rfl | simp, ⟨by omega, by omega⟩, ⟨⟨by rw [List.length_set, List.length_set]; exact u1, (u2.set _ ⟨g3.1, by omega⟩).set _ ⟨Int.le_refl _, by decide⟩⟩, fun i' hi' => ?_, ?_, ⟨by rw [List.length_set]; exact q1, q2.set _ g2⟩, ?_⟩, ⟨wother HU3.out (by have := HGQ.out; have := HGU.out; omega) _ _⟩, ⟨by rw [egg]; exact wput HQ3.out j gg⟩, ⟨(HBL.out.setCell (p := ⟨g, j + rv.length, none⟩) HU.out.2.2.2.2.2 _).setCell (p := ⟨gq, j, none⟩) (by have := HGQ.out; have := HB7L.out; simp; omega) _⟩⟩
       ·
        by_cases he : i' = j + rv.length
        ·
         rw [he, getD_set_eq _ _ _ (by rw [List.length_set]; omega)]
        ·
         rw [getD_set_ne _ _ _ _ (by omega), getD_set_ne _ _ _ _ (by omega)]
         exact u3 i' (by omega)
       ·
        rw [show j + rv.length - 1 = j + p1 by omega, getD_set_ne _ _ _ _ (by omega), getD_set_eq _ _ _ (by omega)]
        exact g3.2
       ·
        exact wkn_step (by omega) (by omega) (by omega) (by omega) u3 hu1' hu0' hh g1 u5
set_option maxHeartbeats 4000000 in
theorem vendmeterbig_div.calls (A0 : Option Addr) (c0 : Nat) (x : List Int) (a : Int) (A1 : Option Addr) (c1 : Nat) (y : List Int) (b : Int) (w : World) (hr0 : Kd.C (Kd.int .u32) w A0 x.length x) (hc0 : x.length ≤ c0) (hr1 : Kd.C (Kd.int .u32) w A1 y.length y) (hc1 : y.length ≤ c1) (hx : Wd x a) (hy : Wd y b) (hbx : x.length ≤ 10000) (hby : y.length ≤ 10000) (hb : 0 < b) (hs : b < 4294967296 ∨ a < 18446744073709551616 ∨ a < b ∨ ∃ k : Nat, b = 2 ^ k) :
  Calls Tryz.prog 107 #[.slice A0 x.length c0, .slice A1 y.length c1] w fun e w' => ∃ vq vr q r, e = .returned (.tuple #[vq, vr]) ∧ Kd.R (Kd.int .u32) 84 w' w.heap.size (fun _ => True) vq q ∧ Kd.R (Kd.int .u32) 84 w' w.heap.size (fun _ => True) vr r ∧ Wd q (a / b) ∧ Wd r (a % b) ∧ q.length ≤ x.length + 2 ∧ r.length ≤ x.length + y.length + 5 ∧ Below w.heap.size w w' := by
 by_cases h1 : b < 4294967296 ∨ a < 18446744073709551616 ∨ a < b
 ·
  exact vendmeterbig_div.small A0 c0 x a A1 c1 y b w hr0 hc0 hr1 hc1 hx hy (by omega) (by omega) hb h1
 ·
  obtain ⟨k, rfl⟩ : ∃ k : Nat, b = 2 ^ k := by
   rcases hs with h | h | h | h
   ·
    exact absurd (.inl h) h1
   ·
    exact absurd (.inr (.inl h)) h1
   ·
    exact absurd (.inr (.inr h)) h1
   ·
    exact h
  have e : (2 : Int) ^ k = ((2 ^ k : Nat) : Int) := by simp
  have hk : 32 ≤ k := by
   rcases Nat.lt_or_ge k 32 with g | g
   ·
    have : 2 ^ k < 2 ^ 32 := Nat.pow_lt_pow_right (by decide) g
    omega
   ·
    exact g
  have hk1 : k ≤ 1000000 := by
   have h2 := hy.lt
   rw [W32.two, e] at h2
   have h3 : 2 ^ k < 2 ^ (32 * y.length) := by omega
   have := (Nat.pow_lt_pow_iff_right (show 1 < 2 by decide)).1 h3
   omega
  exact vendmeterbig_div.pow A0 c0 x a A1 c1 y k w hr0 hc0 hr1 hc1 hx hy (by omega) hk hk1 (by omega) (by omega)
structure Only2 (z r : Nat) (w w' : World) : Prop where
 os : w'.os = w.os
 tape : w'.tape = w.tape
 output : w'.output = w.output
 size : w.heap.size ≤ w'.heap.size
 block : ∀ k, k < w.heap.size → k ≠ z → k ≠ r → w'.heap[k]? = w.heap[k]?
theorem Only2.one {z r : Nat} {a b c : World} (h : Only z a b) (k : Only2 z r b c) (hr : a.heap.size ≤ r) : Only z a c :=
 ⟨k.os.trans h.os, k.tape.trans h.tape, k.output.trans h.output, Nat.le_trans h.size k.size, fun i hi hne => (k.block i (Nat.lt_of_lt_of_le hi h.size) hne (by omega)).trans (h.block i hi hne)⟩
theorem Only2.two {z r : Nat} {a b c : World} (h : Only r a b) (k : Only2 z r b c) (hz : a.heap.size ≤ z) : Only r a c :=
 ⟨k.os.trans h.os, k.tape.trans h.tape, k.output.trans h.output, Nat.le_trans h.size k.size, fun i hi hne => (k.block i (Nat.lt_of_lt_of_le hi h.size) (by omega) hne).trans (h.block i hi hne)⟩
theorem Only2.pre {z r : Nat} {a b c : World} (h : Below a.heap.size a b) (k : Only2 z r b c) : Only2 z r a c :=
 ⟨k.os.trans h.os, k.tape.trans h.tape, k.output.trans h.output, Nat.le_trans h.size k.size, fun i hi h1 h2 => (k.block i (Nat.lt_of_lt_of_le hi h.size) h1 h2).trans (h.block i hi)⟩
theorem Only2.of {z r : Nat} {a b c : World} (h : Only z a b) (k : Only r b c) : Only2 z r a c :=
 ⟨k.os.trans h.os, k.tape.trans h.tape, k.output.trans h.output, Nat.le_trans h.size k.size, fun i hi h1 h2 => (k.block i (Nat.lt_of_lt_of_le hi h.size) h2).trans (h.block i hi h1)⟩
set_option maxHeartbeats 4000000 in
set_option maxRecDepth 100000 in
theorem vendmeterbig_Int_QuoRem.calls (w : World) (z x y r0 : Nat) (a b : Int) (hz : IsI w z) (hr : IsI w r0) (hne : z ≠ r0) (hx : BigA w x a) (hy : BigA w y b) (ha : a < W32 1000) (hb : b < W32 1000) (hb0 : 0 < b) (hdv : b < 4294967296 ∨ a < 18446744073709551616 ∨ a < b ∨ ∃ k : Nat, b = 2 ^ k) :
  Calls Tryz.prog 69 #[.pointer (some ⟨z, 0, none⟩), .pointer (some ⟨x, 0, none⟩), .pointer (some ⟨y, 0, none⟩), .pointer (some ⟨r0, 0, none⟩)] w fun e w' => e = .returned (.tuple #[.pointer (some ⟨z, 0, none⟩), .pointer (some ⟨r0, 0, none⟩)]) ∧ BigA w' z (a / b) ∧ BigA w' r0 (a % b) ∧ Only2 z r0 w w' := by
 obtain ⟨Ax, cx, lx, hx1, hx2, hx3, hx4⟩ := hx
 obtain ⟨Ay, cy, ly, hy1, hy2, hy3, hy4⟩ := hy
 have lbx := hx4.len_le ha
 have lby := hy4.len_le hb
 have x0 : w.cell? ⟨x, 0, none⟩ = some (.bool false) := (blk_cell hx1 0).trans rfl
 have y0 : w.cell? ⟨y, 0, none⟩ = some (.bool false) := (blk_cell hy1 0).trans rfl
 have HX := am hx1
 have HY := am hy1
 have HCX := am hx2
 have HCY := am hy2
 have HWX := am hx4
 have HWY := am hy4
 have HL := am (And.intro (Nat.le_trans lbx (show 1000 ≤ 10000 by decide)) (Nat.le_trans lby (show 1000 ≤ 10000 by decide)))
 have HDV := am (And.intro hb0 hdv)
 clear hx1 hx2 hy1 hy2 hx4 hy4 hb0 hdv ha hb lbx lby
 go_enter Tryz.func69, Tryz.ntmps69
 go_wp2
 go_quiet (fail)
 go_wp2
 refine start_ (n := 14) (S := fun w' => w'.cell? ⟨x, 1, none⟩ = some (.slice Ax lx.length cx) ∧ w'.cell? ⟨y, 1, none⟩ = some (.slice Ay ly.length cy)) (ds := []) #[false, false, false, false, false, false, false, false, false, false, false, false, false, false] (by kernel_rfl) rfl rfl ⟨(blk_cell (blk_drew (blk_drewN HX.out nq)) 1).trans rfl, (blk_cell (blk_drew (blk_drewN HY.out nq)) 1).trans rfl⟩ (fun hHeld => ?_)
 refine czpp 0 23 ?_
 refine czpp 1 24 ?_
 refine czpp 2 25 ?_
 refine czpp 4 27 ?_
 refine czpp 5 28 ?_
 refine czpp 6 29 ?_
 refine cztk 3 26 ?_
 refine cztk 7 30 ?_
 refine one_ (i := 8) (N := some 31) #[true, true, true, true, true, true, true, true, true, false, false, false, false, false] rfl rfl (by kernel_rfl) (by decide) (fun K hK => ?_)
 refine goes_ Tryz.func107 (by kernel_rfl) rfl #[.slice Ax lx.length cx, .slice Ay ly.length cy] (by rfl) rfl rfl (by (try simp only [List.map_toArray, List.map_cons, List.map_nil]); first | done | rfl) ?_
 with_reducible refine (vendmeterbig_div.calls Ax cx lx a Ay cy ly b _ (Kd.C_below (WC.c HCX.out) (below_drew1 (pw_below_drewN (Below.refl _ _) nq))) hx3 (Kd.C_below (WC.c HCY.out) (below_drew1 (pw_below_drewN (Below.refl _ _) nq))) hy3 HWX.out HWY.out HL.out.1 HL.out.2 HDV.out.1 HDV.out.2).mono ?_
 rintro e w3 ⟨v3, u3, q, r, rfl, hQ, hR, hWq, hWr, _, _, hB⟩
 refine ⟨_, rfl, ?_⟩
 obtain ⟨Aq, cq, rfl⟩ := Kd.R_slice hQ
 obtain ⟨Ar, cr, rfl⟩ := Kd.R_slice hR
 have HX1 := am (blk_below (blk_drew (blk_drewN HX.out nq)) hB)
 have HY1 := am (blk_below (blk_drew (blk_drewN HY.out nq)) hB)
 have HB3 := am (Below.trans (below_drew1 (pw_below_drewN (Below.refl w.heap.size w) nq)) (hB.mono (Nat.le_refl _)))
 have HQ3 := am (wRW hQ)
 have HR3 := am (wRW hR)
 have HWQ := am (And.intro hWq hWr)
 clear hQ hR hWq hWr hB
 refine hK.out _ _ ⟨(blk_cell HX1.out 1).trans rfl, (blk_cell HY1.out 1).trans rfl⟩ (fun hHeld => ?_)
 clear hK K
 refine norm_ (a' := ?_) ?_ ?_
 rotate_left
 ·
  show Act.put _ (some 31) _ = _
  simp only [Act.put, List.setIfInBounds_toArray, List.set_cons_zero, List.set_cons_succ, i64_w, i32_w]
  rfl
 refine czpp 9 22 ?_
 refine czpp 10 32 ?_
 refine czpp 11 33 ?_
 refine czpp 12 12 ?_
 refine czpp 13 13 ?_
 refine done_ (by kernel_rfl) ?_
 go_upto_region 4 with (go_at_call 102; refine (vendmeterbig_Int_give.calls w3 z (hz.below HB3.out) Aq cq q _ HQ3.out.1 HQ3.out.2 HWQ.out.1).mono ?_; rintro e w4 ⟨rfl, hA, hO⟩; have HA4 := am hA; have HO4 := am hO; have HR4 := am (words_keep HR3.out.1 (hz.below HB3.out) hO); clear hA hO)
 go_wp2_with (go_at_call 102; refine (vendmeterbig_Int_give.calls w4 r0 ((hr.below HB3.out).keep HO4.out (Ne.symm hne)) Ar cr r _ HR4.out HR3.out.2 HWQ.out.2).mono ?_; rintro e w5 ⟨rfl, hA, hO⟩; have HA5 := am hA; have HA6 := am (HA4.out.keep ((hr.below HB3.out).keep HO4.out (Ne.symm hne)) hO hne); have HO5 := am (Only2.pre HB3.out (Only2.of HO4.out hO)); clear hA hO)
 go_ret2
 exact ⟨rfl, HA6.out, HA5.out, HO5.out⟩
set_option maxHeartbeats 4000000 in
set_option maxRecDepth 100000 in
theorem vendmeterbig_Int_Uint64.at_ (w : World) (x : Nat) (a : Int) (hx : BigA w x a) :
  Calls Tryz.prog 108 #[.pointer (some ⟨x, 0, none⟩)] w fun e w' => e = .returned (.int .u64 (a % 18446744073709551616)) ∧ w' = w := by
 obtain ⟨Ax, cx, lx, hx1, hx2, hx3, hx4⟩ := hx
 have hw := wlow lx hx4.ok
 rw [hx4.val] at hw
 have x1 : w.cell? ⟨x, 1, none⟩ = some (.slice Ax lx.length cx) := (blk_cell hx1 1).trans rfl
 have b0 := hx4.ok.at_ 0
 have b1 := hx4.ok.at_ 1
 clear hx1
 by_cases h0 : 0 < lx.length
 ·
  have h0b : decide (0 < lx.length) = true := decide_eq_true h0
  obtain ⟨ad, e, c0⟩ := wread (WC.c hx2) (Below.refl _ _) 0 h0
  cases e
  rw [Addr.add_zero'] at c0
  by_cases h1 : 1 < lx.length
  ·
   have h1b : decide (1 < lx.length) = true := decide_eq_true h1
   obtain ⟨ad', e, c1⟩ := wread (WC.c hx2) (Below.refl _ _) 1 h1
   cases e
   rw [Addr.add_succ'] at c1
   rw [if_pos h1] at hw
   obtain ⟨d0, hd0⟩ : ∃ d, lx.getD 0 0 = d := ⟨_, rfl⟩
   obtain ⟨d1, hd1⟩ : ∃ d, lx.getD 1 0 = d := ⟨_, rfl⟩
   rw [hd0] at c0 hw b0
   rw [hd1] at c1 hw b1
   have HW := am (wor' b1 b0)
   have HWW := am hw
   have HC := am hx2
   clear hd0 hd1 b0 b1 hx2 hw
   go_enter Tryz.func108, Tryz.ntmps108
   go_wp2
   go_ret
   exact ⟨by rw [← HWW.out, ← HW.out]; first | done | rfl, rfl⟩
  ·
   have h1b : decide (1 < lx.length) = false := decide_eq_false h1
   rw [if_neg h1, if_pos h0] at hw
   obtain ⟨d0, hd0⟩ : ∃ d, lx.getD 0 0 = d := ⟨_, rfl⟩
   rw [hd0] at c0 hw b0
   have HW := am (wu64 (a := d0) ⟨b0.1, by omega⟩)
   have HWW := am hw
   have HC := am hx2
   clear hd0 b0 b1 hx2 hw
   go_enter Tryz.func108, Tryz.ntmps108
   go_wp2
   go_ret
   exact ⟨by rw [← HWW.out]; first | done | rfl | (rw [← HW.out]; first | done | rfl) | (simp [HW.out]), rfl⟩
 ·
  have h0b : decide (0 < lx.length) = false := decide_eq_false h0
  have h1b : decide (1 < lx.length) = false := decide_eq_false (by omega)
  rw [if_neg (by omega), if_neg h0] at hw
  have HWW := am hw
  have HC := am hx2
  clear b0 b1 hx2 hw
  go_enter Tryz.func108, Tryz.ntmps108
  go_wp2
  go_ret
  exact ⟨by rw [← HWW.out]; first | done | rfl, rfl⟩



/-! ### wide96 -/
def w96e (v : Int) (i k : Nat) : Int := if k < i then v / W32 k % 4294967296 else 0
set_option maxHeartbeats 4000000 in
theorem vendmeterbig_Int_BitLen.calls (w : World) (x : Nat) (a : Int) (hx : BigA w x a) (ha : a < W32 1000) :
  Calls Tryz.prog 68 #[.pointer (some ⟨x, 0, none⟩)] w fun e w' => (∃ r : Nat, e = .returned (.int .i64 (r : Int)) ∧ a < ((2 ^ r : Nat) : Int) ∧ (0 < a → ((2 ^ (r - 1) : Nat) : Int) ≤ a ∧ 0 < r)) ∧ Drawn0 w w' := by
 obtain ⟨Ax, cx, lx, hx1, hx2, hx3, hx4⟩ := hx
 have lbx := hx4.len_le ha
 obtain ⟨r, t1, t2, t3⟩ := wlength_ev hx4 (by omega)
 obtain ⟨kl, ht⟩ := Ev.rounds t1
 have HT := am ht
 have x1 : w.cell? ⟨x, 1, none⟩ = some (.slice Ax lx.length cx) := (blk_cell hx1 1).trans rfl
 have HCX := am hx2
 clear hx1 hx2 ht t1
 go_enter Tryz.func68, Tryz.ntmps68
 go_wp2_with (go_at_call 106; refine (vendmeterbig_length.calls kl _ _ lx _ _ (WC.c HCX.out) hx3 HT.out).mono ?_; rintro e w1 ⟨rfl, hd⟩; have HD := am hd; clear hd)
 go_ret
 exact ⟨⟨r, rfl, t2, t3⟩, HD.out⟩


set_option maxHeartbeats 4000000 in
set_option maxRecDepth 100000 in
theorem vendmeterbig_Int_BitLen.zero (w : World) (x : Nat) (hx : BigA w x 0) :
  Calls Tryz.prog 68 #[.pointer (some ⟨x, 0, none⟩)] w fun e w' => e = .returned (.int .i64 0) ∧ Drawn0 w w' := by
 obtain ⟨Ax, cx, lx, hx1, hx2, hx3, hx4⟩ := hx
 have hl : lx.length = 0 := hx4.nil_iff.2 rfl
 have ht : vendmeterbig_length.f 0 lx = some 0 := by unfold vendmeterbig_length.f; rw [if_pos (by omega)]
 have HT := am ht
 have x1 : w.cell? ⟨x, 1, none⟩ = some (.slice Ax lx.length cx) := (blk_cell hx1 1).trans rfl
 have HCX := am hx2
 clear hx1 hx2 ht hl
 go_enter Tryz.func68, Tryz.ntmps68
 go_wp2_with (go_at_call 106; refine (vendmeterbig_length.calls 0 _ _ lx _ _ (WC.c HCX.out) hx3 HT.out).mono ?_; rintro e w1 ⟨rfl, hd⟩; have HD := am hd; clear hd)
 go_ret
 exact ⟨rfl, HD.out⟩
theorem rd_bitn (N : Nat) (B : Int) (hN : ((2 ^ N : Nat) : Int) = B) (hB : 0 < B) (w : World) (x : Nat) (a : Int) (hx : BigA w x a) (ha : a < W32 1000) :
  Calls Tryz.prog 68 #[.pointer (some ⟨x, 0, none⟩)] w fun e w' => (∃ r : Nat, e = .returned (.int .i64 (r : Int)) ∧ (N < r) = (B ≤ a)) ∧ Drawn0 w w' := by
 have h0 := hx.pos
 rcases Int.lt_or_le 0 a with hp | hp
 ·
  refine (vendmeterbig_Int_BitLen.calls w x a hx ha).mono ?_
  rintro e w1 ⟨⟨r, rfl, h1, h2⟩, hd⟩
  obtain ⟨h3, h4⟩ := h2 hp
  refine ⟨⟨r, rfl, propext ⟨fun h => ?_, fun h => ?_⟩⟩, hd⟩
  ·
   have h5 := Nat.pow_le_pow_right (n := 2) (by decide) (show N ≤ r - 1 by omega)
   have h6 := Int.ofNat_le.2 h5
   omega
  ·
   rcases Nat.lt_or_ge N r with g | g
   ·
    exact g
   ·
    have h5 := Nat.pow_le_pow_right (n := 2) (by decide) g
    have h6 := Int.ofNat_le.2 h5
    omega
 ·
  obtain rfl : a = 0 := by omega
  refine (vendmeterbig_Int_BitLen.zero w x hx).mono ?_
  rintro e w1 ⟨rfl, hd⟩
  exact ⟨⟨0, rfl, propext ⟨fun h => by omega, fun h => by omega⟩⟩, hd⟩

set_option maxHeartbeats 4000000 in
theorem vendmeterbig_Int_Sign.calls (w : World) (x : Nat) (a : Int) (hx : BigA w x a) :
  Calls Tryz.prog 70 #[.pointer (some ⟨x, 0, none⟩)] w fun e w' => e = .returned (.int .i64 (if a = 0 then 0 else 1)) ∧ w' = w := by
 obtain ⟨Ax, cx, lx, hx1, hx2, hx3, hx4⟩ := hx
 have x0 : w.cell? ⟨x, 0, none⟩ = some (.bool false) := (blk_cell hx1 0).trans rfl
 have x1 : w.cell? ⟨x, 1, none⟩ = some (.slice Ax lx.length cx) := (blk_cell hx1 1).trans rfl
 clear hx1 hx2
 by_cases h : a = 0
 ·
  rw [if_pos h]
  have hl : lx.length = 0 := hx4.nil_iff.2 h
  have h0 : ((lx.length : Int) == 0) = true := by rw [hl]; rfl
  have h1 : (lx.length == 0) = true := by rw [hl]; rfl
  clear hl h hx4
  go_enter Tryz.func70, Tryz.ntmps70
  go_wp2
  go_ret
  exact ⟨rfl, rfl⟩
 ·
  rw [if_neg h]
  have hl : ¬ lx.length = 0 := fun g => h (hx4.nil_iff.1 g)
  have h0 : ((lx.length : Int) == 0) = false := beq_eq_false_iff_ne.mpr (by omega)
  have h1 : (lx.length == 0) = false := beq_eq_false_iff_ne.mpr hl
  clear hl h hx4
  go_enter Tryz.func70, Tryz.ntmps70
  go_wp2
  go_ret
  exact ⟨rfl, rfl⟩
set_option maxHeartbeats 4000000 in
theorem vendmeterbig_Int_Int64.calls (w : World) (x : Nat) (a : Int) (hx : BigA w x a) (ha : a < 9223372036854775808) :
  Calls Tryz.prog 71 #[.pointer (some ⟨x, 0, none⟩)] w fun e w' => e = .returned (.int .i64 a) ∧ w' = w := by
 have HX := am hx
 have h0 := hx.pos
 obtain ⟨Ax, cx, lx, hx1, hx2, hx3, hx4⟩ := hx
 have x0 : w.cell? ⟨x, 0, none⟩ = some (.bool false) := (blk_cell hx1 0).trans rfl
 have e1 : a % 18446744073709551616 = a := Int.emod_eq_of_lt h0 (by omega)
 have e2 : wrap64 a = a := by unfold wrap64; omega
 have HU := am (e1 ▸ vendmeterbig_Int_Uint64.at_ w x a HX.out)
 have E2 := am e2
 clear hx1 hx2 hx4 hx3 e1 e2 h0 ha HX
 go_enter Tryz.func71, Tryz.ntmps71
 go_wp2_with (go_at_call 108; refine HU.out.mono ?_; rintro e w1 ⟨rfl, rfl⟩)
 go_ret
 refine ⟨?_, rfl⟩
 show Ending.returned (.int .i64 (wrap64 a)) = _
 rw [E2.out]

set_option maxHeartbeats 8000000 in
set_option maxRecDepth 100000 in
theorem vendmeterref_Parsed.len (w : World) (s : ByteArray) (h : s.size ≠ 20) :
  Calls Tryz.prog 39 #[.string s] w fun e w' => e = .returned (.tuple #[.agg #[.int .i64 0, .int .i64 0, .int .i64 0, .int .i64 0], .int .i64 6]) ∧ Below w.heap.size w w' := by
 have c1 : ((s.size : Int) == 20) = false := beq_eq_false_iff_ne.mpr (by omega)
 have c2 : ((s.size : Int) != 20) = true := by rw [bne, c1]; rfl
 have c3 : (s.size == 20) = false := beq_eq_false_iff_ne.mpr h
 have HB := am (below_alloc (Below.refl w.heap.size w) (.cells #[.int .i64 0, .int .i64 0, .int .i64 0, .int .i64 0] 67))
 have B2 := am (blk_new w (.cells #[.int .i64 0, .int .i64 0, .int .i64 0, .int .i64 0] 67))
 clear h
 go_enter Tryz.func39, Tryz.ntmps39
 go_wp2_with ((with_reducible refine gate_store (t := 67) (p := 2) rfl ?_); refine seg.list rfl rfl 67 (.tmp 2) _ rfl 67 w.heap.size 0 #[.int .i64 0, .int .i64 0, .int .i64 0, .int .i64 0] #[.int .i64 0, .int .i64 0, .int .i64 0, .int .i64 0] [.int .i64 0, .int .i64 0, .int .i64 0, .int .i64 0] rfl rfl (by kernel_rfl) (by simp [Value.oneCell']) B2.out (by simp) rfl ?_; intro w9 bx hgr)
 refine bodyPost_ret (results_ct (p := 2) (u := 3) rfl _ w9 w.heap.size 67 _ (0, 0) _ rfl bx Tryz.underlying67 rfl (by kernel_rfl)) rfl ?_
 exact ⟨rfl, seg.below HB.out hgr (Nat.le_refl _)⟩
set_option maxHeartbeats 8000000 in
set_option maxRecDepth 100000 in
theorem vendmeterref_Parsed.bad (w : World) (s : ByteArray) (hs : s.size = 20) (m : Nat) (hm : m < 20) (hok : ∀ j, j < m → rdOk s j) (hbad : ¬ rdOk s m) :
  Calls Tryz.prog 39 #[.string s] w fun e w' => e = .returned (.tuple #[.agg #[.int .i64 0, .int .i64 0, .int .i64 0, .int .i64 0], .int .i64 7]) ∧ Below w.heap.size w w' := by
 have c1 : ((s.size : Int) == 20) = true := by rw [hs]; rfl
 have c2 : ((s.size : Int) != 20) = false := by rw [bne, c1]; rfl
 have c3 : (s.size == 20) = true := by rw [hs]; rfl
 have HB := am (below_alloc (below_alloc (Below.refl w.heap.size w) (.cells #[.int .i64 0, .int .i64 0, .int .i64 0, .int .i64 0] 67)) (.cells #[.bool false, .slice none 0 0] 104))
 have B2 := blk_alloc (blk_new w (.cells #[.int .i64 0, .int .i64 0, .int .i64 0, .int .i64 0] 67)) (.cells #[.bool false, .slice none 0 0] 104)
 have B4 := blk_new (w.alloc (.cells #[.int .i64 0, .int .i64 0, .int .i64 0, .int .i64 0] 67)) (.cells #[.bool false, .slice none 0 0] 104)
 rw [World.size_alloc] at B4
 have A4 := am (show BigA ((w.alloc (.cells #[.int .i64 0, .int .i64 0, .int .i64 0, .int .i64 0] 67)).alloc (.cells #[.bool false, .slice none 0 0] 104)) (w.heap.size + 1) (rdV s 0) from ⟨none, 0, [], B4, WC.nil _ _, Nat.le_refl _, Wd.zero⟩)
 have J2 := am B2
 have HMM := am (And.intro (show m ≤ 20 from Nat.le_of_lt hm) (And.intro hs hok))
 have HBAD := am (And.intro (show m < s.size by omega) (And.intro hm hbad))
 clear hs hm hok hbad
 clear B2 B4
 go_enter Tryz.func39, Tryz.ntmps39
 go_wp2
 go_loopg [5] m (fun kq v5 w' => ∃ p : Nat, v5 = .int .i64 (p : Int) ∧ Aside0 (p ≤ m ∧ kq = m - p) ∧ Aside0 (BigA w' (w.heap.size + 1) (rdV s p)) ∧ Aside0 (w'.heap[w.heap.size]? = some (.cells #[.int .i64 0, .int .i64 0, .int .i64 0, .int .i64 0] 67 (0, 0))) ∧ Aside0 (Below w.heap.size w w'))
 case atStart => exact ⟨0, rfl, ⟨Nat.zero_le _, by omega⟩, A4, J2, HB⟩
 case round =>
  clear A4 J2 HB
  obtain ⟨p, rfl, HP, A4, J2, HB⟩ := hrel
  by_cases hpm : p < m
  ·
   have hps : p < s.size := by have := HMM.out.1; have := HMM.out.2.1; omega
   have hk : rdOk s p := HMM.out.2.2 p hpm
   have t1 : decide ((p : Int) < 20) = true := decide_eq_true (by have := HMM.out.1; omega)
   have t1n : decide (p < 20) = true := decide_eq_true (by have := HMM.out.1; omega)
   have p7 : (0 ≤ (p : Int)) = True := eq_true (by omega)
   have q7 : ((p : Int) < (s.size : Int)) = True := eq_true (by omega)
   have hx7 : ((s[p]'hps).toNat : Int) = bt s (p : Int) := (btr_nat s p hps).symm
   have hdg0 : 0 ≤ bt s (p : Int) - 48 ∧ bt s (p : Int) - 48 ≤ 9 := by have := hk.1; have := hk.2; omega
   have hdi : vendmeterref_Digit.f (bt s (p : Int)) = some true := by unfold vendmeterref_Digit.f; rw [if_pos hk.1, decide_eq_true hk.2]
   have HDI := am hdi
   have hvs : rdV s (p + 1) = rdV s p * 10 + (bt s (p : Int) - 48) := rfl
   obtain ⟨b, hb⟩ : ∃ b, bt s (p : Int) = b := ⟨_, rfl⟩
   rw [hb] at hx7 hdg0 HDI hvs
   obtain ⟨dg, hdg⟩ : ∃ dg : Int, b - 48 = dg := ⟨_, rfl⟩
   have hdw : (b - 48) % 256 = dg := by rw [← hdg]; exact Int.emod_eq_of_lt hdg0.1 (by omega)
   have hdw2 : IntKind.u8.wrap (b - 48) = dg := by rw [IntKind.wrap_u8]; exact hdw
   rw [hdg] at hdg0 hvs
   have hdw3 : wrap64 dg = dg := by unfold wrap64; omega
   have hdw4 : IntKind.i64.wrap dg = dg := by rw [Go.IntKind.wrap_i64]; omega
   have HDG := am (show 0 ≤ dg ∧ dg ≤ 9223372036854775807 by omega)
   have hV0 : 0 ≤ rdV s p := A4.out.pos
   have hVb := rdV_bd (s := s) (m := p) (by have := HMM.out.1; omega) (fun j hj => HMM.out.2.2 j (by omega))
   have hVb2 : rdV s p * 10 < W32 1000 := lt1000 (m := 11) (Int.lt_of_le_of_lt (show rdV s p * 10 ≤ W32 10 * 10 by omega) (by decide)) (by decide)
   have HVB := am (And.intro (lt1000 hVb (by decide)) hVb2)
   have HVS := am hvs
   have HD2 := am (show dg < W32 1000 from lt1000 (m := 1) (Int.lt_of_le_of_lt (show dg ≤ 9 by omega) (by decide)) (by decide))
   have HW := am (show wrap64 ((p : Int) + 1) = ((p + 1 : Nat) : Int) by have := HMM.out.1; unfold wrap64; omega)
   have HPM := am (show p < m ∧ p + 1 ≤ m from ⟨hpm, hpm⟩)
   clear hpm hk hdi hb hdg hdg0 hvs hV0 hVb hVb2
   go_upto_region 10 with (first | (go_at_call 52; refine (vendmeterref_Digit.calls _ _ _ HDI.out).mono ?_; rintro e wa ⟨rfl, hd⟩; have A5 := am (A4.out.below hd.below); have P2 := am (blk_below J2.out hd.below); have PB := am (below_then HB.out HB.out.size hd.below); clear hd) | (go_at_call 66; refine (vendmeterbig_NewInt.calls _ 10 ⟨by decide, by decide⟩).mono ?_; rintro e wb ⟨g, rfl, hg, hA, hb⟩; have HT := am hA; have A6 := am (A5.out.below hb); have Q2 := am (blk_below P2.out hb); have QB := am (below_then PB.out PB.out.size hb); clear hg hA hb) | (go_at_call 65; refine (vendmeterbig_Int_Mul.calls wb (w.heap.size + 1) (w.heap.size + 1) g _ _ A6.out.isI A6.out HT.out HVB.out.1 (lt1000 (m := 1) (by decide) (by decide))).mono ?_; rintro e wc ⟨rfl, hA, hO⟩; have A7 := am hA; have R2 := am ((hO.block _ (blk_lt Q2.out) (by omega)).trans Q2.out); have RB := am (Only.below QB.out hO (by omega)); clear hA hO))
   go_wp2_with (first | (go_at_call 66; refine (vendmeterbig_NewInt.calls _ dg HDG.out).mono ?_; rintro e wd ⟨g2, rfl, hg, hA, hb⟩; have HT2 := am hA; have A8 := am (A7.out.below hb); have S2 := am (blk_below R2.out hb); have SB := am (below_then RB.out RB.out.size hb); clear hg hA hb) | (go_at_call 67; refine (vendmeterbig_Int_Add.calls wd (w.heap.size + 1) (w.heap.size + 1) g2 _ _ A8.out.isI A8.out HT2.out HVB.out.2 HD2.out).mono ?_; rintro e we ⟨rfl, hA, hO⟩; rw [← HVS.out] at hA; have A9 := am hA; have T2 := am ((hO.block _ (blk_lt S2.out) (by omega)).trans S2.out); have TB := am (Only.below SB.out hO (by omega)); clear hA hO))
   go_roundg (m - (p + 1))
   case measure => have := HPM.out; have := HP.out; omega
   case rel => exact ⟨p + 1, by first | rfl | rw [HW.out], ⟨HPM.out.2, rfl⟩, A9, T2, TB⟩
  ·
   obtain rfl : p = m := by have := HP.out.1; omega
   have hlt := HBAD.out.1
   have hbad := HBAD.out.2.2
   have t1 : decide ((p : Int) < 20) = true := decide_eq_true (by have := HBAD.out.2.1; omega)
   have t1n : decide (p < 20) = true := decide_eq_true HBAD.out.2.1
   have p7 : (0 ≤ (p : Int)) = True := eq_true (by omega)
   have q7 : ((p : Int) < (s.size : Int)) = True := eq_true (by omega)
   have hx7 : ((s[p]'hlt).toNat : Int) = bt s (p : Int) := (btr_nat s p hlt).symm
   have hdi : vendmeterref_Digit.f (bt s (p : Int)) = some false := by
    unfold vendmeterref_Digit.f
    by_cases h48 : 48 ≤ bt s (p : Int)
    ·
     have h57 : ¬ bt s (p : Int) ≤ 57 := fun h => hbad ⟨h48, h⟩
     rw [if_pos h48, decide_eq_false h57]
    ·
     rw [if_neg h48]
   have HDI := am hdi
   clear hdi hbad hpm
   go_wp2_with (first | (go_at_call 52; refine (vendmeterref_Digit.calls _ _ _ HDI.out).mono ?_; rintro e wa ⟨rfl, hd⟩; have P2 := am (blk_below J2.out hd.below); have PB := am (below_then HB.out HB.out.size hd.below); clear hd) | ((with_reducible refine gate_store (t := 67) (p := 2) rfl ?_); refine seg.list rfl rfl 67 (.tmp 2) _ rfl 67 w.heap.size 0 #[.int .i64 0, .int .i64 0, .int .i64 0, .int .i64 0] #[.int .i64 0, .int .i64 0, .int .i64 0, .int .i64 0] [.int .i64 0, .int .i64 0, .int .i64 0, .int .i64 0] rfl rfl (by kernel_rfl) (by simp [Value.oneCell']) P2.out (by simp) rfl ?_; intro w9 bx hgr))
   refine bodyPost_ret (results_ct (p := 2) (u := 3) rfl _ w9 w.heap.size 67 _ (0, 0) _ rfl bx Tryz.underlying67 rfl (by kernel_rfl)) rfl ?_
   exact ⟨rfl, seg.below PB.out hgr (Nat.le_refl _)⟩
set_option maxHeartbeats 8000000 in
set_option maxRecDepth 100000 in
theorem vendmeterref_Parsed.good (w : World) (s : ByteArray) (hs : s.size = 20) (k : Nat) (r1 r2 r3 r4 er : Int) (hok : ∀ j, j < 20 → rdOk s j) (hd : TpEnd (vendmeterref_TokenFault.f k) (rdV s 20) r1 r2 r3 r4 er) :
  Calls Tryz.prog 39 #[.string s] w fun e w' => e = .returned (.tuple #[.agg #[.int .i64 r1, .int .i64 r2, .int .i64 r3, .int .i64 r4], .int .i64 er]) ∧ Below w.heap.size w w' := by
 have c1 : ((s.size : Int) == 20) = true := by rw [hs]; rfl
 have c2 : ((s.size : Int) != 20) = false := by rw [bne, c1]; rfl
 have c3 : (s.size == 20) = true := by rw [hs]; rfl
 have HB := am (below_alloc (below_alloc (Below.refl w.heap.size w) (.cells #[.int .i64 0, .int .i64 0, .int .i64 0, .int .i64 0] 67)) (.cells #[.bool false, .slice none 0 0] 104))
 have B2 := blk_alloc (blk_new w (.cells #[.int .i64 0, .int .i64 0, .int .i64 0, .int .i64 0] 67)) (.cells #[.bool false, .slice none 0 0] 104)
 have B4 := blk_new (w.alloc (.cells #[.int .i64 0, .int .i64 0, .int .i64 0, .int .i64 0] 67)) (.cells #[.bool false, .slice none 0 0] 104)
 rw [World.size_alloc] at B4
 have A4 := am (show BigA ((w.alloc (.cells #[.int .i64 0, .int .i64 0, .int .i64 0, .int .i64 0] 67)).alloc (.cells #[.bool false, .slice none 0 0] 104)) (w.heap.size + 1) (rdV s 0) from ⟨none, 0, [], B4, WC.nil _ _, Nat.le_refl _, Wd.zero⟩)
 have J2 := am B2
 have HMM := am (And.intro (Nat.le_refl 20) (And.intro hs hok))
 have HD := am hd
 have HV := am (tp_V hok)
 have hu23 := Tryz.underlying67
 clear hs hok hd
 clear B2 B4
 go_enter Tryz.func39, Tryz.ntmps39
 go_wp2
 go_loopg [5] 20 (fun kq v5 w' => ∃ p : Nat, v5 = .int .i64 (p : Int) ∧ Aside0 (p ≤ 20 ∧ kq = 20 - p) ∧ Aside0 (BigA w' (w.heap.size + 1) (rdV s p)) ∧ Aside0 (w'.heap[w.heap.size]? = some (.cells #[.int .i64 0, .int .i64 0, .int .i64 0, .int .i64 0] 67 (0, 0))) ∧ Aside0 (Below w.heap.size w w'))
 case atStart => exact ⟨0, rfl, ⟨Nat.zero_le _, by omega⟩, A4, J2, HB⟩
 case round =>
  clear A4 J2 HB
  obtain ⟨p, rfl, HP, A4, J2, HB⟩ := hrel
  by_cases hpm : p < 20
  ·
   have hps : p < s.size := by have := HMM.out.1; have := HMM.out.2.1; omega
   have hk : rdOk s p := HMM.out.2.2 p hpm
   have t1 : decide ((p : Int) < 20) = true := decide_eq_true (by have := HMM.out.1; omega)
   have t1n : decide (p < 20) = true := decide_eq_true (by have := HMM.out.1; omega)
   have p7 : (0 ≤ (p : Int)) = True := eq_true (by omega)
   have q7 : ((p : Int) < (s.size : Int)) = True := eq_true (by omega)
   have hx7 : ((s[p]'hps).toNat : Int) = bt s (p : Int) := (btr_nat s p hps).symm
   have hdg0 : 0 ≤ bt s (p : Int) - 48 ∧ bt s (p : Int) - 48 ≤ 9 := by have := hk.1; have := hk.2; omega
   have hdi : vendmeterref_Digit.f (bt s (p : Int)) = some true := by unfold vendmeterref_Digit.f; rw [if_pos hk.1, decide_eq_true hk.2]
   have HDI := am hdi
   have hvs : rdV s (p + 1) = rdV s p * 10 + (bt s (p : Int) - 48) := rfl
   obtain ⟨b, hb⟩ : ∃ b, bt s (p : Int) = b := ⟨_, rfl⟩
   rw [hb] at hx7 hdg0 HDI hvs
   obtain ⟨dg, hdg⟩ : ∃ dg : Int, b - 48 = dg := ⟨_, rfl⟩
   have hdw : (b - 48) % 256 = dg := by rw [← hdg]; exact Int.emod_eq_of_lt hdg0.1 (by omega)
   have hdw2 : IntKind.u8.wrap (b - 48) = dg := by rw [IntKind.wrap_u8]; exact hdw
   rw [hdg] at hdg0 hvs
   have hdw3 : wrap64 dg = dg := by unfold wrap64; omega
   have hdw4 : IntKind.i64.wrap dg = dg := by rw [Go.IntKind.wrap_i64]; omega
   have HDG := am (show 0 ≤ dg ∧ dg ≤ 9223372036854775807 by omega)
   have hV0 : 0 ≤ rdV s p := A4.out.pos
   have hVb := rdV_bd (s := s) (m := p) (by have := HMM.out.1; omega) (fun j hj => HMM.out.2.2 j (by omega))
   have hVb2 : rdV s p * 10 < W32 1000 := lt1000 (m := 11) (Int.lt_of_le_of_lt (show rdV s p * 10 ≤ W32 10 * 10 by omega) (by decide)) (by decide)
   have HVB := am (And.intro (lt1000 hVb (by decide)) hVb2)
   have HVS := am hvs
   have HD2 := am (show dg < W32 1000 from lt1000 (m := 1) (Int.lt_of_le_of_lt (show dg ≤ 9 by omega) (by decide)) (by decide))
   have HW := am (show wrap64 ((p : Int) + 1) = ((p + 1 : Nat) : Int) by have := HMM.out.1; unfold wrap64; omega)
   have HPM := am (show p < 20 ∧ p + 1 ≤ 20 from ⟨hpm, hpm⟩)
   clear hpm hk hdi hb hdg hdg0 hvs hV0 hVb hVb2
   go_upto_region 10 with (first | (go_at_call 52; refine (vendmeterref_Digit.calls _ _ _ HDI.out).mono ?_; rintro e wa ⟨rfl, hd⟩; have A5 := am (A4.out.below hd.below); have P2 := am (blk_below J2.out hd.below); have PB := am (below_then HB.out HB.out.size hd.below); clear hd) | (go_at_call 66; refine (vendmeterbig_NewInt.calls _ 10 ⟨by decide, by decide⟩).mono ?_; rintro e wb ⟨g, rfl, hg, hA, hb⟩; have HT := am hA; have A6 := am (A5.out.below hb); have Q2 := am (blk_below P2.out hb); have QB := am (below_then PB.out PB.out.size hb); clear hg hA hb) | (go_at_call 65; refine (vendmeterbig_Int_Mul.calls wb (w.heap.size + 1) (w.heap.size + 1) g _ _ A6.out.isI A6.out HT.out HVB.out.1 (lt1000 (m := 1) (by decide) (by decide))).mono ?_; rintro e wc ⟨rfl, hA, hO⟩; have A7 := am hA; have R2 := am ((hO.block _ (blk_lt Q2.out) (by omega)).trans Q2.out); have RB := am (Only.below QB.out hO (by omega)); clear hA hO))
   go_wp2_with (first | (go_at_call 66; refine (vendmeterbig_NewInt.calls _ dg HDG.out).mono ?_; rintro e wd ⟨g2, rfl, hg, hA, hb⟩; have HT2 := am hA; have A8 := am (A7.out.below hb); have S2 := am (blk_below R2.out hb); have SB := am (below_then RB.out RB.out.size hb); clear hg hA hb) | (go_at_call 67; refine (vendmeterbig_Int_Add.calls wd (w.heap.size + 1) (w.heap.size + 1) g2 _ _ A8.out.isI A8.out HT2.out HVB.out.2 HD2.out).mono ?_; rintro e we ⟨rfl, hA, hO⟩; rw [← HVS.out] at hA; have A9 := am hA; have T2 := am ((hO.block _ (blk_lt S2.out) (by omega)).trans S2.out); have TB := am (Only.below SB.out hO (by omega)); clear hA hO))
   go_roundg (20 - (p + 1))
   case measure => have := HPM.out; have := HP.out; omega
   case rel => exact ⟨p + 1, by first | rfl | rw [HW.out], ⟨HPM.out.2, rfl⟩, A9, T2, TB⟩
  ·
   obtain rfl : p = 20 := by have := HP.out.1; omega
   obtain ⟨V, hVe⟩ : ∃ V, rdV s 20 = V := ⟨_, rfl⟩
   rw [hVe] at A4 HD HV
   have HVL := am (show V < W32 1000 from lt1000 (m := 10) (Int.lt_trans HV.out.2 (by decide)) (by decide))
   obtain ⟨Q, hQ⟩ : ∃ x, V / 97 = x := ⟨_, rfl⟩
   obtain ⟨lf, hlf⟩ : ∃ x, V % 97 = x := ⟨_, rfl⟩
   have hQb : 0 ≤ Q ∧ Q < 9223372036854775808 := by have := HV.out; omega
   have HQL := am (show Q < W32 1000 from lt1000 (m := 10) (Int.lt_trans hQb.2 (by decide)) (by decide))
   have HQ := am (And.intro hQ (And.intro hlf hQb))
   clear hpm hVe hQ hlf hQb
   by_cases h66 : 73786976294838206464 ≤ V
   ·
    have HH := am h66
    go_upto_region 12 with (go_at_call 68; refine (rd_bitn 66 73786976294838206464 (by decide) (by decide) _ _ _ A4.out HVL.out).mono ?_; rintro e wa ⟨⟨r, rfl, hr⟩, hd⟩; have hrt : decide (66 < r) = true := decide_eq_true (by rw [hr]; exact HH.out); have hrt2 : decide ((r : Int) > 66) = true := decide_eq_true (by have := of_decide_eq_true hrt; omega); have P2 := am (blk_below J2.out hd.below); have PB := am (below_then HB.out HB.out.size hd.below); clear hd hr)
    go_wp2_with ((with_reducible refine gate_store (t := 67) (p := 2) rfl ?_); refine seg.list rfl rfl 67 (.tmp 2) _ rfl 67 w.heap.size 0 #[.int .i64 0, .int .i64 0, .int .i64 0, .int .i64 0] #[.int .i64 0, .int .i64 0, .int .i64 0, .int .i64 0] [.int .i64 0, .int .i64 0, .int .i64 0, .int .i64 0] rfl rfl (by kernel_rfl) (by simp [Value.oneCell']) P2.out (by simp) rfl ?_; intro w9 bx hgr)
    refine bodyPost_ret (results_ct (p := 2) (u := 3) rfl _ w9 w.heap.size 67 _ (0, 0) _ rfl bx Tryz.underlying67 rfl (by kernel_rfl)) rfl ?_
    have he := HD.out.1 h66
    exact ⟨by rw [he.1, he.2.1, he.2.2.1, he.2.2.2.1, he.2.2.2.2]; rfl, seg.below PB.out hgr (Nat.le_refl _)⟩
   ·
    have HH := am h66
    clear h66
    go_upto_region 13 with (go_at_call 68; refine (rd_bitn 66 73786976294838206464 (by decide) (by decide) _ _ _ A4.out HVL.out).mono ?_; rintro e wa ⟨⟨r, rfl, hr⟩, hd⟩; have hrt : decide (66 < r) = false := decide_eq_false (by rw [hr]; exact HH.out); have hrt2 : decide ((r : Int) > 66) = false := decide_eq_false (by have := of_decide_eq_false hrt; omega); have A5 := am (A4.out.below hd.below); have P2 := am (blk_below J2.out hd.below); have PB := am (below_then HB.out HB.out.size hd.below); clear hd hr)
    have LW := am (blk_lt P2.out)
    have LA := am A5.out.lt
    go_upto_region 14 with (first | (go_at_call 66; refine (vendmeterbig_NewInt.calls _ 97 ⟨by decide, by decide⟩).mono ?_; rintro e wb ⟨g, rfl, hg, hA, hb⟩; have hba := hb.size; rw [World.size_alloc] at hba hg; have HT := am (hA.below (below_alloc (Below.refl _ wb) (.cells #[.bool false, .slice none 0 0] 104))); have A6 := am ((A5.out.below (below_alloc (Below.refl _ wa) (.cells #[.bool false, .slice none 0 0] 104))).below (below_alloc hb (.cells #[.bool false, .slice none 0 0] 104))); have HZ := am ((IsI.new wa).below (below_alloc hb (.cells #[.bool false, .slice none 0 0] 104))); have HR := am (IsI.new wb); have Q2 := am (blk_below (blk_alloc P2.out (.cells #[.bool false, .slice none 0 0] 104)) (below_alloc hb (.cells #[.bool false, .slice none 0 0] 104))); have QB := am (below_then (below_alloc PB.out (.cells #[.bool false, .slice none 0 0] 104)) (below_alloc PB.out (.cells #[.bool false, .slice none 0 0] 104)).size (below_alloc hb (.cells #[.bool false, .slice none 0 0] 104))); have SZ := am (show wa.heap.size < wb.heap.size ∧ g < wb.heap.size ∧ wa.heap.size < g from ⟨by omega, hA.lt, by omega⟩); clear hg hA hb hba) | (go_at_call 69; refine (vendmeterbig_Int_QuoRem.calls (wb.alloc (.cells #[.bool false, .slice none 0 0] 104)) wa.heap.size (w.heap.size + 1) g wb.heap.size _ 97 HZ.out HR.out (Nat.ne_of_lt SZ.out.1) A6.out HT.out HVL.out (lt1000 (m := 1) (by decide) (by decide)) (by decide) (.inl (by decide))).mono ?_; rintro e wc ⟨rfl, hA1, hA2, hO⟩; rw [HQ.out.1] at hA1; rw [HQ.out.2.1] at hA2; have AQ := am hA1; have AR := am hA2; have R2 := am ((hO.block _ (blk_lt Q2.out) (by have := LW.out; omega) (by have := LW.out; have := SZ.out; omega)).trans Q2.out); have RB := am (show Below w.heap.size w wc from ⟨hO.os.trans QB.out.os, hO.tape.trans QB.out.tape, hO.output.trans QB.out.output, Nat.le_trans QB.out.size hO.size, fun i hi => (hO.block i (Nat.lt_of_lt_of_le hi QB.out.size) (by have := LW.out; omega) (by have := LW.out; have := SZ.out; omega)).trans (QB.out.block i hi)⟩); clear hA1 hA2 hO))
    by_cases h97 : lf = 0
    ·
     have H97 := am h97
     go_upto_region 16 with (go_at_call 70; refine (vendmeterbig_Int_Sign.calls _ _ _ AR.out).mono ?_; rw [if_pos H97.out]; rintro e wd ⟨rfl, hw_⟩; obtain rfl := hw_)
     by_cases h59 : 576460752303423488 ≤ Q
     ·
      have H59 := am h59
      go_upto_region 17 with (go_at_call 68; refine (rd_bitn 59 576460752303423488 (by decide) (by decide) _ _ _ AQ.out HQL.out).mono ?_; rintro e wf ⟨⟨r2_, rfl, hr⟩, hd⟩; have hst : decide (59 < r2_) = true := decide_eq_true (by rw [hr]; exact H59.out); have hst2 : decide ((r2_ : Int) > 59) = true := decide_eq_true (by have := of_decide_eq_true hst; omega); have S2 := am (blk_below R2.out hd.below); have SB := am (below_then RB.out RB.out.size hd.below); clear hd hr)
      go_wp2_with ((with_reducible refine gate_store (t := 67) (p := 2) rfl ?_); refine seg.list rfl rfl 67 (.tmp 2) _ rfl 67 w.heap.size 0 #[.int .i64 0, .int .i64 0, .int .i64 0, .int .i64 0] #[.int .i64 0, .int .i64 0, .int .i64 0, .int .i64 0] [.int .i64 0, .int .i64 0, .int .i64 0, .int .i64 0] rfl rfl (by kernel_rfl) (by simp [Value.oneCell']) S2.out (by simp) rfl ?_; intro w9 bx hgr)
      refine bodyPost_ret (results_ct (p := 2) (u := 3) rfl _ w9 w.heap.size 67 _ (0, 0) _ rfl bx Tryz.underlying67 rfl (by kernel_rfl)) rfl ?_
      have he := HD.out.2.2.1 (by have := HH.out; omega) (by rw [HQ.out.2.1]; exact h97) (by rw [HQ.out.1]; exact h59)
      exact ⟨by rw [he.1, he.2.1, he.2.2.1, he.2.2.2.1, he.2.2.2.2]; rfl, seg.below SB.out hgr (Nat.le_refl _)⟩
     ·
      have H59 := am h59
      clear h59 h97
      go_upto_region 18 with (go_at_call 68; refine (rd_bitn 59 576460752303423488 (by decide) (by decide) _ _ _ AQ.out HQL.out).mono ?_; rintro e wf ⟨⟨r2_, rfl, hr⟩, hd⟩; have hst : decide (59 < r2_) = false := decide_eq_false (by rw [hr]; exact H59.out); have hst2 : decide ((r2_ : Int) > 59) = false := decide_eq_false (by have := of_decide_eq_false hst; omega); have A8 := am (AQ.out.below hd.below); have S2 := am (blk_below R2.out hd.below); have SB := am (below_then RB.out RB.out.size hd.below); clear hd hr)
      go_upto_region 19 with (go_at_call 71; refine (vendmeterbig_Int_Int64.calls _ _ _ A8.out HQ.out.2.2.2).mono ?_; rintro e wh ⟨rfl, hw_⟩; obtain rfl := hw_)
      go_upto_region 20 with (fail)
      obtain ⟨f0, hf0⟩ : ∃ x, Q % 65536 = x := ⟨_, rfl⟩
      obtain ⟨f1, hf1⟩ : ∃ x, Q / 65536 % 2097152 = x := ⟨_, rfl⟩
      obtain ⟨f2, hf2⟩ : ∃ x, Q / 137438953472 % 1048576 = x := ⟨_, rfl⟩
      obtain ⟨f3, hf3⟩ : ∃ x, Q / 144115188075855872 = x := ⟨_, rfl⟩
      have tm0 : Q.tmod 65536 = f0 := by rw [Int.tmod_eq_emod_of_nonneg HQ.out.2.2.1]; exact hf0
      have tm1 : (Q / 65536).tmod 2097152 = f1 := by rw [Int.tmod_eq_emod_of_nonneg (by have := HQ.out.2.2.1; omega)]; exact hf1
      have tm2 : (Q / 137438953472).tmod 1048576 = f2 := by rw [Int.tmod_eq_emod_of_nonneg (by have := HQ.out.2.2.1; omega)]; exact hf2
      rw [tm0, tm1, tm2, hf3]
      obtain ⟨wt, hwt⟩ : ∃ W : World, W = wh.alloc (.cells #[.int .i64 f3, .int .i64 f2, .int .i64 f1, .int .i64 f0] 67) := ⟨_, rfl⟩
      rw [← hwt]
      have T2 := am (show wt.heap[w.heap.size]? = some (.cells #[.int .i64 0, .int .i64 0, .int .i64 0, .int .i64 0] 67 (0, 0)) from hwt ▸ blk_alloc S2.out _)
      have TT := am (show wt.heap[wh.heap.size]? = some (.cells #[.int .i64 f3, .int .i64 f2, .int .i64 f1, .int .i64 f0] 67 (0, 0)) from hwt ▸ blk_new wh _)
      have TB := am (show Below w.heap.size w wt from hwt ▸ below_alloc SB.out _)
      obtain ⟨fe, hfe, hE1, hE2⟩ := HD.out.2.2.2 (by have := HH.out; omega) (by rw [HQ.out.2.1]; exact H97.out) (by have := H59.out; rw [HQ.out.1]; omega)
      rw [HQ.out.1, hf0, hf1, hf2, hf3] at hfe hE2
      have HFE := am hfe
      have HE := am (And.intro hE1 hE2)
      have m0 : wt.cell? ⟨wh.heap.size, 0, none⟩ = some (.int .i64 f3) := (blk_cell TT.out 0).trans rfl
      have m1 : wt.cell? ⟨wh.heap.size, 1, none⟩ = some (.int .i64 f2) := (blk_cell TT.out 1).trans rfl
      have m2 : wt.cell? ⟨wh.heap.size, 2, none⟩ = some (.int .i64 f1) := (blk_cell TT.out 2).trans rfl
      have m3 : wt.cell? ⟨wh.heap.size, 3, none⟩ = some (.int .i64 f0) := (blk_cell TT.out 3).trans rfl
      clear hwt hfe hE1 hE2 tm0 tm1 tm2 hf0 hf1 hf2 hf3
      by_cases hf : fe = 0
      ·
       have u3 : (fe == 0) = true := by rw [hf]; rfl
       have u4 : (fe != 0) = false := by rw [bne, u3]; rfl
       have HE2 := am (HE.out.2 hf)
       clear hf
       go_upto_region 22 with (go_at_call 72; refine (vendmeterref_TokenFault.calls _ _ _ _ _ _ _ HFE.out).mono ?_; rintro e wq ⟨rfl, hb⟩; have NZ := am (blk_below T2.out hb); have NT := am (blk_below TT.out hb); have NB := am (below_then TB.out TB.out.size hb); clear hb)
       clear m0 m1 m2 m3
       have m0 : wq.cell? ⟨wh.heap.size, 0, none⟩ = some (.int .i64 f3) := (blk_cell NT.out 0).trans rfl
       have m1 : wq.cell? ⟨wh.heap.size, 1, none⟩ = some (.int .i64 f2) := (blk_cell NT.out 1).trans rfl
       have m2 : wq.cell? ⟨wh.heap.size, 2, none⟩ = some (.int .i64 f1) := (blk_cell NT.out 2).trans rfl
       have m3 : wq.cell? ⟨wh.heap.size, 3, none⟩ = some (.int .i64 f0) := (blk_cell NT.out 3).trans rfl
       go_wp2_with ((with_reducible refine gate_store (t := 67) (p := 2) rfl ?_); refine seg.list rfl rfl 67 (.tmp 2) _ rfl 67 w.heap.size 0 #[.int .i64 0, .int .i64 0, .int .i64 0, .int .i64 0] #[.int .i64 f3, .int .i64 f2, .int .i64 f1, .int .i64 f0] [.int .i64 f3, .int .i64 f2, .int .i64 f1, .int .i64 f0] rfl rfl (by kernel_rfl) (by simp [Value.oneCell']) NZ.out (by simp) rfl ?_; intro w9 bx hgr)
       refine bodyPost_ret (results_ct (p := 2) (u := 3) rfl _ w9 w.heap.size 67 _ (0, 0) _ rfl bx Tryz.underlying67 rfl (by kernel_rfl)) rfl ?_
       exact ⟨by rw [HE2.out.1, HE2.out.2.1, HE2.out.2.2.1, HE2.out.2.2.2.1, HE2.out.2.2.2.2]; rfl, seg.below NB.out hgr (Nat.le_refl _)⟩
      ·
       have u3 : (fe == 0) = false := beq_eq_false_iff_ne.mpr hf
       have u4 : (fe != 0) = true := bne_iff_ne.mpr hf
       have HE2 := am (HE.out.1 hf)
       clear hf
       go_upto_region 21 with (go_at_call 72; refine (vendmeterref_TokenFault.calls _ _ _ _ _ _ _ HFE.out).mono ?_; rintro e wq ⟨rfl, hb⟩; have NZ := am (blk_below T2.out hb); have NB := am (below_then TB.out TB.out.size hb); clear hb)
       go_wp2_with ((with_reducible refine gate_store (t := 67) (p := 2) rfl ?_); refine seg.list rfl rfl 67 (.tmp 2) _ rfl 67 w.heap.size 0 #[.int .i64 0, .int .i64 0, .int .i64 0, .int .i64 0] #[.int .i64 0, .int .i64 0, .int .i64 0, .int .i64 0] [.int .i64 0, .int .i64 0, .int .i64 0, .int .i64 0] rfl rfl (by kernel_rfl) (by simp [Value.oneCell']) NZ.out (by simp) rfl ?_; intro w9 bx hgr)
       refine bodyPost_ret (results_ct (p := 2) (u := 3) rfl _ w9 w.heap.size 67 _ (0, 0) _ rfl bx Tryz.underlying67 rfl (by kernel_rfl)) rfl ?_
       have he := HE2.out
       exact ⟨by rw [he.1, he.2.1, he.2.2.1, he.2.2.2.1, he.2.2.2.2]; rfl, seg.below NB.out hgr (Nat.le_refl _)⟩
    ·
     have H97 := am h97
     go_upto_region 15 with (go_at_call 70; refine (vendmeterbig_Int_Sign.calls _ _ _ AR.out).mono ?_; rw [if_neg H97.out]; rintro e wd ⟨rfl, hw_⟩; obtain rfl := hw_)
     go_wp2_with ((with_reducible refine gate_store (t := 67) (p := 2) rfl ?_); refine seg.list rfl rfl 67 (.tmp 2) _ rfl 67 w.heap.size 0 #[.int .i64 0, .int .i64 0, .int .i64 0, .int .i64 0] #[.int .i64 0, .int .i64 0, .int .i64 0, .int .i64 0] [.int .i64 0, .int .i64 0, .int .i64 0, .int .i64 0] rfl rfl (by kernel_rfl) (by simp [Value.oneCell']) R2.out (by simp) rfl ?_; intro w9 bx hgr)
     refine bodyPost_ret (results_ct (p := 2) (u := 3) rfl _ w9 w.heap.size 67 _ (0, 0) _ rfl bx Tryz.underlying67 rfl (by kernel_rfl)) rfl ?_
     have he := HD.out.2.1 (by have := HH.out; omega) (by rw [HQ.out.2.1]; exact h97)
     exact ⟨by rw [he.1, he.2.1, he.2.2.1, he.2.2.2.1, he.2.2.2.2]; rfl, seg.below RB.out hgr (Nat.le_refl _)⟩
/-! ### vendmeterref_Parsed: function 39 (by hand) -/
def vendmeterref_Parsed.f (k : Nat) (a0 : ByteArray) : Option (Int × Int × Int × Int × Int) :=
 if a0.size = 20 then (if rdAll a0 20 = true then (if 73786976294838206464 ≤ rdV a0 20 then some (0, 0, 0, 0, 2) else if rdV a0 20 % 97 = 0 then (if 576460752303423488 ≤ rdV a0 20 / 97 then some (0, 0, 0, 0, 2) else
  (vendmeterref_TokenFault.f k (rdV a0 20 / 97 / 144115188075855872) (rdV a0 20 / 97 / 137438953472 % 1048576) (rdV a0 20 / 97 / 65536 % 2097152) (rdV a0 20 / 97 % 65536)).bind fun fe => if fe = 0 then some (rdV a0 20 / 97 / 144115188075855872, rdV a0 20 / 97 / 137438953472 % 1048576, rdV a0 20 / 97 / 65536 % 2097152, rdV a0 20 / 97 % 65536, 0) else some (0, 0, 0, 0, 2))
  else some (0, 0, 0, 0, 8)) else some (0, 0, 0, 0, 7)) else some (0, 0, 0, 0, 6)
theorem vendmeterref_Parsed.mono : ∀ a0 k, LeO (vendmeterref_Parsed.f k a0) (vendmeterref_Parsed.f (k + 1) a0) := by
 intro a0 k
 unfold vendmeterref_Parsed.f
 repeat' first
  | (with_reducible exact vendmeterref_TokenFault.mono _ _ _ _ _)
  | (with_reducible exact LeO.refl _)
  | (with_reducible refine LeO.ite ?_ ?_)
  | (with_reducible refine LeO.bind ?_ (fun _ => ?_))
theorem vendmeterref_Parsed.calls (k : Nat) (a0 : ByteArray) (r1 : Int) (r2 : Int) (r3 : Int) (r4 : Int) (r5 : Int) (w : World) (h : vendmeterref_Parsed.f k a0 = some (r1, r2, r3, r4, r5)) :
  Calls Tryz.prog 39 #[.string a0] w fun e w' => e = .returned (.tuple #[.agg #[.int .i64 r1, .int .i64 r2, .int .i64 r3, .int .i64 r4], .int .i64 r5]) ∧ Below w.heap.size w w' := by
 unfold vendmeterref_Parsed.f at h
 split at h
 ·
  rename_i hs
  split at h
  ·
   rename_i hok
   have hV := tp_V (rdAll_ok hok)
   refine vendmeterref_Parsed.good w a0 hs k r1 r2 r3 r4 r5 (rdAll_ok hok) ⟨fun h1 => ?_, fun h1 h2 => ?_, fun h1 h2 h3 => ?_, fun h1 h2 h3 => ?_⟩
   ·
    rw [if_pos h1] at h
    simp only [Option.some.injEq, Prod.mk.injEq] at h
    obtain ⟨rfl, rfl, rfl, rfl, rfl⟩ := h
    exact ⟨rfl, rfl, rfl, rfl, rfl⟩
   ·
    rw [if_neg (by omega), if_neg h2] at h
    simp only [Option.some.injEq, Prod.mk.injEq] at h
    obtain ⟨rfl, rfl, rfl, rfl, rfl⟩ := h
    exact ⟨rfl, rfl, rfl, rfl, rfl⟩
   ·
    rw [if_neg (by omega), if_pos h2, if_pos h3] at h
    simp only [Option.some.injEq, Prod.mk.injEq] at h
    obtain ⟨rfl, rfl, rfl, rfl, rfl⟩ := h
    exact ⟨rfl, rfl, rfl, rfl, rfl⟩
   ·
    rw [if_neg (by omega), if_pos h2, if_neg (by omega)] at h
    obtain ⟨fe, hf, h⟩ := Option.bind_eq_some_iff.mp h
    refine ⟨fe, hf, fun hz => ?_, fun hz => ?_⟩
    ·
     rw [if_neg hz] at h
     simp only [Option.some.injEq, Prod.mk.injEq] at h
     obtain ⟨rfl, rfl, rfl, rfl, rfl⟩ := h
     exact ⟨rfl, rfl, rfl, rfl, rfl⟩
    ·
     rw [if_pos hz] at h
     simp only [Option.some.injEq, Prod.mk.injEq] at h
     obtain ⟨rfl, rfl, rfl, rfl, rfl⟩ := h
     exact ⟨rfl, rfl, rfl, rfl, rfl⟩
  ·
   rename_i hok
   simp only [Option.some.injEq, Prod.mk.injEq] at h
   obtain ⟨rfl, rfl, rfl, rfl, rfl⟩ := h
   obtain ⟨m, h1, h2, h3⟩ := rdAll_no (s := a0) (n := 20) (by simpa using hok)
   exact vendmeterref_Parsed.bad w a0 hs m h1 h2 h3
 ·
  rename_i hs
  simp only [Option.some.injEq, Prod.mk.injEq] at h
  obtain ⟨rfl, rfl, rfl, rfl, rfl⟩ := h
  exact vendmeterref_Parsed.len w a0 hs

end Go.Proofs.YtocolmpfpbclbaaGreatDoor.PReceiptShows
