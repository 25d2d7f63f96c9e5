/- vendmeterlaw.OrderShows returns true at every step: order.Show writes the same line as the reference, or tells the same fault. No condition. -/
import Derived.Test.YtdijplohafjbcaaDoorPOrderShowsxL
import Derived.Test.YtdijplohafjbcaaDoorXLib
set_option linter.unusedVariables false
set_option linter.unusedSimpArgs false
namespace Go.Proofs.YtdijplohafjbcaaDoor.Pure
open Go.RowKit Go.Proofs.YtdijplohafjbcaaDoor.POrderShows Go.Proofs.YtdijplohafjbcaaDoorW.PrintWords Go.Proofs.YtdijplohafjbcaaDoorW.PrintLast Go.Proofs.YtdijplohafjbcaaDoorW.PrintMore Go.Proofs.YtdijplohafjbcaaDoorW.XLib

def dB (u : Nat) : ByteArray := ⟨(Lib.decDigits u).toArray⟩
theorem dd_len : ∀ (d u : Nat), u < 10 ^ (d + 1) → (Lib.decDigits u).length ≤ d + 1
  | 0, u, h => by rw [Lib.decDigits_one (by simpa using h)]; simp
  | d + 1, u, h => by
    by_cases h10 : u < 10
    · rw [Lib.decDigits_one h10]; simp
    · rw [Lib.decDigits, dif_neg h10]
      have := dd_len d (u / 10) (by rw [Nat.div_lt_iff_lt_mul (by decide)]; rw [Nat.pow_succ] at h; omega)
      simp
      omega
theorem dB_size (u : Nat) (h : u ≤ 9223372036854775807) : (dB u).size ≤ 21 := by
  have := dd_len 20 u (by omega)
  exact this
theorem dB_big (u : Nat) (h : ¬ u < 10) : dB u = dB (u / 10) ++ dB (u % 10) := by
  unfold dB
  rw [Lib.decDigits, dif_neg h, Lib.decDigits_one (show u % 10 < 10 by omega)]
  apply ByteArray.ext; apply Array.ext'
  simp
theorem dec_ev (u : Nat) (h : u ≤ 9223372036854775807) : Ev (fun k => vendmeterref_Dec.f k (u : Int)) (dB u) := by
  induction u using Nat.strongRecOn with
  | ind u ih =>
    refine Ev.succ ?_
    simp only [vendmeterref_Dec.f]
    refine Ev.pos (by omega) (Ev.succ ?_)
    simp only [vendmeterref_Dec.j0]
    by_cases h10 : u < 10
    · refine Ev.pos (decide_eq_true (by omega)) (Ev.eq ?_ (Ev.now _))
      rw [wr ⟨by omega, by omega⟩, show ((48 + (u : Int)) % 256) = ((48 + u : Nat) : Int) by omega]
      unfold dB strOfNums
      rw [Lib.decDigits_one h10]
      rfl
    · refine Ev.neg (by rw [decide_eq_true_eq]; omega) (Ev.neg (by omega) ?_)
      rw [show wrap64 (Int.tdiv (u : Int) 10) = ((u / 10 : Nat) : Int) by rw [td (by omega), wr ⟨by omega, by omega⟩]; rfl, show Int.tmod (u : Int) 10 = ((u % 10 : Nat) : Int) by rw [tm (by omega)]; rfl]
      refine Ev.bind (ih (u / 10) (by omega) (by omega)) (Ev.bind (ih (u % 10) (by omega) (by omega)) ?_)
      have s1 := dB_size (u / 10) (by omega)
      have s2 := dB_size (u % 10) (by omega)
      refine Ev.pos (by omega) (Ev.eq (dB_big u h10).symm (Ev.now _))
theorem itoa_f (a : Int) (h : 0 ≤ a ∧ a ≤ 9223372036854775807) : strconv_Itoa_18.f a = some (dB a.toNat) := by
  unfold strconv_Itoa_18.f
  rw [if_pos ⟨by omega, h.2⟩]
  obtain ⟨u, rfl⟩ := Int.eq_ofNat_of_zero_le h.1
  rw [Lib.itoa_nonneg]
  rfl

theorem decOk_ev (v : Int) : ∃ K, ∀ k, K ≤ k → decOk k v = true := by
  by_cases hv : okV v
  · obtain ⟨u, rfl⟩ := Int.eq_ofNat_of_zero_le hv.1
    obtain ⟨K, hk⟩ := dec_ev u (by unfold okV at hv; omega)
    refine ⟨K, fun k h => ?_⟩
    have e : itoaB (u : Int) = dB u := by unfold itoaB; rw [Lib.itoa_nonneg]; rfl
    unfold decOk
    rw [e, decide_eq_true (hk k h), Bool.or_true]
  · exact ⟨0, fun k _ => by unfold decOk; rw [decide_eq_false hv]; rfl⟩
theorem fw_size (i : Nat) : (fw i).size ≤ 20 := by
  unfold fw
  split <;> exact Nat.le_of_ble_eq_true rfl
theorem s0_size {wd : ByteArray} {a b c : Bool} {me A B C : Int} (hw : wd.size ≤ 20) (h : okAll a b c me A B C) : (s0B wd a b c me A B C).size ≤ 110 := by
  have h1 := itoaB_size h.1
  have h2 := npB_size h.2.1
  have h3 := npB_size h.2.2.1
  have h4 := npB_size h.2.2.2
  have h5 : (⟨#[32]⟩ : ByteArray).size = 1 := rfl
  unfold s0B
  simp only [ByteArray.size_append]
  omega
theorem s1_size {ct : Int} {s : ByteArray} (hc : ct ≤ 4096) (h : s.size ≤ 110) : (s1B ct s).size ≤ 140 := by
  unfold s1B
  split
  · rename_i h0
    have h1 := itoaB_size (v := ct) ⟨h0, by omega⟩
    have h5 : (⟨#[32]⟩ : ByteArray).size = 1 := rfl
    have h6 : (⟨#[99, 117, 116, 32]⟩ : ByteArray).size = 4 := rfl
    simp only [ByteArray.size_append]
    omega
  · omega
theorem s2_size {kk : Bool} {tx s : ByteArray} (ht : tx.size ≤ 140737488351232) (h : s.size ≤ 140) : (s2B kk tx s).size ≤ 140737488355328 := by
  unfold s2B
  split
  · have h5 : (⟨#[32]⟩ : ByteArray).size = 1 := rfl
    simp only [ByteArray.size_append]
    omega
  · omega
theorem act_len (wd : ByteArray) (a b c kk : Bool) (me A B C : Int) (tx : ByteArray) (ct : Int) : (actL wd a b c kk me A B C tx ct).length ≤ 140737488355328 := by
  unfold actL preL
  cases a <;> cases b <;> cases c <;> cases kk <;> by_cases h : 0 ≤ ct <;> simp [h]
theorem show_total (kn me A B C : Int) (tx : ByteArray) (ct : Int) (ht : tx.size ≤ 140737488351232) : ∃ x, order_Show.f kn me A B C tx ct = some x := by
  unfold order_Show.f
  by_cases hc : formIx kn < 0 ∨ ct < -1 ∨ ct > 4096
  · rw [if_pos hc]; exact ⟨_, rfl⟩
  · rw [if_neg hc]
    have hk : 1 ≤ kn ∧ kn ≤ 7 := by
      by_cases g : 1 ≤ kn ∧ kn ≤ 7
      · exact g
      · exact absurd (Or.inl (by unfold formIx; rw [if_neg g]; decide)) hc
    rw [show_g (kn - 1).toNat (by omega)]
    generalize (kn - 1).toNat = i
    unfold vendmeterref_ActShown.g
    by_cases h1 : okAll (fa i) (fb i) (fc i) me A B C
    · rw [if_pos h1]
      by_cases h2 : zAll (fa i) (fb i) (fc i) (i == 5) A B C tx
      · rw [if_pos h2]
        by_cases h3 : hasNl tx = false
        · rw [if_pos h3]
          unfold showEnd strings_Join.f
          have hl : (s2B (i == 5) tx (s1B ct (s0B (fw i) (fa i) (fb i) (fc i) me A B C))).data.toList.length = (s2B (i == 5) tx (s1B ct (s0B (fw i) (fa i) (fb i) (fc i) me A B C))).size := Array.length_toList
          rw [join_cat, if_pos ⟨act_len _ _ _ _ _ _ _ _ _ _ _, by rw [hl]; exact s2_size ht (s1_size (by omega) (s0_size (fw_size i) h1))⟩, Option.bind_some]
          split <;> exact ⟨_, rfl⟩
        · rw [if_neg h3]; exact ⟨_, rfl⟩
      · rw [if_neg h2]; exact ⟨_, rfl⟩
    · rw [if_neg h1]; exact ⟨_, rfl⟩
theorem OrderShows : vendmeterlaw_OrderShows.Pure := by
  intro kn me A B C tx ct _ _ _ _ _ ht _
  obtain ⟨x, hx⟩ := show_total kn me A B C tx ct ht
  obtain ⟨K1, h1⟩ := decOk_ev ct
  obtain ⟨K2, h2⟩ := decOk_ev me
  obtain ⟨K3, h3⟩ := decOk_ev A
  obtain ⟨K4, h4⟩ := decOk_ev B
  obtain ⟨K5, h5⟩ := decOk_ev C
  refine ⟨K1 + K2 + K3 + K4 + K5, ?_⟩
  unfold vendmeterlaw_OrderShows.f vendmeterref_ActShown.f
  have hd : decsOk (K1 + K2 + K3 + K4 + K5) ct me A B C = true := by
    unfold decsOk
    rw [h1 _ (by omega), h2 _ (by omega), h3 _ (by omega), h4 _ (by omega), h5 _ (by omega)]; rfl
  rw [if_pos hd, if_pos (by omega), hx]
  show (if x.1.toList = x.1.toList then some (x.2 == x.2) else some false) = some true
  rw [if_pos rfl, beq_self_eq_true]

end Go.Proofs.YtdijplohafjbcaaDoor.Pure
