/- vendmeterlaw.CentsShows returns true at every amount: cents.Show writes it as the reference does, or tells the same fault. No condition. -/
import Derived.Test.YtoookcmablnjfaaDoorPCentsShowsx1
import Derived.Test.YtoookcmablnjfaaDoorXLib
set_option linter.unusedVariables false
set_option linter.unusedSimpArgs false
namespace Go.Proofs.YtoookcmablnjfaaDoor.Pure
open Go.RowKit Go.Proofs.YtoookcmablnjfaaDoor.PCentsShows Go.Proofs.YtoookcmablnjfaaDoorW.PrintWords Go.Proofs.YtoookcmablnjfaaDoorW.PrintLast Go.Proofs.YtoookcmablnjfaaDoorW.PrintMore Go.Proofs.YtoookcmablnjfaaDoorW.XLib


def dB (u : Nat) : ByteArray := ⟨(Lib.decDigits u).toArray⟩
theorem dd_len : ∀ (d u : Nat), u < 10 ^ (d + 1) → (Lib.decDigits u).length ≤ d + 1
  | 0, u, h => by rw [Lib.decDigits_one (by simpa using h)]; simp
  | d + 1, u, h => by
    by_cases h10 : u < 10
    · rw [Lib.decDigits_one h10]; simp
    · rw [Lib.decDigits, dif_neg h10]
      have := dd_len d (u / 10) (by rw [Nat.div_lt_iff_lt_mul (by decide)]; rw [Nat.pow_succ] at h; omega)
      simp
      omega
theorem dB_size (u : Nat) (h : u ≤ 9223372036854775807) : (dB u).size ≤ 21 := by
  have := dd_len 20 u (by omega)
  exact this
theorem dB_big (u : Nat) (h : ¬ u < 10) : dB u = dB (u / 10) ++ dB (u % 10) := by
  unfold dB
  rw [Lib.decDigits, dif_neg h, Lib.decDigits_one (show u % 10 < 10 by omega)]
  apply ByteArray.ext; apply Array.ext'
  simp
theorem dec_ev (u : Nat) (h : u ≤ 9223372036854775807) : Ev (fun k => vendmeterref_Dec.f k (u : Int)) (dB u) := by
  induction u using Nat.strongRecOn with
  | ind u ih =>
    refine Ev.succ ?_
    simp only [vendmeterref_Dec.f]
    refine Ev.pos (by omega) (Ev.succ ?_)
    simp only [vendmeterref_Dec.j0]
    by_cases h10 : u < 10
    · refine Ev.pos (decide_eq_true (by omega)) (Ev.eq ?_ (Ev.now _))
      rw [wr ⟨by omega, by omega⟩, show ((48 + (u : Int)) % 256) = ((48 + u : Nat) : Int) by omega]
      unfold dB strOfNums
      rw [Lib.decDigits_one h10]
      rfl
    · refine Ev.neg (by rw [decide_eq_true_eq]; omega) (Ev.neg (by omega) ?_)
      rw [show wrap64 (Int.tdiv (u : Int) 10) = ((u / 10 : Nat) : Int) by rw [td (by omega), wr ⟨by omega, by omega⟩]; rfl, show Int.tmod (u : Int) 10 = ((u % 10 : Nat) : Int) by rw [tm (by omega)]; rfl]
      refine Ev.bind (ih (u / 10) (by omega) (by omega)) (Ev.bind (ih (u % 10) (by omega) (by omega)) ?_)
      have s1 := dB_size (u / 10) (by omega)
      have s2 := dB_size (u % 10) (by omega)
      refine Ev.pos (by omega) (Ev.eq (dB_big u h10).symm (Ev.now _))
def shB (u : Nat) : ByteArray := ((dB (u / 100) ++ (⟨#[46]⟩ : ByteArray)) ++ dB (u / 10 % 10)) ++ dB (u % 10)
def shAns (n : Int) : ByteArray × Int := if -1000000000000 ≤ n ∧ n ≤ 1000000000000 then (if n < 0 then ((⟨#[45]⟩ : ByteArray) ++ shB (-n).toNat, 0) else (shB n.toNat, 0)) else ((⟨#[]⟩ : ByteArray), 2)
theorem one_size : (⟨#[46]⟩ : ByteArray).size = 1 := rfl
theorem one_size' : (⟨#[45]⟩ : ByteArray).size = 1 := rfl
theorem shB_size (u : Nat) (h : u ≤ 1000000000000) : (shB u).size ≤ 64 := by
  unfold shB
  have s1 := dB_size (u / 100) (by omega)
  have s2 := dB_size (u / 10 % 10) (by omega)
  have s3 := dB_size (u % 10) (by omega)
  rw [ByteArray.size_append, ByteArray.size_append, ByteArray.size_append, one_size]
  omega
theorem in_eq (n lo hi : Int) : vendmeterref_In.f n lo hi = some (decide (lo ≤ n ∧ n ≤ hi)) := by
  unfold vendmeterref_In.f
  by_cases h : n ≥ lo
  · rw [if_pos h]; congr 1; by_cases h2 : n ≤ hi <;> simp [h, h2] <;> omega
  · rw [if_neg h]; congr 1; symm; exact decide_eq_false (fun g => h g.1)
theorem within_eq (n lo hi : Int) : cents_within.f n lo hi = some (decide (lo ≤ n ∧ n ≤ hi)) := by
  unfold cents_within.f
  by_cases h : lo ≤ n
  · rw [if_pos h]; congr 1; by_cases h2 : n ≤ hi <;> simp [h, h2]
  · rw [if_neg h]; congr 1; symm; exact decide_eq_false (fun g => h g.1)
theorem shown_pos (u : Nat) (h : u ≤ 1000000000000) : Ev (fun k => vendmeterref_Shown.f k (u : Int)) (shB u, 0) := by
  refine Ev.succ ?_
  simp only [vendmeterref_Shown.f, in_eq]
  rw [decide_eq_true (show (-1000000000000 : Int) ≤ (u : Int) ∧ (u : Int) ≤ 1000000000000 by omega)]
  refine Ev.letS (Ev.pos rfl (Ev.neg (by omega) ?_))
  rw [show wrap64 (Int.tdiv (u : Int) 100) = ((u / 100 : Nat) : Int) by rw [td (by omega), wr ⟨by omega, by omega⟩]; rfl]
  rw [show Int.tmod (wrap64 (Int.tdiv (u : Int) 10)) 10 = ((u / 10 % 10 : Nat) : Int) by rw [td (by omega), wr ⟨by omega, by omega⟩, tm (by omega)]; rfl]
  rw [show Int.tmod (u : Int) 10 = ((u % 10 : Nat) : Int) by rw [tm (by omega)]; rfl]
  have s1 := dB_size (u / 100) (by omega)
  have s2 := dB_size (u / 10 % 10) (by omega)
  have s3 := dB_size (u % 10) (by omega)
  refine Ev.bind (dec_ev _ (by omega)) (Ev.pos (by omega) (Ev.bind (dec_ev _ (by omega)) (Ev.pos (by rw [ByteArray.size_append, one_size]; omega) (Ev.bind (dec_ev _ (by omega)) (Ev.pos (by rw [ByteArray.size_append, ByteArray.size_append, one_size]; omega) (Ev.now _))))))
theorem shown_ev (n : Int) : Ev (fun k => vendmeterref_Shown.f k n) (shAns n) := by
  unfold shAns
  by_cases hr : -1000000000000 ≤ n ∧ n ≤ 1000000000000
  · rw [if_pos hr]
    by_cases hn : n < 0
    · rw [if_pos hn]
      refine Ev.succ ?_
      simp only [vendmeterref_Shown.f, in_eq]
      rw [decide_eq_true hr]
      refine Ev.letS (Ev.pos rfl (Ev.pos hn ?_))
      rw [wr ⟨by omega, by omega⟩, show -n = (((-n).toNat : Nat) : Int) by omega]
      have s := shB_size (-n).toNat (by omega)
      refine Ev.bind (shown_pos _ (by omega)) (Ev.pos (by simp only [Int.toNat_natCast]; omega) (Ev.now _))
    · rw [if_neg hn]
      have h := shown_pos n.toNat (by omega)
      rw [show ((n.toNat : Nat) : Int) = n by omega] at h
      exact h
  · rw [if_neg hr]
    refine Ev.succ ?_
    simp only [vendmeterref_Shown.f, in_eq]
    rw [decide_eq_false hr]
    exact Ev.letS (Ev.neg (by decide) (Ev.now _))
theorem last_eq (u : Nat) : (dB (100 + u % 100)).extract 1 (dB (100 + u % 100)).size = dB (u / 10 % 10) ++ dB (u % 10) ∧ (dB (100 + u % 100)).size = 3 := by
  have e : dB (100 + u % 100) = ⟨#[UInt8.ofNat 49, UInt8.ofNat (48 + u / 10 % 10), UInt8.ofNat (48 + u % 10)]⟩ := by
    unfold dB
    rw [Lib.decDigits, dif_neg (by omega), Lib.decDigits_two (by omega) (by omega), show (100 + u % 100) / 10 / 10 = 1 by omega, show (100 + u % 100) / 10 % 10 = u / 10 % 10 by omega, show (100 + u % 100) % 10 = u % 10 by omega]
    rfl
  rw [e]
  refine ⟨?_, rfl⟩
  unfold dB
  rw [Lib.decDigits_one (show u / 10 % 10 < 10 by omega), Lib.decDigits_one (show u % 10 < 10 by omega)]
  rfl
theorem itoa_f (a : Int) (h : 0 ≤ a ∧ a ≤ 9223372036854775807) : strconv_Itoa_41.f a = some (dB a.toNat) := by
  unfold strconv_Itoa_41.f
  rw [if_pos ⟨by omega, h.2⟩]
  obtain ⟨u, rfl⟩ := Int.eq_ofNat_of_zero_le h.1
  rw [Lib.itoa_nonneg]
  rfl
theorem show_eq (n : Int) : cents_Show.f n = some (shAns n) := by
  unfold cents_Show.f shAns
  rw [within_eq, Option.bind_some]
  by_cases hr : -1000000000000 ≤ n ∧ n ≤ 1000000000000
  · rw [if_pos hr, decide_eq_true hr, if_pos rfl]
    by_cases hn : n < 0
    · rw [if_pos hn, if_pos hn, wr (a := -n) ⟨by omega, by omega⟩]
      obtain ⟨u, hu⟩ : ∃ u : Nat, -n = (u : Int) := ⟨(-n).toNat, by omega⟩
      rw [hu, tm (by omega), td (by omega), wr ⟨by omega, by omega⟩, wr ⟨by omega, by omega⟩, itoa_f _ ⟨by omega, by omega⟩, itoa_f _ ⟨by omega, by omega⟩]
      rw [show (100 + (u : Int) % 100).toNat = 100 + u % 100 by omega, show ((u : Int) / 100).toNat = u / 100 by omega, Option.bind_some, Option.bind_some]
      obtain ⟨l1, l2⟩ := last_eq u
      have s1 := dB_size (u / 100) (by omega)
      have s2 := dB_size (u / 10 % 10) (by omega)
      have s3 := dB_size (u % 10) (by omega)
      rw [if_pos (by omega), if_pos (by rw [ByteArray.size_append, one_size']; omega), if_pos (by omega), l1, if_pos (by simp only [ByteArray.size_append, one_size, one_size']; omega)]
      rw [Int.toNat_natCast]
      unfold shB
      congr 2
      apply ByteArray.ext; apply Array.ext'
      simp
    · rw [if_neg hn, if_neg hn]
      obtain ⟨u, hu⟩ : ∃ u : Nat, n = (u : Int) := ⟨n.toNat, by omega⟩
      subst hu
      rw [tm (by omega), td (by omega), wr ⟨by omega, by omega⟩, wr ⟨by omega, by omega⟩, itoa_f _ ⟨by omega, by omega⟩, itoa_f _ ⟨by omega, by omega⟩]
      rw [show (100 + (u : Int) % 100).toNat = 100 + u % 100 by omega, show ((u : Int) / 100).toNat = u / 100 by omega, Option.bind_some, Option.bind_some]
      obtain ⟨l1, l2⟩ := last_eq u
      have s1 := dB_size (u / 100) (by omega)
      have s2 := dB_size (u / 10 % 10) (by omega)
      have s3 := dB_size (u % 10) (by omega)
      have z : (⟨#[]⟩ : ByteArray).size = 0 := rfl
      rw [if_pos (by omega), if_pos (by rw [ByteArray.size_append, z]; omega), if_pos (by omega), l1, if_pos (by simp only [ByteArray.size_append, one_size, z]; omega)]
      rw [Int.toNat_natCast]
      unfold shB
      congr 2
      apply ByteArray.ext; apply Array.ext'
      simp
  · rw [if_neg hr, decide_eq_false hr]
    rfl
theorem CentsShows : vendmeterlaw_CentsShows.Pure := by
  intro n _
  refine Ev.rounds ?_
  unfold vendmeterlaw_CentsShows.f
  rw [show_eq]
  refine Ev.letS (Ev.bind (shown_ev n) (Ev.pos rfl (Ev.ret (by simp))))

end Go.Proofs.YtoookcmablnjfaaDoor.Pure
