/- vendmeterlaw.ReceiptShows returns true at every receipt: receipt.Show writes the same paper as the reference, or tells the same fault. No condition. -/
import Derived.Test.YtocolmpfpbclbaaGreatDoorPReceiptShowsxL
import Derived.Test.YtocolmpfpbclbaaGreatDoorXLib
set_option linter.unusedVariables false
set_option linter.unusedSimpArgs false
namespace Go.Proofs.YtocolmpfpbclbaaGreatDoor.Pure
open Go.RowKit Go.Proofs.YtocolmpfpbclbaaGreatDoor.PReceiptShows Go.Proofs.YtocolmpfpbclbaaGreatDoorW.PrintWords Go.Proofs.YtocolmpfpbclbaaGreatDoorW.PrintLast Go.Proofs.YtocolmpfpbclbaaGreatDoorW.PrintMore Go.Proofs.YtocolmpfpbclbaaGreatDoorW.XLib

def tokAmt (c a : Int) : Prop := (c = 0 ∧ 1 ≤ a ∧ a ≤ 2097151) ∨ (c = 2 ∧ 1 ≤ a ∧ a ≤ 15) ∨ ((c = 1 ∨ c = 3) ∧ a = 0)
instance (c a : Int) : Decidable (tokAmt c a) := by unfold tokAmt; infer_instance
def tokFault (c i a t : Int) : Int := if 0 ≤ c ∧ c ≤ 3 then (if (1 ≤ i ∧ i ≤ 1048575) ∧ (0 ≤ t ∧ t ≤ 65535) ∧ tokAmt c a then 0 else 2) else 9
theorem tok_cases (c : Int) : c = 0 ∨ c = 1 ∨ c = 2 ∨ c = 3 ∨ ¬ (0 ≤ c ∧ c ≤ 3) := by omega
theorem token_fault.eq (c i a t : Int) : token_fault.f c i a t = some (tokFault c i a t) := by
  unfold token_fault.f token_bounds.f tokFault tokAmt
  rcases tok_cases c with rfl | rfl | rfl | rfl | h
  case inr.inr.inr.inr => rw [if_neg (by omega), if_neg (by omega), if_neg (by omega), if_neg (by omega), if_neg h]; rfl
  all_goals
    simp only [if_true, if_false, Option.bind_some, Int.reduceEq]
    repeat' split
    all_goals first | rfl | omega | (simp at *; omega)
theorem tok_zero {c i a t : Int} (h : tokFault c i a t = 0) : (0 ≤ c ∧ c ≤ 3) ∧ (1 ≤ i ∧ i ≤ 1048575) ∧ (0 ≤ t ∧ t ≤ 65535) ∧ tokAmt c a := by
  unfold tokFault at h
  split at h
  · split at h
    · exact ⟨by assumption, by assumption⟩
    · omega
  · omega
theorem tok_amt {c a : Int} (h : tokAmt c a) : 0 ≤ a ∧ a ≤ 2097151 := by unfold tokAmt at h; omega
theorem vendmeterref_In.eq (a b c : Int) : vendmeterref_In.f a b c = some (decide (b ≤ a ∧ a ≤ c)) := by
  unfold vendmeterref_In.f
  by_cases h : b ≤ a
  · rw [if_pos h]; simp [h]
  · rw [if_neg h]; simp [h]
theorem vendmeterref_TokenFault.ev (c i a t : Int) : Ev (fun k => vendmeterref_TokenFault.f k c i a t) (tokFault c i a t) := by
  refine Ev.succ (Ev.succ (Ev.succ ⟨0, fun k _ => ?_⟩))
  simp only [vendmeterref_TokenFault.f, vendmeterref_TokenFault.j0, vendmeterref_TokenFault.j1, vendmeterref_TokenFault.j2, vendmeterref_In.eq, Option.bind_some]
  unfold tokFault tokAmt
  rcases tok_cases c with rfl | rfl | rfl | rfl | h
  case inr.inr.inr.inr => rw [decide_eq_false h, if_neg h]; rfl
  all_goals
    by_cases hi : 1 ≤ i ∧ i ≤ 1048575 <;> by_cases ht : 0 ≤ t ∧ t ≤ 65535
    all_goals simp [hi, ht]
    all_goals first | done | (split <;> rfl) | (split <;> simp_all <;> omega)
def parsedAns (s : ByteArray) : Int × Int × Int × Int × Int :=
  if s.size = 20 then (if rdAll s 20 = true then (if 73786976294838206464 ≤ rdV s 20 then (0, 0, 0, 0, 2) else if rdV s 20 % 97 = 0 then (if 576460752303423488 ≤ rdV s 20 / 97 then (0, 0, 0, 0, 2) else
    (if tokFault (rdV s 20 / 97 / 144115188075855872) (rdV s 20 / 97 / 137438953472 % 1048576) (rdV s 20 / 97 / 65536 % 2097152) (rdV s 20 / 97 % 65536) = 0 then (rdV s 20 / 97 / 144115188075855872, rdV s 20 / 97 / 137438953472 % 1048576, rdV s 20 / 97 / 65536 % 2097152, rdV s 20 / 97 % 65536, 0) else (0, 0, 0, 0, 2)))
    else (0, 0, 0, 0, 8)) else (0, 0, 0, 0, 7)) else (0, 0, 0, 0, 6)
theorem token_Parse.eq (s : ByteArray) : token_Parse.f s = some (parsedAns s) := by
  unfold token_Parse.f parsedAns
  rw [token_fault.eq, Option.bind_some]
  repeat' split
  all_goals first | rfl | contradiction
theorem vendmeterref_Parsed.ev (s : ByteArray) : Ev (fun k => vendmeterref_Parsed.f k s) (parsedAns s) := by
  unfold vendmeterref_Parsed.f parsedAns
  refine Ev.iteR (fun _ => Ev.iteR (fun _ => Ev.iteR (fun _ => Ev.now _) (fun _ => Ev.iteR (fun _ => Ev.iteR (fun _ => Ev.now _) (fun _ => ?_)) (fun _ => Ev.now _))) (fun _ => Ev.now _)) (fun _ => Ev.now _)
  refine Ev.bind (vendmeterref_TokenFault.ev _ _ _ _) (Ev.iteR (fun _ => Ev.now _) (fun _ => Ev.now _))
def rcpTail (id un : Int) (s : ByteArray) : Int := if (parsedAns s).2.2.2.2 = 0 then (if (parsedAns s).2.1 = id ∧ (if (parsedAns s).1 = 0 then (parsedAns s).2.2.1 else 0) = un then 0 else 8) else (parsedAns s).2.2.2.2
def rcpAns (me id te de fe pr ch un : Int) (s : ByteArray) : Int :=
  if 0 ≤ me ∧ me < 50 then (if (0 ≤ te ∧ te ≤ 100000000) ∧ (0 ≤ de ∧ de ≤ 100000000) ∧ (0 ≤ fe ∧ fe ≤ 100000000) ∧ (0 ≤ pr ∧ pr ≤ 100000000) ∧ (0 ≤ ch ∧ ch ≤ 100000000) then
    (if (1 ≤ id ∧ id ≤ 1048575) ∧ (0 ≤ un ∧ un ≤ 2097151) then (if te = de + fe + pr + ch then rcpTail id un s else 19) else 2) else 2) else 18
theorem receipt_Check.eq (me id te de fe pr ch un : Int) (s : ByteArray) : receipt_Check.f me id te de fe pr ch un s = some (rcpAns me id te de fe pr ch un s) := by
  unfold receipt_Check.f rcpAns rcpTail
  rw [token_Parse.eq, Option.bind_some]
  repeat' split
  all_goals first | rfl | contradiction
theorem rin_eq (a lo hi : Int) : vendmeterref_In.f a lo hi = some (decide (lo ≤ a ∧ a ≤ hi)) := by
  unfold vendmeterref_In.f
  by_cases h : a ≥ lo
  · rw [if_pos h]; congr 1; by_cases g : a ≤ hi <;> simp [g] <;> omega
  · rw [if_neg h]; congr 1; exact (decide_eq_false (fun g => h g.1)).symm
theorem vendmeterref_ReceiptFault.ev (me id te de fe pr ch un : Int) (s : ByteArray) : Ev (fun k => vendmeterref_ReceiptFault.f k me id te de fe pr ch un s) (rcpAns me id te de fe pr ch un s) := by
  have tail : (0 ≤ te ∧ te ≤ 100000000) ∧ (0 ≤ de ∧ de ≤ 100000000) ∧ (0 ≤ fe ∧ fe ≤ 100000000) ∧ (0 ≤ pr ∧ pr ≤ 100000000) ∧ (0 ≤ ch ∧ ch ≤ 100000000) → Ev (fun k => vendmeterref_ReceiptFault.j1 k false me id te de fe pr ch un s id te de fe pr ch un) (if te = de + fe + pr + ch then rcpTail id un s else 19) := by
    intro hb
    refine Ev.succ ?_
    simp only [vendmeterref_ReceiptFault.j1]
    refine Ev.neg (by decide) ?_
    rw [wr (a := te - de) ⟨by omega, by omega⟩, wr (a := te - de - fe) ⟨by omega, by omega⟩, wr (a := te - de - fe - pr) ⟨by omega, by omega⟩, wr (a := te - de - fe - pr - ch) ⟨by omega, by omega⟩]
    by_cases h : te = de + fe + pr + ch
    · rw [if_pos h]
      refine Ev.pos (by omega) (Ev.bind (vendmeterref_Parsed.ev s) ?_)
      unfold rcpTail
      generalize parsedAns s = t
      refine Ev.iteR (fun h0 => ?_) (fun h0 => Ev.now _)
      by_cases h1 : t.2.1 = id
      · refine Ev.pos h1 ?_
        by_cases hc : t.1 = 0
        · refine Ev.pos hc ?_
          by_cases hu : t.2.2.1 = un
          · exact Ev.eq (if_pos ⟨h1, by rw [if_pos hc]; exact hu⟩).symm (Ev.pos hu (Ev.now _))
          · exact Ev.eq (if_neg (fun g => hu (by have := g.2; rwa [if_pos hc] at this))).symm (Ev.neg hu (Ev.now _))
        · refine Ev.neg hc ?_
          by_cases hu : un = 0
          · exact Ev.eq (if_pos ⟨h1, by rw [if_neg hc]; exact hu.symm⟩).symm (Ev.pos hu (Ev.now _))
          · exact Ev.eq (if_neg (fun g => hu (by have := g.2; rw [if_neg hc] at this; exact this.symm))).symm (Ev.neg hu (Ev.now _))
      · exact Ev.eq (if_neg (fun g => h1 g.1)).symm (Ev.neg h1 (Ev.now _))
    · rw [if_neg h]
      exact Ev.neg (by omega) (Ev.now _)
  have j1T : Ev (fun k => vendmeterref_ReceiptFault.j1 k true me id te de fe pr ch un s id te de fe pr ch un) 2 := by
    refine Ev.succ ?_
    simp only [vendmeterref_ReceiptFault.j1]
    exact Ev.pos (by first | rfl | trivial) (Ev.now _)
  have j0T : Ev (fun k => vendmeterref_ReceiptFault.j0 k true me id te de fe pr ch un s id te de fe pr ch un) 2 := by
    refine Ev.succ ?_
    simp only [vendmeterref_ReceiptFault.j0]
    exact Ev.pos (by first | rfl | trivial) (Ev.now _)
  unfold vendmeterref_ReceiptFault.f rcpAns
  simp only [rin_eq, Option.bind_some]
  by_cases hm : 0 ≤ me ∧ me < 50
  · rw [if_pos hm]
    refine Ev.pos (decide_eq_true (by omega)) ?_
    by_cases h1 : 0 ≤ te ∧ te ≤ 100000000
    · refine Ev.pos (decide_eq_true h1) ?_
      by_cases h2 : 0 ≤ de ∧ de ≤ 100000000
      · refine Ev.pos (decide_eq_true h2) ?_
        by_cases h3 : 0 ≤ fe ∧ fe ≤ 100000000
        · refine Ev.pos (decide_eq_true h3) ?_
          by_cases h4 : 0 ≤ pr ∧ pr ≤ 100000000
          · rw [decide_eq_true h4]
            refine Ev.succ ?_
            simp only [vendmeterref_ReceiptFault.j0, rin_eq, Option.bind_some]
            refine Ev.neg (by decide) ?_
            by_cases h5 : 0 ≤ ch ∧ ch ≤ 100000000
            · rw [if_pos ⟨h1, h2, h3, h4, h5⟩]
              refine Ev.pos (decide_eq_true h5) ?_
              by_cases h6 : 1 ≤ id ∧ id ≤ 1048575
              · refine Ev.pos (decide_eq_true h6) ?_
                by_cases h7 : 0 ≤ un ∧ un ≤ 2097151
                · rw [if_pos ⟨h6, h7⟩, decide_eq_true h7]
                  exact tail ⟨h1, h2, h3, h4, h5⟩
                · rw [if_neg (fun g => h7 g.2), decide_eq_false h7]
                  exact j1T
              · rw [if_neg (fun g => h6 g.1)]
                exact Ev.neg (by simpa using h6) j1T
            · rw [if_neg (fun g => h5 g.2.2.2.2)]
              exact Ev.neg (by simpa using h5) j1T
          · rw [decide_eq_false h4, if_neg (fun g => h4 g.2.2.2.1)]
            exact j0T
        · rw [if_neg (fun g => h3 g.2.2.1)]
          exact Ev.neg (by simpa using h3) j0T
      · rw [if_neg (fun g => h2 g.2.1)]
        exact Ev.neg (by simpa using h2) j0T
    · rw [if_neg (fun g => h1 g.1)]
      exact Ev.neg (by simpa using h1) j0T
  · rw [if_neg hm]
    exact Ev.neg (by rw [decide_eq_true_eq]; omega) (Ev.now _)
def dB (u : Nat) : ByteArray := ⟨(Lib.decDigits u).toArray⟩
theorem dd_len : ∀ (d u : Nat), u < 10 ^ (d + 1) → (Lib.decDigits u).length ≤ d + 1
  | 0, u, h => by rw [Lib.decDigits_one (by simpa using h)]; simp
  | d + 1, u, h => by
    by_cases h10 : u < 10
    · rw [Lib.decDigits_one h10]; simp
    · rw [Lib.decDigits, dif_neg h10]
      have := dd_len d (u / 10) (by rw [Nat.div_lt_iff_lt_mul (by decide)]; rw [Nat.pow_succ] at h; omega)
      simp
      omega
theorem dB_size (u : Nat) (h : u ≤ 9223372036854775807) : (dB u).size ≤ 21 := by
  have := dd_len 20 u (by omega)
  exact this
theorem dB_big (u : Nat) (h : ¬ u < 10) : dB u = dB (u / 10) ++ dB (u % 10) := by
  unfold dB
  rw [Lib.decDigits, dif_neg h, Lib.decDigits_one (show u % 10 < 10 by omega)]
  apply ByteArray.ext; apply Array.ext'
  simp
theorem dec_ev (u : Nat) (h : u ≤ 9223372036854775807) : Ev (fun k => vendmeterref_Dec.f k (u : Int)) (dB u) := by
  induction u using Nat.strongRecOn with
  | ind u ih =>
    refine Ev.succ ?_
    simp only [vendmeterref_Dec.f]
    refine Ev.pos (by omega) (Ev.succ ?_)
    simp only [vendmeterref_Dec.j0]
    by_cases h10 : u < 10
    · refine Ev.pos (decide_eq_true (by omega)) (Ev.eq ?_ (Ev.now _))
      rw [wr ⟨by omega, by omega⟩, show ((48 + (u : Int)) % 256) = ((48 + u : Nat) : Int) by omega]
      unfold dB strOfNums
      rw [Lib.decDigits_one h10]
      rfl
    · refine Ev.neg (by rw [decide_eq_true_eq]; omega) (Ev.neg (by omega) ?_)
      rw [show wrap64 (Int.tdiv (u : Int) 10) = ((u / 10 : Nat) : Int) by rw [td (by omega), wr ⟨by omega, by omega⟩]; rfl, show Int.tmod (u : Int) 10 = ((u % 10 : Nat) : Int) by rw [tm (by omega)]; rfl]
      refine Ev.bind (ih (u / 10) (by omega) (by omega)) (Ev.bind (ih (u % 10) (by omega) (by omega)) ?_)
      have s1 := dB_size (u / 10) (by omega)
      have s2 := dB_size (u % 10) (by omega)
      refine Ev.pos (by omega) (Ev.eq (dB_big u h10).symm (Ev.now _))
theorem itoa_f (a : Int) (h : 0 ≤ a ∧ a ≤ 9223372036854775807) : strconv_Itoa_12.f a = some (dB a.toNat) := by
  unfold strconv_Itoa_12.f
  rw [if_pos ⟨by omega, h.2⟩]
  obtain ⟨u, rfl⟩ := Int.eq_ofNat_of_zero_le h.1
  rw [Lib.itoa_nonneg]
  rfl
def shB (u : Nat) : ByteArray := ((dB (u / 100) ++ (⟨#[46]⟩ : ByteArray)) ++ dB (u / 10 % 10)) ++ dB (u % 10)
def shAns (n : Int) : ByteArray × Int := if -1000000000000 ≤ n ∧ n ≤ 1000000000000 then (if n < 0 then ((⟨#[45]⟩ : ByteArray) ++ shB (-n).toNat, 0) else (shB n.toNat, 0)) else ((⟨#[]⟩ : ByteArray), 2)
theorem one_size : (⟨#[46]⟩ : ByteArray).size = 1 := rfl
theorem one_size' : (⟨#[45]⟩ : ByteArray).size = 1 := rfl
theorem shB_size (u : Nat) (h : u ≤ 1000000000000) : (shB u).size ≤ 64 := by
  unfold shB
  have s1 := dB_size (u / 100) (by omega)
  have s2 := dB_size (u / 10 % 10) (by omega)
  have s3 := dB_size (u % 10) (by omega)
  rw [ByteArray.size_append, ByteArray.size_append, ByteArray.size_append, one_size]
  omega
theorem in_eq (n lo hi : Int) : vendmeterref_In.f n lo hi = some (decide (lo ≤ n ∧ n ≤ hi)) := by
  unfold vendmeterref_In.f
  by_cases h : n ≥ lo
  · rw [if_pos h]; congr 1; by_cases h2 : n ≤ hi <;> simp [h, h2] <;> omega
  · rw [if_neg h]; congr 1; symm; exact decide_eq_false (fun g => h g.1)
theorem within_eq (n lo hi : Int) : cents_within.f n lo hi = some (decide (lo ≤ n ∧ n ≤ hi)) := by
  unfold cents_within.f
  by_cases h : lo ≤ n
  · rw [if_pos h]; congr 1; by_cases h2 : n ≤ hi <;> simp [h, h2]
  · rw [if_neg h]; congr 1; symm; exact decide_eq_false (fun g => h g.1)
theorem shown_pos (u : Nat) (h : u ≤ 1000000000000) : Ev (fun k => vendmeterref_Shown.f k (u : Int)) (shB u, 0) := by
  refine Ev.succ ?_
  simp only [vendmeterref_Shown.f, in_eq]
  rw [decide_eq_true (show (-1000000000000 : Int) ≤ (u : Int) ∧ (u : Int) ≤ 1000000000000 by omega)]
  refine Ev.letS (Ev.pos rfl (Ev.neg (by omega) ?_))
  rw [show wrap64 (Int.tdiv (u : Int) 100) = ((u / 100 : Nat) : Int) by rw [td (by omega), wr ⟨by omega, by omega⟩]; rfl]
  rw [show Int.tmod (wrap64 (Int.tdiv (u : Int) 10)) 10 = ((u / 10 % 10 : Nat) : Int) by rw [td (by omega), wr ⟨by omega, by omega⟩, tm (by omega)]; rfl]
  rw [show Int.tmod (u : Int) 10 = ((u % 10 : Nat) : Int) by rw [tm (by omega)]; rfl]
  have s1 := dB_size (u / 100) (by omega)
  have s2 := dB_size (u / 10 % 10) (by omega)
  have s3 := dB_size (u % 10) (by omega)
  refine Ev.bind (dec_ev _ (by omega)) (Ev.pos (by omega) (Ev.bind (dec_ev _ (by omega)) (Ev.pos (by rw [ByteArray.size_append, one_size]; omega) (Ev.bind (dec_ev _ (by omega)) (Ev.pos (by rw [ByteArray.size_append, ByteArray.size_append, one_size]; omega) (Ev.now _))))))
theorem shown_ev (n : Int) : Ev (fun k => vendmeterref_Shown.f k n) (shAns n) := by
  unfold shAns
  by_cases hr : -1000000000000 ≤ n ∧ n ≤ 1000000000000
  · rw [if_pos hr]
    by_cases hn : n < 0
    · rw [if_pos hn]
      refine Ev.succ ?_
      simp only [vendmeterref_Shown.f, in_eq]
      rw [decide_eq_true hr]
      refine Ev.letS (Ev.pos rfl (Ev.pos hn ?_))
      rw [wr ⟨by omega, by omega⟩, show -n = (((-n).toNat : Nat) : Int) by omega]
      have s := shB_size (-n).toNat (by omega)
      refine Ev.bind (shown_pos _ (by omega)) (Ev.pos (by simp only [Int.toNat_natCast]; omega) (Ev.now _))
    · rw [if_neg hn]
      have h := shown_pos n.toNat (by omega)
      rw [show ((n.toNat : Nat) : Int) = n by omega] at h
      exact h
  · rw [if_neg hr]
    refine Ev.succ ?_
    simp only [vendmeterref_Shown.f, in_eq]
    rw [decide_eq_false hr]
    exact Ev.letS (Ev.neg (by decide) (Ev.now _))
theorem last_eq (u : Nat) : (dB (100 + u % 100)).extract 1 (dB (100 + u % 100)).size = dB (u / 10 % 10) ++ dB (u % 10) ∧ (dB (100 + u % 100)).size = 3 := by
  have e : dB (100 + u % 100) = ⟨#[UInt8.ofNat 49, UInt8.ofNat (48 + u / 10 % 10), UInt8.ofNat (48 + u % 10)]⟩ := by
    unfold dB
    rw [Lib.decDigits, dif_neg (by omega), Lib.decDigits_two (by omega) (by omega), show (100 + u % 100) / 10 / 10 = 1 by omega, show (100 + u % 100) / 10 % 10 = u / 10 % 10 by omega, show (100 + u % 100) % 10 = u % 10 by omega]
    rfl
  rw [e]
  refine ⟨?_, rfl⟩
  unfold dB
  rw [Lib.decDigits_one (show u / 10 % 10 < 10 by omega), Lib.decDigits_one (show u % 10 < 10 by omega)]
  rfl
theorem show_eq (n : Int) : cents_Show.f n = some (shAns n) := by
  unfold cents_Show.f shAns
  rw [within_eq, Option.bind_some]
  by_cases hr : -1000000000000 ≤ n ∧ n ≤ 1000000000000
  · rw [if_pos hr, decide_eq_true hr, if_pos rfl]
    by_cases hn : n < 0
    · rw [if_pos hn, if_pos hn, wr (a := -n) ⟨by omega, by omega⟩]
      obtain ⟨u, hu⟩ : ∃ u : Nat, -n = (u : Int) := ⟨(-n).toNat, by omega⟩
      rw [hu, tm (by omega), td (by omega), wr ⟨by omega, by omega⟩, wr ⟨by omega, by omega⟩, itoa_f _ ⟨by omega, by omega⟩, itoa_f _ ⟨by omega, by omega⟩]
      rw [show (100 + (u : Int) % 100).toNat = 100 + u % 100 by omega, show ((u : Int) / 100).toNat = u / 100 by omega, Option.bind_some, Option.bind_some]
      obtain ⟨l1, l2⟩ := last_eq u
      have s1 := dB_size (u / 100) (by omega)
      have s2 := dB_size (u / 10 % 10) (by omega)
      have s3 := dB_size (u % 10) (by omega)
      rw [if_pos (by omega), if_pos (by rw [ByteArray.size_append, one_size']; omega), if_pos (by omega), l1, if_pos (by simp only [ByteArray.size_append, one_size, one_size']; omega)]
      rw [Int.toNat_natCast]
      unfold shB
      congr 2
      apply ByteArray.ext; apply Array.ext'
      simp
    · rw [if_neg hn, if_neg hn]
      obtain ⟨u, hu⟩ : ∃ u : Nat, n = (u : Int) := ⟨n.toNat, by omega⟩
      subst hu
      rw [tm (by omega), td (by omega), wr ⟨by omega, by omega⟩, wr ⟨by omega, by omega⟩, itoa_f _ ⟨by omega, by omega⟩, itoa_f _ ⟨by omega, by omega⟩]
      rw [show (100 + (u : Int) % 100).toNat = 100 + u % 100 by omega, show ((u : Int) / 100).toNat = u / 100 by omega, Option.bind_some, Option.bind_some]
      obtain ⟨l1, l2⟩ := last_eq u
      have s1 := dB_size (u / 100) (by omega)
      have s2 := dB_size (u / 10 % 10) (by omega)
      have s3 := dB_size (u % 10) (by omega)
      have z : (⟨#[]⟩ : ByteArray).size = 0 := rfl
      rw [if_pos (by omega), if_pos (by rw [ByteArray.size_append, z]; omega), if_pos (by omega), l1, if_pos (by simp only [ByteArray.size_append, one_size, z]; omega)]
      rw [Int.toNat_natCast]
      unfold shB
      congr 2
      apply ByteArray.ext; apply Array.ext'
      simp
  · rw [if_neg hr, decide_eq_false hr]
    rfl

theorem rs_numbers : ∀ a : Fin 50, (match receipt_Number.f 40 (a.val : Int), vendmeterref_NumberOf.f 40 (a.val : Int) with | some x, some y => decide (x.1.toList = y.1.toList) && decide (x.1.size ≤ 1000) | _, _ => false) = true := by decide +kernel
theorem number_both (me : Int) (h : 0 ≤ me ∧ me < 50) : ∃ (n : ByteArray) (e1 e2 : Int), n.size ≤ 1000 ∧ Ev (fun k => receipt_Number.f k me) (n, e1) ∧ Ev (fun k => vendmeterref_NumberOf.f k me) (n, e2) := by
  have hh := rs_numbers ⟨me.toNat, by omega⟩
  have e : (((⟨me.toNat, by omega⟩ : Fin 50).val : Nat) : Int) = me := by simp; omega
  rw [e] at hh
  cases hx : receipt_Number.f 40 me with
  | none => rw [hx] at hh; cases hh
  | some x =>
    cases hy : vendmeterref_NumberOf.f 40 me with
    | none => rw [hx, hy] at hh; cases hh
    | some y =>
      rw [hx, hy] at hh
      simp only [Bool.and_eq_true, decide_eq_true_eq] at hh
      have hxy : x.1 = y.1 := by
        have h1 := hh.1
        rw [ByteArray.toList_eq, ByteArray.toList_eq] at h1
        exact ByteArray.ext (Array.ext' h1)
      exact ⟨x.1, x.2, y.2, hh.2, Ev.of (fun k => receipt_Number.mono _ _) hx, by rw [hxy]; exact Ev.of (fun k => vendmeterref_NumberOf.mono _ _) hy⟩
def grpL (tok : ByteArray) : List ByteArray := [tok.extract 0 4, tok.extract 4 8, tok.extract 8 12, tok.extract 12 16, tok.extract 16 20]
def grpB (tok : ByteArray) : ByteArray := ⟨(Lib.join ((grpL tok).map (·.data.toList)) (⟨#[32]⟩ : ByteArray).data.toList).toArray⟩
theorem grp_step (tok : ByteArray) (h : tok.size = 20) (j : Nat) (hj : j + 4 ≤ 20) (xs : List ByteArray) (hl : xs.length ≤ 10) (k : Nat) : receipt_grouped.l0 (k + 1) tok xs (j : Int) = receipt_grouped.l0 k tok (xs ++ [tok.extract j (j + 4)]) ((j + 4 : Nat) : Int) := by
  simp only [receipt_grouped.l0]
  have e : wrap64 ((j : Int) + 4) = ((j + 4 : Nat) : Int) := by rw [wr ⟨by omega, by omega⟩]; omega
  rw [e, if_pos (by omega), if_pos (by omega), if_pos (by omega), if_pos (by omega)]
  rfl
theorem ext_size (tok : ByteArray) (h : tok.size = 20) (i : Nat) (hi : i + 4 ≤ 20) : (tok.extract i (i + 4)).size = 4 := by rw [ByteArray.size_extract]; omega
theorem ext_len (tok : ByteArray) (h : tok.size = 20) (i : Nat) (hi : i + 4 ≤ 20) : (tok.extract i (i + 4)).data.toList.length = 4 := by
  rw [Array.length_toList]; exact ext_size tok h i hi
theorem grp_len (tok : ByteArray) (h : tok.size = 20) : (Lib.join ((grpL tok).map (·.data.toList)) (⟨#[32]⟩ : ByteArray).data.toList).length = 24 := by
  have a0 := ext_len tok h 0 (by omega)
  have a1 := ext_len tok h 4 (by omega)
  have a2 := ext_len tok h 8 (by omega)
  have a3 := ext_len tok h 12 (by omega)
  have a4 := ext_len tok h 16 (by omega)
  have e : Lib.join ((grpL tok).map (·.data.toList)) (⟨#[32]⟩ : ByteArray).data.toList = (tok.extract 0 4).data.toList ++ ([32] ++ ((tok.extract 4 8).data.toList ++ ([32] ++ ((tok.extract 8 12).data.toList ++ ([32] ++ ((tok.extract 12 16).data.toList ++ ([32] ++ (tok.extract 16 20).data.toList))))))) := by
    simp [Lib.join, grpL, List.intercalate]
  rw [e]
  simp only [List.length_append, List.length_cons, List.length_nil]
  simp only [Nat.zero_add, Nat.reduceAdd] at a0 a1 a2 a3 a4
  omega
theorem grouped_ev (tok : ByteArray) (h : tok.size = 20) : Ev (fun k => receipt_grouped.f k tok) (grpB tok) := by
  unfold receipt_grouped.f
  refine Ev.step (grp_step tok h 0 (by omega) [] (by simp)) ?_
  refine Ev.step (grp_step tok h 4 (by omega) _ (by simp)) ?_
  refine Ev.step (grp_step tok h 8 (by omega) _ (by simp)) ?_
  refine Ev.step (grp_step tok h 12 (by omega) _ (by simp)) ?_
  refine Ev.step (grp_step tok h 16 (by omega) _ (by simp)) ?_
  refine Ev.step (f := fun _ => some (grpB tok)) (fun k => ?_) (Ev.now _)
  simp only [receipt_grouped.l0]
  rw [if_neg (by rw [wr ⟨by omega, by omega⟩]; omega)]
  have hl := grp_len tok h
  have e : strings_Join.f (grpL tok) (⟨#[32]⟩ : ByteArray) = some (grpB tok) := by
    unfold strings_Join.f
    rw [if_pos ⟨by simp [grpL], by rw [hl]; omega⟩]
    rfl
  show (strings_Join.f (grpL tok) (⟨#[32]⟩ : ByteArray)).bind _ = _
  rw [e]
  rfl
theorem grp_size (tok : ByteArray) (h : tok.size = 20) : (grpB tok).size ≤ 1000 := by
  have := grp_len tok h
  show (Lib.join ((grpL tok).map (·.data.toList)) (⟨#[32]⟩ : ByteArray).data.toList).length ≤ 1000
  omega
theorem paper_same (n i a c d f g u tok : ByteArray) : (⟨(rcLines n i a c d f g u (grpB tok)).toArray⟩ : ByteArray) = rsE (rsT n i a c d f g u) tok := by
  apply ByteArray.ext; apply Array.ext'
  unfold rcLines lineB rsE rsT grpB
  simp [Lib.join, grpL, List.intercalate, ByteArray.data_append]
theorem shAns_size (n : Int) (h : 0 ≤ n ∧ n ≤ 100000000) : (shAns n).1.size ≤ 1000 := by
  unfold shAns
  rw [if_pos ⟨by omega, by omega⟩, if_neg (by omega)]
  have := shB_size n.toNat (by omega)
  show (shB n.toNat).size ≤ 1000
  omega
theorem rc_zero {me id te de fe pr ch un : Int} {s : ByteArray} (h : rcpAns me id te de fe pr ch un s = 0) : (0 ≤ me ∧ me < 50) ∧ ((0 ≤ te ∧ te ≤ 100000000) ∧ (0 ≤ de ∧ de ≤ 100000000) ∧ (0 ≤ fe ∧ fe ≤ 100000000) ∧ (0 ≤ pr ∧ pr ≤ 100000000) ∧ (0 ≤ ch ∧ ch ≤ 100000000)) ∧ ((1 ≤ id ∧ id ≤ 1048575) ∧ (0 ≤ un ∧ un ≤ 2097151)) ∧ s.size = 20 := by
  unfold rcpAns at h
  by_cases h1 : 0 ≤ me ∧ me < 50
  · rw [if_pos h1] at h
    by_cases h2 : (0 ≤ te ∧ te ≤ 100000000) ∧ (0 ≤ de ∧ de ≤ 100000000) ∧ (0 ≤ fe ∧ fe ≤ 100000000) ∧ (0 ≤ pr ∧ pr ≤ 100000000) ∧ (0 ≤ ch ∧ ch ≤ 100000000)
    · rw [if_pos h2] at h
      by_cases h3 : (1 ≤ id ∧ id ≤ 1048575) ∧ (0 ≤ un ∧ un ≤ 2097151)
      · rw [if_pos h3] at h
        by_cases h4 : te = de + fe + pr + ch
        · rw [if_pos h4] at h
          refine ⟨h1, h2, h3, ?_⟩
          unfold rcpTail at h
          by_cases h5 : s.size = 20
          · exact h5
          · have e : parsedAns s = (0, 0, 0, 0, 6) := by unfold parsedAns; rw [if_neg h5]
            rw [e] at h
            simp at h
        · rw [if_neg h4] at h; omega
      · rw [if_neg h3] at h; omega
    · rw [if_neg h2] at h; omega
  · rw [if_neg h1] at h; omega
theorem ReceiptShows : vendmeterlaw_ReceiptShows.Pure := by
  intro me id te de fe pr ch un s
  intros
  refine Ev.rounds ?_
  unfold vendmeterlaw_ReceiptShows.f receipt_Show.f vendmeterref_ReceiptShown.f
  have c1 : Ev (fun _ => receipt_Check.f me id te de fe pr ch un s) (rcpAns me id te de fe pr ch un s) := Ev.some_ (receipt_Check.eq me id te de fe pr ch un s)
  have c2 := vendmeterref_ReceiptFault.ev me id te de fe pr ch un s
  by_cases h0 : rcpAns me id te de fe pr ch un s = 0
  · obtain ⟨b1, ⟨b2, b3, b4, b5, b6⟩, ⟨b7, b8⟩, b9⟩ := rc_zero h0
    obtain ⟨n, e1, e2, hn, n1, n2⟩ := number_both me b1
    obtain ⟨i, rfl⟩ := Int.eq_ofNat_of_zero_le (show 0 ≤ id by omega)
    obtain ⟨u, rfl⟩ := Int.eq_ofNat_of_zero_le b8.1
    have i1 := itoa_f (i : Int) ⟨by omega, by omega⟩
    have u1 := itoa_f (u : Int) ⟨by omega, by omega⟩
    rw [Int.toNat_natCast] at i1 u1
    have i2 := dec_ev i (by omega)
    have u2 := dec_ev u (by omega)
    have i3 := dB_size i (by omega)
    have u3 := dB_size u (by omega)
    have s1 := shAns_size te b2
    have s2 := shAns_size de b3
    have s3 := shAns_size fe b4
    have s4 := shAns_size pr b5
    have s5 := shAns_size ch b6
    have q1 := grp_size s b9
    have p : Ev (fun k => receipt_Show.g k me (i : Int) te de fe pr ch (u : Int) s) (rsE (rsT n (dB i) (shAns te).1 (shAns de).1 (shAns fe).1 (shAns pr).1 (shAns ch).1 (dB u)) s, 0) := by
      unfold receipt_Show.g
      refine Ev.bind n1 (Ev.bind (Ev.some_ i1) (Ev.bind (Ev.some_ (show_eq te)) (Ev.bind (Ev.some_ (show_eq de)) (Ev.bind (Ev.some_ (show_eq fe)) (Ev.bind (Ev.some_ (show_eq pr)) (Ev.bind (Ev.some_ (show_eq ch)) (Ev.bind (Ev.some_ u1) (Ev.bind (grouped_ev s b9) (Ev.pos ?_ (Ev.ret ?_))))))))))
      · simp only [rcSmall, Bool.and_eq_true, decide_eq_true_eq]
        exact ⟨⟨⟨⟨⟨⟨⟨⟨hn, by omega⟩, s1⟩, s2⟩, s3⟩, s4⟩, s5⟩, by omega⟩, q1⟩
      · rw [paper_same]
    have q : Ev (fun k => vendmeterref_ReceiptShown.g k me (i : Int) te de fe pr ch (u : Int) s) (rsE (rsT n (dB i) (shAns te).1 (shAns de).1 (shAns fe).1 (shAns pr).1 (shAns ch).1 (dB u)) s, 0) := by
      unfold vendmeterref_ReceiptShown.g
      refine Ev.bind n2 (Ev.bind (shown_ev te) (Ev.bind (shown_ev de) (Ev.bind (shown_ev fe) (Ev.bind (shown_ev pr) (Ev.bind (shown_ev ch) (Ev.bind i2 (Ev.bind u2 (Ev.pos ?_ (Ev.now _)))))))))
      simp only [rcSmall, Bool.and_eq_true, decide_eq_true_eq]
      exact ⟨⟨⟨⟨⟨⟨⟨⟨hn, by omega⟩, s1⟩, s2⟩, s3⟩, s4⟩, s5⟩, by omega⟩, b9⟩
    exact Ev.bind (Ev.bind c1 (Ev.pos h0 p)) (Ev.bind (Ev.bind c2 (Ev.pos h0 q)) (Ev.pos rfl (Ev.ret (by simp))))
  · exact Ev.bind (Ev.bind c1 (Ev.neg h0 (Ev.now _))) (Ev.bind (Ev.bind c2 (Ev.neg h0 (Ev.now _))) (Ev.pos rfl (Ev.ret (by simp))))

end Go.Proofs.YtocolmpfpbclbaaGreatDoor.Pure
