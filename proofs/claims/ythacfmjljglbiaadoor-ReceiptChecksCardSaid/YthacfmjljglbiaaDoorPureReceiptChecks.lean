/- vendmeterlaw.ReceiptChecks returns true at every receipt: receipt.Check finds what the reference finds. No condition. -/
import Derived.Test.YthacfmjljglbiaaDoorPReceiptChecksxL
import Derived.Test.YthacfmjljglbiaaDoorXLib
set_option linter.unusedVariables false
set_option linter.unusedSimpArgs false
namespace Go.Proofs.YthacfmjljglbiaaDoor.Pure
open Go.RowKit Go.Proofs.YthacfmjljglbiaaDoor.PReceiptChecks Go.Proofs.YthacfmjljglbiaaDoorW.PrintWords Go.Proofs.YthacfmjljglbiaaDoorW.PrintLast Go.Proofs.YthacfmjljglbiaaDoorW.PrintMore Go.Proofs.YthacfmjljglbiaaDoorW.XLib

def tokAmt (c a : Int) : Prop := (c = 0 ∧ 1 ≤ a ∧ a ≤ 2097151) ∨ (c = 2 ∧ 1 ≤ a ∧ a ≤ 15) ∨ ((c = 1 ∨ c = 3) ∧ a = 0)
instance (c a : Int) : Decidable (tokAmt c a) := by unfold tokAmt; infer_instance
def tokFault (c i a t : Int) : Int := if 0 ≤ c ∧ c ≤ 3 then (if (1 ≤ i ∧ i ≤ 1048575) ∧ (0 ≤ t ∧ t ≤ 65535) ∧ tokAmt c a then 0 else 2) else 9
theorem tok_cases (c : Int) : c = 0 ∨ c = 1 ∨ c = 2 ∨ c = 3 ∨ ¬ (0 ≤ c ∧ c ≤ 3) := by omega
theorem token_fault.eq (c i a t : Int) : token_fault.f c i a t = some (tokFault c i a t) := by
  unfold token_fault.f token_bounds.f tokFault tokAmt
  rcases tok_cases c with rfl | rfl | rfl | rfl | h
  case inr.inr.inr.inr => rw [if_neg (by omega), if_neg (by omega), if_neg (by omega), if_neg (by omega), if_neg h]; rfl
  all_goals
    simp only [if_true, if_false, Option.bind_some, Int.reduceEq]
    repeat' split
    all_goals first | rfl | omega | (simp at *; omega)
theorem tok_zero {c i a t : Int} (h : tokFault c i a t = 0) : (0 ≤ c ∧ c ≤ 3) ∧ (1 ≤ i ∧ i ≤ 1048575) ∧ (0 ≤ t ∧ t ≤ 65535) ∧ tokAmt c a := by
  unfold tokFault at h
  split at h
  · split at h
    · exact ⟨by assumption, by assumption⟩
    · omega
  · omega
theorem tok_amt {c a : Int} (h : tokAmt c a) : 0 ≤ a ∧ a ≤ 2097151 := by unfold tokAmt at h; omega
theorem vendmeterref_In.eq (a b c : Int) : vendmeterref_In.f a b c = some (decide (b ≤ a ∧ a ≤ c)) := by
  unfold vendmeterref_In.f
  by_cases h : b ≤ a
  · rw [if_pos h]; simp [h]
  · rw [if_neg h]; simp [h]
theorem vendmeterref_TokenFault.ev (c i a t : Int) : Ev (fun k => vendmeterref_TokenFault.f k c i a t) (tokFault c i a t) := by
  refine Ev.succ (Ev.succ (Ev.succ ⟨0, fun k _ => ?_⟩))
  simp only [vendmeterref_TokenFault.f, vendmeterref_TokenFault.j0, vendmeterref_TokenFault.j1, vendmeterref_TokenFault.j2, vendmeterref_In.eq, Option.bind_some]
  unfold tokFault tokAmt
  rcases tok_cases c with rfl | rfl | rfl | rfl | h
  case inr.inr.inr.inr => rw [decide_eq_false h, if_neg h]; rfl
  all_goals
    by_cases hi : 1 ≤ i ∧ i ≤ 1048575 <;> by_cases ht : 0 ≤ t ∧ t ≤ 65535
    all_goals simp [hi, ht]
    all_goals first | done | (split <;> rfl) | (split <;> simp_all <;> omega)
def parsedAns (s : ByteArray) : Int × Int × Int × Int × Int :=
  if s.size = 20 then (if rdAll s 20 = true then (if 73786976294838206464 ≤ rdV s 20 then (0, 0, 0, 0, 2) else if rdV s 20 % 97 = 0 then (if 576460752303423488 ≤ rdV s 20 / 97 then (0, 0, 0, 0, 2) else
    (if tokFault (rdV s 20 / 97 / 144115188075855872) (rdV s 20 / 97 / 137438953472 % 1048576) (rdV s 20 / 97 / 65536 % 2097152) (rdV s 20 / 97 % 65536) = 0 then (rdV s 20 / 97 / 144115188075855872, rdV s 20 / 97 / 137438953472 % 1048576, rdV s 20 / 97 / 65536 % 2097152, rdV s 20 / 97 % 65536, 0) else (0, 0, 0, 0, 2)))
    else (0, 0, 0, 0, 8)) else (0, 0, 0, 0, 7)) else (0, 0, 0, 0, 6)
theorem token_Parse.eq (s : ByteArray) : token_Parse.f s = some (parsedAns s) := by
  unfold token_Parse.f parsedAns
  rw [token_fault.eq, Option.bind_some]
  repeat' split
  all_goals first | rfl | contradiction
theorem vendmeterref_Parsed.ev (s : ByteArray) : Ev (fun k => vendmeterref_Parsed.f k s) (parsedAns s) := by
  unfold vendmeterref_Parsed.f parsedAns
  refine Ev.iteR (fun _ => Ev.iteR (fun _ => Ev.iteR (fun _ => Ev.now _) (fun _ => Ev.iteR (fun _ => Ev.iteR (fun _ => Ev.now _) (fun _ => ?_)) (fun _ => Ev.now _))) (fun _ => Ev.now _)) (fun _ => Ev.now _)
  refine Ev.bind (vendmeterref_TokenFault.ev _ _ _ _) (Ev.iteR (fun _ => Ev.now _) (fun _ => Ev.now _))

def rcpTail (id un : Int) (s : ByteArray) : Int := if (parsedAns s).2.2.2.2 = 0 then (if (parsedAns s).2.1 = id ∧ (if (parsedAns s).1 = 0 then (parsedAns s).2.2.1 else 0) = un then 0 else 8) else (parsedAns s).2.2.2.2
def rcpAns (me id te de fe pr ch un : Int) (s : ByteArray) : Int :=
  if 0 ≤ me ∧ me < 50 then (if (0 ≤ te ∧ te ≤ 100000000) ∧ (0 ≤ de ∧ de ≤ 100000000) ∧ (0 ≤ fe ∧ fe ≤ 100000000) ∧ (0 ≤ pr ∧ pr ≤ 100000000) ∧ (0 ≤ ch ∧ ch ≤ 100000000) then
    (if (1 ≤ id ∧ id ≤ 1048575) ∧ (0 ≤ un ∧ un ≤ 2097151) then (if te = de + fe + pr + ch then rcpTail id un s else 19) else 2) else 2) else 18
theorem receipt_Check.eq (me id te de fe pr ch un : Int) (s : ByteArray) : receipt_Check.f me id te de fe pr ch un s = some (rcpAns me id te de fe pr ch un s) := by
  unfold receipt_Check.f rcpAns rcpTail
  rw [token_Parse.eq, Option.bind_some]
  repeat' split
  all_goals first | rfl | contradiction
theorem in_eq (a lo hi : Int) : vendmeterref_In.f a lo hi = some (decide (lo ≤ a ∧ a ≤ hi)) := by
  unfold vendmeterref_In.f
  by_cases h : a ≥ lo
  · rw [if_pos h]; congr 1; by_cases g : a ≤ hi <;> simp [g] <;> omega
  · rw [if_neg h]; congr 1; exact (decide_eq_false (fun g => h g.1)).symm
theorem vendmeterref_ReceiptFault.ev (me id te de fe pr ch un : Int) (s : ByteArray) : Ev (fun k => vendmeterref_ReceiptFault.f k me id te de fe pr ch un s) (rcpAns me id te de fe pr ch un s) := by
  have tail : (0 ≤ te ∧ te ≤ 100000000) ∧ (0 ≤ de ∧ de ≤ 100000000) ∧ (0 ≤ fe ∧ fe ≤ 100000000) ∧ (0 ≤ pr ∧ pr ≤ 100000000) ∧ (0 ≤ ch ∧ ch ≤ 100000000) → Ev (fun k => vendmeterref_ReceiptFault.j1 k false me id te de fe pr ch un s id te de fe pr ch un) (if te = de + fe + pr + ch then rcpTail id un s else 19) := by
    intro hb
    refine Ev.succ ?_
    simp only [vendmeterref_ReceiptFault.j1]
    refine Ev.neg (by decide) ?_
    rw [wr (a := te - de) ⟨by omega, by omega⟩, wr (a := te - de - fe) ⟨by omega, by omega⟩, wr (a := te - de - fe - pr) ⟨by omega, by omega⟩, wr (a := te - de - fe - pr - ch) ⟨by omega, by omega⟩]
    by_cases h : te = de + fe + pr + ch
    · rw [if_pos h]
      refine Ev.pos (by omega) (Ev.bind (vendmeterref_Parsed.ev s) ?_)
      unfold rcpTail
      generalize parsedAns s = t
      refine Ev.iteR (fun h0 => ?_) (fun h0 => Ev.now _)
      by_cases h1 : t.2.1 = id
      · refine Ev.pos h1 ?_
        by_cases hc : t.1 = 0
        · refine Ev.pos hc ?_
          by_cases hu : t.2.2.1 = un
          · exact Ev.eq (if_pos ⟨h1, by rw [if_pos hc]; exact hu⟩).symm (Ev.pos hu (Ev.now _))
          · exact Ev.eq (if_neg (fun g => hu (by have := g.2; rwa [if_pos hc] at this))).symm (Ev.neg hu (Ev.now _))
        · refine Ev.neg hc ?_
          by_cases hu : un = 0
          · exact Ev.eq (if_pos ⟨h1, by rw [if_neg hc]; exact hu.symm⟩).symm (Ev.pos hu (Ev.now _))
          · exact Ev.eq (if_neg (fun g => hu (by have := g.2; rw [if_neg hc] at this; exact this.symm))).symm (Ev.neg hu (Ev.now _))
      · exact Ev.eq (if_neg (fun g => h1 g.1)).symm (Ev.neg h1 (Ev.now _))
    · rw [if_neg h]
      exact Ev.neg (by omega) (Ev.now _)
  have j1T : Ev (fun k => vendmeterref_ReceiptFault.j1 k true me id te de fe pr ch un s id te de fe pr ch un) 2 := by
    refine Ev.succ ?_
    simp only [vendmeterref_ReceiptFault.j1]
    exact Ev.pos (by first | rfl | trivial) (Ev.now _)
  have j0T : Ev (fun k => vendmeterref_ReceiptFault.j0 k true me id te de fe pr ch un s id te de fe pr ch un) 2 := by
    refine Ev.succ ?_
    simp only [vendmeterref_ReceiptFault.j0]
    exact Ev.pos (by first | rfl | trivial) (Ev.now _)
  unfold vendmeterref_ReceiptFault.f rcpAns
  simp only [in_eq, Option.bind_some]
  by_cases hm : 0 ≤ me ∧ me < 50
  · rw [if_pos hm]
    refine Ev.pos (decide_eq_true (by omega)) ?_
    by_cases h1 : 0 ≤ te ∧ te ≤ 100000000
    · refine Ev.pos (decide_eq_true h1) ?_
      by_cases h2 : 0 ≤ de ∧ de ≤ 100000000
      · refine Ev.pos (decide_eq_true h2) ?_
        by_cases h3 : 0 ≤ fe ∧ fe ≤ 100000000
        · refine Ev.pos (decide_eq_true h3) ?_
          by_cases h4 : 0 ≤ pr ∧ pr ≤ 100000000
          · rw [decide_eq_true h4]
            refine Ev.succ ?_
            simp only [vendmeterref_ReceiptFault.j0, in_eq, Option.bind_some]
            refine Ev.neg (by decide) ?_
            by_cases h5 : 0 ≤ ch ∧ ch ≤ 100000000
            · rw [if_pos ⟨h1, h2, h3, h4, h5⟩]
              refine Ev.pos (decide_eq_true h5) ?_
              by_cases h6 : 1 ≤ id ∧ id ≤ 1048575
              · refine Ev.pos (decide_eq_true h6) ?_
                by_cases h7 : 0 ≤ un ∧ un ≤ 2097151
                · rw [if_pos ⟨h6, h7⟩, decide_eq_true h7]
                  exact tail ⟨h1, h2, h3, h4, h5⟩
                · rw [if_neg (fun g => h7 g.2), decide_eq_false h7]
                  exact j1T
              · rw [if_neg (fun g => h6 g.1)]
                exact Ev.neg (by simpa using h6) j1T
            · rw [if_neg (fun g => h5 g.2.2.2.2)]
              exact Ev.neg (by simpa using h5) j1T
          · rw [decide_eq_false h4, if_neg (fun g => h4 g.2.2.2.1)]
            exact j0T
        · rw [if_neg (fun g => h3 g.2.2.1)]
          exact Ev.neg (by simpa using h3) j0T
      · rw [if_neg (fun g => h2 g.2.1)]
        exact Ev.neg (by simpa using h2) j0T
    · rw [if_neg (fun g => h1 g.1)]
      exact Ev.neg (by simpa using h1) j0T
  · rw [if_neg hm]
    exact Ev.neg (by rw [decide_eq_true_eq]; omega) (Ev.now _)
theorem ReceiptChecks : vendmeterlaw_ReceiptChecks.Pure := by
  intro me id te de fe pr ch un s
  intros
  refine Ev.rounds ?_
  unfold vendmeterlaw_ReceiptChecks.f
  rw [receipt_Check.eq]
  exact Ev.letS (Ev.bind (vendmeterref_ReceiptFault.ev me id te de fe pr ch un s) (Ev.ret (by simp)))

end Go.Proofs.YthacfmjljglbiaaDoor.Pure
