/- vendmeterlaw.TokenNumbers returns true at every token: token.Words answers what the reference does: the three words of the number, or the fault. No condition. -/
import Derived.Test.YtoookcmablnjfaaPTokenNumbersxL
import Derived.Test.YtoookcmablnjfaaXLib
set_option linter.unusedVariables false
set_option linter.unusedSimpArgs false
namespace Go.Proofs.Ytoookcmablnjfaa.Pure
open Go.RowKit Go.Proofs.Ytoookcmablnjfaa.PTokenNumbers Go.Proofs.YtoookcmablnjfaaW.PrintWords Go.Proofs.YtoookcmablnjfaaW.PrintLast Go.Proofs.YtoookcmablnjfaaW.PrintMore Go.Proofs.YtoookcmablnjfaaW.XLib

def tokAmt (c a : Int) : Prop := (c = 0 ∧ 1 ≤ a ∧ a ≤ 2097151) ∨ (c = 2 ∧ 1 ≤ a ∧ a ≤ 15) ∨ ((c = 1 ∨ c = 3) ∧ a = 0)
instance (c a : Int) : Decidable (tokAmt c a) := by unfold tokAmt; infer_instance
def tokFault (c i a t : Int) : Int := if 0 ≤ c ∧ c ≤ 3 then (if (1 ≤ i ∧ i ≤ 1048575) ∧ (0 ≤ t ∧ t ≤ 65535) ∧ tokAmt c a then 0 else 2) else 9
theorem tok_cases (c : Int) : c = 0 ∨ c = 1 ∨ c = 2 ∨ c = 3 ∨ ¬ (0 ≤ c ∧ c ≤ 3) := by omega
theorem token_fault.eq (c i a t : Int) : token_fault.f c i a t = some (tokFault c i a t) := by
  unfold token_fault.f token_bounds.f tokFault tokAmt
  rcases tok_cases c with rfl | rfl | rfl | rfl | h
  case inr.inr.inr.inr => rw [if_neg (by omega), if_neg (by omega), if_neg (by omega), if_neg (by omega), if_neg h]; rfl
  all_goals
    simp only [if_true, if_false, Option.bind_some, Int.reduceEq]
    repeat' split
    all_goals first | rfl | omega | (simp at *; omega)
theorem tok_zero {c i a t : Int} (h : tokFault c i a t = 0) : (0 ≤ c ∧ c ≤ 3) ∧ (1 ≤ i ∧ i ≤ 1048575) ∧ (0 ≤ t ∧ t ≤ 65535) ∧ tokAmt c a := by
  unfold tokFault at h
  split at h
  · split at h
    · exact ⟨by assumption, by assumption⟩
    · omega
  · omega
theorem tok_amt {c a : Int} (h : tokAmt c a) : 0 ≤ a ∧ a ≤ 2097151 := by unfold tokAmt at h; omega
theorem vendmeterref_In.eq (a b c : Int) : vendmeterref_In.f a b c = some (decide (b ≤ a ∧ a ≤ c)) := by
  unfold vendmeterref_In.f
  by_cases h : b ≤ a
  · rw [if_pos h]; simp [h]
  · rw [if_neg h]; simp [h]
theorem vendmeterref_TokenFault.ev (c i a t : Int) : Ev (fun k => vendmeterref_TokenFault.f k c i a t) (tokFault c i a t) := by
  refine Ev.succ (Ev.succ (Ev.succ ⟨0, fun k _ => ?_⟩))
  simp only [vendmeterref_TokenFault.f, vendmeterref_TokenFault.j0, vendmeterref_TokenFault.j1, vendmeterref_TokenFault.j2, vendmeterref_In.eq, Option.bind_some]
  unfold tokFault tokAmt
  rcases tok_cases c with rfl | rfl | rfl | rfl | h
  case inr.inr.inr.inr => rw [decide_eq_false h, if_neg h]; rfl
  all_goals
    by_cases hi : 1 ≤ i ∧ i ≤ 1048575 <;> by_cases ht : 0 ≤ t ∧ t ≤ 65535
    all_goals simp [hi, ht]
    all_goals first | done | (split <;> rfl) | (split <;> simp_all <;> omega)
def bodyAns (c i a t : Int) : Int × Int := if tokFault c i a t = 0 then (c * 2199023255552 + i * 2097152 + a, 0) else (0, tokFault c i a t)
theorem vendmeterref_BodyOf.ev (c i a t : Int) : Ev (fun k => vendmeterref_BodyOf.f k c i a t) (bodyAns c i a t) := by
  unfold vendmeterref_BodyOf.f bodyAns
  refine Ev.bind (vendmeterref_TokenFault.ev c i a t) (Ev.iteR (fun h => ?_) (fun _ => Ev.now _))
  obtain ⟨hc, hi, ht, ha⟩ := tok_zero h
  have ha := tok_amt ha
  rw [wr (a := c * 2199023255552) ⟨by omega, by omega⟩, wr (a := i * 2097152) ⟨by omega, by omega⟩, wr (a := c * 2199023255552 + i * 2097152) ⟨by omega, by omega⟩, wr ⟨by omega, by omega⟩]
  exact Ev.now _
def tokNum (c i a t : Int) : Int := (t + a * 65536 + i * 137438953472 + c * 144115188075855872) * 97
theorem token_Words.eq (c i a t : Int) : token_Words.f c i a t = some (if tokFault c i a t = 0 then (tokNum c i a t % 4294967296, tokNum c i a t / 4294967296 % 4294967296, tokNum c i a t / 18446744073709551616 % 4294967296, 0) else (0, 0, 0, tokFault c i a t)) := by
  unfold token_Words.f
  rw [token_fault.eq, Option.bind_some]
  by_cases h : tokFault c i a t = 0
  · obtain ⟨hc, hi, ht, ha⟩ := tok_zero h
    have hA := tok_amt ha
    rw [if_pos h, if_pos ⟨hc, by omega, hA, ht⟩, if_pos h]
    rfl
  · rw [if_neg h, if_neg h]
theorem tok_body {c i a t : Int} (h : tokFault c i a t = 0) : bodyAns c i a t = (c * 2199023255552 + i * 2097152 + a, 0) ∧ (0 ≤ c * 2199023255552 + i * 2097152 + a ∧ c * 2199023255552 + i * 2097152 + a ≤ 8796093022207) ∧ (0 ≤ t ∧ t ≤ 65535) ∧ ((c * 2199023255552 + i * 2097152 + a) * 65536 + t) * 97 = tokNum c i a t ∧ 0 ≤ tokNum c i a t ∧ tokNum c i a t < 100000000000000000000 := by
  obtain ⟨hc, hi, ht, ha⟩ := tok_zero h
  have hA := tok_amt ha
  refine ⟨by unfold bodyAns; rw [if_pos h], by omega, ht, by unfold tokNum; omega, by unfold tokNum; omega, by unfold tokNum; omega⟩

theorem vendmeterref_TokenWords.ev (c i a t : Int) : Ev (fun k => vendmeterref_TokenWords.f k c i a t) (if tokFault c i a t = 0 then (tokNum c i a t % 4294967296, tokNum c i a t / 4294967296 % 4294967296, tokNum c i a t / 18446744073709551616 % 4294967296, 0) else (0, 0, 0, tokFault c i a t)) := by
  unfold vendmeterref_TokenWords.f
  refine Ev.bind (vendmeterref_TokenFault.ev c i a t) (Ev.iteR (fun h => ?_) (fun _ => Ev.now _))
  obtain ⟨hb, h1, h2, h3, _⟩ := tok_body h
  refine Ev.bind (vendmeterref_BodyOf.ev c i a t) ?_
  rw [hb]
  refine Ev.pos ⟨h1, h2, rfl⟩ ?_
  rw [h3]
  exact Ev.now _
theorem TokenNumbers : vendmeterlaw_TokenNumbers.Pure := by
  intro c i a t _ _ _ _
  refine Ev.rounds ?_
  unfold vendmeterlaw_TokenNumbers.f
  rw [token_Words.eq]
  refine Ev.letS (Ev.bind (vendmeterref_TokenWords.ev c i a t) ?_)
  first | exact Ev.pos (by simp) (Ev.ret (by simp)) | exact Ev.ret (by simp)

end Go.Proofs.Ytoookcmablnjfaa.Pure
