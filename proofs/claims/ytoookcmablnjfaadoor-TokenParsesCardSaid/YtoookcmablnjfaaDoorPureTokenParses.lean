/- vendmeterlaw.TokenParses returns true at every text: token.Parse reads the twenty digits as the reference does, or tells the same fault. No condition. -/
import Derived.Test.YtoookcmablnjfaaDoorPTokenParsesx8
import Derived.Test.YtoookcmablnjfaaDoorXLib
set_option linter.unusedVariables false
set_option linter.unusedSimpArgs false
namespace Go.Proofs.YtoookcmablnjfaaDoor.Pure
open Go.RowKit Go.Proofs.YtoookcmablnjfaaDoor.PTokenParses Go.Proofs.YtoookcmablnjfaaDoorW.PrintWords Go.Proofs.YtoookcmablnjfaaDoorW.PrintLast Go.Proofs.YtoookcmablnjfaaDoorW.PrintMore Go.Proofs.YtoookcmablnjfaaDoorW.XLib

def tokAmt (c a : Int) : Prop := (c = 0 ∧ 1 ≤ a ∧ a ≤ 2097151) ∨ (c = 2 ∧ 1 ≤ a ∧ a ≤ 15) ∨ ((c = 1 ∨ c = 3) ∧ a = 0)
instance (c a : Int) : Decidable (tokAmt c a) := by unfold tokAmt; infer_instance
def tokFault (c i a t : Int) : Int := if 0 ≤ c ∧ c ≤ 3 then (if (1 ≤ i ∧ i ≤ 1048575) ∧ (0 ≤ t ∧ t ≤ 65535) ∧ tokAmt c a then 0 else 2) else 9
theorem tok_cases (c : Int) : c = 0 ∨ c = 1 ∨ c = 2 ∨ c = 3 ∨ ¬ (0 ≤ c ∧ c ≤ 3) := by omega
theorem token_fault.eq (c i a t : Int) : token_fault.f c i a t = some (tokFault c i a t) := by
  unfold token_fault.f token_bounds.f tokFault tokAmt
  rcases tok_cases c with rfl | rfl | rfl | rfl | h
  case inr.inr.inr.inr => rw [if_neg (by omega), if_neg (by omega), if_neg (by omega), if_neg (by omega), if_neg h]; rfl
  all_goals
    simp only [if_true, if_false, Option.bind_some, Int.reduceEq]
    repeat' split
    all_goals first | rfl | omega | (simp at *; omega)
theorem tok_zero {c i a t : Int} (h : tokFault c i a t = 0) : (0 ≤ c ∧ c ≤ 3) ∧ (1 ≤ i ∧ i ≤ 1048575) ∧ (0 ≤ t ∧ t ≤ 65535) ∧ tokAmt c a := by
  unfold tokFault at h
  split at h
  · split at h
    · exact ⟨by assumption, by assumption⟩
    · omega
  · omega
theorem tok_amt {c a : Int} (h : tokAmt c a) : 0 ≤ a ∧ a ≤ 2097151 := by unfold tokAmt at h; omega
theorem vendmeterref_In.eq (a b c : Int) : vendmeterref_In.f a b c = some (decide (b ≤ a ∧ a ≤ c)) := by
  unfold vendmeterref_In.f
  by_cases h : b ≤ a
  · rw [if_pos h]; simp [h]
  · rw [if_neg h]; simp [h]
theorem vendmeterref_TokenFault.ev (c i a t : Int) : Ev (fun k => vendmeterref_TokenFault.f k c i a t) (tokFault c i a t) := by
  refine Ev.succ (Ev.succ (Ev.succ ⟨0, fun k _ => ?_⟩))
  simp only [vendmeterref_TokenFault.f, vendmeterref_TokenFault.j0, vendmeterref_TokenFault.j1, vendmeterref_TokenFault.j2, vendmeterref_In.eq, Option.bind_some]
  unfold tokFault tokAmt
  rcases tok_cases c with rfl | rfl | rfl | rfl | h
  case inr.inr.inr.inr => rw [decide_eq_false h, if_neg h]; rfl
  all_goals
    by_cases hi : 1 ≤ i ∧ i ≤ 1048575 <;> by_cases ht : 0 ≤ t ∧ t ≤ 65535
    all_goals simp [hi, ht]
    all_goals first | done | (split <;> rfl) | (split <;> simp_all <;> omega)
def parsedAns (s : ByteArray) : Int × Int × Int × Int × Int :=
  if s.size = 20 then (if rdAll s 20 = true then (if 73786976294838206464 ≤ rdV s 20 then (0, 0, 0, 0, 2) else if rdV s 20 % 97 = 0 then (if 576460752303423488 ≤ rdV s 20 / 97 then (0, 0, 0, 0, 2) else
    (if tokFault (rdV s 20 / 97 / 144115188075855872) (rdV s 20 / 97 / 137438953472 % 1048576) (rdV s 20 / 97 / 65536 % 2097152) (rdV s 20 / 97 % 65536) = 0 then (rdV s 20 / 97 / 144115188075855872, rdV s 20 / 97 / 137438953472 % 1048576, rdV s 20 / 97 / 65536 % 2097152, rdV s 20 / 97 % 65536, 0) else (0, 0, 0, 0, 2)))
    else (0, 0, 0, 0, 8)) else (0, 0, 0, 0, 7)) else (0, 0, 0, 0, 6)
theorem token_Parse.eq (s : ByteArray) : token_Parse.f s = some (parsedAns s) := by
  unfold token_Parse.f parsedAns
  rw [token_fault.eq, Option.bind_some]
  repeat' split
  all_goals first | rfl | contradiction
theorem vendmeterref_Parsed.ev (s : ByteArray) : Ev (fun k => vendmeterref_Parsed.f k s) (parsedAns s) := by
  unfold vendmeterref_Parsed.f parsedAns
  refine Ev.iteR (fun _ => Ev.iteR (fun _ => Ev.iteR (fun _ => Ev.now _) (fun _ => Ev.iteR (fun _ => Ev.iteR (fun _ => Ev.now _) (fun _ => ?_)) (fun _ => Ev.now _))) (fun _ => Ev.now _)) (fun _ => Ev.now _)
  refine Ev.bind (vendmeterref_TokenFault.ev _ _ _ _) (Ev.iteR (fun _ => Ev.now _) (fun _ => Ev.now _))

theorem TokenParses : vendmeterlaw_TokenParses.Pure := by
  intro s _
  refine Ev.rounds ?_
  unfold vendmeterlaw_TokenParses.f
  rw [token_Parse.eq]
  exact Ev.letS (Ev.bind (vendmeterref_Parsed.ev s) (Ev.pos (by simp) (Ev.ret (by simp))))

end Go.Proofs.YtoookcmablnjfaaDoor.Pure
