/- vendmeterlaw.TokenBodies returns true at every token: token.Body answers as the reference does. No condition. -/
import Derived.Test.YtohdemglbdfpfaaPTokenBodiesxL
import Derived.Test.YtohdemglbdfpfaaXLib
set_option linter.unusedVariables false
set_option linter.unusedSimpArgs false
namespace Go.Proofs.Ytohdemglbdfpfaa.Pure
open Go.RowKit Go.Proofs.Ytohdemglbdfpfaa.PTokenBodies Go.Proofs.YtohdemglbdfpfaaW.PrintWords Go.Proofs.YtohdemglbdfpfaaW.PrintLast Go.Proofs.YtohdemglbdfpfaaW.PrintMore Go.Proofs.YtohdemglbdfpfaaW.XLib

def tokAmt (c a : Int) : Prop := (c = 0 ∧ 1 ≤ a ∧ a ≤ 2097151) ∨ (c = 2 ∧ 1 ≤ a ∧ a ≤ 15) ∨ ((c = 1 ∨ c = 3) ∧ a = 0)
instance (c a : Int) : Decidable (tokAmt c a) := by unfold tokAmt; infer_instance
def tokFault (c i a t : Int) : Int := if 0 ≤ c ∧ c ≤ 3 then (if (1 ≤ i ∧ i ≤ 1048575) ∧ (0 ≤ t ∧ t ≤ 65535) ∧ tokAmt c a then 0 else 2) else 9
theorem tok_cases (c : Int) : c = 0 ∨ c = 1 ∨ c = 2 ∨ c = 3 ∨ ¬ (0 ≤ c ∧ c ≤ 3) := by omega
theorem token_fault.eq (c i a t : Int) : token_fault.f c i a t = some (tokFault c i a t) := by
  unfold token_fault.f token_bounds.f tokFault tokAmt
  rcases tok_cases c with rfl | rfl | rfl | rfl | h
  case inr.inr.inr.inr => rw [if_neg (by omega), if_neg (by omega), if_neg (by omega), if_neg (by omega), if_neg h]; rfl
  all_goals
    simp only [if_true, if_false, Option.bind_some, Int.reduceEq]
    repeat' split
    all_goals first | rfl | omega | (simp at *; omega)
theorem tok_zero {c i a t : Int} (h : tokFault c i a t = 0) : (0 ≤ c ∧ c ≤ 3) ∧ (1 ≤ i ∧ i ≤ 1048575) ∧ (0 ≤ t ∧ t ≤ 65535) ∧ tokAmt c a := by
  unfold tokFault at h
  split at h
  · split at h
    · exact ⟨by assumption, by assumption⟩
    · omega
  · omega
theorem tok_amt {c a : Int} (h : tokAmt c a) : 0 ≤ a ∧ a ≤ 2097151 := by unfold tokAmt at h; omega
theorem vendmeterref_In.eq (a b c : Int) : vendmeterref_In.f a b c = some (decide (b ≤ a ∧ a ≤ c)) := by
  unfold vendmeterref_In.f
  by_cases h : b ≤ a
  · rw [if_pos h]; simp [h]
  · rw [if_neg h]; simp [h]
theorem vendmeterref_TokenFault.ev (c i a t : Int) : Ev (fun k => vendmeterref_TokenFault.f k c i a t) (tokFault c i a t) := by
  refine Ev.succ (Ev.succ (Ev.succ ⟨0, fun k _ => ?_⟩))
  simp only [vendmeterref_TokenFault.f, vendmeterref_TokenFault.j0, vendmeterref_TokenFault.j1, vendmeterref_TokenFault.j2, vendmeterref_In.eq, Option.bind_some]
  unfold tokFault tokAmt
  rcases tok_cases c with rfl | rfl | rfl | rfl | h
  case inr.inr.inr.inr => rw [decide_eq_false h, if_neg h]; rfl
  all_goals
    by_cases hi : 1 ≤ i ∧ i ≤ 1048575 <;> by_cases ht : 0 ≤ t ∧ t ≤ 65535
    all_goals simp [hi, ht]
    all_goals first | done | (split <;> rfl) | (split <;> simp_all <;> omega)
theorem i64_or_nat (a b : Nat) (ha : a < 9223372036854775808) (hb : b < 9223372036854775808) : Go.bits .or .i64 (a : Int) (b : Int) = ((a ||| b : Nat) : Int) := by
  have hx : a ||| b < 2 ^ 63 := Nat.or_lt_two_pow (by omega) (by omega)
  show IntKind.i64.wrap ((BitVec.ofInt 64 (a : Int) ||| BitVec.ofInt 64 (b : Int)).toNat : Int) = _
  rw [BitVec.toNat_or, ofInt_u64 a (by omega), ofInt_u64 b (by omega)]
  exact IntWalk.i64_in _ (by omega)
def bodyAns (c i a t : Int) : Int × Int := if tokFault c i a t = 0 then (c * 2199023255552 + i * 2097152 + a, 0) else (0, tokFault c i a t)
theorem token_Body.eq (c i a t : Int) : token_Body.f c i a t = some (bodyAns c i a t) := by
  unfold token_Body.f bodyAns
  rw [token_fault.eq, Option.bind_some]
  by_cases h : tokFault c i a t = 0
  · rw [if_pos h, if_pos h]
    obtain ⟨hc, hi, ht, ha⟩ := tok_zero h
    have hA := tok_amt ha
    clear ha h
    obtain ⟨c, rfl⟩ := Int.eq_ofNat_of_zero_le hc.1
    obtain ⟨i, rfl⟩ := Int.eq_ofNat_of_zero_le (show 0 ≤ i by omega)
    obtain ⟨a, rfl⟩ := Int.eq_ofNat_of_zero_le hA.1
    rw [wr (a := (c : Int) * 1048576) ⟨by omega, by omega⟩, show (c : Int) * 1048576 = ((2 ^ 20 * c : Nat) : Int) by omega, i64_or_nat _ _ (by omega) (by omega), ← Nat.two_pow_add_eq_or_of_lt (show i < 2 ^ 20 by omega)]
    rw [wr (a := ((2 ^ 20 * c + i : Nat) : Int) * 2097152) ⟨by omega, by omega⟩, show ((2 ^ 20 * c + i : Nat) : Int) * 2097152 = ((2 ^ 21 * (2 ^ 20 * c + i) : Nat) : Int) by omega, i64_or_nat _ _ (by omega) (by omega), ← Nat.two_pow_add_eq_or_of_lt (show a < 2 ^ 21 by omega)]
    congr 2
    omega
  · rw [if_neg h, if_neg h]
theorem vendmeterref_BodyOf.ev (c i a t : Int) : Ev (fun k => vendmeterref_BodyOf.f k c i a t) (bodyAns c i a t) := by
  unfold vendmeterref_BodyOf.f bodyAns
  refine Ev.bind (vendmeterref_TokenFault.ev c i a t) (Ev.iteR (fun h => ?_) (fun _ => Ev.now _))
  obtain ⟨hc, hi, ht, ha⟩ := tok_zero h
  have ha := tok_amt ha
  rw [wr (a := c * 2199023255552) ⟨by omega, by omega⟩, wr (a := i * 2097152) ⟨by omega, by omega⟩, wr (a := c * 2199023255552 + i * 2097152) ⟨by omega, by omega⟩, wr ⟨by omega, by omega⟩]
  exact Ev.now _

theorem TokenBodies : vendmeterlaw_TokenBodies.Pure := by
  intro c i a t _ _ _ _
  refine Ev.rounds ?_
  unfold vendmeterlaw_TokenBodies.f
  rw [token_Body.eq]
  exact Ev.letS (Ev.bind (vendmeterref_BodyOf.ev c i a t) (Ev.pos rfl (Ev.ret (by simp))))

end Go.Proofs.Ytohdemglbdfpfaa.Pure
