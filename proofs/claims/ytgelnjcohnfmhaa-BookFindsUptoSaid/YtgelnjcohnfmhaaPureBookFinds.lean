/- vendmeterlaw.BookFinds returns true at every list of at most 1048576 numbers and every number: book.Find answers as the reference does. Condition: what is read is of bulk at most 1048576 (a longer list makes more customers than memory bears). -/
import Derived.Test.YtgelnjcohnfmhaaPBookFindsxU
import Derived.Test.YtgelnjcohnfmhaaXLib
set_option linter.unusedVariables false
set_option linter.unusedSimpArgs false
namespace Go.Proofs.Ytgelnjcohnfmhaa.Pure
open Go.RowKit Go.Proofs.Ytgelnjcohnfmhaa.PBookFinds Go.Proofs.YtgelnjcohnfmhaaW.PrintWords Go.Proofs.YtgelnjcohnfmhaaW.PrintLast Go.Proofs.YtgelnjcohnfmhaaW.PrintMore Go.Proofs.YtgelnjcohnfmhaaW.XLib


theorem rd_cust (l : List S74) (i : Nat) : rd_T74 l (i : Int) = l.getD i z74 := Eq.trans rfl rfl
theorem found_ev (l : List S74) (me : Int) (hl : l.length ≤ 1048576) : Ev (fun k => vendmeterref_Found.f k l me) (book_Find.idx l me) := by
  unfold vendmeterref_Found.f
  by_cases hex : ∃ i : Nat, i < l.length ∧ (rd_T74 l (i : Int)).f0.f0 = me ∧ ∀ m : Nat, m < i → (rd_T74 l (m : Int)).f0.f0 ≠ me
  · obtain ⟨i, hi, he, hb⟩ := hex
    have e : book_Find.idx l me = (i : Int) := by unfold book_Find.idx; rw [book_Find.hit hi he hb]
    rw [e]
    refine down (P := fun j => Ev (fun k => vendmeterref_Found.l0 k me (j : Int) l) (i : Int)) (n := i) ?_ ?_
    · refine Ev.step (f := fun _ => some (i : Int)) (fun k => ?_) (Ev.now _)
      simp only [vendmeterref_Found.l0]; rw [if_pos (by omega), if_pos (by omega), if_pos he]
    · intro j hj h
      refine Ev.step (fun k => ?_) h
      simp only [vendmeterref_Found.l0]; rw [if_pos (by omega), if_pos (by omega), if_neg (hb j hj), wn (show j < l.length by omega) (by omega)]
  · have hn : ∀ m : Nat, m < l.length → (rd_T74 l (m : Int)).f0.f0 ≠ me := by
      intro m
      induction m using Nat.strongRecOn with
      | ind m ih =>
        intro hm he
        exact hex ⟨m, hm, he, fun q hq => ih q hq (by omega)⟩
    have e : book_Find.idx l me = -1 := by unfold book_Find.idx; rw [book_Find.miss hn]
    rw [e]
    refine down (P := fun j => Ev (fun k => vendmeterref_Found.l0 k me (j : Int) l) (-1)) (n := l.length) ?_ ?_
    · refine Ev.step (f := fun _ => some (-1)) (fun k => ?_) (Ev.now _)
      simp only [vendmeterref_Found.l0]; rw [if_neg (by omega)]
    · intro j hj h
      refine Ev.step (fun k => ?_) h
      simp only [vendmeterref_Found.l0]; rw [if_pos (by omega), if_pos (by omega), if_neg (hn j hj), wn hj (by omega)]
theorem BookFinds : vendmeterlaw_BookFinds.Pure := by
  intro l me h _ hl
  refine Ev.rounds ?_
  unfold vendmeterlaw_BookFinds.f
  have key : ∀ (d i : Nat) (b : List S74), i + d = l.length → b.length = i → Ev (fun k => vendmeterlaw_BookFinds.l0 k l me (i : Int) b) true := by
    intro d
    induction d with
    | zero =>
      intro i b hi hb
      refine Ev.step (f := fun k => (book_Find.f b me).bind fun bt108 => ((vendmeterref_Found.f k b me).bind fun t110 => (if t110 < 0 then (if bt108.1 = 0 then (some (bt108.2 == 18)) else (some false)) else (if bt108.1 = t110 then (some (bt108.2 == 0)) else (some false))))) (fun k => ?_) ?_
      · simp only [vendmeterlaw_BookFinds.l0]; rw [if_neg (by omega)]
      · have hf := found_ev b me (by omega)
        unfold book_Find.f
        rw [if_pos (by omega)]
        unfold book_Find.idx at hf
        cases ha : book_Find.at b me with
        | none =>
          rw [ha] at hf
          exact Ev.letS (Ev.bind hf (Ev.pos (by decide) (Ev.pos rfl (Ev.ret rfl))))
        | some j =>
          rw [ha] at hf
          exact Ev.letS (Ev.bind hf (Ev.neg (by simp only [Int.not_lt]; omega) (Ev.pos rfl (Ev.ret rfl))))
    | succ d ih =>
      intro i b hi hb
      refine Ev.step (fun k => ?_) (ih (i + 1) (b ++ [(⟨(⟨rd l (i : Int), 0, 0, 0, 0, 0, []⟩ : S71), []⟩ : S74)]) (by omega) (by rw [List.length_append, hb]; rfl))
      simp only [vendmeterlaw_BookFinds.l0]; rw [if_pos (by omega), if_pos (by omega), if_pos (by omega), wn (show i < l.length by omega) (by omega)]
  exact key l.length 0 [] (by omega) rfl

end Go.Proofs.Ytgelnjcohnfmhaa.Pure
