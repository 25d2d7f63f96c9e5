/- vendmeterlaw.BookEncodes returns true at every event: book.Encode writes the words that the reference writes, or tells the same fault. No condition. -/
import Derived.Test.YtojnaalncgofhaaPBookEncodesxL
import Derived.Test.YtojnaalncgofhaaXLib
set_option linter.unusedVariables false
set_option linter.unusedSimpArgs false
namespace Go.Proofs.Ytojnaalncgofhaa.Pure
open Go.RowKit Go.Proofs.Ytojnaalncgofhaa.PBookEncodes Go.Proofs.YtojnaalncgofhaaW.PrintWords Go.Proofs.YtojnaalncgofhaaW.PrintLast Go.Proofs.YtojnaalncgofhaaW.PrintMore Go.Proofs.YtojnaalncgofhaaW.XLib

theorem vendmeterlaw_sameWords.ev (l) (hl : l.length ≤ 1152921504606846976) : Ev (fun k => vendmeterlaw_sameWords.f k l l) true := by
  unfold vendmeterlaw_sameWords.f
  refine Ev.pos rfl (same_ev hl (fun k i hi => ?_) (fun k => ?_))
  · simp only [vendmeterlaw_sameWords.l0]; rw [if_pos (by omega), if_pos (by omega), if_pos (by omega)]; simp
  · simp only [vendmeterlaw_sameWords.l0]; rw [if_neg (by omega)]

theorem enc_l0 (l : List Int) (hl : l.length ≤ 100) : Ev (fun k => vendmeterref_Encoded.l0 k l ([] : List Int) 0) (l.map (· % 4294967296), 0) := by
  have key := down (P := fun i => Ev (fun k => vendmeterref_Encoded.l0 k l ((l.map (· % 4294967296)).take i) (i : Int)) (l.map (· % 4294967296), 0)) (n := l.length) (by
    refine Ev.succ ?_
    simp only [vendmeterref_Encoded.l0]
    rw [List.take_of_length_le (by simp)]
    exact Ev.neg (by omega) (Ev.now _)) (by
    intro i hi ih
    refine Ev.succ ?_
    simp only [vendmeterref_Encoded.l0]
    refine Ev.pos (by omega) (Ev.pos (by omega) (Ev.pos (by rw [List.length_take]; omega) ?_))
    rw [wn (i := i) (n := l.length) hi (by omega), rd_nat]
    have e := take_getD (l.map (· % 4294967296)) i 0 (by simpa using hi)
    have e2 : (l.map (· % 4294967296)).getD i 0 = l.getD i 0 % 4294967296 := by
      rw [List.getD_eq_getElem?_getD, List.getD_eq_getElem?_getD, List.getElem?_map, List.getElem?_eq_getElem hi]; rfl
    rw [e2] at e
    rw [← e]
    exact ih)
  simpa using key
theorem vendmeterref_Encoded.ev (k me mo id te de fe pr ch un tg ow bp : Int) : Ev (fun n => vendmeterref_Encoded.f n k me mo id te de fe pr ch un tg ow bp) (if evOk k me mo id te de fe pr ch un tg ow bp = true then (evL k me mo id te de fe pr ch un tg ow bp, 0) else ([], 5)) := by
  unfold vendmeterref_Encoded.f vendmeterref_EventMay.f
  refine Ev.letS (Ev.iteR (fun _ => ?_) (fun _ => Ev.now _))
  exact enc_l0 [k, me, mo, id, te, de, fe, pr, ch, un, tg, ow, bp] (by simp)
theorem BookEncodes : vendmeterlaw_BookEncodes.Pure := by
  intro k me mo id te de fe pr ch un tg ow bp
  intros
  refine Ev.rounds ?_
  unfold vendmeterlaw_BookEncodes.f book_Encode.f
  refine Ev.letS (Ev.bind (vendmeterref_Encoded.ev k me mo id te de fe pr ch un tg ow bp) (Ev.pos rfl ?_))
  refine Ev.bind (vendmeterlaw_sameWords.ev _ ?_) (Ev.now _)
  split
  · rw [evL_len]; omega
  · simp

end Go.Proofs.Ytojnaalncgofhaa.Pure
