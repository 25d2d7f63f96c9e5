/- vendmeterlaw.BookDecodes returns true at every list of words: book.Decode reads the event that the reference reads, or tells the same fault, and the list is as it was. No condition. -/
import Derived.Test.YtojnaalncgofhaaPBookDecodesxL
import Derived.Test.YtojnaalncgofhaaXLib
set_option linter.unusedVariables false
set_option linter.unusedSimpArgs false
namespace Go.Proofs.Ytojnaalncgofhaa.Pure
open Go.RowKit Go.Proofs.Ytojnaalncgofhaa.PBookDecodes Go.Proofs.YtojnaalncgofhaaW.PrintWords Go.Proofs.YtojnaalncgofhaaW.PrintLast Go.Proofs.YtojnaalncgofhaaW.PrintMore Go.Proofs.YtojnaalncgofhaaW.XLib

theorem vendmeterlaw_sameWords.ev (l) (hl : l.length ≤ 1152921504606846976) : Ev (fun k => vendmeterlaw_sameWords.f k l l) true := by
  unfold vendmeterlaw_sameWords.f
  refine Ev.pos rfl (same_ev hl (fun k i hi => ?_) (fun k => ?_))
  · simp only [vendmeterlaw_sameWords.l0]; rw [if_pos (by omega), if_pos (by omega), if_pos (by omega)]; simp
  · simp only [vendmeterlaw_sameWords.l0]; rw [if_neg (by omega)]
theorem vendmeterlaw_words.eq (l) (h : l.length * 4 ≤ 140737488351232) : vendmeterlaw_words.f l = some l := by
  unfold vendmeterlaw_words.f
  rw [if_pos (by simp only [List.length_nil]; omega)]; rfl

theorem BookDecodes : vendmeterlaw_BookDecodes.Pure := by
  intro l hc
  have h1 := hc.1
  refine Ev.rounds ?_
  unfold vendmeterlaw_BookDecodes.f
  have e : vendmeterref_Decoded.f l = book_Decode.f l := rfl
  obtain ⟨t, ht⟩ : ∃ t, book_Decode.f l = some t := ⟨_, rfl⟩
  simp only [vendmeterlaw_words.eq l hc.1, Option.bind_some, e, ht]
  exact Ev.pos (by simp) (Ev.pos (by simp) (Ev.bind (vendmeterlaw_sameWords.ev l (by omega)) (Ev.now _)))

end Go.Proofs.Ytojnaalncgofhaa.Pure
