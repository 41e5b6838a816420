/- FoldWords: for every input the law answers true and leaves its argument as it was. Conditions: none. -/
import Derived.Test.YtfpdaeihlnlhcaaGreatUL3
set_option linter.unusedSectionVars false
set_option linter.unusedVariables false
set_option linter.unusedSimpArgs false
set_option linter.constructorNameAsVariable false
namespace Go.Proofs.YtfpdaeihlnlhcaaGreat
open Go.ChangeShapes Go.WideShapes Go.ChangeAt Go.RowKit
theorem named : Tryz.pinned.checked.prog.funcNamed Rows.foldWordsRow.func = some 3 := by kernel_rfl
theorem reached : ((Rows.foldWordsRow.inPlace == Tryz.pinned.checked.prog.inPlace 3) && (Rows.foldWordsRow.unfollowed == Tryz.pinned.checked.prog.unfollowed 3) && (Rows.foldWordsRow.recurses == Tryz.pinned.checked.prog.recurses 3) && (Rows.foldWordsRow.named == Tryz.pinned.checked.prog.varsNamed 3)) = true := by kernel_rfl
theorem closed : joinedFacts Tryz.pinned.checked.prog 3 Tryz.f3 Rows.foldWordsSpec Rows.foldWordsRow = true := by
  have h := reached
  simp only [Bool.and_eq_true] at h
  obtain ⟨⟨⟨h1, h2⟩, h3⟩, h4⟩ := h
  unfold joinedFacts
  rw [h1, h2, h3, h4]
  refine Eq.trans (b := true) ?_ rfl
  kernel_rfl
theorem holds : Rows.FoldWordsSaid :=
  OpenClaim.holds_of_wide 3 Tryz.f3 rfl rfl rfl rfl rfl rfl rfl ⟨rfl, rfl, rfl, rfl, rfl⟩ rfl rfl rfl rfl rfl named Tryz.func3 closed
    (of_decide_eq_true (by kernel_rfl)) (by unfold Func.isWrapper; first | (rw [if_pos (by decide +kernel)]; kernel_rfl) | (rw [if_neg (by decide +kernel)]; exact ⟨rfl, rfl⟩))
    (fun os started H enc _ => lifted os started H enc)
#print axioms holds
end Go.Proofs.YtfpdaeihlnlhcaaGreat
