/- TightenFar: for every input the law answers true and leaves its argument as it was. Conditions: none. -/
import Derived.Test.YtcinkldpihkhbaaGreatVL9
set_option linter.unusedSectionVars false
set_option linter.unusedVariables false
set_option linter.unusedSimpArgs false
set_option linter.constructorNameAsVariable false
namespace Go.Proofs.YtcinkldpihkhbaaGreat
open Go.ChangeShapes Go.WideShapes Go.ChangeAt Go.RowKit
theorem named : Tryz.pinned.checked.prog.funcNamed Rows.tightenFarRow.func = some 9 := by kernel_rfl
theorem reached : ((Rows.tightenFarRow.inPlace == Tryz.pinned.checked.prog.inPlace 9) && (Rows.tightenFarRow.unfollowed == Tryz.pinned.checked.prog.unfollowed 9) && (Rows.tightenFarRow.recurses == Tryz.pinned.checked.prog.recurses 9) && (Rows.tightenFarRow.named == Tryz.pinned.checked.prog.varsNamed 9)) = true := by kernel_rfl
theorem closed : joinedFacts Tryz.pinned.checked.prog 9 Tryz.f9 Rows.tightenFarSpec Rows.tightenFarRow = true := by
  have h := reached
  simp only [Bool.and_eq_true] at h
  obtain ⟨⟨⟨h1, h2⟩, h3⟩, h4⟩ := h
  unfold joinedFacts
  rw [h1, h2, h3, h4]
  refine Eq.trans (b := true) ?_ rfl
  kernel_rfl
theorem holds : Rows.TightenFarSaid :=
  OpenClaim.holds_of_wide 9 Tryz.f9 rfl rfl rfl rfl rfl rfl rfl ⟨rfl, rfl, rfl, rfl, rfl⟩ rfl rfl rfl rfl rfl named Tryz.func9 closed
    (of_decide_eq_true (by kernel_rfl)) (by unfold Func.isWrapper; first | (rw [if_pos (by decide +kernel)]; kernel_rfl) | (rw [if_neg (by decide +kernel)]; exact ⟨rfl, rfl⟩))
    (fun os started H enc _ => lifted os started H enc)
#print axioms holds
end Go.Proofs.YtcinkldpihkhbaaGreat
