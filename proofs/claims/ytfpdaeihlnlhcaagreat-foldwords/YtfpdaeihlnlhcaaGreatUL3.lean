/- A part of the proof of this statement: FoldWords: for every input the law answers true and leaves its argument as it was. -/
import Derived.Test.YtfpdaeihlnlhcaaGreatUS3
import Derived.KernelRfl
import Derived.Test.YtfpdaeihlnlhcaaGreatRows
set_option linter.unusedSectionVars false
set_option linter.unusedVariables false
set_option linter.unusedSimpArgs false
set_option linter.constructorNameAsVariable false
namespace Go.X
open Go.RowKit Go.WideShapes Go.ChangeShapes Go.Deep Go.Proofs.Tryz
set_option maxRecDepth 100000
theorem wakes3 : callF FT (ex FT 100000) [] (fun v _ _ => .nm [v] [] .e []) kpNo (FT.get f16) .e n1 = .nm [.b true] [] .e [] := by kernel_rfl
theorem law3 {v : Value} {W : World} (ha : ArgOk W v) : Calls prog 3 #[v] W fun e w' => e = .returned (.bool true) ∧ Below W.heap.size W w' :=
  law_of_runs (P := prog) (ok := true) (js := [4, 5, 6, 7, 8, 9, 10, 11, 12, 13, 14, 15]) (fl := fl3) (lim := 30) (fw := f16) (BC := BC3) (fuelB := 100000) (by kernel_rfl) FT_ok Go.Proofs.Tryz.func3 rfl rfl (by decide) rfl (by decide) (by decide)
    (by kernel_rfl) (by kernel_rfl) (by kernel_rfl) (by kernel_rfl) (by kernel_rfl) (by kernel_rfl) (by decide) wakes3 sel3 ha
end Go.X
namespace Go.Proofs.YtfpdaeihlnlhcaaGreat
open Go.ChangeShapes Go.WideShapes Go.ChangeAt Go.RowKit
theorem Tryz.own : ownKnob Tryz.prog.godebug = none := by kernel_rfl
theorem Tryz.laidOut : laidOutB Tryz.prog = true := by kernel_rfl
set_option maxRecDepth 100000 in
theorem lifted (os : Os) (started : os.Started) (H : Type) (enc : TypeId × Value → H) :
    ReturnsInHanded Rows.foldWordsRow.assume Tryz.checked os 3 .any (Rows.foldWordsSpec.pre6 enc Tryz.prog Tryz.f3 Rows.foldWordsRow.domain false) (Rows.foldWordsSpec.post enc Tryz.prog Tryz.f3 false Rows.foldWordsRow.fresh Rows.foldWordsRow.handsOn Rows.foldWordsRow.again) := by
  refine returnsInHanded_of_change (C := Tryz.checked) Tryz.own started (by kernel_rfl) Tryz.func3
    (ChangeSpec.witness6 (enc := enc) (C := Tryz.checked) false ⟨#[], #[.slice none 0 0], []⟩ 8 (by kernel_rfl) (by kernel_rfl) (by kernel_rfl) (by kernel_rfl)) ?_
  intro W base args ds gs before hval0 hW hcnd _
  have hval : ∀ (j : Nat) t v, Tryz.f3.params[j]? = some t → args[j]? = some v → Value.okWide Tryz.prog W .any base t v := hval0
  have hW' := hW
  obtain ⟨p, q, hA0, hV, rfl, hfz, hnd⟩ := hW
  have hA : DataW.TrodAll enc Tryz.prog W 0 (fun _ => true) true Tryz.f3.params.toList args.toList ds p := hA0
  rw [Tryz.params3] at hA hval
  obtain ⟨v0, d0, rfl, rfl, h0⟩ := trodAll_one hA
  obtain ⟨rfl, rfl⟩ := trodVars_none hV
  have hv0 := hval 0 22 v0 rfl rfl
  clear hA0 hval0
  simp only [List.append_nil] at hW'
  have hlt : ∀ x ∈ p, x.block < W.heap.size := fun x hx => by simpa using hW'.lt x hx
  have hargs : ∀ (W' : World), Below W.heap.size W W' → DataW.Trod enc Tryz.prog W' 0 (fun b => decide (b < W.heap.size)) true 22 v0 d0 p :=
    fun W' hn => Below.trod Tryz.laidOut (by kernel_rfl) (of_decide_eq_true (by kernel_rfl)) h0 hn hlt
  refine (Go.X.law3 (Go.X.arg_ok (e := 25) (ti := 3) (tw := 23) (fs := _) (by kernel_rfl) Tryz.underlying25 (by kernel_rfl) (by kernel_rfl) (by kernel_rfl) (by kernel_rfl) (by kernel_rfl) hv0 h0)).mono fun e W' ⟨he, hn⟩ => ?_
  subst he
  exact ⟨_, rfl, _, _, _, [], _, [], hW', trodAll_mk1 (shut_bool (by kernel_rfl) true), trodAll_mk1 (hargs _ hn), rfl, hn.frame _, fun h => by cases h⟩

end Go.Proofs.YtfpdaeihlnlhcaaGreat
