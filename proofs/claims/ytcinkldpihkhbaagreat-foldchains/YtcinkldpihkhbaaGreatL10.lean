/- The executable reading of the model and its soundness, or the program, or a run. (a part of the proof of: FoldChains: for every input the law answers true and leaves its argument as it was.) -/
import Derived.Test.YtcinkldpihkhbaaGreatR10x0
import Derived.Test.YtcinkldpihkhbaaGreatR10x1
import Derived.Test.YtcinkldpihkhbaaGreatR10x2
import Derived.Test.YtcinkldpihkhbaaGreatR10x3
import Derived.Test.YtcinkldpihkhbaaGreatRows
set_option linter.unusedSectionVars false
set_option linter.unusedVariables false
set_option linter.unusedSimpArgs false
set_option linter.constructorNameAsVariable false
namespace Go.X
open Go.RowKit Go.WideShapes Go.ChangeShapes Go.Deep Go.Proofs.Tryz
set_option maxRecDepth 100000
theorem all10_0 : ∀ r, r < 20 → rn10 r J10_0 = true
  | 0, _ => rn10_0_0
  | 1, _ => rn10_1_0
  | 2, _ => rn10_2_0
  | 3, _ => rn10_3_0
  | 4, _ => rn10_4_0
  | 5, _ => rn10_5_0
  | 6, _ => rn10_6_0
  | 7, _ => rn10_7_0
  | 8, _ => rn10_8_0
  | 9, _ => rn10_9_0
  | 10, _ => rn10_10_0
  | 11, _ => rn10_11_0
  | 12, _ => rn10_12_0
  | 13, _ => rn10_13_0
  | 14, _ => rn10_14_0
  | 15, _ => rn10_15_0
  | 16, _ => rn10_16_0
  | 17, _ => rn10_17_0
  | 18, _ => rn10_18_0
  | 19, _ => rn10_19_0
  | r + 20, h => absurd h (by omega)
theorem all10_1 : ∀ r, r < 20 → rn10 r J10_1 = true
  | 0, _ => rn10_0_1
  | 1, _ => rn10_1_1
  | 2, _ => rn10_2_1
  | 3, _ => rn10_3_1
  | 4, _ => rn10_4_1
  | 5, _ => rn10_5_1
  | 6, _ => rn10_6_1
  | 7, _ => rn10_7_1
  | 8, _ => rn10_8_1
  | 9, _ => rn10_9_1
  | 10, _ => rn10_10_1
  | 11, _ => rn10_11_1
  | 12, _ => rn10_12_1
  | 13, _ => rn10_13_1
  | 14, _ => rn10_14_1
  | 15, _ => rn10_15_1
  | 16, _ => rn10_16_1
  | 17, _ => rn10_17_1
  | 18, _ => rn10_18_1
  | 19, _ => rn10_19_1
  | r + 20, h => absurd h (by omega)
theorem any10 (r : Nat) (hr : r < 20) (ch : Nat → Option Bool) (hch : ∀ (k : Nat) (b : Bool), ch k = some b → (b || false) = true) : rn10 r (jfr ch fl10 0) = true := by
  have e : jfr ch fl10 0 = [.oq 0, .oq 1, .oq 2, .oq 3, .oq 4, .oq 5, .oq 6, .oq 7, .oq 8, .oq 9, lv true (ch 10) 10] := rfl
  rw [e]
  cases hc : ch 10 with
  | none => exact all10_0 r hr
  | some b =>
    cases b
    · exact absurd (hch 10 false hc) (by decide)
    · exact all10_1 r hr
theorem wakes10 : callF FT (ex FT 100000) [] (fun v _ _ => .nm [v] [] .e []) kpNo (FT.get f55) .e n1 = .nm [.b true] [] .e [] := by kernel_rfl
theorem law10 {v : Value} {W : World} (ha : ArgOk W v) : Calls prog 10 #[v] W fun e w' => e = .returned (.bool true) ∧ Below W.heap.size W w' :=
  law_of_runs (P := prog) (ok := false) (js := [4, 5, 6, 7, 8, 9, 10, 11, 12, 13, 14]) (fl := fl10) (lim := 10) (fw := f55) (BC := BC10) (fuelB := 100000) (by kernel_rfl) FT_ok Go.Proofs.Tryz.func10 rfl rfl (by decide) rfl (by decide) (by decide)
    (by kernel_rfl) (by kernel_rfl) (by kernel_rfl) (by kernel_rfl) (by kernel_rfl) (by kernel_rfl) (by decide) wakes10 (fun o k n x y => ⟨_, _, _, _, _, _, selE 20 o k n x y, fun ch hch => any10 (word n % 20) (Nat.mod_lt _ (by decide)) ch hch⟩) ha
end Go.X
namespace Go.Proofs.YtcinkldpihkhbaaGreat
open Go.ChangeShapes Go.WideShapes Go.ChangeAt Go.RowKit
theorem Tryz.own : ownKnob Tryz.prog.godebug = none := by kernel_rfl
theorem Tryz.laidOut : laidOutB Tryz.prog = true := by kernel_rfl
set_option maxRecDepth 100000 in
theorem lifted (os : Os) (started : os.Started) (H : Type) (enc : TypeId × Value → H) :
    ReturnsInHanded Rows.foldChainsRow.assume Tryz.checked os 10 .any (Rows.foldChainsSpec.pre6 enc Tryz.prog Tryz.f10 Rows.foldChainsRow.domain false) (Rows.foldChainsSpec.post enc Tryz.prog Tryz.f10 false Rows.foldChainsRow.fresh Rows.foldChainsRow.handsOn Rows.foldChainsRow.again) := by
  refine returnsInHanded_of_change (C := Tryz.checked) Tryz.own started (by kernel_rfl) Tryz.func10
    (ChangeSpec.witness6 (enc := enc) (C := Tryz.checked) false ⟨#[], #[.slice none 0 0], []⟩ 8 (by kernel_rfl) (by kernel_rfl) (by kernel_rfl) (by kernel_rfl)) ?_
  intro W base args ds gs before hval0 hW hcnd _
  have hval : ∀ (j : Nat) t v, Tryz.f10.params[j]? = some t → args[j]? = some v → Value.okWide Tryz.prog W .any base t v := hval0
  have hW' := hW
  obtain ⟨p, q, hA0, hV, rfl, hfz, hnd⟩ := hW
  have hA : DataW.TrodAll enc Tryz.prog W 0 (fun _ => true) true Tryz.f10.params.toList args.toList ds p := hA0
  rw [Tryz.params10] at hA hval
  obtain ⟨v0, d0, rfl, rfl, h0⟩ := trodAll_one hA
  obtain ⟨rfl, rfl⟩ := trodVars_none hV
  have hv0 := hval 0 22 v0 rfl rfl
  clear hA0 hval0
  simp only [List.append_nil] at hW'
  have hlt : ∀ x ∈ p, x.block < W.heap.size := fun x hx => by simpa using hW'.lt x hx
  have hargs : ∀ (W' : World), Below W.heap.size W W' → DataW.Trod enc Tryz.prog W' 0 (fun b => decide (b < W.heap.size)) true 22 v0 d0 p :=
    fun W' hn => Below.trod Tryz.laidOut (by kernel_rfl) (of_decide_eq_true (by kernel_rfl)) h0 hn hlt
  refine (Go.X.law10 (Go.X.arg_ok (e := 26) (ti := 3) (tw := 24) (fs := _) (by kernel_rfl) Tryz.underlying26 (by kernel_rfl) (by kernel_rfl) (by kernel_rfl) (by kernel_rfl) (by kernel_rfl) hv0 h0)).mono fun e W' ⟨he, hn⟩ => ?_
  subst he
  exact ⟨_, rfl, _, _, _, [], _, [], hW', trodAll_mk1 (shut_bool (by kernel_rfl) true), trodAll_mk1 (hargs _ hn), rfl, hn.frame _, fun h => by cases h⟩

end Go.Proofs.YtcinkldpihkhbaaGreat
