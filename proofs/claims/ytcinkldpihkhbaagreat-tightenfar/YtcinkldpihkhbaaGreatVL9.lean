/- A part of the proof of this statement: TightenFar: for every input the law answers true and leaves its argument as it was. -/
import Derived.Test.YtcinkldpihkhbaaGreatVR9x0
import Derived.Test.YtcinkldpihkhbaaGreatVR9x1
import Derived.Test.YtcinkldpihkhbaaGreatVR9x2
import Derived.Test.YtcinkldpihkhbaaGreatVR9x3
import Derived.Test.YtcinkldpihkhbaaGreatVR9x4
import Derived.Test.YtcinkldpihkhbaaGreatVR9x5
import Derived.Test.YtcinkldpihkhbaaGreatVR9x6
import Derived.Test.YtcinkldpihkhbaaGreatVR9x7
import Derived.Test.YtcinkldpihkhbaaGreatVR9x8
import Derived.Test.YtcinkldpihkhbaaGreatVR9x9
import Derived.Test.YtcinkldpihkhbaaGreatVGT
import Derived.Test.YtcinkldpihkhbaaGreatVXSo
import Derived.KernelRfl
import Derived.Test.YtcinkldpihkhbaaGreatRows
set_option linter.unusedSectionVars false
set_option linter.unusedVariables false
set_option linter.unusedSimpArgs false
set_option linter.constructorNameAsVariable false
namespace Go.X
open Go.RowKit Go.WideShapes Go.ChangeShapes Go.Deep Go.Proofs.Tryz
set_option maxRecDepth 100000
theorem all9_0 : ∀ r, r < 10 → rn9 r J9_0 = true
  | 0, _ => rn9_0_0
  | 1, _ => rn9_1_0
  | 2, _ => rn9_2_0
  | 3, _ => rn9_3_0
  | 4, _ => rn9_4_0
  | 5, _ => rn9_5_0
  | 6, _ => rn9_6_0
  | 7, _ => rn9_7_0
  | 8, _ => rn9_8_0
  | 9, _ => rn9_9_0
  | r + 10, h => absurd h (by omega)
theorem any9 (r : Nat) (hr : r < 10) (ch : Nat → Option Bool) (hch : ∀ (k : Nat) (b : Bool), ch k = some b → (b || false) = true) : rn9 r (jfr ch fl9 0) = true := by
  exact all9_0 r hr
theorem wakes9 : callF FT (ex FT 100000) [] (fun v _ _ => .nm [v] [] .e []) kpNo (FT.get f50) .e n1 = .nm [.b true] [] .e [] := by kernel_rfl
theorem law9 {v : Value} {W : World} (ha : ArgOk W v) : Calls prog 9 #[v] W fun e w' => e = .returned (.bool true) ∧ Below W.heap.size W w' :=
  law_of_runs (P := prog) (ok := false) (js := [4, 5, 6, 7, 8, 9, 10, 11, 12, 13, 14, 15, 16]) (fl := fl9) (lim := 10) (fw := f50) (BC := BC9) (fuelB := 100000) (by kernel_rfl) FT_ok Go.Proofs.Tryz.func9 rfl rfl (by decide) rfl (by decide) (by decide)
    (by kernel_rfl) (by kernel_rfl) (by kernel_rfl) (by kernel_rfl) (by kernel_rfl) (by kernel_rfl) (by decide) wakes9 (fun o k n x y => ⟨_, _, _, _, _, _, selE 10 o k n x y, fun ch hch => any9 (word n % 10) (Nat.mod_lt _ (by decide)) ch hch⟩) ha
end Go.X
namespace Go.Proofs.YtcinkldpihkhbaaGreat
open Go.ChangeShapes Go.WideShapes Go.ChangeAt Go.RowKit
theorem Tryz.own : ownKnob Tryz.prog.godebug = none := by kernel_rfl
theorem Tryz.laidOut : laidOutB Tryz.prog = true := by kernel_rfl
set_option maxRecDepth 100000 in
theorem lifted (os : Os) (started : os.Started) (H : Type) (enc : TypeId × Value → H) :
    ReturnsInHanded Rows.tightenFarRow.assume Tryz.checked os 9 .any (Rows.tightenFarSpec.pre6 enc Tryz.prog Tryz.f9 Rows.tightenFarRow.domain false) (Rows.tightenFarSpec.post enc Tryz.prog Tryz.f9 false Rows.tightenFarRow.fresh Rows.tightenFarRow.handsOn Rows.tightenFarRow.again) := by
  refine returnsInHanded_of_change (C := Tryz.checked) Tryz.own started (by kernel_rfl) Tryz.func9
    (ChangeSpec.witness6 (enc := enc) (C := Tryz.checked) false ⟨#[], #[.slice none 0 0], []⟩ 8 (by kernel_rfl) (by kernel_rfl) (by kernel_rfl) (by kernel_rfl)) ?_
  intro W base args ds gs before hval0 hW hcnd _
  have hval : ∀ (j : Nat) t v, Tryz.f9.params[j]? = some t → args[j]? = some v → Value.okWide Tryz.prog W .any base t v := hval0
  have hW' := hW
  obtain ⟨p, q, hA0, hV, rfl, hfz, hnd⟩ := hW
  have hA : DataW.TrodAll enc Tryz.prog W 0 (fun _ => true) true Tryz.f9.params.toList args.toList ds p := hA0
  rw [Tryz.params9] at hA hval
  obtain ⟨v0, d0, rfl, rfl, h0⟩ := trodAll_one hA
  obtain ⟨rfl, rfl⟩ := trodVars_none hV
  have hv0 := hval 0 22 v0 rfl rfl
  clear hA0 hval0
  simp only [List.append_nil] at hW'
  have hlt : ∀ x ∈ p, x.block < W.heap.size := fun x hx => by simpa using hW'.lt x hx
  have hargs : ∀ (W' : World), Below W.heap.size W W' → DataW.Trod enc Tryz.prog W' 0 (fun b => decide (b < W.heap.size)) true 22 v0 d0 p :=
    fun W' hn => Below.trod Tryz.laidOut (by kernel_rfl) (of_decide_eq_true (by kernel_rfl)) h0 hn hlt
  refine (Go.X.law9 (Go.X.arg_ok (e := 26) (ti := 3) (tw := 24) (fs := _) (by kernel_rfl) Tryz.underlying26 (by kernel_rfl) (by kernel_rfl) (by kernel_rfl) (by kernel_rfl) (by kernel_rfl) hv0 h0)).mono fun e W' ⟨he, hn⟩ => ?_
  subst he
  exact ⟨_, rfl, _, _, _, [], _, [], hW', trodAll_mk1 (shut_bool (by kernel_rfl) true), trodAll_mk1 (hargs _ hn), rfl, hn.frame _, fun h => by cases h⟩

end Go.Proofs.YtcinkldpihkhbaaGreat
