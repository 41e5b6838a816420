/- A part of the proof of this statement: CSELoads: for every input the law answers true and leaves its argument as it was. -/
import Derived.Test.YtcinkldpihkhbaaGreatWR6x0
import Derived.Test.YtcinkldpihkhbaaGreatWR6x1
import Derived.Test.YtcinkldpihkhbaaGreatWR6x2
import Derived.Test.YtcinkldpihkhbaaGreatWR6x3
import Derived.Test.YtcinkldpihkhbaaGreatWR6x4
import Derived.Test.YtcinkldpihkhbaaGreatWR6x5
import Derived.Test.YtcinkldpihkhbaaGreatWGT
import Derived.Test.YtcinkldpihkhbaaGreatWXSo
import Derived.KernelRfl
import Derived.Test.YtcinkldpihkhbaaGreatRows
set_option linter.unusedSectionVars false
set_option linter.unusedVariables false
set_option linter.unusedSimpArgs false
set_option linter.constructorNameAsVariable false
namespace Go.X
open Go.RowKit Go.WideShapes Go.ChangeShapes Go.Deep Go.Proofs.Tryz
set_option maxRecDepth 100000
theorem all6_0 : ∀ r, r < 6 → rn6 r J6_0 = true
  | 0, _ => rn6_0_0
  | 1, _ => rn6_1_0
  | 2, _ => rn6_2_0
  | 3, _ => rn6_3_0
  | 4, _ => rn6_4_0
  | 5, _ => rn6_5_0
  | r + 6, h => absurd h (by omega)
theorem any6 (r : Nat) (hr : r < 6) (ch : Nat → Option Bool) (hch : ∀ (k : Nat) (b : Bool), ch k = some b → (b || false) = true) : rn6 r (jfr ch fl6 0) = true := by
  exact all6_0 r hr
theorem wakes6 : callF FT (ex FT 100000) [] (fun v _ _ => .nm [v] [] .e []) kpNo (FT.get f33) .e n1 = .nm [.b true] [] .e [] := by kernel_rfl
theorem law6 {v : Value} {W : World} (ha : ArgOk W v) : Calls prog 6 #[v] W fun e w' => e = .returned (.bool true) ∧ Below W.heap.size W w' :=
  law_of_runs (P := prog) (ok := false) (js := [4, 5, 6, 7, 8, 9, 10, 11, 12, 13]) (fl := fl6) (lim := 10) (fw := f33) (BC := BC6) (fuelB := 100000) (by kernel_rfl) FT_ok Go.Proofs.Tryz.func6 rfl rfl (by decide) rfl (by decide) (by decide)
    (by kernel_rfl) (by kernel_rfl) (by kernel_rfl) (by kernel_rfl) (by kernel_rfl) (by kernel_rfl) (by decide) wakes6 (fun o k n x y => ⟨_, _, _, _, _, _, selE 6 o k n x y, fun ch hch => any6 (word n % 6) (Nat.mod_lt _ (by decide)) ch hch⟩) ha
end Go.X
namespace Go.Proofs.YtcinkldpihkhbaaGreat
open Go.ChangeShapes Go.WideShapes Go.ChangeAt Go.RowKit
theorem Tryz.own : ownKnob Tryz.prog.godebug = none := by kernel_rfl
theorem Tryz.laidOut : laidOutB Tryz.prog = true := by kernel_rfl
set_option maxRecDepth 100000 in
theorem lifted (os : Os) (started : os.Started) (H : Type) (enc : TypeId × Value → H) :
    ReturnsInHanded Rows.cSELoadsRow.assume Tryz.checked os 6 .any (Rows.cSELoadsSpec.pre6 enc Tryz.prog Tryz.f6 Rows.cSELoadsRow.domain false) (Rows.cSELoadsSpec.post enc Tryz.prog Tryz.f6 false Rows.cSELoadsRow.fresh Rows.cSELoadsRow.handsOn Rows.cSELoadsRow.again) := by
  refine returnsInHanded_of_change (C := Tryz.checked) Tryz.own started (by kernel_rfl) Tryz.func6
    (ChangeSpec.witness6 (enc := enc) (C := Tryz.checked) false ⟨#[], #[.slice none 0 0], []⟩ 8 (by kernel_rfl) (by kernel_rfl) (by kernel_rfl) (by kernel_rfl)) ?_
  intro W base args ds gs before hval0 hW hcnd _
  have hval : ∀ (j : Nat) t v, Tryz.f6.params[j]? = some t → args[j]? = some v → Value.okWide Tryz.prog W .any base t v := hval0
  have hW' := hW
  obtain ⟨p, q, hA0, hV, rfl, hfz, hnd⟩ := hW
  have hA : DataW.TrodAll enc Tryz.prog W 0 (fun _ => true) true Tryz.f6.params.toList args.toList ds p := hA0
  rw [Tryz.params6] at hA hval
  obtain ⟨v0, d0, rfl, rfl, h0⟩ := trodAll_one hA
  obtain ⟨rfl, rfl⟩ := trodVars_none hV
  have hv0 := hval 0 22 v0 rfl rfl
  clear hA0 hval0
  simp only [List.append_nil] at hW'
  have hlt : ∀ x ∈ p, x.block < W.heap.size := fun x hx => by simpa using hW'.lt x hx
  have hargs : ∀ (W' : World), Below W.heap.size W W' → DataW.Trod enc Tryz.prog W' 0 (fun b => decide (b < W.heap.size)) true 22 v0 d0 p :=
    fun W' hn => Below.trod Tryz.laidOut (by kernel_rfl) (of_decide_eq_true (by kernel_rfl)) h0 hn hlt
  refine (Go.X.law6 (Go.X.arg_ok (e := 26) (ti := 3) (tw := 24) (fs := _) (by kernel_rfl) Tryz.underlying26 (by kernel_rfl) (by kernel_rfl) (by kernel_rfl) (by kernel_rfl) (by kernel_rfl) hv0 h0)).mono fun e W' ⟨he, hn⟩ => ?_
  subst he
  exact ⟨_, rfl, _, _, _, [], _, [], hW', trodAll_mk1 (shut_bool (by kernel_rfl) true), trodAll_mk1 (hargs _ hn), rfl, hn.frame _, fun h => by cases h⟩

end Go.Proofs.YtcinkldpihkhbaaGreat
