/- The executable reading of the model and its soundness, or the program, or a run. (a part of the proof of: ChooseSides: for every input the law answers true and leaves its argument as it was.) -/
import Derived.Test.YtcinkldpihkhbaaGreatR4x0
import Derived.Test.YtcinkldpihkhbaaGreatR4x1
import Derived.Test.YtcinkldpihkhbaaGreatR4x2
import Derived.Test.YtcinkldpihkhbaaGreatR4x3
import Derived.Test.YtcinkldpihkhbaaGreatR4x4
import Derived.Test.YtcinkldpihkhbaaGreatR4x5
import Derived.Test.YtcinkldpihkhbaaGreatRows
set_option linter.unusedSectionVars false
set_option linter.unusedVariables false
set_option linter.unusedSimpArgs false
set_option linter.constructorNameAsVariable false
namespace Go.X
open Go.RowKit Go.WideShapes Go.ChangeShapes Go.Deep Go.Proofs.Tryz
set_option maxRecDepth 100000
theorem all4_0_0_0 : ∀ q, q < 3 → rn4 0 0 q J4_0 = true
  | 0, _ => rn4_0_0_0_0
  | 1, _ => rn4_0_0_1_0
  | 2, _ => rn4_0_0_2_0
  | q + 3, h => absurd h (by omega)
theorem all4_0_1_0 : ∀ q, q < 3 → rn4 0 1 q J4_0 = true
  | 0, _ => rn4_0_1_0_0
  | 1, _ => rn4_0_1_1_0
  | 2, _ => rn4_0_1_2_0
  | q + 3, h => absurd h (by omega)
theorem all4_0_0 : ∀ s, s < 2 → ∀ q, q < 3 → rn4 0 s q J4_0 = true
  | 0, _ => all4_0_0_0
  | 1, _ => all4_0_1_0
  | s + 2, h => absurd h (by omega)
theorem all4_1_0_0 : ∀ q, q < 3 → rn4 1 0 q J4_0 = true
  | 0, _ => rn4_1_0_0_0
  | 1, _ => rn4_1_0_1_0
  | 2, _ => rn4_1_0_2_0
  | q + 3, h => absurd h (by omega)
theorem all4_1_1_0 : ∀ q, q < 3 → rn4 1 1 q J4_0 = true
  | 0, _ => rn4_1_1_0_0
  | 1, _ => rn4_1_1_1_0
  | 2, _ => rn4_1_1_2_0
  | q + 3, h => absurd h (by omega)
theorem all4_1_0 : ∀ s, s < 2 → ∀ q, q < 3 → rn4 1 s q J4_0 = true
  | 0, _ => all4_1_0_0
  | 1, _ => all4_1_1_0
  | s + 2, h => absurd h (by omega)
theorem all4_2_0_0 : ∀ q, q < 3 → rn4 2 0 q J4_0 = true
  | 0, _ => rn4_2_0_0_0
  | 1, _ => rn4_2_0_1_0
  | 2, _ => rn4_2_0_2_0
  | q + 3, h => absurd h (by omega)
theorem all4_2_1_0 : ∀ q, q < 3 → rn4 2 1 q J4_0 = true
  | 0, _ => rn4_2_1_0_0
  | 1, _ => rn4_2_1_1_0
  | 2, _ => rn4_2_1_2_0
  | q + 3, h => absurd h (by omega)
theorem all4_2_0 : ∀ s, s < 2 → ∀ q, q < 3 → rn4 2 s q J4_0 = true
  | 0, _ => all4_2_0_0
  | 1, _ => all4_2_1_0
  | s + 2, h => absurd h (by omega)
theorem all4_3_0_0 : ∀ q, q < 3 → rn4 3 0 q J4_0 = true
  | 0, _ => rn4_3_0_0_0
  | 1, _ => rn4_3_0_1_0
  | 2, _ => rn4_3_0_2_0
  | q + 3, h => absurd h (by omega)
theorem all4_3_1_0 : ∀ q, q < 3 → rn4 3 1 q J4_0 = true
  | 0, _ => rn4_3_1_0_0
  | 1, _ => rn4_3_1_1_0
  | 2, _ => rn4_3_1_2_0
  | q + 3, h => absurd h (by omega)
theorem all4_3_0 : ∀ s, s < 2 → ∀ q, q < 3 → rn4 3 s q J4_0 = true
  | 0, _ => all4_3_0_0
  | 1, _ => all4_3_1_0
  | s + 2, h => absurd h (by omega)
theorem all4_0 : ∀ r, r < 4 → ∀ s, s < 2 → ∀ q, q < 3 → rn4 r s q J4_0 = true
  | 0, _ => all4_0_0
  | 1, _ => all4_1_0
  | 2, _ => all4_2_0
  | 3, _ => all4_3_0
  | r + 4, h => absurd h (by omega)
theorem all4_0_0_1 : ∀ q, q < 3 → rn4 0 0 q J4_1 = true
  | 0, _ => rn4_0_0_0_1
  | 1, _ => rn4_0_0_1_1
  | 2, _ => rn4_0_0_2_1
  | q + 3, h => absurd h (by omega)
theorem all4_0_1_1 : ∀ q, q < 3 → rn4 0 1 q J4_1 = true
  | 0, _ => rn4_0_1_0_1
  | 1, _ => rn4_0_1_1_1
  | 2, _ => rn4_0_1_2_1
  | q + 3, h => absurd h (by omega)
theorem all4_0_1 : ∀ s, s < 2 → ∀ q, q < 3 → rn4 0 s q J4_1 = true
  | 0, _ => all4_0_0_1
  | 1, _ => all4_0_1_1
  | s + 2, h => absurd h (by omega)
theorem all4_1_0_1 : ∀ q, q < 3 → rn4 1 0 q J4_1 = true
  | 0, _ => rn4_1_0_0_1
  | 1, _ => rn4_1_0_1_1
  | 2, _ => rn4_1_0_2_1
  | q + 3, h => absurd h (by omega)
theorem all4_1_1_1 : ∀ q, q < 3 → rn4 1 1 q J4_1 = true
  | 0, _ => rn4_1_1_0_1
  | 1, _ => rn4_1_1_1_1
  | 2, _ => rn4_1_1_2_1
  | q + 3, h => absurd h (by omega)
theorem all4_1_1 : ∀ s, s < 2 → ∀ q, q < 3 → rn4 1 s q J4_1 = true
  | 0, _ => all4_1_0_1
  | 1, _ => all4_1_1_1
  | s + 2, h => absurd h (by omega)
theorem all4_2_0_1 : ∀ q, q < 3 → rn4 2 0 q J4_1 = true
  | 0, _ => rn4_2_0_0_1
  | 1, _ => rn4_2_0_1_1
  | 2, _ => rn4_2_0_2_1
  | q + 3, h => absurd h (by omega)
theorem all4_2_1_1 : ∀ q, q < 3 → rn4 2 1 q J4_1 = true
  | 0, _ => rn4_2_1_0_1
  | 1, _ => rn4_2_1_1_1
  | 2, _ => rn4_2_1_2_1
  | q + 3, h => absurd h (by omega)
theorem all4_2_1 : ∀ s, s < 2 → ∀ q, q < 3 → rn4 2 s q J4_1 = true
  | 0, _ => all4_2_0_1
  | 1, _ => all4_2_1_1
  | s + 2, h => absurd h (by omega)
theorem all4_3_0_1 : ∀ q, q < 3 → rn4 3 0 q J4_1 = true
  | 0, _ => rn4_3_0_0_1
  | 1, _ => rn4_3_0_1_1
  | 2, _ => rn4_3_0_2_1
  | q + 3, h => absurd h (by omega)
theorem all4_3_1_1 : ∀ q, q < 3 → rn4 3 1 q J4_1 = true
  | 0, _ => rn4_3_1_0_1
  | 1, _ => rn4_3_1_1_1
  | 2, _ => rn4_3_1_2_1
  | q + 3, h => absurd h (by omega)
theorem all4_3_1 : ∀ s, s < 2 → ∀ q, q < 3 → rn4 3 s q J4_1 = true
  | 0, _ => all4_3_0_1
  | 1, _ => all4_3_1_1
  | s + 2, h => absurd h (by omega)
theorem all4_1 : ∀ r, r < 4 → ∀ s, s < 2 → ∀ q, q < 3 → rn4 r s q J4_1 = true
  | 0, _ => all4_0_1
  | 1, _ => all4_1_1
  | 2, _ => all4_2_1
  | 3, _ => all4_3_1
  | r + 4, h => absurd h (by omega)
theorem all4_0_0_2 : ∀ q, q < 3 → rn4 0 0 q J4_2 = true
  | 0, _ => rn4_0_0_0_2
  | 1, _ => rn4_0_0_1_2
  | 2, _ => rn4_0_0_2_2
  | q + 3, h => absurd h (by omega)
theorem all4_0_1_2 : ∀ q, q < 3 → rn4 0 1 q J4_2 = true
  | 0, _ => rn4_0_1_0_2
  | 1, _ => rn4_0_1_1_2
  | 2, _ => rn4_0_1_2_2
  | q + 3, h => absurd h (by omega)
theorem all4_0_2 : ∀ s, s < 2 → ∀ q, q < 3 → rn4 0 s q J4_2 = true
  | 0, _ => all4_0_0_2
  | 1, _ => all4_0_1_2
  | s + 2, h => absurd h (by omega)
theorem all4_1_0_2 : ∀ q, q < 3 → rn4 1 0 q J4_2 = true
  | 0, _ => rn4_1_0_0_2
  | 1, _ => rn4_1_0_1_2
  | 2, _ => rn4_1_0_2_2
  | q + 3, h => absurd h (by omega)
theorem all4_1_1_2 : ∀ q, q < 3 → rn4 1 1 q J4_2 = true
  | 0, _ => rn4_1_1_0_2
  | 1, _ => rn4_1_1_1_2
  | 2, _ => rn4_1_1_2_2
  | q + 3, h => absurd h (by omega)
theorem all4_1_2 : ∀ s, s < 2 → ∀ q, q < 3 → rn4 1 s q J4_2 = true
  | 0, _ => all4_1_0_2
  | 1, _ => all4_1_1_2
  | s + 2, h => absurd h (by omega)
theorem all4_2_0_2 : ∀ q, q < 3 → rn4 2 0 q J4_2 = true
  | 0, _ => rn4_2_0_0_2
  | 1, _ => rn4_2_0_1_2
  | 2, _ => rn4_2_0_2_2
  | q + 3, h => absurd h (by omega)
theorem all4_2_1_2 : ∀ q, q < 3 → rn4 2 1 q J4_2 = true
  | 0, _ => rn4_2_1_0_2
  | 1, _ => rn4_2_1_1_2
  | 2, _ => rn4_2_1_2_2
  | q + 3, h => absurd h (by omega)
theorem all4_2_2 : ∀ s, s < 2 → ∀ q, q < 3 → rn4 2 s q J4_2 = true
  | 0, _ => all4_2_0_2
  | 1, _ => all4_2_1_2
  | s + 2, h => absurd h (by omega)
theorem all4_3_0_2 : ∀ q, q < 3 → rn4 3 0 q J4_2 = true
  | 0, _ => rn4_3_0_0_2
  | 1, _ => rn4_3_0_1_2
  | 2, _ => rn4_3_0_2_2
  | q + 3, h => absurd h (by omega)
theorem all4_3_1_2 : ∀ q, q < 3 → rn4 3 1 q J4_2 = true
  | 0, _ => rn4_3_1_0_2
  | 1, _ => rn4_3_1_1_2
  | 2, _ => rn4_3_1_2_2
  | q + 3, h => absurd h (by omega)
theorem all4_3_2 : ∀ s, s < 2 → ∀ q, q < 3 → rn4 3 s q J4_2 = true
  | 0, _ => all4_3_0_2
  | 1, _ => all4_3_1_2
  | s + 2, h => absurd h (by omega)
theorem all4_2 : ∀ r, r < 4 → ∀ s, s < 2 → ∀ q, q < 3 → rn4 r s q J4_2 = true
  | 0, _ => all4_0_2
  | 1, _ => all4_1_2
  | 2, _ => all4_2_2
  | 3, _ => all4_3_2
  | r + 4, h => absurd h (by omega)
theorem any4 (r s q : Nat) (hr : r < 4) (hs : s < 2) (hq : q < 3) (ch : Nat → Option Bool) (hch : ∀ (k : Nat) (b : Bool), ch k = some b → (b || true) = true) : rn4 r s q (jfr ch fl4 0) = true := by
  have e : jfr ch fl4 0 = [.oq 0, lv true (ch 1) 1, .oq 2, .oq 3, .oq 4, .oq 5, .oq 6, .oq 7, .oq 8, .oq 9, .oq 10, .oq 11] := rfl
  rw [e]
  cases hc : ch 1 with
  | none => exact all4_0 r hr s hs q hq
  | some b =>
    cases b
    · exact all4_2 r hr s hs q hq
    · exact all4_1 r hr s hs q hq
/-- how two words stand, as ints -/
theorem ord3 (x y : Int) : IntKind.wrap .i64 (word x : Int) < IntKind.wrap .i64 (word y : Int) ∨ IntKind.wrap .i64 (word y : Int) < IntKind.wrap .i64 (word x : Int) ∨ word x = word y := by
  have hx := word_le x
  have hy := word_le y
  rw [wrap_i64', wrap_i64']
  omega
theorem sel4 (o k n x y : Int) : ∃ (wv : Nat → Nat) (tO tK tN tX tY : Tm), SelOk o k n x y wv tO tK tN tX tY ∧ ∀ ch : Nat → Option Bool, (∀ (k : Nat) (b : Bool), ch k = some b → (b || true) = true) →
    chkR true fl4 (ex FT 100000 BC4 (.x (.la (cellsOf tO tK tN tX tY)) :: .b false :: .x .li :: jfr ch fl4 0) [] .e n0) = true := by
  have hr : word n % 4 < 4 := Nat.mod_lt _ (by decide)
  obtain ⟨s, hs, hb⟩ : ∃ s, s < 2 ∧ Nat.beq s 0 = evenQ (word n) := by
    cases evenQ (word n)
    · exact ⟨1, by decide, rfl⟩
    · exact ⟨0, by decide, rfl⟩
  have hm : ∀ (wv : Nat → Nat), wv 4 = word n → ∀ inst : Sym, inst.wv = wv → tmv (.mb (word n % 4) (Nat.beq s 0) 4) = (word n : Int) := fun wv h4 inst hw => by
    rw [hb, ← h4]; exact tmv_mb hw 4
  rcases ord3 x y with h | h | h
  · exact ⟨wvO (word x) (word y) o k n x y, .v 2, .v 3, .mb (word n % 4) (Nat.beq s 0) 4, .v 0, .v 1,
      ⟨wvO_le (word_le _) (word_le _) _ _ _ _ _, h, fun inst hw => ⟨tmv_v hw 2, tmv_v hw 3, hm _ rfl inst hw, tmv_v hw 0, tmv_v hw 1⟩⟩, fun ch hch => any4 _ _ 0 hr hs (by decide) ch hch⟩
  · exact ⟨wvO (word y) (word x) o k n x y, .v 2, .v 3, .mb (word n % 4) (Nat.beq s 0) 4, .v 1, .v 0,
      ⟨wvO_le (word_le _) (word_le _) _ _ _ _ _, h, fun inst hw => ⟨tmv_v hw 2, tmv_v hw 3, hm _ rfl inst hw, tmv_v hw 1, tmv_v hw 0⟩⟩, fun ch hch => any4 _ _ 1 hr hs (by decide) ch hch⟩
  · refine ⟨wvE o k n x y, .v 2, .v 3, .mb (word n % 4) (Nat.beq s 0) 4, .v 5, .v 5,
      ⟨wvE_le _ _ _ _ _, (by show IntKind.wrap .i64 0 < IntKind.wrap .i64 1; decide), fun inst hw => ⟨tmv_v hw 2, tmv_v hw 3, hm _ rfl inst hw, tmv_v hw 5, ?_⟩⟩, fun ch hch => any4 _ _ 2 hr hs (by decide) ch hch⟩
    rw [← h]; exact tmv_v hw 5

theorem wakes4 : callF FT (ex FT 100000) [] (fun v _ _ => .nm [v] [] .e []) kpNo (FT.get f30) .e n1 = .nm [.b true] [] .e [] := by kernel_rfl
theorem law4 {v : Value} {W : World} (ha : ArgOk W v) : Calls prog 4 #[v] W fun e w' => e = .returned (.bool true) ∧ Below W.heap.size W w' :=
  law_of_runs (P := prog) (ok := true) (js := [4, 5, 6, 7, 8, 9, 10, 11, 12, 13, 14, 15]) (fl := fl4) (lim := 10) (fw := f30) (BC := BC4) (fuelB := 100000) (by kernel_rfl) FT_ok Go.Proofs.Tryz.func4 rfl rfl (by decide) rfl (by decide) (by decide)
    (by kernel_rfl) (by kernel_rfl) (by kernel_rfl) (by kernel_rfl) (by kernel_rfl) (by kernel_rfl) (by decide) wakes4 (sel4) ha
end Go.X
namespace Go.Proofs.YtcinkldpihkhbaaGreat
open Go.ChangeShapes Go.WideShapes Go.ChangeAt Go.RowKit
theorem Tryz.own : ownKnob Tryz.prog.godebug = none := by kernel_rfl
theorem Tryz.laidOut : laidOutB Tryz.prog = true := by kernel_rfl
set_option maxRecDepth 100000 in
theorem lifted (os : Os) (started : os.Started) (H : Type) (enc : TypeId × Value → H) :
    ReturnsInHanded Rows.chooseSidesRow.assume Tryz.checked os 4 .any (Rows.chooseSidesSpec.pre6 enc Tryz.prog Tryz.f4 Rows.chooseSidesRow.domain false) (Rows.chooseSidesSpec.post enc Tryz.prog Tryz.f4 false Rows.chooseSidesRow.fresh Rows.chooseSidesRow.handsOn Rows.chooseSidesRow.again) := by
  refine returnsInHanded_of_change (C := Tryz.checked) Tryz.own started (by kernel_rfl) Tryz.func4
    (ChangeSpec.witness6 (enc := enc) (C := Tryz.checked) false ⟨#[], #[.slice none 0 0], []⟩ 8 (by kernel_rfl) (by kernel_rfl) (by kernel_rfl) (by kernel_rfl)) ?_
  intro W base args ds gs before hval0 hW hcnd _
  have hval : ∀ (j : Nat) t v, Tryz.f4.params[j]? = some t → args[j]? = some v → Value.okWide Tryz.prog W .any base t v := hval0
  have hW' := hW
  obtain ⟨p, q, hA0, hV, rfl, hfz, hnd⟩ := hW
  have hA : DataW.TrodAll enc Tryz.prog W 0 (fun _ => true) true Tryz.f4.params.toList args.toList ds p := hA0
  rw [Tryz.params4] at hA hval
  obtain ⟨v0, d0, rfl, rfl, h0⟩ := trodAll_one hA
  obtain ⟨rfl, rfl⟩ := trodVars_none hV
  have hv0 := hval 0 22 v0 rfl rfl
  clear hA0 hval0
  simp only [List.append_nil] at hW'
  have hlt : ∀ x ∈ p, x.block < W.heap.size := fun x hx => by simpa using hW'.lt x hx
  have hargs : ∀ (W' : World), Below W.heap.size W W' → DataW.Trod enc Tryz.prog W' 0 (fun b => decide (b < W.heap.size)) true 22 v0 d0 p :=
    fun W' hn => Below.trod Tryz.laidOut (by kernel_rfl) (of_decide_eq_true (by kernel_rfl)) h0 hn hlt
  refine (Go.X.law4 (Go.X.arg_ok (e := 26) (ti := 3) (tw := 24) (fs := _) (by kernel_rfl) Tryz.underlying26 (by kernel_rfl) (by kernel_rfl) (by kernel_rfl) (by kernel_rfl) (by kernel_rfl) hv0 h0)).mono fun e W' ⟨he, hn⟩ => ?_
  subst he
  exact ⟨_, rfl, _, _, _, [], _, [], hW', trodAll_mk1 (shut_bool (by kernel_rfl) true), trodAll_mk1 (hargs _ hn), rfl, hn.frame _, fun h => by cases h⟩

end Go.Proofs.YtcinkldpihkhbaaGreat
