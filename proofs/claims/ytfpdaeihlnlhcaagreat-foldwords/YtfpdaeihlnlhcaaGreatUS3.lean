/- A part of the proof of this statement: FoldWords: for every input the law answers true and leaves its argument as it was. -/
import Derived.Test.YtfpdaeihlnlhcaaGreatUR3x0
import Derived.Test.YtfpdaeihlnlhcaaGreatUR3x1
import Derived.Test.YtfpdaeihlnlhcaaGreatUR3x2
import Derived.Test.YtfpdaeihlnlhcaaGreatUR3x3
import Derived.Test.YtfpdaeihlnlhcaaGreatUR3x4
import Derived.Test.YtfpdaeihlnlhcaaGreatUR3x5
import Derived.Test.YtfpdaeihlnlhcaaGreatUR3x6
import Derived.Test.YtfpdaeihlnlhcaaGreatUR3x7
import Derived.Test.YtfpdaeihlnlhcaaGreatUR3x8
import Derived.Test.YtfpdaeihlnlhcaaGreatUR3x9
import Derived.Test.YtfpdaeihlnlhcaaGreatUR3x10
import Derived.Test.YtfpdaeihlnlhcaaGreatUR3x11
import Derived.Test.YtfpdaeihlnlhcaaGreatUR3x12
import Derived.Test.YtfpdaeihlnlhcaaGreatUR3x13
import Derived.Test.YtfpdaeihlnlhcaaGreatUR3x14
import Derived.Test.YtfpdaeihlnlhcaaGreatUR3x15
import Derived.Test.YtfpdaeihlnlhcaaGreatUR3x16
import Derived.Test.YtfpdaeihlnlhcaaGreatUR3x17
import Derived.Test.YtfpdaeihlnlhcaaGreatUR3x18
import Derived.Test.YtfpdaeihlnlhcaaGreatUR3x19
import Derived.Test.YtfpdaeihlnlhcaaGreatUGT
import Derived.Test.YtfpdaeihlnlhcaaGreatUXSo
set_option linter.unusedSectionVars false
set_option linter.unusedVariables false
set_option linter.unusedSimpArgs false
set_option linter.constructorNameAsVariable false
namespace Go.X
set_option maxRecDepth 100000
/-- what is wanted of a choice -/
def G3 (o k n x y : Int) : Prop := ∃ (wv : Nat → Nat) (tO tK tN tX tY : Tm), SelOk o k n x y wv tO tK tN tX tY ∧ ∀ ch : Nat → Option Bool, (∀ (k : Nat) (b : Bool), ch k = some b → (b || true) = true) →
    chkR true fl3 (ex FT 100000 BC3 (.x (.la (cellsOf tO tK tN tX tY)) :: .b false :: .x .li :: jfr ch fl3 0) [] .e n0) = true
section
variable {o k n x y : Int}
theorem pick3 {tO tK tX tY : Tm} (hr : ∀ v o, rn3 tO tK tX tY v (lv true o 11) = true) (hO : ∀ inst : Sym, inst.wv = wvE o k n x y → tmv tO = (word o : Int)) (hK : ∀ inst : Sym, inst.wv = wvE o k n x y → tmv tK = (word k : Int))
    (hX : ∀ inst : Sym, inst.wv = wvE o k n x y → tmv tX = (word x : Int)) (hY : ∀ inst : Sym, inst.wv = wvE o k n x y → tmv tY = (word y : Int)) : G3 o k n x y :=
  ⟨wvE o k n x y, tO, tK, .v 4, tX, tY, ⟨wvE_le _ _ _ _ _, (by show IntKind.wrap .i64 0 < IntKind.wrap .i64 1; decide), fun inst hw => ⟨hO inst hw, hK inst hw, tmv_v hw 4, hX inst hw, hY inst hw⟩⟩, fun ch _ => hr (lv true (ch 4) 4) (ch 11)⟩
theorem at_lit {m : Nat} {z : Int} (h : word z = m) : ∀ inst : Sym, inst.wv = wvE o k n x y → tmv (.lit (.ofNat m)) = (word z : Int) := fun _ _ => by rw [h]; rfl
theorem at_rg {lo hi : Int} {i : Nat} {z : Int} (hz : wvE o k n x y i = word z) (h1 : lo ≤ IntKind.wrap .i64 (word z : Int)) (h2 : IntKind.wrap .i64 (word z : Int) ≤ hi) : ∀ inst : Sym, inst.wv = wvE o k n x y → tmv (.rg lo hi i) = (word z : Int) := fun inst hw => by
  have e : inst.wv i = word z := by rw [hw, hz]
  show (if lo ≤ IntKind.wrap .i64 (inst.wv i : Int) ∧ IntKind.wrap .i64 (inst.wv i : Int) ≤ hi then (inst.wv i : Int) else IntKind.wrap .u64 lo) = _
  rw [e, if_pos ⟨h1, h2⟩]
theorem at_md {r i : Nat} {z : Int} (hz : wvE o k n x y i = word z) (h : word z % 2 = r) : ∀ inst : Sym, inst.wv = wvE o k n x y → tmv (.md 2 r i) = (word z : Int) := fun inst hw => by
  have e : inst.wv i = word z := by rw [hw, hz]
  show ((if inst.wv i % 2 = r then inst.wv i else r : Nat) : Int) = _
  rw [e, if_pos h]
theorem at_qx {q : QC} (h : qB q (word x : Int) (word y : Int) = true) : ∀ inst : Sym, inst.wv = wvE o k n x y → tmv (.qx q) = (word x : Int) := fun inst hw => by
  show (if qB q (inst.wv 5) (inst.wv 6) = true then (inst.wv 5 : Int) else (qD q.c).1) = _
  rw [hw]
  exact if_pos h
theorem at_qy {q : QC} (h : qB q (word x : Int) (word y : Int) = true) : ∀ inst : Sym, inst.wv = wvE o k n x y → tmv (.qy q) = (word y : Int) := fun inst hw => by
  show (if qB q (inst.wv 5) (inst.wv 6) = true then (inst.wv 6 : Int) else (qD q.c).2) = _
  rw [hw]
  exact if_pos h
theorem vX : ∀ inst : Sym, inst.wv = wvE o k n x y → tmv (.v 5) = (word x : Int) := fun _ hw => tmv_v hw 5
theorem vY : ∀ inst : Sym, inst.wv = wvE o k n x y → tmv (.v 6) = (word y : Int) := fun _ hw => tmv_v hw 6
theorem vK : ∀ inst : Sym, inst.wv = wvE o k n x y → tmv (.v 3) = (word k : Int) := fun _ hw => tmv_v hw 3
end
theorem cls78 (sg : Bool) (s : Nat) (sg' : Bool) (s' : Nat) (x y : Int) : qB (q3 7 sg s sg' s') x y = true ∨ qB (q3 8 sg s sg' s') x y = true := by
  simp only [qB, q3, qP]
  rcases Int.lt_or_le 63 (cnF sg' s' y) with h | h
  · exact .inr (decide_eq_true h)
  · exact .inl (decide_eq_true h)
theorem cls46 (s : Nat) (sg' : Bool) (s' : Nat) (x y : Int) : qB (q3 4 false s sg' s') x y = true ∨ qB (q3 6 false s sg' s') x y = true := by
  simp only [qB, q3, qP, bnot_eq, Bool.not_false, Bool.true_or, Bool.and_true]
  by_cases h : cnF sg' s' y = 0
  · exact .inl (decide_eq_true h)
  · exact .inr (decide_eq_true h)
theorem cls456 (s : Nat) (sg' : Bool) (s' : Nat) (x y : Int) : qB (q3 4 true s sg' s') x y = true ∨ qB (q3 5 true s sg' s') x y = true ∨ qB (q3 6 true s sg' s') x y = true := by
  simp only [qB, q3, qP, bnot_eq, Bool.not_true, Bool.false_or, Bool.and_eq_true]
  by_cases h : cnF sg' s' y = 0
  · exact .inl (decide_eq_true h)
  · by_cases h2 : cnF sg' s' y = 18446744073709551615
    · exact .inr (.inl (decide_eq_true h2))
    · exact .inr (.inr ⟨decide_eq_true h, decide_eq_true h2⟩)
theorem cls123 (sg : Bool) (s : Nat) (sg' : Bool) (s' : Nat) (x y : Int) : qB (q3 1 sg s sg' s') x y = true ∨ qB (q3 2 sg s sg' s') x y = true ∨ qB (q3 3 sg s sg' s') x y = true := by
  have h1 := @cn_fits Sym.none sg s x
  have h2 := @cn_fits Sym.none sg' s' y
  simp only [qB, q3, qP, ifB_eq]
  cases sg
  · simp only [Bool.false_eq_true, if_false]
    rcases Int.lt_trichotomy (cnF false s x) (cnF sg' s' y) with h | h | h
    · exact .inl (decide_eq_true h)
    · exact .inr (.inl (decide_eq_true h))
    · exact .inr (.inr (decide_eq_true h))
  · simp only [if_true]
    rcases Int.lt_trichotomy (IntKind.wrap .i64 (cnF true s x)) (IntKind.wrap .i64 (cnF sg' s' y)) with h | h | h
    · exact .inl (decide_eq_true h)
    · refine .inr (.inl (decide_eq_true ?_))
      rw [wrap_i64', wrap_i64'] at h
      omega
    · exact .inr (.inr (decide_eq_true h))
/-- which number a word is, if it is one of a few -/
theorem which (z : Int) (m : Int) (hm : m ≤ 100) : IntKind.wrap .i64 (word z : Int) ≤ 0 ∨ m ≤ IntKind.wrap .i64 (word z : Int) ∨ (1 ≤ word z ∧ (word z : Int) < m) := by
  have := word_le z
  rw [wrap_i64']
  omega
theorem lo_le (z : Int) : (.negSucc 9223372036854775807 : Int) ≤ IntKind.wrap .i64 (word z : Int) := by
  rw [wrap_i64']; show (-9223372036854775808 : Int) ≤ _; omega
theorem le_hi (z : Int) : IntKind.wrap .i64 (word z : Int) ≤ (.ofNat 9223372036854775807 : Int) := by
  rw [wrap_i64']; show _ ≤ (9223372036854775807 : Int); omega
theorem s1_1 (o k n x y : Int) (ho : word o = 1) (hk : word k = 1) : G3 o k n x y := by
  exact pick3 rn3_r1_1_0 (at_lit ho) (at_lit hk) vX vY
theorem s1_2 (o k n x y : Int) (ho : word o = 1) (hk : word k = 2) : G3 o k n x y := by
  exact pick3 (fun v _ => rn3_r1_2_0 v _) (at_lit ho) (at_lit hk) vX vY
theorem s1_3 (o k n x y : Int) (ho : word o = 1) (hk : word k = 3) : G3 o k n x y := by
  exact pick3 (fun v _ => rn3_r1_3_0 v _) (at_lit ho) (at_lit hk) vX vY
theorem s1_4 (o k n x y : Int) (ho : word o = 1) (hk : word k = 4) : G3 o k n x y := by
  exact pick3 (fun v _ => rn3_r1_4_0 v _) (at_lit ho) (at_lit hk) vX vY
theorem s1_5 (o k n x y : Int) (ho : word o = 1) (hk : word k = 5) : G3 o k n x y := by
  exact pick3 (fun v _ => rn3_r1_5_0 v _) (at_lit ho) (at_lit hk) vX vY
theorem s1_6 (o k n x y : Int) (ho : word o = 1) (hk : word k = 6) : G3 o k n x y := by
  exact pick3 (fun v _ => rn3_r1_6_0 v _) (at_lit ho) (at_lit hk) vX vY
theorem s1_7 (o k n x y : Int) (ho : word o = 1) (hk : word k = 7) : G3 o k n x y := by
  exact pick3 (fun v _ => rn3_r1_7_0 v _) (at_lit ho) (at_lit hk) vX vY
theorem s1_8 (o k n x y : Int) (ho : word o = 1) (hk : word k = 8) : G3 o k n x y := by
  exact pick3 (fun v _ => rn3_r1_8_0 v _) (at_lit ho) (at_lit hk) vX vY
theorem s1_9 (o k n x y : Int) (ho : word o = 1) (hk : word k = 9) : G3 o k n x y := by
  exact pick3 (fun v _ => rn3_r1_9_0 v _) (at_lit ho) (at_lit hk) vX vY
theorem s1_10 (o k n x y : Int) (ho : word o = 1) (hk : word k = 10) : G3 o k n x y := by
  exact pick3 (fun v _ => rn3_r1_10_0 v _) (at_lit ho) (at_lit hk) vX vY
theorem s1_11 (o k n x y : Int) (ho : word o = 1) (hk : word k = 11) : G3 o k n x y := by
  exact pick3 rn3_r1_11_0 (at_lit ho) (at_lit hk) vX vY
theorem s1 (o k n x y : Int) (ho : word o = 1) : G3 o k n x y := by
  rcases which k 12 (by decide) with h | h | ⟨h1, h2⟩
  · exact pick3 rn3_klo1 (at_lit ho) (at_rg rfl (lo_le k) h) vX vY
  · exact pick3 rn3_khi1 (at_lit ho) (at_rg rfl h (le_hi k)) vX vY
  · obtain hk | hk | hk | hk | hk | hk | hk | hk | hk | hk | hk : word k = 1 ∨ word k = 2 ∨ word k = 3 ∨ word k = 4 ∨ word k = 5 ∨ word k = 6 ∨ word k = 7 ∨ word k = 8 ∨ word k = 9 ∨ word k = 10 ∨ word k = 11 := by omega
    · exact s1_1 o k n x y ho hk
    · exact s1_2 o k n x y ho hk
    · exact s1_3 o k n x y ho hk
    · exact s1_4 o k n x y ho hk
    · exact s1_5 o k n x y ho hk
    · exact s1_6 o k n x y ho hk
    · exact s1_7 o k n x y ho hk
    · exact s1_8 o k n x y ho hk
    · exact s1_9 o k n x y ho hk
    · exact s1_10 o k n x y ho hk
    · exact s1_11 o k n x y ho hk
theorem s2_1 (o k n x y : Int) (ho : word o = 2) (hk : word k = 1) : G3 o k n x y := by
  exact pick3 rn3_r2_1_0 (at_lit ho) (at_lit hk) vX vY
theorem s2_2 (o k n x y : Int) (ho : word o = 2) (hk : word k = 2) : G3 o k n x y := by
  exact pick3 (fun v _ => rn3_r2_2_0 v _) (at_lit ho) (at_lit hk) vX vY
theorem s2_3 (o k n x y : Int) (ho : word o = 2) (hk : word k = 3) : G3 o k n x y := by
  exact pick3 (fun v _ => rn3_r2_3_0 v _) (at_lit ho) (at_lit hk) vX vY
theorem s2_4 (o k n x y : Int) (ho : word o = 2) (hk : word k = 4) : G3 o k n x y := by
  exact pick3 (fun v _ => rn3_r2_4_0 v _) (at_lit ho) (at_lit hk) vX vY
theorem s2_5 (o k n x y : Int) (ho : word o = 2) (hk : word k = 5) : G3 o k n x y := by
  exact pick3 (fun v _ => rn3_r2_5_0 v _) (at_lit ho) (at_lit hk) vX vY
theorem s2_6 (o k n x y : Int) (ho : word o = 2) (hk : word k = 6) : G3 o k n x y := by
  exact pick3 (fun v _ => rn3_r2_6_0 v _) (at_lit ho) (at_lit hk) vX vY
theorem s2_7 (o k n x y : Int) (ho : word o = 2) (hk : word k = 7) : G3 o k n x y := by
  exact pick3 (fun v _ => rn3_r2_7_0 v _) (at_lit ho) (at_lit hk) vX vY
theorem s2_8 (o k n x y : Int) (ho : word o = 2) (hk : word k = 8) : G3 o k n x y := by
  exact pick3 (fun v _ => rn3_r2_8_0 v _) (at_lit ho) (at_lit hk) vX vY
theorem s2_9 (o k n x y : Int) (ho : word o = 2) (hk : word k = 9) : G3 o k n x y := by
  exact pick3 (fun v _ => rn3_r2_9_0 v _) (at_lit ho) (at_lit hk) vX vY
theorem s2_10 (o k n x y : Int) (ho : word o = 2) (hk : word k = 10) : G3 o k n x y := by
  exact pick3 (fun v _ => rn3_r2_10_0 v _) (at_lit ho) (at_lit hk) vX vY
theorem s2_11 (o k n x y : Int) (ho : word o = 2) (hk : word k = 11) : G3 o k n x y := by
  exact pick3 rn3_r2_11_0 (at_lit ho) (at_lit hk) vX vY
theorem s2 (o k n x y : Int) (ho : word o = 2) : G3 o k n x y := by
  rcases which k 12 (by decide) with h | h | ⟨h1, h2⟩
  · exact pick3 rn3_klo2 (at_lit ho) (at_rg rfl (lo_le k) h) vX vY
  · exact pick3 rn3_khi2 (at_lit ho) (at_rg rfl h (le_hi k)) vX vY
  · obtain hk | hk | hk | hk | hk | hk | hk | hk | hk | hk | hk : word k = 1 ∨ word k = 2 ∨ word k = 3 ∨ word k = 4 ∨ word k = 5 ∨ word k = 6 ∨ word k = 7 ∨ word k = 8 ∨ word k = 9 ∨ word k = 10 ∨ word k = 11 := by omega
    · exact s2_1 o k n x y ho hk
    · exact s2_2 o k n x y ho hk
    · exact s2_3 o k n x y ho hk
    · exact s2_4 o k n x y ho hk
    · exact s2_5 o k n x y ho hk
    · exact s2_6 o k n x y ho hk
    · exact s2_7 o k n x y ho hk
    · exact s2_8 o k n x y ho hk
    · exact s2_9 o k n x y ho hk
    · exact s2_10 o k n x y ho hk
    · exact s2_11 o k n x y ho hk
theorem s3_1 (o k n x y : Int) (ho : word o = 3) (hk : word k = 1) : G3 o k n x y := by
  exact pick3 rn3_r3_1_0 (at_lit ho) (at_lit hk) vX vY
theorem s3_2 (o k n x y : Int) (ho : word o = 3) (hk : word k = 2) : G3 o k n x y := by
  exact pick3 (fun v _ => rn3_r3_2_0 v _) (at_lit ho) (at_lit hk) vX vY
theorem s3_3 (o k n x y : Int) (ho : word o = 3) (hk : word k = 3) : G3 o k n x y := by
  exact pick3 (fun v _ => rn3_r3_3_0 v _) (at_lit ho) (at_lit hk) vX vY
theorem s3_4 (o k n x y : Int) (ho : word o = 3) (hk : word k = 4) : G3 o k n x y := by
  exact pick3 (fun v _ => rn3_r3_4_0 v _) (at_lit ho) (at_lit hk) vX vY
theorem s3_5 (o k n x y : Int) (ho : word o = 3) (hk : word k = 5) : G3 o k n x y := by
  exact pick3 (fun v _ => rn3_r3_5_0 v _) (at_lit ho) (at_lit hk) vX vY
theorem s3_6 (o k n x y : Int) (ho : word o = 3) (hk : word k = 6) : G3 o k n x y := by
  exact pick3 (fun v _ => rn3_r3_6_0 v _) (at_lit ho) (at_lit hk) vX vY
theorem s3_7 (o k n x y : Int) (ho : word o = 3) (hk : word k = 7) : G3 o k n x y := by
  exact pick3 (fun v _ => rn3_r3_7_0 v _) (at_lit ho) (at_lit hk) vX vY
theorem s3_8 (o k n x y : Int) (ho : word o = 3) (hk : word k = 8) : G3 o k n x y := by
  exact pick3 (fun v _ => rn3_r3_8_0 v _) (at_lit ho) (at_lit hk) vX vY
theorem s3_9 (o k n x y : Int) (ho : word o = 3) (hk : word k = 9) : G3 o k n x y := by
  exact pick3 (fun v _ => rn3_r3_9_0 v _) (at_lit ho) (at_lit hk) vX vY
theorem s3_10 (o k n x y : Int) (ho : word o = 3) (hk : word k = 10) : G3 o k n x y := by
  exact pick3 (fun v _ => rn3_r3_10_0 v _) (at_lit ho) (at_lit hk) vX vY
theorem s3_11 (o k n x y : Int) (ho : word o = 3) (hk : word k = 11) : G3 o k n x y := by
  exact pick3 rn3_r3_11_0 (at_lit ho) (at_lit hk) vX vY
theorem s3 (o k n x y : Int) (ho : word o = 3) : G3 o k n x y := by
  rcases which k 12 (by decide) with h | h | ⟨h1, h2⟩
  · exact pick3 rn3_klo3 (at_lit ho) (at_rg rfl (lo_le k) h) vX vY
  · exact pick3 rn3_khi3 (at_lit ho) (at_rg rfl h (le_hi k)) vX vY
  · obtain hk | hk | hk | hk | hk | hk | hk | hk | hk | hk | hk : word k = 1 ∨ word k = 2 ∨ word k = 3 ∨ word k = 4 ∨ word k = 5 ∨ word k = 6 ∨ word k = 7 ∨ word k = 8 ∨ word k = 9 ∨ word k = 10 ∨ word k = 11 := by omega
    · exact s3_1 o k n x y ho hk
    · exact s3_2 o k n x y ho hk
    · exact s3_3 o k n x y ho hk
    · exact s3_4 o k n x y ho hk
    · exact s3_5 o k n x y ho hk
    · exact s3_6 o k n x y ho hk
    · exact s3_7 o k n x y ho hk
    · exact s3_8 o k n x y ho hk
    · exact s3_9 o k n x y ho hk
    · exact s3_10 o k n x y ho hk
    · exact s3_11 o k n x y ho hk
theorem s4_1 (o k n x y : Int) (ho : word o = 4) (hk : word k = 1) : G3 o k n x y := by
  exact pick3 rn3_r4_1_0 (at_lit ho) (at_lit hk) vX vY
theorem s4_2 (o k n x y : Int) (ho : word o = 4) (hk : word k = 2) : G3 o k n x y := by
  rcases cls456 56 true 56 (word x) (word y) with h | h | h
  · exact pick3 (fun v _ => rn3_r4_2_4 v _) (at_lit ho) (at_lit hk) (at_qx h) (at_qy h)
  · exact pick3 (fun v _ => rn3_r4_2_5 v _) (at_lit ho) (at_lit hk) (at_qx h) (at_qy h)
  · exact pick3 (fun v _ => rn3_r4_2_6 v _) (at_lit ho) (at_lit hk) (at_qx h) (at_qy h)
theorem s4_3 (o k n x y : Int) (ho : word o = 4) (hk : word k = 3) : G3 o k n x y := by
  rcases cls456 48 true 48 (word x) (word y) with h | h | h
  · exact pick3 (fun v _ => rn3_r4_3_4 v _) (at_lit ho) (at_lit hk) (at_qx h) (at_qy h)
  · exact pick3 (fun v _ => rn3_r4_3_5 v _) (at_lit ho) (at_lit hk) (at_qx h) (at_qy h)
  · exact pick3 (fun v _ => rn3_r4_3_6 v _) (at_lit ho) (at_lit hk) (at_qx h) (at_qy h)
theorem s4_4 (o k n x y : Int) (ho : word o = 4) (hk : word k = 4) : G3 o k n x y := by
  rcases cls456 32 true 32 (word x) (word y) with h | h | h
  · exact pick3 (fun v _ => rn3_r4_4_4 v _) (at_lit ho) (at_lit hk) (at_qx h) (at_qy h)
  · exact pick3 (fun v _ => rn3_r4_4_5 v _) (at_lit ho) (at_lit hk) (at_qx h) (at_qy h)
  · exact pick3 (fun v _ => rn3_r4_4_6 v _) (at_lit ho) (at_lit hk) (at_qx h) (at_qy h)
theorem s4_5 (o k n x y : Int) (ho : word o = 4) (hk : word k = 5) : G3 o k n x y := by
  rcases cls456 0 true 0 (word x) (word y) with h | h | h
  · exact pick3 (fun v _ => rn3_r4_5_4 v _) (at_lit ho) (at_lit hk) (at_qx h) (at_qy h)
  · exact pick3 (fun v _ => rn3_r4_5_5 v _) (at_lit ho) (at_lit hk) (at_qx h) (at_qy h)
  · exact pick3 (fun v _ => rn3_r4_5_6 v _) (at_lit ho) (at_lit hk) (at_qx h) (at_qy h)
theorem s4_6 (o k n x y : Int) (ho : word o = 4) (hk : word k = 6) : G3 o k n x y := by
  rcases cls46 56 false 56 (word x) (word y) with h | h
  · exact pick3 (fun v _ => rn3_r4_6_4 v _) (at_lit ho) (at_lit hk) (at_qx h) (at_qy h)
  · exact pick3 (fun v _ => rn3_r4_6_6 v _) (at_lit ho) (at_lit hk) (at_qx h) (at_qy h)
theorem s4_7 (o k n x y : Int) (ho : word o = 4) (hk : word k = 7) : G3 o k n x y := by
  rcases cls46 48 false 48 (word x) (word y) with h | h
  · exact pick3 (fun v _ => rn3_r4_7_4 v _) (at_lit ho) (at_lit hk) (at_qx h) (at_qy h)
  · exact pick3 (fun v _ => rn3_r4_7_6 v _) (at_lit ho) (at_lit hk) (at_qx h) (at_qy h)
theorem s4_8 (o k n x y : Int) (ho : word o = 4) (hk : word k = 8) : G3 o k n x y := by
  rcases cls46 32 false 32 (word x) (word y) with h | h
  · exact pick3 (fun v _ => rn3_r4_8_4 v _) (at_lit ho) (at_lit hk) (at_qx h) (at_qy h)
  · exact pick3 (fun v _ => rn3_r4_8_6 v _) (at_lit ho) (at_lit hk) (at_qx h) (at_qy h)
theorem s4_9 (o k n x y : Int) (ho : word o = 4) (hk : word k = 9) : G3 o k n x y := by
  rcases cls46 0 false 0 (word x) (word y) with h | h
  · exact pick3 (fun v _ => rn3_r4_9_4 v _) (at_lit ho) (at_lit hk) (at_qx h) (at_qy h)
  · exact pick3 (fun v _ => rn3_r4_9_6 v _) (at_lit ho) (at_lit hk) (at_qx h) (at_qy h)
theorem s4_10 (o k n x y : Int) (ho : word o = 4) (hk : word k = 10) : G3 o k n x y := by
  exact pick3 (fun v _ => rn3_r4_10_0 v _) (at_lit ho) (at_lit hk) vX vY
theorem s4_11 (o k n x y : Int) (ho : word o = 4) (hk : word k = 11) : G3 o k n x y := by
  exact pick3 rn3_r4_11_0 (at_lit ho) (at_lit hk) vX vY
theorem s4 (o k n x y : Int) (ho : word o = 4) : G3 o k n x y := by
  rcases which k 12 (by decide) with h | h | ⟨h1, h2⟩
  · exact pick3 rn3_klo4 (at_lit ho) (at_rg rfl (lo_le k) h) vX vY
  · exact pick3 rn3_khi4 (at_lit ho) (at_rg rfl h (le_hi k)) vX vY
  · obtain hk | hk | hk | hk | hk | hk | hk | hk | hk | hk | hk : word k = 1 ∨ word k = 2 ∨ word k = 3 ∨ word k = 4 ∨ word k = 5 ∨ word k = 6 ∨ word k = 7 ∨ word k = 8 ∨ word k = 9 ∨ word k = 10 ∨ word k = 11 := by omega
    · exact s4_1 o k n x y ho hk
    · exact s4_2 o k n x y ho hk
    · exact s4_3 o k n x y ho hk
    · exact s4_4 o k n x y ho hk
    · exact s4_5 o k n x y ho hk
    · exact s4_6 o k n x y ho hk
    · exact s4_7 o k n x y ho hk
    · exact s4_8 o k n x y ho hk
    · exact s4_9 o k n x y ho hk
    · exact s4_10 o k n x y ho hk
    · exact s4_11 o k n x y ho hk
theorem s5_1 (o k n x y : Int) (ho : word o = 5) (hk : word k = 1) : G3 o k n x y := by
  exact pick3 rn3_r5_1_0 (at_lit ho) (at_lit hk) vX vY
theorem s5_2 (o k n x y : Int) (ho : word o = 5) (hk : word k = 2) : G3 o k n x y := by
  rcases cls456 56 true 56 (word x) (word y) with h | h | h
  · exact pick3 (fun v _ => rn3_r5_2_4 v _) (at_lit ho) (at_lit hk) (at_qx h) (at_qy h)
  · exact pick3 (fun v _ => rn3_r5_2_5 v _) (at_lit ho) (at_lit hk) (at_qx h) (at_qy h)
  · exact pick3 (fun v _ => rn3_r5_2_6 v _) (at_lit ho) (at_lit hk) (at_qx h) (at_qy h)
theorem s5_3 (o k n x y : Int) (ho : word o = 5) (hk : word k = 3) : G3 o k n x y := by
  rcases cls456 48 true 48 (word x) (word y) with h | h | h
  · exact pick3 (fun v _ => rn3_r5_3_4 v _) (at_lit ho) (at_lit hk) (at_qx h) (at_qy h)
  · exact pick3 (fun v _ => rn3_r5_3_5 v _) (at_lit ho) (at_lit hk) (at_qx h) (at_qy h)
  · exact pick3 (fun v _ => rn3_r5_3_6 v _) (at_lit ho) (at_lit hk) (at_qx h) (at_qy h)
theorem s5_4 (o k n x y : Int) (ho : word o = 5) (hk : word k = 4) : G3 o k n x y := by
  rcases cls456 32 true 32 (word x) (word y) with h | h | h
  · exact pick3 (fun v _ => rn3_r5_4_4 v _) (at_lit ho) (at_lit hk) (at_qx h) (at_qy h)
  · exact pick3 (fun v _ => rn3_r5_4_5 v _) (at_lit ho) (at_lit hk) (at_qx h) (at_qy h)
  · exact pick3 (fun v _ => rn3_r5_4_6 v _) (at_lit ho) (at_lit hk) (at_qx h) (at_qy h)
theorem s5_5 (o k n x y : Int) (ho : word o = 5) (hk : word k = 5) : G3 o k n x y := by
  rcases cls456 0 true 0 (word x) (word y) with h | h | h
  · exact pick3 (fun v _ => rn3_r5_5_4 v _) (at_lit ho) (at_lit hk) (at_qx h) (at_qy h)
  · exact pick3 (fun v _ => rn3_r5_5_5 v _) (at_lit ho) (at_lit hk) (at_qx h) (at_qy h)
  · exact pick3 (fun v _ => rn3_r5_5_6 v _) (at_lit ho) (at_lit hk) (at_qx h) (at_qy h)
theorem s5_6 (o k n x y : Int) (ho : word o = 5) (hk : word k = 6) : G3 o k n x y := by
  rcases cls46 56 false 56 (word x) (word y) with h | h
  · exact pick3 (fun v _ => rn3_r5_6_4 v _) (at_lit ho) (at_lit hk) (at_qx h) (at_qy h)
  · exact pick3 (fun v _ => rn3_r5_6_6 v _) (at_lit ho) (at_lit hk) (at_qx h) (at_qy h)
theorem s5_7 (o k n x y : Int) (ho : word o = 5) (hk : word k = 7) : G3 o k n x y := by
  rcases cls46 48 false 48 (word x) (word y) with h | h
  · exact pick3 (fun v _ => rn3_r5_7_4 v _) (at_lit ho) (at_lit hk) (at_qx h) (at_qy h)
  · exact pick3 (fun v _ => rn3_r5_7_6 v _) (at_lit ho) (at_lit hk) (at_qx h) (at_qy h)
theorem s5_8 (o k n x y : Int) (ho : word o = 5) (hk : word k = 8) : G3 o k n x y := by
  rcases cls46 32 false 32 (word x) (word y) with h | h
  · exact pick3 (fun v _ => rn3_r5_8_4 v _) (at_lit ho) (at_lit hk) (at_qx h) (at_qy h)
  · exact pick3 (fun v _ => rn3_r5_8_6 v _) (at_lit ho) (at_lit hk) (at_qx h) (at_qy h)
theorem s5_9 (o k n x y : Int) (ho : word o = 5) (hk : word k = 9) : G3 o k n x y := by
  rcases cls46 0 false 0 (word x) (word y) with h | h
  · exact pick3 (fun v _ => rn3_r5_9_4 v _) (at_lit ho) (at_lit hk) (at_qx h) (at_qy h)
  · exact pick3 (fun v _ => rn3_r5_9_6 v _) (at_lit ho) (at_lit hk) (at_qx h) (at_qy h)
theorem s5_10 (o k n x y : Int) (ho : word o = 5) (hk : word k = 10) : G3 o k n x y := by
  exact pick3 rn3_r5_10_0 (at_lit ho) (at_lit hk) vX vY
theorem s5_11 (o k n x y : Int) (ho : word o = 5) (hk : word k = 11) : G3 o k n x y := by
  exact pick3 rn3_r5_11_0 (at_lit ho) (at_lit hk) vX vY
theorem s5 (o k n x y : Int) (ho : word o = 5) : G3 o k n x y := by
  rcases which k 12 (by decide) with h | h | ⟨h1, h2⟩
  · exact pick3 rn3_klo5 (at_lit ho) (at_rg rfl (lo_le k) h) vX vY
  · exact pick3 rn3_khi5 (at_lit ho) (at_rg rfl h (le_hi k)) vX vY
  · obtain hk | hk | hk | hk | hk | hk | hk | hk | hk | hk | hk : word k = 1 ∨ word k = 2 ∨ word k = 3 ∨ word k = 4 ∨ word k = 5 ∨ word k = 6 ∨ word k = 7 ∨ word k = 8 ∨ word k = 9 ∨ word k = 10 ∨ word k = 11 := by omega
    · exact s5_1 o k n x y ho hk
    · exact s5_2 o k n x y ho hk
    · exact s5_3 o k n x y ho hk
    · exact s5_4 o k n x y ho hk
    · exact s5_5 o k n x y ho hk
    · exact s5_6 o k n x y ho hk
    · exact s5_7 o k n x y ho hk
    · exact s5_8 o k n x y ho hk
    · exact s5_9 o k n x y ho hk
    · exact s5_10 o k n x y ho hk
    · exact s5_11 o k n x y ho hk
theorem s6_1 (o k n x y : Int) (ho : word o = 6) (hk : word k = 1) : G3 o k n x y := by
  rcases Nat.mod_two_eq_zero_or_one (word x) with hx | hx <;> rcases Nat.mod_two_eq_zero_or_one (word y) with hy | hy
  · exact pick3 (fun v _ => rn3_r6_1_00 v _) (at_lit ho) (at_lit hk) (at_md rfl hx) (at_md rfl hy)
  · exact pick3 (fun v _ => rn3_r6_1_01 v _) (at_lit ho) (at_lit hk) (at_md rfl hx) (at_md rfl hy)
  · exact pick3 (fun v _ => rn3_r6_1_10 v _) (at_lit ho) (at_lit hk) (at_md rfl hx) (at_md rfl hy)
  · exact pick3 (fun v _ => rn3_r6_1_11 v _) (at_lit ho) (at_lit hk) (at_md rfl hx) (at_md rfl hy)
theorem s6_2 (o k n x y : Int) (ho : word o = 6) (hk : word k = 2) : G3 o k n x y := by
  exact pick3 (fun v _ => rn3_r6_2_0 v _) (at_lit ho) (at_lit hk) vX vY
theorem s6_3 (o k n x y : Int) (ho : word o = 6) (hk : word k = 3) : G3 o k n x y := by
  exact pick3 (fun v _ => rn3_r6_3_0 v _) (at_lit ho) (at_lit hk) vX vY
theorem s6_4 (o k n x y : Int) (ho : word o = 6) (hk : word k = 4) : G3 o k n x y := by
  exact pick3 (fun v _ => rn3_r6_4_0 v _) (at_lit ho) (at_lit hk) vX vY
theorem s6_5 (o k n x y : Int) (ho : word o = 6) (hk : word k = 5) : G3 o k n x y := by
  exact pick3 (fun v _ => rn3_r6_5_0 v _) (at_lit ho) (at_lit hk) vX vY
theorem s6_6 (o k n x y : Int) (ho : word o = 6) (hk : word k = 6) : G3 o k n x y := by
  exact pick3 (fun v _ => rn3_r6_6_0 v _) (at_lit ho) (at_lit hk) vX vY
theorem s6_7 (o k n x y : Int) (ho : word o = 6) (hk : word k = 7) : G3 o k n x y := by
  exact pick3 (fun v _ => rn3_r6_7_0 v _) (at_lit ho) (at_lit hk) vX vY
theorem s6_8 (o k n x y : Int) (ho : word o = 6) (hk : word k = 8) : G3 o k n x y := by
  exact pick3 (fun v _ => rn3_r6_8_0 v _) (at_lit ho) (at_lit hk) vX vY
theorem s6_9 (o k n x y : Int) (ho : word o = 6) (hk : word k = 9) : G3 o k n x y := by
  exact pick3 (fun v _ => rn3_r6_9_0 v _) (at_lit ho) (at_lit hk) vX vY
theorem s6_10 (o k n x y : Int) (ho : word o = 6) (hk : word k = 10) : G3 o k n x y := by
  exact pick3 rn3_r6_10_0 (at_lit ho) (at_lit hk) vX vY
theorem s6_11 (o k n x y : Int) (ho : word o = 6) (hk : word k = 11) : G3 o k n x y := by
  exact pick3 rn3_r6_11_0 (at_lit ho) (at_lit hk) vX vY
theorem s6 (o k n x y : Int) (ho : word o = 6) : G3 o k n x y := by
  rcases which k 12 (by decide) with h | h | ⟨h1, h2⟩
  · exact pick3 rn3_klo6 (at_lit ho) (at_rg rfl (lo_le k) h) vX vY
  · exact pick3 rn3_khi6 (at_lit ho) (at_rg rfl h (le_hi k)) vX vY
  · obtain hk | hk | hk | hk | hk | hk | hk | hk | hk | hk | hk : word k = 1 ∨ word k = 2 ∨ word k = 3 ∨ word k = 4 ∨ word k = 5 ∨ word k = 6 ∨ word k = 7 ∨ word k = 8 ∨ word k = 9 ∨ word k = 10 ∨ word k = 11 := by omega
    · exact s6_1 o k n x y ho hk
    · exact s6_2 o k n x y ho hk
    · exact s6_3 o k n x y ho hk
    · exact s6_4 o k n x y ho hk
    · exact s6_5 o k n x y ho hk
    · exact s6_6 o k n x y ho hk
    · exact s6_7 o k n x y ho hk
    · exact s6_8 o k n x y ho hk
    · exact s6_9 o k n x y ho hk
    · exact s6_10 o k n x y ho hk
    · exact s6_11 o k n x y ho hk
theorem s7_1 (o k n x y : Int) (ho : word o = 7) (hk : word k = 1) : G3 o k n x y := by
  rcases Nat.mod_two_eq_zero_or_one (word x) with hx | hx <;> rcases Nat.mod_two_eq_zero_or_one (word y) with hy | hy
  · exact pick3 (fun v _ => rn3_r7_1_00 v _) (at_lit ho) (at_lit hk) (at_md rfl hx) (at_md rfl hy)
  · exact pick3 (fun v _ => rn3_r7_1_01 v _) (at_lit ho) (at_lit hk) (at_md rfl hx) (at_md rfl hy)
  · exact pick3 (fun v _ => rn3_r7_1_10 v _) (at_lit ho) (at_lit hk) (at_md rfl hx) (at_md rfl hy)
  · exact pick3 (fun v _ => rn3_r7_1_11 v _) (at_lit ho) (at_lit hk) (at_md rfl hx) (at_md rfl hy)
theorem s7_2 (o k n x y : Int) (ho : word o = 7) (hk : word k = 2) : G3 o k n x y := by
  exact pick3 (fun v _ => rn3_r7_2_0 v _) (at_lit ho) (at_lit hk) vX vY
theorem s7_3 (o k n x y : Int) (ho : word o = 7) (hk : word k = 3) : G3 o k n x y := by
  exact pick3 (fun v _ => rn3_r7_3_0 v _) (at_lit ho) (at_lit hk) vX vY
theorem s7_4 (o k n x y : Int) (ho : word o = 7) (hk : word k = 4) : G3 o k n x y := by
  exact pick3 (fun v _ => rn3_r7_4_0 v _) (at_lit ho) (at_lit hk) vX vY
theorem s7_5 (o k n x y : Int) (ho : word o = 7) (hk : word k = 5) : G3 o k n x y := by
  exact pick3 (fun v _ => rn3_r7_5_0 v _) (at_lit ho) (at_lit hk) vX vY
theorem s7_6 (o k n x y : Int) (ho : word o = 7) (hk : word k = 6) : G3 o k n x y := by
  exact pick3 (fun v _ => rn3_r7_6_0 v _) (at_lit ho) (at_lit hk) vX vY
theorem s7_7 (o k n x y : Int) (ho : word o = 7) (hk : word k = 7) : G3 o k n x y := by
  exact pick3 (fun v _ => rn3_r7_7_0 v _) (at_lit ho) (at_lit hk) vX vY
theorem s7_8 (o k n x y : Int) (ho : word o = 7) (hk : word k = 8) : G3 o k n x y := by
  exact pick3 (fun v _ => rn3_r7_8_0 v _) (at_lit ho) (at_lit hk) vX vY
theorem s7_9 (o k n x y : Int) (ho : word o = 7) (hk : word k = 9) : G3 o k n x y := by
  exact pick3 (fun v _ => rn3_r7_9_0 v _) (at_lit ho) (at_lit hk) vX vY
theorem s7_10 (o k n x y : Int) (ho : word o = 7) (hk : word k = 10) : G3 o k n x y := by
  exact pick3 rn3_r7_10_0 (at_lit ho) (at_lit hk) vX vY
theorem s7_11 (o k n x y : Int) (ho : word o = 7) (hk : word k = 11) : G3 o k n x y := by
  exact pick3 rn3_r7_11_0 (at_lit ho) (at_lit hk) vX vY
theorem s7 (o k n x y : Int) (ho : word o = 7) : G3 o k n x y := by
  rcases which k 12 (by decide) with h | h | ⟨h1, h2⟩
  · exact pick3 rn3_klo7 (at_lit ho) (at_rg rfl (lo_le k) h) vX vY
  · exact pick3 rn3_khi7 (at_lit ho) (at_rg rfl h (le_hi k)) vX vY
  · obtain hk | hk | hk | hk | hk | hk | hk | hk | hk | hk | hk : word k = 1 ∨ word k = 2 ∨ word k = 3 ∨ word k = 4 ∨ word k = 5 ∨ word k = 6 ∨ word k = 7 ∨ word k = 8 ∨ word k = 9 ∨ word k = 10 ∨ word k = 11 := by omega
    · exact s7_1 o k n x y ho hk
    · exact s7_2 o k n x y ho hk
    · exact s7_3 o k n x y ho hk
    · exact s7_4 o k n x y ho hk
    · exact s7_5 o k n x y ho hk
    · exact s7_6 o k n x y ho hk
    · exact s7_7 o k n x y ho hk
    · exact s7_8 o k n x y ho hk
    · exact s7_9 o k n x y ho hk
    · exact s7_10 o k n x y ho hk
    · exact s7_11 o k n x y ho hk
theorem s8_1 (o k n x y : Int) (ho : word o = 8) (hk : word k = 1) : G3 o k n x y := by
  rcases Nat.mod_two_eq_zero_or_one (word x) with hx | hx <;> rcases Nat.mod_two_eq_zero_or_one (word y) with hy | hy
  · exact pick3 (fun v _ => rn3_r8_1_00 v _) (at_lit ho) (at_lit hk) (at_md rfl hx) (at_md rfl hy)
  · exact pick3 (fun v _ => rn3_r8_1_01 v _) (at_lit ho) (at_lit hk) (at_md rfl hx) (at_md rfl hy)
  · exact pick3 (fun v _ => rn3_r8_1_10 v _) (at_lit ho) (at_lit hk) (at_md rfl hx) (at_md rfl hy)
  · exact pick3 (fun v _ => rn3_r8_1_11 v _) (at_lit ho) (at_lit hk) (at_md rfl hx) (at_md rfl hy)
theorem s8_2 (o k n x y : Int) (ho : word o = 8) (hk : word k = 2) : G3 o k n x y := by
  exact pick3 (fun v _ => rn3_r8_2_0 v _) (at_lit ho) (at_lit hk) vX vY
theorem s8_3 (o k n x y : Int) (ho : word o = 8) (hk : word k = 3) : G3 o k n x y := by
  exact pick3 (fun v _ => rn3_r8_3_0 v _) (at_lit ho) (at_lit hk) vX vY
theorem s8_4 (o k n x y : Int) (ho : word o = 8) (hk : word k = 4) : G3 o k n x y := by
  exact pick3 (fun v _ => rn3_r8_4_0 v _) (at_lit ho) (at_lit hk) vX vY
theorem s8_5 (o k n x y : Int) (ho : word o = 8) (hk : word k = 5) : G3 o k n x y := by
  exact pick3 (fun v _ => rn3_r8_5_0 v _) (at_lit ho) (at_lit hk) vX vY
theorem s8_6 (o k n x y : Int) (ho : word o = 8) (hk : word k = 6) : G3 o k n x y := by
  exact pick3 (fun v _ => rn3_r8_6_0 v _) (at_lit ho) (at_lit hk) vX vY
theorem s8_7 (o k n x y : Int) (ho : word o = 8) (hk : word k = 7) : G3 o k n x y := by
  exact pick3 (fun v _ => rn3_r8_7_0 v _) (at_lit ho) (at_lit hk) vX vY
theorem s8_8 (o k n x y : Int) (ho : word o = 8) (hk : word k = 8) : G3 o k n x y := by
  exact pick3 (fun v _ => rn3_r8_8_0 v _) (at_lit ho) (at_lit hk) vX vY
theorem s8_9 (o k n x y : Int) (ho : word o = 8) (hk : word k = 9) : G3 o k n x y := by
  exact pick3 (fun v _ => rn3_r8_9_0 v _) (at_lit ho) (at_lit hk) vX vY
theorem s8_10 (o k n x y : Int) (ho : word o = 8) (hk : word k = 10) : G3 o k n x y := by
  exact pick3 rn3_r8_10_0 (at_lit ho) (at_lit hk) vX vY
theorem s8_11 (o k n x y : Int) (ho : word o = 8) (hk : word k = 11) : G3 o k n x y := by
  exact pick3 rn3_r8_11_0 (at_lit ho) (at_lit hk) vX vY
theorem s8 (o k n x y : Int) (ho : word o = 8) : G3 o k n x y := by
  rcases which k 12 (by decide) with h | h | ⟨h1, h2⟩
  · exact pick3 rn3_klo8 (at_lit ho) (at_rg rfl (lo_le k) h) vX vY
  · exact pick3 rn3_khi8 (at_lit ho) (at_rg rfl h (le_hi k)) vX vY
  · obtain hk | hk | hk | hk | hk | hk | hk | hk | hk | hk | hk : word k = 1 ∨ word k = 2 ∨ word k = 3 ∨ word k = 4 ∨ word k = 5 ∨ word k = 6 ∨ word k = 7 ∨ word k = 8 ∨ word k = 9 ∨ word k = 10 ∨ word k = 11 := by omega
    · exact s8_1 o k n x y ho hk
    · exact s8_2 o k n x y ho hk
    · exact s8_3 o k n x y ho hk
    · exact s8_4 o k n x y ho hk
    · exact s8_5 o k n x y ho hk
    · exact s8_6 o k n x y ho hk
    · exact s8_7 o k n x y ho hk
    · exact s8_8 o k n x y ho hk
    · exact s8_9 o k n x y ho hk
    · exact s8_10 o k n x y ho hk
    · exact s8_11 o k n x y ho hk
theorem s9_1 (o k n x y : Int) (ho : word o = 9) (hk : word k = 1) : G3 o k n x y := by
  exact pick3 rn3_r9_1_0 (at_lit ho) (at_lit hk) vX vY
theorem s9_2 (o k n x y : Int) (ho : word o = 9) (hk : word k = 2) : G3 o k n x y := by
  rcases cls78 true 56 false 0 (word x) (word y) with h | h
  · exact pick3 (fun v _ => rn3_r9_2_7 v _) (at_lit ho) (at_lit hk) (at_qx h) (at_qy h)
  · exact pick3 (fun v _ => rn3_r9_2_8 v _) (at_lit ho) (at_lit hk) (at_qx h) (at_qy h)
theorem s9_3 (o k n x y : Int) (ho : word o = 9) (hk : word k = 3) : G3 o k n x y := by
  rcases cls78 true 48 false 0 (word x) (word y) with h | h
  · exact pick3 (fun v _ => rn3_r9_3_7 v _) (at_lit ho) (at_lit hk) (at_qx h) (at_qy h)
  · exact pick3 (fun v _ => rn3_r9_3_8 v _) (at_lit ho) (at_lit hk) (at_qx h) (at_qy h)
theorem s9_4 (o k n x y : Int) (ho : word o = 9) (hk : word k = 4) : G3 o k n x y := by
  rcases cls78 true 32 false 0 (word x) (word y) with h | h
  · exact pick3 (fun v _ => rn3_r9_4_7 v _) (at_lit ho) (at_lit hk) (at_qx h) (at_qy h)
  · exact pick3 (fun v _ => rn3_r9_4_8 v _) (at_lit ho) (at_lit hk) (at_qx h) (at_qy h)
theorem s9_5 (o k n x y : Int) (ho : word o = 9) (hk : word k = 5) : G3 o k n x y := by
  rcases cls78 true 0 false 0 (word x) (word y) with h | h
  · exact pick3 (fun v _ => rn3_r9_5_7 v _) (at_lit ho) (at_lit hk) (at_qx h) (at_qy h)
  · exact pick3 (fun v _ => rn3_r9_5_8 v _) (at_lit ho) (at_lit hk) (at_qx h) (at_qy h)
theorem s9_6 (o k n x y : Int) (ho : word o = 9) (hk : word k = 6) : G3 o k n x y := by
  rcases cls78 false 56 false 0 (word x) (word y) with h | h
  · exact pick3 (fun v _ => rn3_r9_6_7 v _) (at_lit ho) (at_lit hk) (at_qx h) (at_qy h)
  · exact pick3 (fun v _ => rn3_r9_6_8 v _) (at_lit ho) (at_lit hk) (at_qx h) (at_qy h)
theorem s9_7 (o k n x y : Int) (ho : word o = 9) (hk : word k = 7) : G3 o k n x y := by
  rcases cls78 false 48 false 0 (word x) (word y) with h | h
  · exact pick3 (fun v _ => rn3_r9_7_7 v _) (at_lit ho) (at_lit hk) (at_qx h) (at_qy h)
  · exact pick3 (fun v _ => rn3_r9_7_8 v _) (at_lit ho) (at_lit hk) (at_qx h) (at_qy h)
theorem s9_8 (o k n x y : Int) (ho : word o = 9) (hk : word k = 8) : G3 o k n x y := by
  rcases cls78 false 32 false 0 (word x) (word y) with h | h
  · exact pick3 (fun v _ => rn3_r9_8_7 v _) (at_lit ho) (at_lit hk) (at_qx h) (at_qy h)
  · exact pick3 (fun v _ => rn3_r9_8_8 v _) (at_lit ho) (at_lit hk) (at_qx h) (at_qy h)
theorem s9_9 (o k n x y : Int) (ho : word o = 9) (hk : word k = 9) : G3 o k n x y := by
  rcases cls78 false 0 false 0 (word x) (word y) with h | h
  · exact pick3 (fun v _ => rn3_r9_9_7 v _) (at_lit ho) (at_lit hk) (at_qx h) (at_qy h)
  · exact pick3 (fun v _ => rn3_r9_9_8 v _) (at_lit ho) (at_lit hk) (at_qx h) (at_qy h)
theorem s9_10 (o k n x y : Int) (ho : word o = 9) (hk : word k = 10) : G3 o k n x y := by
  exact pick3 rn3_r9_10_0 (at_lit ho) (at_lit hk) vX vY
theorem s9_11 (o k n x y : Int) (ho : word o = 9) (hk : word k = 11) : G3 o k n x y := by
  exact pick3 rn3_r9_11_0 (at_lit ho) (at_lit hk) vX vY
theorem s9 (o k n x y : Int) (ho : word o = 9) : G3 o k n x y := by
  rcases which k 12 (by decide) with h | h | ⟨h1, h2⟩
  · exact pick3 rn3_klo9 (at_lit ho) (at_rg rfl (lo_le k) h) vX vY
  · exact pick3 rn3_khi9 (at_lit ho) (at_rg rfl h (le_hi k)) vX vY
  · obtain hk | hk | hk | hk | hk | hk | hk | hk | hk | hk | hk : word k = 1 ∨ word k = 2 ∨ word k = 3 ∨ word k = 4 ∨ word k = 5 ∨ word k = 6 ∨ word k = 7 ∨ word k = 8 ∨ word k = 9 ∨ word k = 10 ∨ word k = 11 := by omega
    · exact s9_1 o k n x y ho hk
    · exact s9_2 o k n x y ho hk
    · exact s9_3 o k n x y ho hk
    · exact s9_4 o k n x y ho hk
    · exact s9_5 o k n x y ho hk
    · exact s9_6 o k n x y ho hk
    · exact s9_7 o k n x y ho hk
    · exact s9_8 o k n x y ho hk
    · exact s9_9 o k n x y ho hk
    · exact s9_10 o k n x y ho hk
    · exact s9_11 o k n x y ho hk
theorem s10_1 (o k n x y : Int) (ho : word o = 10) (hk : word k = 1) : G3 o k n x y := by
  exact pick3 rn3_r10_1_0 (at_lit ho) (at_lit hk) vX vY
theorem s10_2 (o k n x y : Int) (ho : word o = 10) (hk : word k = 2) : G3 o k n x y := by
  rcases cls78 true 56 false 0 (word x) (word y) with h | h
  · exact pick3 (fun v _ => rn3_r10_2_7 v _) (at_lit ho) (at_lit hk) (at_qx h) (at_qy h)
  · exact pick3 (fun v _ => rn3_r10_2_8 v _) (at_lit ho) (at_lit hk) (at_qx h) (at_qy h)
theorem s10_3 (o k n x y : Int) (ho : word o = 10) (hk : word k = 3) : G3 o k n x y := by
  rcases cls78 true 48 false 0 (word x) (word y) with h | h
  · exact pick3 (fun v _ => rn3_r10_3_7 v _) (at_lit ho) (at_lit hk) (at_qx h) (at_qy h)
  · exact pick3 (fun v _ => rn3_r10_3_8 v _) (at_lit ho) (at_lit hk) (at_qx h) (at_qy h)
theorem s10_4 (o k n x y : Int) (ho : word o = 10) (hk : word k = 4) : G3 o k n x y := by
  rcases cls78 true 32 false 0 (word x) (word y) with h | h
  · exact pick3 (fun v _ => rn3_r10_4_7 v _) (at_lit ho) (at_lit hk) (at_qx h) (at_qy h)
  · exact pick3 (fun v _ => rn3_r10_4_8 v _) (at_lit ho) (at_lit hk) (at_qx h) (at_qy h)
theorem s10_5 (o k n x y : Int) (ho : word o = 10) (hk : word k = 5) : G3 o k n x y := by
  rcases cls78 true 0 false 0 (word x) (word y) with h | h
  · exact pick3 (fun v _ => rn3_r10_5_7 v _) (at_lit ho) (at_lit hk) (at_qx h) (at_qy h)
  · exact pick3 (fun v _ => rn3_r10_5_8 v _) (at_lit ho) (at_lit hk) (at_qx h) (at_qy h)
theorem s10_6 (o k n x y : Int) (ho : word o = 10) (hk : word k = 6) : G3 o k n x y := by
  rcases cls78 false 56 false 0 (word x) (word y) with h | h
  · exact pick3 (fun v _ => rn3_r10_6_7 v _) (at_lit ho) (at_lit hk) (at_qx h) (at_qy h)
  · exact pick3 (fun v _ => rn3_r10_6_8 v _) (at_lit ho) (at_lit hk) (at_qx h) (at_qy h)
theorem s10_7 (o k n x y : Int) (ho : word o = 10) (hk : word k = 7) : G3 o k n x y := by
  rcases cls78 false 48 false 0 (word x) (word y) with h | h
  · exact pick3 (fun v _ => rn3_r10_7_7 v _) (at_lit ho) (at_lit hk) (at_qx h) (at_qy h)
  · exact pick3 (fun v _ => rn3_r10_7_8 v _) (at_lit ho) (at_lit hk) (at_qx h) (at_qy h)
theorem s10_8 (o k n x y : Int) (ho : word o = 10) (hk : word k = 8) : G3 o k n x y := by
  rcases cls78 false 32 false 0 (word x) (word y) with h | h
  · exact pick3 (fun v _ => rn3_r10_8_7 v _) (at_lit ho) (at_lit hk) (at_qx h) (at_qy h)
  · exact pick3 (fun v _ => rn3_r10_8_8 v _) (at_lit ho) (at_lit hk) (at_qx h) (at_qy h)
theorem s10_9 (o k n x y : Int) (ho : word o = 10) (hk : word k = 9) : G3 o k n x y := by
  rcases cls78 false 0 false 0 (word x) (word y) with h | h
  · exact pick3 (fun v _ => rn3_r10_9_7 v _) (at_lit ho) (at_lit hk) (at_qx h) (at_qy h)
  · exact pick3 (fun v _ => rn3_r10_9_8 v _) (at_lit ho) (at_lit hk) (at_qx h) (at_qy h)
theorem s10_10 (o k n x y : Int) (ho : word o = 10) (hk : word k = 10) : G3 o k n x y := by
  exact pick3 rn3_r10_10_0 (at_lit ho) (at_lit hk) vX vY
theorem s10_11 (o k n x y : Int) (ho : word o = 10) (hk : word k = 11) : G3 o k n x y := by
  exact pick3 rn3_r10_11_0 (at_lit ho) (at_lit hk) vX vY
theorem s10 (o k n x y : Int) (ho : word o = 10) : G3 o k n x y := by
  rcases which k 12 (by decide) with h | h | ⟨h1, h2⟩
  · exact pick3 rn3_klo10 (at_lit ho) (at_rg rfl (lo_le k) h) vX vY
  · exact pick3 rn3_khi10 (at_lit ho) (at_rg rfl h (le_hi k)) vX vY
  · obtain hk | hk | hk | hk | hk | hk | hk | hk | hk | hk | hk : word k = 1 ∨ word k = 2 ∨ word k = 3 ∨ word k = 4 ∨ word k = 5 ∨ word k = 6 ∨ word k = 7 ∨ word k = 8 ∨ word k = 9 ∨ word k = 10 ∨ word k = 11 := by omega
    · exact s10_1 o k n x y ho hk
    · exact s10_2 o k n x y ho hk
    · exact s10_3 o k n x y ho hk
    · exact s10_4 o k n x y ho hk
    · exact s10_5 o k n x y ho hk
    · exact s10_6 o k n x y ho hk
    · exact s10_7 o k n x y ho hk
    · exact s10_8 o k n x y ho hk
    · exact s10_9 o k n x y ho hk
    · exact s10_10 o k n x y ho hk
    · exact s10_11 o k n x y ho hk
theorem s11_1 (o k n x y : Int) (ho : word o = 11) (hk : word k = 1) : G3 o k n x y := by
  rcases Nat.mod_two_eq_zero_or_one (word x) with hx | hx <;> rcases Nat.mod_two_eq_zero_or_one (word y) with hy | hy
  · exact pick3 (fun v _ => rn3_r11_1_00 v _) (at_lit ho) (at_lit hk) (at_md rfl hx) (at_md rfl hy)
  · exact pick3 (fun v _ => rn3_r11_1_01 v _) (at_lit ho) (at_lit hk) (at_md rfl hx) (at_md rfl hy)
  · exact pick3 (fun v _ => rn3_r11_1_10 v _) (at_lit ho) (at_lit hk) (at_md rfl hx) (at_md rfl hy)
  · exact pick3 (fun v _ => rn3_r11_1_11 v _) (at_lit ho) (at_lit hk) (at_md rfl hx) (at_md rfl hy)
theorem s11_2 (o k n x y : Int) (ho : word o = 11) (hk : word k = 2) : G3 o k n x y := by
  rcases cls123 true 56 true 56 (word x) (word y) with h | h | h
  · exact pick3 (fun v _ => rn3_r11_2_1 v _) (at_lit ho) (at_lit hk) (at_qx h) (at_qy h)
  · exact pick3 (fun v _ => rn3_r11_2_2 v _) (at_lit ho) (at_lit hk) (at_qx h) (at_qy h)
  · exact pick3 (fun v _ => rn3_r11_2_3 v _) (at_lit ho) (at_lit hk) (at_qx h) (at_qy h)
theorem s11_3 (o k n x y : Int) (ho : word o = 11) (hk : word k = 3) : G3 o k n x y := by
  rcases cls123 true 48 true 48 (word x) (word y) with h | h | h
  · exact pick3 (fun v _ => rn3_r11_3_1 v _) (at_lit ho) (at_lit hk) (at_qx h) (at_qy h)
  · exact pick3 (fun v _ => rn3_r11_3_2 v _) (at_lit ho) (at_lit hk) (at_qx h) (at_qy h)
  · exact pick3 (fun v _ => rn3_r11_3_3 v _) (at_lit ho) (at_lit hk) (at_qx h) (at_qy h)
theorem s11_4 (o k n x y : Int) (ho : word o = 11) (hk : word k = 4) : G3 o k n x y := by
  rcases cls123 true 32 true 32 (word x) (word y) with h | h | h
  · exact pick3 (fun v _ => rn3_r11_4_1 v _) (at_lit ho) (at_lit hk) (at_qx h) (at_qy h)
  · exact pick3 (fun v _ => rn3_r11_4_2 v _) (at_lit ho) (at_lit hk) (at_qx h) (at_qy h)
  · exact pick3 (fun v _ => rn3_r11_4_3 v _) (at_lit ho) (at_lit hk) (at_qx h) (at_qy h)
theorem s11_5 (o k n x y : Int) (ho : word o = 11) (hk : word k = 5) : G3 o k n x y := by
  rcases cls123 true 0 true 0 (word x) (word y) with h | h | h
  · exact pick3 (fun v _ => rn3_r11_5_1 v _) (at_lit ho) (at_lit hk) (at_qx h) (at_qy h)
  · exact pick3 (fun v _ => rn3_r11_5_2 v _) (at_lit ho) (at_lit hk) (at_qx h) (at_qy h)
  · exact pick3 (fun v _ => rn3_r11_5_3 v _) (at_lit ho) (at_lit hk) (at_qx h) (at_qy h)
theorem s11_6 (o k n x y : Int) (ho : word o = 11) (hk : word k = 6) : G3 o k n x y := by
  rcases cls123 false 56 false 56 (word x) (word y) with h | h | h
  · exact pick3 (fun v _ => rn3_r11_6_1 v _) (at_lit ho) (at_lit hk) (at_qx h) (at_qy h)
  · exact pick3 (fun v _ => rn3_r11_6_2 v _) (at_lit ho) (at_lit hk) (at_qx h) (at_qy h)
  · exact pick3 (fun v _ => rn3_r11_6_3 v _) (at_lit ho) (at_lit hk) (at_qx h) (at_qy h)
theorem s11_7 (o k n x y : Int) (ho : word o = 11) (hk : word k = 7) : G3 o k n x y := by
  rcases cls123 false 48 false 48 (word x) (word y) with h | h | h
  · exact pick3 (fun v _ => rn3_r11_7_1 v _) (at_lit ho) (at_lit hk) (at_qx h) (at_qy h)
  · exact pick3 (fun v _ => rn3_r11_7_2 v _) (at_lit ho) (at_lit hk) (at_qx h) (at_qy h)
  · exact pick3 (fun v _ => rn3_r11_7_3 v _) (at_lit ho) (at_lit hk) (at_qx h) (at_qy h)
theorem s11_8 (o k n x y : Int) (ho : word o = 11) (hk : word k = 8) : G3 o k n x y := by
  rcases cls123 false 32 false 32 (word x) (word y) with h | h | h
  · exact pick3 (fun v _ => rn3_r11_8_1 v _) (at_lit ho) (at_lit hk) (at_qx h) (at_qy h)
  · exact pick3 (fun v _ => rn3_r11_8_2 v _) (at_lit ho) (at_lit hk) (at_qx h) (at_qy h)
  · exact pick3 (fun v _ => rn3_r11_8_3 v _) (at_lit ho) (at_lit hk) (at_qx h) (at_qy h)
theorem s11_9 (o k n x y : Int) (ho : word o = 11) (hk : word k = 9) : G3 o k n x y := by
  rcases cls123 false 0 false 0 (word x) (word y) with h | h | h
  · exact pick3 (fun v _ => rn3_r11_9_1 v _) (at_lit ho) (at_lit hk) (at_qx h) (at_qy h)
  · exact pick3 (fun v _ => rn3_r11_9_2 v _) (at_lit ho) (at_lit hk) (at_qx h) (at_qy h)
  · exact pick3 (fun v _ => rn3_r11_9_3 v _) (at_lit ho) (at_lit hk) (at_qx h) (at_qy h)
theorem s11_10 (o k n x y : Int) (ho : word o = 11) (hk : word k = 10) : G3 o k n x y := by
  exact pick3 (fun v _ => rn3_r11_10_0 v _) (at_lit ho) (at_lit hk) vX vY
theorem s11_11 (o k n x y : Int) (ho : word o = 11) (hk : word k = 11) : G3 o k n x y := by
  exact pick3 rn3_r11_11_0 (at_lit ho) (at_lit hk) vX vY
theorem s11 (o k n x y : Int) (ho : word o = 11) : G3 o k n x y := by
  rcases which k 12 (by decide) with h | h | ⟨h1, h2⟩
  · exact pick3 rn3_klo11 (at_lit ho) (at_rg rfl (lo_le k) h) vX vY
  · exact pick3 rn3_khi11 (at_lit ho) (at_rg rfl h (le_hi k)) vX vY
  · obtain hk | hk | hk | hk | hk | hk | hk | hk | hk | hk | hk : word k = 1 ∨ word k = 2 ∨ word k = 3 ∨ word k = 4 ∨ word k = 5 ∨ word k = 6 ∨ word k = 7 ∨ word k = 8 ∨ word k = 9 ∨ word k = 10 ∨ word k = 11 := by omega
    · exact s11_1 o k n x y ho hk
    · exact s11_2 o k n x y ho hk
    · exact s11_3 o k n x y ho hk
    · exact s11_4 o k n x y ho hk
    · exact s11_5 o k n x y ho hk
    · exact s11_6 o k n x y ho hk
    · exact s11_7 o k n x y ho hk
    · exact s11_8 o k n x y ho hk
    · exact s11_9 o k n x y ho hk
    · exact s11_10 o k n x y ho hk
    · exact s11_11 o k n x y ho hk
theorem s12_1 (o k n x y : Int) (ho : word o = 12) (hk : word k = 1) : G3 o k n x y := by
  rcases Nat.mod_two_eq_zero_or_one (word x) with hx | hx <;> rcases Nat.mod_two_eq_zero_or_one (word y) with hy | hy
  · exact pick3 (fun v _ => rn3_r12_1_00 v _) (at_lit ho) (at_lit hk) (at_md rfl hx) (at_md rfl hy)
  · exact pick3 (fun v _ => rn3_r12_1_01 v _) (at_lit ho) (at_lit hk) (at_md rfl hx) (at_md rfl hy)
  · exact pick3 (fun v _ => rn3_r12_1_10 v _) (at_lit ho) (at_lit hk) (at_md rfl hx) (at_md rfl hy)
  · exact pick3 (fun v _ => rn3_r12_1_11 v _) (at_lit ho) (at_lit hk) (at_md rfl hx) (at_md rfl hy)
theorem s12_2 (o k n x y : Int) (ho : word o = 12) (hk : word k = 2) : G3 o k n x y := by
  rcases cls123 true 56 true 56 (word x) (word y) with h | h | h
  · exact pick3 (fun v _ => rn3_r12_2_1 v _) (at_lit ho) (at_lit hk) (at_qx h) (at_qy h)
  · exact pick3 (fun v _ => rn3_r12_2_2 v _) (at_lit ho) (at_lit hk) (at_qx h) (at_qy h)
  · exact pick3 (fun v _ => rn3_r12_2_3 v _) (at_lit ho) (at_lit hk) (at_qx h) (at_qy h)
theorem s12_3 (o k n x y : Int) (ho : word o = 12) (hk : word k = 3) : G3 o k n x y := by
  rcases cls123 true 48 true 48 (word x) (word y) with h | h | h
  · exact pick3 (fun v _ => rn3_r12_3_1 v _) (at_lit ho) (at_lit hk) (at_qx h) (at_qy h)
  · exact pick3 (fun v _ => rn3_r12_3_2 v _) (at_lit ho) (at_lit hk) (at_qx h) (at_qy h)
  · exact pick3 (fun v _ => rn3_r12_3_3 v _) (at_lit ho) (at_lit hk) (at_qx h) (at_qy h)
theorem s12_4 (o k n x y : Int) (ho : word o = 12) (hk : word k = 4) : G3 o k n x y := by
  rcases cls123 true 32 true 32 (word x) (word y) with h | h | h
  · exact pick3 (fun v _ => rn3_r12_4_1 v _) (at_lit ho) (at_lit hk) (at_qx h) (at_qy h)
  · exact pick3 (fun v _ => rn3_r12_4_2 v _) (at_lit ho) (at_lit hk) (at_qx h) (at_qy h)
  · exact pick3 (fun v _ => rn3_r12_4_3 v _) (at_lit ho) (at_lit hk) (at_qx h) (at_qy h)
theorem s12_5 (o k n x y : Int) (ho : word o = 12) (hk : word k = 5) : G3 o k n x y := by
  rcases cls123 true 0 true 0 (word x) (word y) with h | h | h
  · exact pick3 (fun v _ => rn3_r12_5_1 v _) (at_lit ho) (at_lit hk) (at_qx h) (at_qy h)
  · exact pick3 (fun v _ => rn3_r12_5_2 v _) (at_lit ho) (at_lit hk) (at_qx h) (at_qy h)
  · exact pick3 (fun v _ => rn3_r12_5_3 v _) (at_lit ho) (at_lit hk) (at_qx h) (at_qy h)
theorem s12_6 (o k n x y : Int) (ho : word o = 12) (hk : word k = 6) : G3 o k n x y := by
  rcases cls123 false 56 false 56 (word x) (word y) with h | h | h
  · exact pick3 (fun v _ => rn3_r12_6_1 v _) (at_lit ho) (at_lit hk) (at_qx h) (at_qy h)
  · exact pick3 (fun v _ => rn3_r12_6_2 v _) (at_lit ho) (at_lit hk) (at_qx h) (at_qy h)
  · exact pick3 (fun v _ => rn3_r12_6_3 v _) (at_lit ho) (at_lit hk) (at_qx h) (at_qy h)
theorem s12_7 (o k n x y : Int) (ho : word o = 12) (hk : word k = 7) : G3 o k n x y := by
  rcases cls123 false 48 false 48 (word x) (word y) with h | h | h
  · exact pick3 (fun v _ => rn3_r12_7_1 v _) (at_lit ho) (at_lit hk) (at_qx h) (at_qy h)
  · exact pick3 (fun v _ => rn3_r12_7_2 v _) (at_lit ho) (at_lit hk) (at_qx h) (at_qy h)
  · exact pick3 (fun v _ => rn3_r12_7_3 v _) (at_lit ho) (at_lit hk) (at_qx h) (at_qy h)
theorem s12_8 (o k n x y : Int) (ho : word o = 12) (hk : word k = 8) : G3 o k n x y := by
  rcases cls123 false 32 false 32 (word x) (word y) with h | h | h
  · exact pick3 (fun v _ => rn3_r12_8_1 v _) (at_lit ho) (at_lit hk) (at_qx h) (at_qy h)
  · exact pick3 (fun v _ => rn3_r12_8_2 v _) (at_lit ho) (at_lit hk) (at_qx h) (at_qy h)
  · exact pick3 (fun v _ => rn3_r12_8_3 v _) (at_lit ho) (at_lit hk) (at_qx h) (at_qy h)
theorem s12_9 (o k n x y : Int) (ho : word o = 12) (hk : word k = 9) : G3 o k n x y := by
  rcases cls123 false 0 false 0 (word x) (word y) with h | h | h
  · exact pick3 (fun v _ => rn3_r12_9_1 v _) (at_lit ho) (at_lit hk) (at_qx h) (at_qy h)
  · exact pick3 (fun v _ => rn3_r12_9_2 v _) (at_lit ho) (at_lit hk) (at_qx h) (at_qy h)
  · exact pick3 (fun v _ => rn3_r12_9_3 v _) (at_lit ho) (at_lit hk) (at_qx h) (at_qy h)
theorem s12_10 (o k n x y : Int) (ho : word o = 12) (hk : word k = 10) : G3 o k n x y := by
  exact pick3 (fun v _ => rn3_r12_10_0 v _) (at_lit ho) (at_lit hk) vX vY
theorem s12_11 (o k n x y : Int) (ho : word o = 12) (hk : word k = 11) : G3 o k n x y := by
  exact pick3 rn3_r12_11_0 (at_lit ho) (at_lit hk) vX vY
theorem s12 (o k n x y : Int) (ho : word o = 12) : G3 o k n x y := by
  rcases which k 12 (by decide) with h | h | ⟨h1, h2⟩
  · exact pick3 rn3_klo12 (at_lit ho) (at_rg rfl (lo_le k) h) vX vY
  · exact pick3 rn3_khi12 (at_lit ho) (at_rg rfl h (le_hi k)) vX vY
  · obtain hk | hk | hk | hk | hk | hk | hk | hk | hk | hk | hk : word k = 1 ∨ word k = 2 ∨ word k = 3 ∨ word k = 4 ∨ word k = 5 ∨ word k = 6 ∨ word k = 7 ∨ word k = 8 ∨ word k = 9 ∨ word k = 10 ∨ word k = 11 := by omega
    · exact s12_1 o k n x y ho hk
    · exact s12_2 o k n x y ho hk
    · exact s12_3 o k n x y ho hk
    · exact s12_4 o k n x y ho hk
    · exact s12_5 o k n x y ho hk
    · exact s12_6 o k n x y ho hk
    · exact s12_7 o k n x y ho hk
    · exact s12_8 o k n x y ho hk
    · exact s12_9 o k n x y ho hk
    · exact s12_10 o k n x y ho hk
    · exact s12_11 o k n x y ho hk
theorem s13_1 (o k n x y : Int) (ho : word o = 13) (hk : word k = 1) : G3 o k n x y := by
  exact pick3 rn3_r13_1_0 (at_lit ho) (at_lit hk) vX vY
theorem s13_2 (o k n x y : Int) (ho : word o = 13) (hk : word k = 2) : G3 o k n x y := by
  rcases cls123 true 56 true 56 (word x) (word y) with h | h | h
  · exact pick3 (fun v _ => rn3_r13_2_1 v _) (at_lit ho) (at_lit hk) (at_qx h) (at_qy h)
  · exact pick3 (fun v _ => rn3_r13_2_2 v _) (at_lit ho) (at_lit hk) (at_qx h) (at_qy h)
  · exact pick3 (fun v _ => rn3_r13_2_3 v _) (at_lit ho) (at_lit hk) (at_qx h) (at_qy h)
theorem s13_3 (o k n x y : Int) (ho : word o = 13) (hk : word k = 3) : G3 o k n x y := by
  rcases cls123 true 48 true 48 (word x) (word y) with h | h | h
  · exact pick3 (fun v _ => rn3_r13_3_1 v _) (at_lit ho) (at_lit hk) (at_qx h) (at_qy h)
  · exact pick3 (fun v _ => rn3_r13_3_2 v _) (at_lit ho) (at_lit hk) (at_qx h) (at_qy h)
  · exact pick3 (fun v _ => rn3_r13_3_3 v _) (at_lit ho) (at_lit hk) (at_qx h) (at_qy h)
theorem s13_4 (o k n x y : Int) (ho : word o = 13) (hk : word k = 4) : G3 o k n x y := by
  rcases cls123 true 32 true 32 (word x) (word y) with h | h | h
  · exact pick3 (fun v _ => rn3_r13_4_1 v _) (at_lit ho) (at_lit hk) (at_qx h) (at_qy h)
  · exact pick3 (fun v _ => rn3_r13_4_2 v _) (at_lit ho) (at_lit hk) (at_qx h) (at_qy h)
  · exact pick3 (fun v _ => rn3_r13_4_3 v _) (at_lit ho) (at_lit hk) (at_qx h) (at_qy h)
theorem s13_5 (o k n x y : Int) (ho : word o = 13) (hk : word k = 5) : G3 o k n x y := by
  rcases cls123 true 0 true 0 (word x) (word y) with h | h | h
  · exact pick3 (fun v _ => rn3_r13_5_1 v _) (at_lit ho) (at_lit hk) (at_qx h) (at_qy h)
  · exact pick3 (fun v _ => rn3_r13_5_2 v _) (at_lit ho) (at_lit hk) (at_qx h) (at_qy h)
  · exact pick3 (fun v _ => rn3_r13_5_3 v _) (at_lit ho) (at_lit hk) (at_qx h) (at_qy h)
theorem s13_6 (o k n x y : Int) (ho : word o = 13) (hk : word k = 6) : G3 o k n x y := by
  rcases cls123 false 56 false 56 (word x) (word y) with h | h | h
  · exact pick3 (fun v _ => rn3_r13_6_1 v _) (at_lit ho) (at_lit hk) (at_qx h) (at_qy h)
  · exact pick3 (fun v _ => rn3_r13_6_2 v _) (at_lit ho) (at_lit hk) (at_qx h) (at_qy h)
  · exact pick3 (fun v _ => rn3_r13_6_3 v _) (at_lit ho) (at_lit hk) (at_qx h) (at_qy h)
theorem s13_7 (o k n x y : Int) (ho : word o = 13) (hk : word k = 7) : G3 o k n x y := by
  rcases cls123 false 48 false 48 (word x) (word y) with h | h | h
  · exact pick3 (fun v _ => rn3_r13_7_1 v _) (at_lit ho) (at_lit hk) (at_qx h) (at_qy h)
  · exact pick3 (fun v _ => rn3_r13_7_2 v _) (at_lit ho) (at_lit hk) (at_qx h) (at_qy h)
  · exact pick3 (fun v _ => rn3_r13_7_3 v _) (at_lit ho) (at_lit hk) (at_qx h) (at_qy h)
theorem s13_8 (o k n x y : Int) (ho : word o = 13) (hk : word k = 8) : G3 o k n x y := by
  rcases cls123 false 32 false 32 (word x) (word y) with h | h | h
  · exact pick3 (fun v _ => rn3_r13_8_1 v _) (at_lit ho) (at_lit hk) (at_qx h) (at_qy h)
  · exact pick3 (fun v _ => rn3_r13_8_2 v _) (at_lit ho) (at_lit hk) (at_qx h) (at_qy h)
  · exact pick3 (fun v _ => rn3_r13_8_3 v _) (at_lit ho) (at_lit hk) (at_qx h) (at_qy h)
theorem s13_9 (o k n x y : Int) (ho : word o = 13) (hk : word k = 9) : G3 o k n x y := by
  rcases cls123 false 0 false 0 (word x) (word y) with h | h | h
  · exact pick3 (fun v _ => rn3_r13_9_1 v _) (at_lit ho) (at_lit hk) (at_qx h) (at_qy h)
  · exact pick3 (fun v _ => rn3_r13_9_2 v _) (at_lit ho) (at_lit hk) (at_qx h) (at_qy h)
  · exact pick3 (fun v _ => rn3_r13_9_3 v _) (at_lit ho) (at_lit hk) (at_qx h) (at_qy h)
theorem s13_10 (o k n x y : Int) (ho : word o = 13) (hk : word k = 10) : G3 o k n x y := by
  exact pick3 (fun v _ => rn3_r13_10_0 v _) (at_lit ho) (at_lit hk) vX vY
theorem s13_11 (o k n x y : Int) (ho : word o = 13) (hk : word k = 11) : G3 o k n x y := by
  exact pick3 rn3_r13_11_0 (at_lit ho) (at_lit hk) vX vY
theorem s13 (o k n x y : Int) (ho : word o = 13) : G3 o k n x y := by
  rcases which k 12 (by decide) with h | h | ⟨h1, h2⟩
  · exact pick3 rn3_klo13 (at_lit ho) (at_rg rfl (lo_le k) h) vX vY
  · exact pick3 rn3_khi13 (at_lit ho) (at_rg rfl h (le_hi k)) vX vY
  · obtain hk | hk | hk | hk | hk | hk | hk | hk | hk | hk | hk : word k = 1 ∨ word k = 2 ∨ word k = 3 ∨ word k = 4 ∨ word k = 5 ∨ word k = 6 ∨ word k = 7 ∨ word k = 8 ∨ word k = 9 ∨ word k = 10 ∨ word k = 11 := by omega
    · exact s13_1 o k n x y ho hk
    · exact s13_2 o k n x y ho hk
    · exact s13_3 o k n x y ho hk
    · exact s13_4 o k n x y ho hk
    · exact s13_5 o k n x y ho hk
    · exact s13_6 o k n x y ho hk
    · exact s13_7 o k n x y ho hk
    · exact s13_8 o k n x y ho hk
    · exact s13_9 o k n x y ho hk
    · exact s13_10 o k n x y ho hk
    · exact s13_11 o k n x y ho hk
theorem s14_1 (o k n x y : Int) (ho : word o = 14) (hk : word k = 1) : G3 o k n x y := by
  exact pick3 rn3_r14_1_0 (at_lit ho) (at_lit hk) vX vY
theorem s14_2 (o k n x y : Int) (ho : word o = 14) (hk : word k = 2) : G3 o k n x y := by
  rcases cls123 true 56 true 56 (word x) (word y) with h | h | h
  · exact pick3 (fun v _ => rn3_r14_2_1 v _) (at_lit ho) (at_lit hk) (at_qx h) (at_qy h)
  · exact pick3 (fun v _ => rn3_r14_2_2 v _) (at_lit ho) (at_lit hk) (at_qx h) (at_qy h)
  · exact pick3 (fun v _ => rn3_r14_2_3 v _) (at_lit ho) (at_lit hk) (at_qx h) (at_qy h)
theorem s14_3 (o k n x y : Int) (ho : word o = 14) (hk : word k = 3) : G3 o k n x y := by
  rcases cls123 true 48 true 48 (word x) (word y) with h | h | h
  · exact pick3 (fun v _ => rn3_r14_3_1 v _) (at_lit ho) (at_lit hk) (at_qx h) (at_qy h)
  · exact pick3 (fun v _ => rn3_r14_3_2 v _) (at_lit ho) (at_lit hk) (at_qx h) (at_qy h)
  · exact pick3 (fun v _ => rn3_r14_3_3 v _) (at_lit ho) (at_lit hk) (at_qx h) (at_qy h)
theorem s14_4 (o k n x y : Int) (ho : word o = 14) (hk : word k = 4) : G3 o k n x y := by
  rcases cls123 true 32 true 32 (word x) (word y) with h | h | h
  · exact pick3 (fun v _ => rn3_r14_4_1 v _) (at_lit ho) (at_lit hk) (at_qx h) (at_qy h)
  · exact pick3 (fun v _ => rn3_r14_4_2 v _) (at_lit ho) (at_lit hk) (at_qx h) (at_qy h)
  · exact pick3 (fun v _ => rn3_r14_4_3 v _) (at_lit ho) (at_lit hk) (at_qx h) (at_qy h)
theorem s14_5 (o k n x y : Int) (ho : word o = 14) (hk : word k = 5) : G3 o k n x y := by
  rcases cls123 true 0 true 0 (word x) (word y) with h | h | h
  · exact pick3 (fun v _ => rn3_r14_5_1 v _) (at_lit ho) (at_lit hk) (at_qx h) (at_qy h)
  · exact pick3 (fun v _ => rn3_r14_5_2 v _) (at_lit ho) (at_lit hk) (at_qx h) (at_qy h)
  · exact pick3 (fun v _ => rn3_r14_5_3 v _) (at_lit ho) (at_lit hk) (at_qx h) (at_qy h)
theorem s14_6 (o k n x y : Int) (ho : word o = 14) (hk : word k = 6) : G3 o k n x y := by
  rcases cls123 false 56 false 56 (word x) (word y) with h | h | h
  · exact pick3 (fun v _ => rn3_r14_6_1 v _) (at_lit ho) (at_lit hk) (at_qx h) (at_qy h)
  · exact pick3 (fun v _ => rn3_r14_6_2 v _) (at_lit ho) (at_lit hk) (at_qx h) (at_qy h)
  · exact pick3 (fun v _ => rn3_r14_6_3 v _) (at_lit ho) (at_lit hk) (at_qx h) (at_qy h)
theorem s14_7 (o k n x y : Int) (ho : word o = 14) (hk : word k = 7) : G3 o k n x y := by
  rcases cls123 false 48 false 48 (word x) (word y) with h | h | h
  · exact pick3 (fun v _ => rn3_r14_7_1 v _) (at_lit ho) (at_lit hk) (at_qx h) (at_qy h)
  · exact pick3 (fun v _ => rn3_r14_7_2 v _) (at_lit ho) (at_lit hk) (at_qx h) (at_qy h)
  · exact pick3 (fun v _ => rn3_r14_7_3 v _) (at_lit ho) (at_lit hk) (at_qx h) (at_qy h)
theorem s14_8 (o k n x y : Int) (ho : word o = 14) (hk : word k = 8) : G3 o k n x y := by
  rcases cls123 false 32 false 32 (word x) (word y) with h | h | h
  · exact pick3 (fun v _ => rn3_r14_8_1 v _) (at_lit ho) (at_lit hk) (at_qx h) (at_qy h)
  · exact pick3 (fun v _ => rn3_r14_8_2 v _) (at_lit ho) (at_lit hk) (at_qx h) (at_qy h)
  · exact pick3 (fun v _ => rn3_r14_8_3 v _) (at_lit ho) (at_lit hk) (at_qx h) (at_qy h)
theorem s14_9 (o k n x y : Int) (ho : word o = 14) (hk : word k = 9) : G3 o k n x y := by
  rcases cls123 false 0 false 0 (word x) (word y) with h | h | h
  · exact pick3 (fun v _ => rn3_r14_9_1 v _) (at_lit ho) (at_lit hk) (at_qx h) (at_qy h)
  · exact pick3 (fun v _ => rn3_r14_9_2 v _) (at_lit ho) (at_lit hk) (at_qx h) (at_qy h)
  · exact pick3 (fun v _ => rn3_r14_9_3 v _) (at_lit ho) (at_lit hk) (at_qx h) (at_qy h)
theorem s14_10 (o k n x y : Int) (ho : word o = 14) (hk : word k = 10) : G3 o k n x y := by
  exact pick3 (fun v _ => rn3_r14_10_0 v _) (at_lit ho) (at_lit hk) vX vY
theorem s14_11 (o k n x y : Int) (ho : word o = 14) (hk : word k = 11) : G3 o k n x y := by
  exact pick3 rn3_r14_11_0 (at_lit ho) (at_lit hk) vX vY
theorem s14 (o k n x y : Int) (ho : word o = 14) : G3 o k n x y := by
  rcases which k 12 (by decide) with h | h | ⟨h1, h2⟩
  · exact pick3 rn3_klo14 (at_lit ho) (at_rg rfl (lo_le k) h) vX vY
  · exact pick3 rn3_khi14 (at_lit ho) (at_rg rfl h (le_hi k)) vX vY
  · obtain hk | hk | hk | hk | hk | hk | hk | hk | hk | hk | hk : word k = 1 ∨ word k = 2 ∨ word k = 3 ∨ word k = 4 ∨ word k = 5 ∨ word k = 6 ∨ word k = 7 ∨ word k = 8 ∨ word k = 9 ∨ word k = 10 ∨ word k = 11 := by omega
    · exact s14_1 o k n x y ho hk
    · exact s14_2 o k n x y ho hk
    · exact s14_3 o k n x y ho hk
    · exact s14_4 o k n x y ho hk
    · exact s14_5 o k n x y ho hk
    · exact s14_6 o k n x y ho hk
    · exact s14_7 o k n x y ho hk
    · exact s14_8 o k n x y ho hk
    · exact s14_9 o k n x y ho hk
    · exact s14_10 o k n x y ho hk
    · exact s14_11 o k n x y ho hk
theorem s15_1 (o k n x y : Int) (ho : word o = 15) (hk : word k = 1) : G3 o k n x y := by
  exact pick3 rn3_r15_1_0 (at_lit ho) (at_lit hk) vX vY
theorem s15_2 (o k n x y : Int) (ho : word o = 15) (hk : word k = 2) : G3 o k n x y := by
  rcases cls123 true 56 true 56 (word x) (word y) with h | h | h
  · exact pick3 (fun v _ => rn3_r15_2_1 v _) (at_lit ho) (at_lit hk) (at_qx h) (at_qy h)
  · exact pick3 (fun v _ => rn3_r15_2_2 v _) (at_lit ho) (at_lit hk) (at_qx h) (at_qy h)
  · exact pick3 (fun v _ => rn3_r15_2_3 v _) (at_lit ho) (at_lit hk) (at_qx h) (at_qy h)
theorem s15_3 (o k n x y : Int) (ho : word o = 15) (hk : word k = 3) : G3 o k n x y := by
  rcases cls123 true 48 true 48 (word x) (word y) with h | h | h
  · exact pick3 (fun v _ => rn3_r15_3_1 v _) (at_lit ho) (at_lit hk) (at_qx h) (at_qy h)
  · exact pick3 (fun v _ => rn3_r15_3_2 v _) (at_lit ho) (at_lit hk) (at_qx h) (at_qy h)
  · exact pick3 (fun v _ => rn3_r15_3_3 v _) (at_lit ho) (at_lit hk) (at_qx h) (at_qy h)
theorem s15_4 (o k n x y : Int) (ho : word o = 15) (hk : word k = 4) : G3 o k n x y := by
  rcases cls123 true 32 true 32 (word x) (word y) with h | h | h
  · exact pick3 (fun v _ => rn3_r15_4_1 v _) (at_lit ho) (at_lit hk) (at_qx h) (at_qy h)
  · exact pick3 (fun v _ => rn3_r15_4_2 v _) (at_lit ho) (at_lit hk) (at_qx h) (at_qy h)
  · exact pick3 (fun v _ => rn3_r15_4_3 v _) (at_lit ho) (at_lit hk) (at_qx h) (at_qy h)
theorem s15_5 (o k n x y : Int) (ho : word o = 15) (hk : word k = 5) : G3 o k n x y := by
  rcases cls123 true 0 true 0 (word x) (word y) with h | h | h
  · exact pick3 (fun v _ => rn3_r15_5_1 v _) (at_lit ho) (at_lit hk) (at_qx h) (at_qy h)
  · exact pick3 (fun v _ => rn3_r15_5_2 v _) (at_lit ho) (at_lit hk) (at_qx h) (at_qy h)
  · exact pick3 (fun v _ => rn3_r15_5_3 v _) (at_lit ho) (at_lit hk) (at_qx h) (at_qy h)
theorem s15_6 (o k n x y : Int) (ho : word o = 15) (hk : word k = 6) : G3 o k n x y := by
  rcases cls123 false 56 false 56 (word x) (word y) with h | h | h
  · exact pick3 (fun v _ => rn3_r15_6_1 v _) (at_lit ho) (at_lit hk) (at_qx h) (at_qy h)
  · exact pick3 (fun v _ => rn3_r15_6_2 v _) (at_lit ho) (at_lit hk) (at_qx h) (at_qy h)
  · exact pick3 (fun v _ => rn3_r15_6_3 v _) (at_lit ho) (at_lit hk) (at_qx h) (at_qy h)
theorem s15_7 (o k n x y : Int) (ho : word o = 15) (hk : word k = 7) : G3 o k n x y := by
  rcases cls123 false 48 false 48 (word x) (word y) with h | h | h
  · exact pick3 (fun v _ => rn3_r15_7_1 v _) (at_lit ho) (at_lit hk) (at_qx h) (at_qy h)
  · exact pick3 (fun v _ => rn3_r15_7_2 v _) (at_lit ho) (at_lit hk) (at_qx h) (at_qy h)
  · exact pick3 (fun v _ => rn3_r15_7_3 v _) (at_lit ho) (at_lit hk) (at_qx h) (at_qy h)
theorem s15_8 (o k n x y : Int) (ho : word o = 15) (hk : word k = 8) : G3 o k n x y := by
  rcases cls123 false 32 false 32 (word x) (word y) with h | h | h
  · exact pick3 (fun v _ => rn3_r15_8_1 v _) (at_lit ho) (at_lit hk) (at_qx h) (at_qy h)
  · exact pick3 (fun v _ => rn3_r15_8_2 v _) (at_lit ho) (at_lit hk) (at_qx h) (at_qy h)
  · exact pick3 (fun v _ => rn3_r15_8_3 v _) (at_lit ho) (at_lit hk) (at_qx h) (at_qy h)
theorem s15_9 (o k n x y : Int) (ho : word o = 15) (hk : word k = 9) : G3 o k n x y := by
  rcases cls123 false 0 false 0 (word x) (word y) with h | h | h
  · exact pick3 (fun v _ => rn3_r15_9_1 v _) (at_lit ho) (at_lit hk) (at_qx h) (at_qy h)
  · exact pick3 (fun v _ => rn3_r15_9_2 v _) (at_lit ho) (at_lit hk) (at_qx h) (at_qy h)
  · exact pick3 (fun v _ => rn3_r15_9_3 v _) (at_lit ho) (at_lit hk) (at_qx h) (at_qy h)
theorem s15_10 (o k n x y : Int) (ho : word o = 15) (hk : word k = 10) : G3 o k n x y := by
  exact pick3 (fun v _ => rn3_r15_10_0 v _) (at_lit ho) (at_lit hk) vX vY
theorem s15_11 (o k n x y : Int) (ho : word o = 15) (hk : word k = 11) : G3 o k n x y := by
  exact pick3 rn3_r15_11_0 (at_lit ho) (at_lit hk) vX vY
theorem s15 (o k n x y : Int) (ho : word o = 15) : G3 o k n x y := by
  rcases which k 12 (by decide) with h | h | ⟨h1, h2⟩
  · exact pick3 rn3_klo15 (at_lit ho) (at_rg rfl (lo_le k) h) vX vY
  · exact pick3 rn3_khi15 (at_lit ho) (at_rg rfl h (le_hi k)) vX vY
  · obtain hk | hk | hk | hk | hk | hk | hk | hk | hk | hk | hk : word k = 1 ∨ word k = 2 ∨ word k = 3 ∨ word k = 4 ∨ word k = 5 ∨ word k = 6 ∨ word k = 7 ∨ word k = 8 ∨ word k = 9 ∨ word k = 10 ∨ word k = 11 := by omega
    · exact s15_1 o k n x y ho hk
    · exact s15_2 o k n x y ho hk
    · exact s15_3 o k n x y ho hk
    · exact s15_4 o k n x y ho hk
    · exact s15_5 o k n x y ho hk
    · exact s15_6 o k n x y ho hk
    · exact s15_7 o k n x y ho hk
    · exact s15_8 o k n x y ho hk
    · exact s15_9 o k n x y ho hk
    · exact s15_10 o k n x y ho hk
    · exact s15_11 o k n x y ho hk
theorem s16_1 (o k n x y : Int) (ho : word o = 16) (hk : word k = 1) : G3 o k n x y := by
  exact pick3 rn3_r16_1_0 (at_lit ho) (at_lit hk) vX vY
theorem s16_2 (o k n x y : Int) (ho : word o = 16) (hk : word k = 2) : G3 o k n x y := by
  rcases cls123 true 56 true 56 (word x) (word y) with h | h | h
  · exact pick3 (fun v _ => rn3_r16_2_1 v _) (at_lit ho) (at_lit hk) (at_qx h) (at_qy h)
  · exact pick3 (fun v _ => rn3_r16_2_2 v _) (at_lit ho) (at_lit hk) (at_qx h) (at_qy h)
  · exact pick3 (fun v _ => rn3_r16_2_3 v _) (at_lit ho) (at_lit hk) (at_qx h) (at_qy h)
theorem s16_3 (o k n x y : Int) (ho : word o = 16) (hk : word k = 3) : G3 o k n x y := by
  rcases cls123 true 48 true 48 (word x) (word y) with h | h | h
  · exact pick3 (fun v _ => rn3_r16_3_1 v _) (at_lit ho) (at_lit hk) (at_qx h) (at_qy h)
  · exact pick3 (fun v _ => rn3_r16_3_2 v _) (at_lit ho) (at_lit hk) (at_qx h) (at_qy h)
  · exact pick3 (fun v _ => rn3_r16_3_3 v _) (at_lit ho) (at_lit hk) (at_qx h) (at_qy h)
theorem s16_4 (o k n x y : Int) (ho : word o = 16) (hk : word k = 4) : G3 o k n x y := by
  rcases cls123 true 32 true 32 (word x) (word y) with h | h | h
  · exact pick3 (fun v _ => rn3_r16_4_1 v _) (at_lit ho) (at_lit hk) (at_qx h) (at_qy h)
  · exact pick3 (fun v _ => rn3_r16_4_2 v _) (at_lit ho) (at_lit hk) (at_qx h) (at_qy h)
  · exact pick3 (fun v _ => rn3_r16_4_3 v _) (at_lit ho) (at_lit hk) (at_qx h) (at_qy h)
theorem s16_5 (o k n x y : Int) (ho : word o = 16) (hk : word k = 5) : G3 o k n x y := by
  rcases cls123 true 0 true 0 (word x) (word y) with h | h | h
  · exact pick3 (fun v _ => rn3_r16_5_1 v _) (at_lit ho) (at_lit hk) (at_qx h) (at_qy h)
  · exact pick3 (fun v _ => rn3_r16_5_2 v _) (at_lit ho) (at_lit hk) (at_qx h) (at_qy h)
  · exact pick3 (fun v _ => rn3_r16_5_3 v _) (at_lit ho) (at_lit hk) (at_qx h) (at_qy h)
theorem s16_6 (o k n x y : Int) (ho : word o = 16) (hk : word k = 6) : G3 o k n x y := by
  rcases cls123 false 56 false 56 (word x) (word y) with h | h | h
  · exact pick3 (fun v _ => rn3_r16_6_1 v _) (at_lit ho) (at_lit hk) (at_qx h) (at_qy h)
  · exact pick3 (fun v _ => rn3_r16_6_2 v _) (at_lit ho) (at_lit hk) (at_qx h) (at_qy h)
  · exact pick3 (fun v _ => rn3_r16_6_3 v _) (at_lit ho) (at_lit hk) (at_qx h) (at_qy h)
theorem s16_7 (o k n x y : Int) (ho : word o = 16) (hk : word k = 7) : G3 o k n x y := by
  rcases cls123 false 48 false 48 (word x) (word y) with h | h | h
  · exact pick3 (fun v _ => rn3_r16_7_1 v _) (at_lit ho) (at_lit hk) (at_qx h) (at_qy h)
  · exact pick3 (fun v _ => rn3_r16_7_2 v _) (at_lit ho) (at_lit hk) (at_qx h) (at_qy h)
  · exact pick3 (fun v _ => rn3_r16_7_3 v _) (at_lit ho) (at_lit hk) (at_qx h) (at_qy h)
theorem s16_8 (o k n x y : Int) (ho : word o = 16) (hk : word k = 8) : G3 o k n x y := by
  rcases cls123 false 32 false 32 (word x) (word y) with h | h | h
  · exact pick3 (fun v _ => rn3_r16_8_1 v _) (at_lit ho) (at_lit hk) (at_qx h) (at_qy h)
  · exact pick3 (fun v _ => rn3_r16_8_2 v _) (at_lit ho) (at_lit hk) (at_qx h) (at_qy h)
  · exact pick3 (fun v _ => rn3_r16_8_3 v _) (at_lit ho) (at_lit hk) (at_qx h) (at_qy h)
theorem s16_9 (o k n x y : Int) (ho : word o = 16) (hk : word k = 9) : G3 o k n x y := by
  rcases cls123 false 0 false 0 (word x) (word y) with h | h | h
  · exact pick3 (fun v _ => rn3_r16_9_1 v _) (at_lit ho) (at_lit hk) (at_qx h) (at_qy h)
  · exact pick3 (fun v _ => rn3_r16_9_2 v _) (at_lit ho) (at_lit hk) (at_qx h) (at_qy h)
  · exact pick3 (fun v _ => rn3_r16_9_3 v _) (at_lit ho) (at_lit hk) (at_qx h) (at_qy h)
theorem s16_10 (o k n x y : Int) (ho : word o = 16) (hk : word k = 10) : G3 o k n x y := by
  exact pick3 (fun v _ => rn3_r16_10_0 v _) (at_lit ho) (at_lit hk) vX vY
theorem s16_11 (o k n x y : Int) (ho : word o = 16) (hk : word k = 11) : G3 o k n x y := by
  exact pick3 rn3_r16_11_0 (at_lit ho) (at_lit hk) vX vY
theorem s16 (o k n x y : Int) (ho : word o = 16) : G3 o k n x y := by
  rcases which k 12 (by decide) with h | h | ⟨h1, h2⟩
  · exact pick3 rn3_klo16 (at_lit ho) (at_rg rfl (lo_le k) h) vX vY
  · exact pick3 rn3_khi16 (at_lit ho) (at_rg rfl h (le_hi k)) vX vY
  · obtain hk | hk | hk | hk | hk | hk | hk | hk | hk | hk | hk : word k = 1 ∨ word k = 2 ∨ word k = 3 ∨ word k = 4 ∨ word k = 5 ∨ word k = 6 ∨ word k = 7 ∨ word k = 8 ∨ word k = 9 ∨ word k = 10 ∨ word k = 11 := by omega
    · exact s16_1 o k n x y ho hk
    · exact s16_2 o k n x y ho hk
    · exact s16_3 o k n x y ho hk
    · exact s16_4 o k n x y ho hk
    · exact s16_5 o k n x y ho hk
    · exact s16_6 o k n x y ho hk
    · exact s16_7 o k n x y ho hk
    · exact s16_8 o k n x y ho hk
    · exact s16_9 o k n x y ho hk
    · exact s16_10 o k n x y ho hk
    · exact s16_11 o k n x y ho hk
theorem sel3 (o k n x y : Int) : G3 o k n x y := by
  rcases which o 17 (by decide) with h | h | ⟨h1, h2⟩
  · exact pick3 rn3_olo (at_rg rfl (lo_le o) h) vK vX vY
  · exact pick3 rn3_ohi (at_rg rfl h (le_hi o)) vK vX vY
  · obtain ho | ho | ho | ho | ho | ho | ho | ho | ho | ho | ho | ho | ho | ho | ho | ho : word o = 1 ∨ word o = 2 ∨ word o = 3 ∨ word o = 4 ∨ word o = 5 ∨ word o = 6 ∨ word o = 7 ∨ word o = 8 ∨ word o = 9 ∨ word o = 10 ∨ word o = 11 ∨ word o = 12 ∨ word o = 13 ∨ word o = 14 ∨ word o = 15 ∨ word o = 16 := by omega
    · exact s1 o k n x y ho
    · exact s2 o k n x y ho
    · exact s3 o k n x y ho
    · exact s4 o k n x y ho
    · exact s5 o k n x y ho
    · exact s6 o k n x y ho
    · exact s7 o k n x y ho
    · exact s8 o k n x y ho
    · exact s9 o k n x y ho
    · exact s10 o k n x y ho
    · exact s11 o k n x y ho
    · exact s12 o k n x y ho
    · exact s13 o k n x y ho
    · exact s14 o k n x y ho
    · exact s15 o k n x y ho
    · exact s16 o k n x y ho
end Go.X
