/- A part of the proof of this statement: ProveOnce: for every input the law answers true and leaves its argument as it was. -/
import Derived.Test.YtcinkldpihkhbaaGreatZR8x0
import Derived.Test.YtcinkldpihkhbaaGreatZR8x1
import Derived.Test.YtcinkldpihkhbaaGreatZR8x2
import Derived.Test.YtcinkldpihkhbaaGreatZR8x3
import Derived.Test.YtcinkldpihkhbaaGreatZR8x4
import Derived.Test.YtcinkldpihkhbaaGreatZR8x5
import Derived.Test.YtcinkldpihkhbaaGreatZR8x6
import Derived.Test.YtcinkldpihkhbaaGreatZR8x7
import Derived.Test.YtcinkldpihkhbaaGreatZR8x8
import Derived.Test.YtcinkldpihkhbaaGreatZR8x9
import Derived.Test.YtcinkldpihkhbaaGreatZR8x10
import Derived.Test.YtcinkldpihkhbaaGreatZR8x11
import Derived.Test.YtcinkldpihkhbaaGreatZGT
import Derived.Test.YtcinkldpihkhbaaGreatZXSo
import Derived.KernelRfl
import Derived.Test.YtcinkldpihkhbaaGreatRows
set_option linter.unusedSectionVars false
set_option linter.unusedVariables false
set_option linter.unusedSimpArgs false
set_option linter.constructorNameAsVariable false
namespace Go.X
open Go.RowKit Go.WideShapes Go.ChangeShapes Go.Deep Go.Proofs.Tryz
set_option maxRecDepth 100000
theorem all8_0_0_0 : ∀ q, q < 3 → rn8 0 0 q J8_0 = true
  | 0, _ => rn8_0_0_0_0
  | 1, _ => rn8_0_0_1_0
  | 2, _ => rn8_0_0_2_0
  | q + 3, h => absurd h (by omega)
theorem all8_0_1_0 : ∀ q, q < 3 → rn8 0 1 q J8_0 = true
  | 0, _ => rn8_0_1_0_0
  | 1, _ => rn8_0_1_1_0
  | 2, _ => rn8_0_1_2_0
  | q + 3, h => absurd h (by omega)
theorem all8_0_2_0 : ∀ q, q < 3 → rn8 0 2 q J8_0 = true
  | 0, _ => rn8_0_2_0_0
  | 1, _ => rn8_0_2_1_0
  | 2, _ => rn8_0_2_2_0
  | q + 3, h => absurd h (by omega)
theorem all8_0_3_0 : ∀ q, q < 3 → rn8 0 3 q J8_0 = true
  | 0, _ => rn8_0_3_0_0
  | 1, _ => rn8_0_3_1_0
  | 2, _ => rn8_0_3_2_0
  | q + 3, h => absurd h (by omega)
theorem all8_0_4_0 : ∀ q, q < 3 → rn8 0 4 q J8_0 = true
  | 0, _ => rn8_0_4_0_0
  | 1, _ => rn8_0_4_1_0
  | 2, _ => rn8_0_4_2_0
  | q + 3, h => absurd h (by omega)
theorem all8_0_5_0 : ∀ q, q < 3 → rn8 0 5 q J8_0 = true
  | 0, _ => rn8_0_5_0_0
  | 1, _ => rn8_0_5_1_0
  | 2, _ => rn8_0_5_2_0
  | q + 3, h => absurd h (by omega)
theorem all8_0_0 : ∀ s, s < 6 → ∀ q, q < 3 → rn8 0 s q J8_0 = true
  | 0, _ => all8_0_0_0
  | 1, _ => all8_0_1_0
  | 2, _ => all8_0_2_0
  | 3, _ => all8_0_3_0
  | 4, _ => all8_0_4_0
  | 5, _ => all8_0_5_0
  | s + 6, h => absurd h (by omega)
theorem all8_1_0_0 : ∀ q, q < 3 → rn8 1 0 q J8_0 = true
  | 0, _ => rn8_1_0_0_0
  | 1, _ => rn8_1_0_1_0
  | 2, _ => rn8_1_0_2_0
  | q + 3, h => absurd h (by omega)
theorem all8_1_1_0 : ∀ q, q < 3 → rn8 1 1 q J8_0 = true
  | 0, _ => rn8_1_1_0_0
  | 1, _ => rn8_1_1_1_0
  | 2, _ => rn8_1_1_2_0
  | q + 3, h => absurd h (by omega)
theorem all8_1_2_0 : ∀ q, q < 3 → rn8 1 2 q J8_0 = true
  | 0, _ => rn8_1_2_0_0
  | 1, _ => rn8_1_2_1_0
  | 2, _ => rn8_1_2_2_0
  | q + 3, h => absurd h (by omega)
theorem all8_1_3_0 : ∀ q, q < 3 → rn8 1 3 q J8_0 = true
  | 0, _ => rn8_1_3_0_0
  | 1, _ => rn8_1_3_1_0
  | 2, _ => rn8_1_3_2_0
  | q + 3, h => absurd h (by omega)
theorem all8_1_4_0 : ∀ q, q < 3 → rn8 1 4 q J8_0 = true
  | 0, _ => rn8_1_4_0_0
  | 1, _ => rn8_1_4_1_0
  | 2, _ => rn8_1_4_2_0
  | q + 3, h => absurd h (by omega)
theorem all8_1_5_0 : ∀ q, q < 3 → rn8 1 5 q J8_0 = true
  | 0, _ => rn8_1_5_0_0
  | 1, _ => rn8_1_5_1_0
  | 2, _ => rn8_1_5_2_0
  | q + 3, h => absurd h (by omega)
theorem all8_1_0 : ∀ s, s < 6 → ∀ q, q < 3 → rn8 1 s q J8_0 = true
  | 0, _ => all8_1_0_0
  | 1, _ => all8_1_1_0
  | 2, _ => all8_1_2_0
  | 3, _ => all8_1_3_0
  | 4, _ => all8_1_4_0
  | 5, _ => all8_1_5_0
  | s + 6, h => absurd h (by omega)
theorem all8_2_0_0 : ∀ q, q < 3 → rn8 2 0 q J8_0 = true
  | 0, _ => rn8_2_0_0_0
  | 1, _ => rn8_2_0_1_0
  | 2, _ => rn8_2_0_2_0
  | q + 3, h => absurd h (by omega)
theorem all8_2_1_0 : ∀ q, q < 3 → rn8 2 1 q J8_0 = true
  | 0, _ => rn8_2_1_0_0
  | 1, _ => rn8_2_1_1_0
  | 2, _ => rn8_2_1_2_0
  | q + 3, h => absurd h (by omega)
theorem all8_2_2_0 : ∀ q, q < 3 → rn8 2 2 q J8_0 = true
  | 0, _ => rn8_2_2_0_0
  | 1, _ => rn8_2_2_1_0
  | 2, _ => rn8_2_2_2_0
  | q + 3, h => absurd h (by omega)
theorem all8_2_3_0 : ∀ q, q < 3 → rn8 2 3 q J8_0 = true
  | 0, _ => rn8_2_3_0_0
  | 1, _ => rn8_2_3_1_0
  | 2, _ => rn8_2_3_2_0
  | q + 3, h => absurd h (by omega)
theorem all8_2_4_0 : ∀ q, q < 3 → rn8 2 4 q J8_0 = true
  | 0, _ => rn8_2_4_0_0
  | 1, _ => rn8_2_4_1_0
  | 2, _ => rn8_2_4_2_0
  | q + 3, h => absurd h (by omega)
theorem all8_2_5_0 : ∀ q, q < 3 → rn8 2 5 q J8_0 = true
  | 0, _ => rn8_2_5_0_0
  | 1, _ => rn8_2_5_1_0
  | 2, _ => rn8_2_5_2_0
  | q + 3, h => absurd h (by omega)
theorem all8_2_0 : ∀ s, s < 6 → ∀ q, q < 3 → rn8 2 s q J8_0 = true
  | 0, _ => all8_2_0_0
  | 1, _ => all8_2_1_0
  | 2, _ => all8_2_2_0
  | 3, _ => all8_2_3_0
  | 4, _ => all8_2_4_0
  | 5, _ => all8_2_5_0
  | s + 6, h => absurd h (by omega)
theorem all8_3_0_0 : ∀ q, q < 3 → rn8 3 0 q J8_0 = true
  | 0, _ => rn8_3_0_0_0
  | 1, _ => rn8_3_0_1_0
  | 2, _ => rn8_3_0_2_0
  | q + 3, h => absurd h (by omega)
theorem all8_3_1_0 : ∀ q, q < 3 → rn8 3 1 q J8_0 = true
  | 0, _ => rn8_3_1_0_0
  | 1, _ => rn8_3_1_1_0
  | 2, _ => rn8_3_1_2_0
  | q + 3, h => absurd h (by omega)
theorem all8_3_2_0 : ∀ q, q < 3 → rn8 3 2 q J8_0 = true
  | 0, _ => rn8_3_2_0_0
  | 1, _ => rn8_3_2_1_0
  | 2, _ => rn8_3_2_2_0
  | q + 3, h => absurd h (by omega)
theorem all8_3_3_0 : ∀ q, q < 3 → rn8 3 3 q J8_0 = true
  | 0, _ => rn8_3_3_0_0
  | 1, _ => rn8_3_3_1_0
  | 2, _ => rn8_3_3_2_0
  | q + 3, h => absurd h (by omega)
theorem all8_3_4_0 : ∀ q, q < 3 → rn8 3 4 q J8_0 = true
  | 0, _ => rn8_3_4_0_0
  | 1, _ => rn8_3_4_1_0
  | 2, _ => rn8_3_4_2_0
  | q + 3, h => absurd h (by omega)
theorem all8_3_5_0 : ∀ q, q < 3 → rn8 3 5 q J8_0 = true
  | 0, _ => rn8_3_5_0_0
  | 1, _ => rn8_3_5_1_0
  | 2, _ => rn8_3_5_2_0
  | q + 3, h => absurd h (by omega)
theorem all8_3_0 : ∀ s, s < 6 → ∀ q, q < 3 → rn8 3 s q J8_0 = true
  | 0, _ => all8_3_0_0
  | 1, _ => all8_3_1_0
  | 2, _ => all8_3_2_0
  | 3, _ => all8_3_3_0
  | 4, _ => all8_3_4_0
  | 5, _ => all8_3_5_0
  | s + 6, h => absurd h (by omega)
theorem all8_4_0_0 : ∀ q, q < 3 → rn8 4 0 q J8_0 = true
  | 0, _ => rn8_4_0_0_0
  | 1, _ => rn8_4_0_1_0
  | 2, _ => rn8_4_0_2_0
  | q + 3, h => absurd h (by omega)
theorem all8_4_1_0 : ∀ q, q < 3 → rn8 4 1 q J8_0 = true
  | 0, _ => rn8_4_1_0_0
  | 1, _ => rn8_4_1_1_0
  | 2, _ => rn8_4_1_2_0
  | q + 3, h => absurd h (by omega)
theorem all8_4_2_0 : ∀ q, q < 3 → rn8 4 2 q J8_0 = true
  | 0, _ => rn8_4_2_0_0
  | 1, _ => rn8_4_2_1_0
  | 2, _ => rn8_4_2_2_0
  | q + 3, h => absurd h (by omega)
theorem all8_4_3_0 : ∀ q, q < 3 → rn8 4 3 q J8_0 = true
  | 0, _ => rn8_4_3_0_0
  | 1, _ => rn8_4_3_1_0
  | 2, _ => rn8_4_3_2_0
  | q + 3, h => absurd h (by omega)
theorem all8_4_4_0 : ∀ q, q < 3 → rn8 4 4 q J8_0 = true
  | 0, _ => rn8_4_4_0_0
  | 1, _ => rn8_4_4_1_0
  | 2, _ => rn8_4_4_2_0
  | q + 3, h => absurd h (by omega)
theorem all8_4_5_0 : ∀ q, q < 3 → rn8 4 5 q J8_0 = true
  | 0, _ => rn8_4_5_0_0
  | 1, _ => rn8_4_5_1_0
  | 2, _ => rn8_4_5_2_0
  | q + 3, h => absurd h (by omega)
theorem all8_4_0 : ∀ s, s < 6 → ∀ q, q < 3 → rn8 4 s q J8_0 = true
  | 0, _ => all8_4_0_0
  | 1, _ => all8_4_1_0
  | 2, _ => all8_4_2_0
  | 3, _ => all8_4_3_0
  | 4, _ => all8_4_4_0
  | 5, _ => all8_4_5_0
  | s + 6, h => absurd h (by omega)
theorem all8_5_0_0 : ∀ q, q < 3 → rn8 5 0 q J8_0 = true
  | 0, _ => rn8_5_0_0_0
  | 1, _ => rn8_5_0_1_0
  | 2, _ => rn8_5_0_2_0
  | q + 3, h => absurd h (by omega)
theorem all8_5_1_0 : ∀ q, q < 3 → rn8 5 1 q J8_0 = true
  | 0, _ => rn8_5_1_0_0
  | 1, _ => rn8_5_1_1_0
  | 2, _ => rn8_5_1_2_0
  | q + 3, h => absurd h (by omega)
theorem all8_5_2_0 : ∀ q, q < 3 → rn8 5 2 q J8_0 = true
  | 0, _ => rn8_5_2_0_0
  | 1, _ => rn8_5_2_1_0
  | 2, _ => rn8_5_2_2_0
  | q + 3, h => absurd h (by omega)
theorem all8_5_3_0 : ∀ q, q < 3 → rn8 5 3 q J8_0 = true
  | 0, _ => rn8_5_3_0_0
  | 1, _ => rn8_5_3_1_0
  | 2, _ => rn8_5_3_2_0
  | q + 3, h => absurd h (by omega)
theorem all8_5_4_0 : ∀ q, q < 3 → rn8 5 4 q J8_0 = true
  | 0, _ => rn8_5_4_0_0
  | 1, _ => rn8_5_4_1_0
  | 2, _ => rn8_5_4_2_0
  | q + 3, h => absurd h (by omega)
theorem all8_5_5_0 : ∀ q, q < 3 → rn8 5 5 q J8_0 = true
  | 0, _ => rn8_5_5_0_0
  | 1, _ => rn8_5_5_1_0
  | 2, _ => rn8_5_5_2_0
  | q + 3, h => absurd h (by omega)
theorem all8_5_0 : ∀ s, s < 6 → ∀ q, q < 3 → rn8 5 s q J8_0 = true
  | 0, _ => all8_5_0_0
  | 1, _ => all8_5_1_0
  | 2, _ => all8_5_2_0
  | 3, _ => all8_5_3_0
  | 4, _ => all8_5_4_0
  | 5, _ => all8_5_5_0
  | s + 6, h => absurd h (by omega)
theorem all8_6_0_0 : ∀ q, q < 3 → rn8 6 0 q J8_0 = true
  | 0, _ => rn8_6_0_0_0
  | 1, _ => rn8_6_0_1_0
  | 2, _ => rn8_6_0_2_0
  | q + 3, h => absurd h (by omega)
theorem all8_6_1_0 : ∀ q, q < 3 → rn8 6 1 q J8_0 = true
  | 0, _ => rn8_6_1_0_0
  | 1, _ => rn8_6_1_1_0
  | 2, _ => rn8_6_1_2_0
  | q + 3, h => absurd h (by omega)
theorem all8_6_2_0 : ∀ q, q < 3 → rn8 6 2 q J8_0 = true
  | 0, _ => rn8_6_2_0_0
  | 1, _ => rn8_6_2_1_0
  | 2, _ => rn8_6_2_2_0
  | q + 3, h => absurd h (by omega)
theorem all8_6_3_0 : ∀ q, q < 3 → rn8 6 3 q J8_0 = true
  | 0, _ => rn8_6_3_0_0
  | 1, _ => rn8_6_3_1_0
  | 2, _ => rn8_6_3_2_0
  | q + 3, h => absurd h (by omega)
theorem all8_6_4_0 : ∀ q, q < 3 → rn8 6 4 q J8_0 = true
  | 0, _ => rn8_6_4_0_0
  | 1, _ => rn8_6_4_1_0
  | 2, _ => rn8_6_4_2_0
  | q + 3, h => absurd h (by omega)
theorem all8_6_5_0 : ∀ q, q < 3 → rn8 6 5 q J8_0 = true
  | 0, _ => rn8_6_5_0_0
  | 1, _ => rn8_6_5_1_0
  | 2, _ => rn8_6_5_2_0
  | q + 3, h => absurd h (by omega)
theorem all8_6_0 : ∀ s, s < 6 → ∀ q, q < 3 → rn8 6 s q J8_0 = true
  | 0, _ => all8_6_0_0
  | 1, _ => all8_6_1_0
  | 2, _ => all8_6_2_0
  | 3, _ => all8_6_3_0
  | 4, _ => all8_6_4_0
  | 5, _ => all8_6_5_0
  | s + 6, h => absurd h (by omega)
theorem all8_7_0_0 : ∀ q, q < 3 → rn8 7 0 q J8_0 = true
  | 0, _ => rn8_7_0_0_0
  | 1, _ => rn8_7_0_1_0
  | 2, _ => rn8_7_0_2_0
  | q + 3, h => absurd h (by omega)
theorem all8_7_1_0 : ∀ q, q < 3 → rn8 7 1 q J8_0 = true
  | 0, _ => rn8_7_1_0_0
  | 1, _ => rn8_7_1_1_0
  | 2, _ => rn8_7_1_2_0
  | q + 3, h => absurd h (by omega)
theorem all8_7_2_0 : ∀ q, q < 3 → rn8 7 2 q J8_0 = true
  | 0, _ => rn8_7_2_0_0
  | 1, _ => rn8_7_2_1_0
  | 2, _ => rn8_7_2_2_0
  | q + 3, h => absurd h (by omega)
theorem all8_7_3_0 : ∀ q, q < 3 → rn8 7 3 q J8_0 = true
  | 0, _ => rn8_7_3_0_0
  | 1, _ => rn8_7_3_1_0
  | 2, _ => rn8_7_3_2_0
  | q + 3, h => absurd h (by omega)
theorem all8_7_4_0 : ∀ q, q < 3 → rn8 7 4 q J8_0 = true
  | 0, _ => rn8_7_4_0_0
  | 1, _ => rn8_7_4_1_0
  | 2, _ => rn8_7_4_2_0
  | q + 3, h => absurd h (by omega)
theorem all8_7_5_0 : ∀ q, q < 3 → rn8 7 5 q J8_0 = true
  | 0, _ => rn8_7_5_0_0
  | 1, _ => rn8_7_5_1_0
  | 2, _ => rn8_7_5_2_0
  | q + 3, h => absurd h (by omega)
theorem all8_7_0 : ∀ s, s < 6 → ∀ q, q < 3 → rn8 7 s q J8_0 = true
  | 0, _ => all8_7_0_0
  | 1, _ => all8_7_1_0
  | 2, _ => all8_7_2_0
  | 3, _ => all8_7_3_0
  | 4, _ => all8_7_4_0
  | 5, _ => all8_7_5_0
  | s + 6, h => absurd h (by omega)
theorem all8_0 : ∀ r, r < 8 → ∀ s, s < 6 → ∀ q, q < 3 → rn8 r s q J8_0 = true
  | 0, _ => all8_0_0
  | 1, _ => all8_1_0
  | 2, _ => all8_2_0
  | 3, _ => all8_3_0
  | 4, _ => all8_4_0
  | 5, _ => all8_5_0
  | 6, _ => all8_6_0
  | 7, _ => all8_7_0
  | r + 8, h => absurd h (by omega)
theorem any8 (r s q : Nat) (hr : r < 8) (hs : s < 6) (hq : q < 3) (ch : Nat → Option Bool) (hch : ∀ (k : Nat) (b : Bool), ch k = some b → (b || false) = true) : rn8 r s q (jfr ch fl8 0) = true := by
  exact all8_0 r hr s hs q hq
/-- how two words stand, as ints -/
theorem ord3 (x y : Int) : IntKind.wrap .i64 (word x : Int) < IntKind.wrap .i64 (word y : Int) ∨ IntKind.wrap .i64 (word y : Int) < IntKind.wrap .i64 (word x : Int) ∨ word x = word y := by
  have hx := word_le x
  have hy := word_le y
  rw [wrap_i64', wrap_i64']
  omega
theorem sel8 (o k n x y : Int) : ∃ (wv : Nat → Nat) (tO tK tN tX tY : Tm), SelOk o k n x y wv tO tK tN tX tY ∧ ∀ ch : Nat → Option Bool, (∀ (k : Nat) (b : Bool), ch k = some b → (b || false) = true) →
    chkR false fl8 (ex FT 100000 BC8 (.x (.la (cellsOf tO tK tN tX tY)) :: .b false :: .x .li :: jfr ch fl8 0) [] .e n0) = true := by
  have hr : word n % 8 < 8 := Nat.mod_lt _ (by decide)
  have hs : word o % 6 < 6 := Nat.mod_lt _ (by decide)
  rcases ord3 x y with h | h | h
  · exact ⟨wvO (word x) (word y) o k n x y, .md 6 (word o % 6) 2, .v 3, .md 8 (word n % 8) 4, .v 0, .v 1,
      ⟨wvO_le (word_le _) (word_le _) _ _ _ _ _, h, fun inst hw => ⟨tmv_md hw 6 2, tmv_v hw 3, tmv_md hw 8 4, tmv_v hw 0, tmv_v hw 1⟩⟩, fun ch hch => any8 _ _ 0 hr hs (by decide) ch hch⟩
  · exact ⟨wvO (word y) (word x) o k n x y, .md 6 (word o % 6) 2, .v 3, .md 8 (word n % 8) 4, .v 1, .v 0,
      ⟨wvO_le (word_le _) (word_le _) _ _ _ _ _, h, fun inst hw => ⟨tmv_md hw 6 2, tmv_v hw 3, tmv_md hw 8 4, tmv_v hw 1, tmv_v hw 0⟩⟩, fun ch hch => any8 _ _ 1 hr hs (by decide) ch hch⟩
  · refine ⟨wvE o k n x y, .md 6 (word o % 6) 2, .v 3, .md 8 (word n % 8) 4, .v 5, .v 5,
      ⟨wvE_le _ _ _ _ _, (by show IntKind.wrap .i64 0 < IntKind.wrap .i64 1; decide), fun inst hw => ⟨tmv_md hw 6 2, tmv_v hw 3, tmv_md hw 8 4, tmv_v hw 5, ?_⟩⟩, fun ch hch => any8 _ _ 2 hr hs (by decide) ch hch⟩
    rw [← h]; exact tmv_v hw 5

theorem wakes8 : callF FT (ex FT 100000) [] (fun v _ _ => .nm [v] [] .e []) kpNo (FT.get f44) .e n1 = .nm [.b true] [] .e [] := by kernel_rfl
theorem law8 {v : Value} {W : World} (ha : ArgOk W v) : Calls prog 8 #[v] W fun e w' => e = .returned (.bool true) ∧ Below W.heap.size W w' :=
  law_of_runs (P := prog) (ok := false) (js := [4, 5, 6, 7, 8, 9, 10, 11, 12, 13, 14, 15]) (fl := fl8) (lim := 10) (fw := f44) (BC := BC8) (fuelB := 100000) (by kernel_rfl) FT_ok Go.Proofs.Tryz.func8 rfl rfl (by decide) rfl (by decide) (by decide)
    (by kernel_rfl) (by kernel_rfl) (by kernel_rfl) (by kernel_rfl) (by kernel_rfl) (by kernel_rfl) (by decide) wakes8 (sel8) ha
end Go.X
namespace Go.Proofs.YtcinkldpihkhbaaGreat
open Go.ChangeShapes Go.WideShapes Go.ChangeAt Go.RowKit
theorem Tryz.own : ownKnob Tryz.prog.godebug = none := by kernel_rfl
theorem Tryz.laidOut : laidOutB Tryz.prog = true := by kernel_rfl
set_option maxRecDepth 100000 in
theorem lifted (os : Os) (started : os.Started) (H : Type) (enc : TypeId × Value → H) :
    ReturnsInHanded Rows.proveOnceRow.assume Tryz.checked os 8 .any (Rows.proveOnceSpec.pre6 enc Tryz.prog Tryz.f8 Rows.proveOnceRow.domain false) (Rows.proveOnceSpec.post enc Tryz.prog Tryz.f8 false Rows.proveOnceRow.fresh Rows.proveOnceRow.handsOn Rows.proveOnceRow.again) := by
  refine returnsInHanded_of_change (C := Tryz.checked) Tryz.own started (by kernel_rfl) Tryz.func8
    (ChangeSpec.witness6 (enc := enc) (C := Tryz.checked) false ⟨#[], #[.slice none 0 0], []⟩ 8 (by kernel_rfl) (by kernel_rfl) (by kernel_rfl) (by kernel_rfl)) ?_
  intro W base args ds gs before hval0 hW hcnd _
  have hval : ∀ (j : Nat) t v, Tryz.f8.params[j]? = some t → args[j]? = some v → Value.okWide Tryz.prog W .any base t v := hval0
  have hW' := hW
  obtain ⟨p, q, hA0, hV, rfl, hfz, hnd⟩ := hW
  have hA : DataW.TrodAll enc Tryz.prog W 0 (fun _ => true) true Tryz.f8.params.toList args.toList ds p := hA0
  rw [Tryz.params8] at hA hval
  obtain ⟨v0, d0, rfl, rfl, h0⟩ := trodAll_one hA
  obtain ⟨rfl, rfl⟩ := trodVars_none hV
  have hv0 := hval 0 22 v0 rfl rfl
  clear hA0 hval0
  simp only [List.append_nil] at hW'
  have hlt : ∀ x ∈ p, x.block < W.heap.size := fun x hx => by simpa using hW'.lt x hx
  have hargs : ∀ (W' : World), Below W.heap.size W W' → DataW.Trod enc Tryz.prog W' 0 (fun b => decide (b < W.heap.size)) true 22 v0 d0 p :=
    fun W' hn => Below.trod Tryz.laidOut (by kernel_rfl) (of_decide_eq_true (by kernel_rfl)) h0 hn hlt
  refine (Go.X.law8 (Go.X.arg_ok (e := 26) (ti := 3) (tw := 24) (fs := _) (by kernel_rfl) Tryz.underlying26 (by kernel_rfl) (by kernel_rfl) (by kernel_rfl) (by kernel_rfl) (by kernel_rfl) hv0 h0)).mono fun e W' ⟨he, hn⟩ => ?_
  subst he
  exact ⟨_, rfl, _, _, _, [], _, [], hW', trodAll_mk1 (shut_bool (by kernel_rfl) true), trodAll_mk1 (hargs _ hn), rfl, hn.frame _, fun h => by cases h⟩

end Go.Proofs.YtcinkldpihkhbaaGreat
