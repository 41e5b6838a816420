/- A part of the proof of this statement: FoldWords: for every input the law answers true and leaves its argument as it was. -/
import Derived.Test.YtfpdaeihlnlhcaaGreatUR3d
import Derived.KernelRfl
set_option linter.unusedSectionVars false
set_option linter.unusedVariables false
set_option linter.unusedSimpArgs false
set_option linter.constructorNameAsVariable false
namespace Go.X
set_option maxRecDepth 100000
theorem rn3_olo (v : AV) (o : Option Bool) : rn3 (.rg (.negSucc 9223372036854775807) (.ofNat 0) 2) (.v 3) (.v 5) (.v 6) v (lv true o 11) = true := by
  rcases o with _ | _ | _ <;> kernel_rfl
theorem rn3_ohi (v : AV) (o : Option Bool) : rn3 (.rg (.ofNat 17) (.ofNat 9223372036854775807) 2) (.v 3) (.v 5) (.v 6) v (lv true o 11) = true := by
  rcases o with _ | _ | _ <;> kernel_rfl
theorem rn3_klo1 (v : AV) (o : Option Bool) : rn3 (.lit (.ofNat 1)) (.rg (.negSucc 9223372036854775807) (.ofNat 0) 3) (.v 5) (.v 6) v (lv true o 11) = true := by
  rcases o with _ | _ | _ <;> kernel_rfl
theorem rn3_khi1 (v : AV) (o : Option Bool) : rn3 (.lit (.ofNat 1)) (.rg (.ofNat 12) (.ofNat 9223372036854775807) 3) (.v 5) (.v 6) v (lv true o 11) = true := by
  rcases o with _ | _ | _ <;> kernel_rfl
theorem rn3_r1_1_0 (v : AV) (o : Option Bool) : rn3 (.lit (.ofNat 1)) (.lit (.ofNat 1)) (.v 5) (.v 6) v (lv true o 11) = true := by
  rcases o with _ | _ | _ <;> kernel_rfl
theorem rn3_r1_11_0 (v : AV) (o : Option Bool) : rn3 (.lit (.ofNat 1)) (.lit (.ofNat 11)) (.v 5) (.v 6) v (lv true o 11) = true := by
  rcases o with _ | _ | _ <;> kernel_rfl
theorem rn3_klo2 (v : AV) (o : Option Bool) : rn3 (.lit (.ofNat 2)) (.rg (.negSucc 9223372036854775807) (.ofNat 0) 3) (.v 5) (.v 6) v (lv true o 11) = true := by
  rcases o with _ | _ | _ <;> kernel_rfl
theorem rn3_khi2 (v : AV) (o : Option Bool) : rn3 (.lit (.ofNat 2)) (.rg (.ofNat 12) (.ofNat 9223372036854775807) 3) (.v 5) (.v 6) v (lv true o 11) = true := by
  rcases o with _ | _ | _ <;> kernel_rfl
theorem rn3_r2_1_0 (v : AV) (o : Option Bool) : rn3 (.lit (.ofNat 2)) (.lit (.ofNat 1)) (.v 5) (.v 6) v (lv true o 11) = true := by
  rcases o with _ | _ | _ <;> kernel_rfl
theorem rn3_r2_11_0 (v : AV) (o : Option Bool) : rn3 (.lit (.ofNat 2)) (.lit (.ofNat 11)) (.v 5) (.v 6) v (lv true o 11) = true := by
  rcases o with _ | _ | _ <;> kernel_rfl
theorem rn3_klo3 (v : AV) (o : Option Bool) : rn3 (.lit (.ofNat 3)) (.rg (.negSucc 9223372036854775807) (.ofNat 0) 3) (.v 5) (.v 6) v (lv true o 11) = true := by
  rcases o with _ | _ | _ <;> kernel_rfl
theorem rn3_khi3 (v : AV) (o : Option Bool) : rn3 (.lit (.ofNat 3)) (.rg (.ofNat 12) (.ofNat 9223372036854775807) 3) (.v 5) (.v 6) v (lv true o 11) = true := by
  rcases o with _ | _ | _ <;> kernel_rfl
theorem rn3_r3_1_0 (v : AV) (o : Option Bool) : rn3 (.lit (.ofNat 3)) (.lit (.ofNat 1)) (.v 5) (.v 6) v (lv true o 11) = true := by
  rcases o with _ | _ | _ <;> kernel_rfl
theorem rn3_r3_11_0 (v : AV) (o : Option Bool) : rn3 (.lit (.ofNat 3)) (.lit (.ofNat 11)) (.v 5) (.v 6) v (lv true o 11) = true := by
  rcases o with _ | _ | _ <;> kernel_rfl
theorem rn3_klo4 (v : AV) (o : Option Bool) : rn3 (.lit (.ofNat 4)) (.rg (.negSucc 9223372036854775807) (.ofNat 0) 3) (.v 5) (.v 6) v (lv true o 11) = true := by
  rcases o with _ | _ | _ <;> kernel_rfl
theorem rn3_khi4 (v : AV) (o : Option Bool) : rn3 (.lit (.ofNat 4)) (.rg (.ofNat 12) (.ofNat 9223372036854775807) 3) (.v 5) (.v 6) v (lv true o 11) = true := by
  rcases o with _ | _ | _ <;> kernel_rfl
theorem rn3_r4_1_0 (v : AV) (o : Option Bool) : rn3 (.lit (.ofNat 4)) (.lit (.ofNat 1)) (.v 5) (.v 6) v (lv true o 11) = true := by
  rcases o with _ | _ | _ <;> kernel_rfl
theorem rn3_r4_11_0 (v : AV) (o : Option Bool) : rn3 (.lit (.ofNat 4)) (.lit (.ofNat 11)) (.v 5) (.v 6) v (lv true o 11) = true := by
  rcases o with _ | _ | _ <;> kernel_rfl
theorem rn3_klo5 (v : AV) (o : Option Bool) : rn3 (.lit (.ofNat 5)) (.rg (.negSucc 9223372036854775807) (.ofNat 0) 3) (.v 5) (.v 6) v (lv true o 11) = true := by
  rcases o with _ | _ | _ <;> kernel_rfl
theorem rn3_khi5 (v : AV) (o : Option Bool) : rn3 (.lit (.ofNat 5)) (.rg (.ofNat 12) (.ofNat 9223372036854775807) 3) (.v 5) (.v 6) v (lv true o 11) = true := by
  rcases o with _ | _ | _ <;> kernel_rfl
theorem rn3_r5_1_0 (v : AV) (o : Option Bool) : rn3 (.lit (.ofNat 5)) (.lit (.ofNat 1)) (.v 5) (.v 6) v (lv true o 11) = true := by
  rcases o with _ | _ | _ <;> kernel_rfl
theorem rn3_r5_10_0 (v : AV) (o : Option Bool) : rn3 (.lit (.ofNat 5)) (.lit (.ofNat 10)) (.v 5) (.v 6) v (lv true o 11) = true := by
  rcases o with _ | _ | _ <;> kernel_rfl
theorem rn3_r5_11_0 (v : AV) (o : Option Bool) : rn3 (.lit (.ofNat 5)) (.lit (.ofNat 11)) (.v 5) (.v 6) v (lv true o 11) = true := by
  rcases o with _ | _ | _ <;> kernel_rfl
theorem rn3_klo6 (v : AV) (o : Option Bool) : rn3 (.lit (.ofNat 6)) (.rg (.negSucc 9223372036854775807) (.ofNat 0) 3) (.v 5) (.v 6) v (lv true o 11) = true := by
  rcases o with _ | _ | _ <;> kernel_rfl
theorem rn3_khi6 (v : AV) (o : Option Bool) : rn3 (.lit (.ofNat 6)) (.rg (.ofNat 12) (.ofNat 9223372036854775807) 3) (.v 5) (.v 6) v (lv true o 11) = true := by
  rcases o with _ | _ | _ <;> kernel_rfl
theorem rn3_r6_10_0 (v : AV) (o : Option Bool) : rn3 (.lit (.ofNat 6)) (.lit (.ofNat 10)) (.v 5) (.v 6) v (lv true o 11) = true := by
  rcases o with _ | _ | _ <;> kernel_rfl
theorem rn3_r6_11_0 (v : AV) (o : Option Bool) : rn3 (.lit (.ofNat 6)) (.lit (.ofNat 11)) (.v 5) (.v 6) v (lv true o 11) = true := by
  rcases o with _ | _ | _ <;> kernel_rfl
theorem rn3_klo7 (v : AV) (o : Option Bool) : rn3 (.lit (.ofNat 7)) (.rg (.negSucc 9223372036854775807) (.ofNat 0) 3) (.v 5) (.v 6) v (lv true o 11) = true := by
  rcases o with _ | _ | _ <;> kernel_rfl
theorem rn3_khi7 (v : AV) (o : Option Bool) : rn3 (.lit (.ofNat 7)) (.rg (.ofNat 12) (.ofNat 9223372036854775807) 3) (.v 5) (.v 6) v (lv true o 11) = true := by
  rcases o with _ | _ | _ <;> kernel_rfl
theorem rn3_r7_10_0 (v : AV) (o : Option Bool) : rn3 (.lit (.ofNat 7)) (.lit (.ofNat 10)) (.v 5) (.v 6) v (lv true o 11) = true := by
  rcases o with _ | _ | _ <;> kernel_rfl
theorem rn3_r7_11_0 (v : AV) (o : Option Bool) : rn3 (.lit (.ofNat 7)) (.lit (.ofNat 11)) (.v 5) (.v 6) v (lv true o 11) = true := by
  rcases o with _ | _ | _ <;> kernel_rfl
theorem rn3_klo8 (v : AV) (o : Option Bool) : rn3 (.lit (.ofNat 8)) (.rg (.negSucc 9223372036854775807) (.ofNat 0) 3) (.v 5) (.v 6) v (lv true o 11) = true := by
  rcases o with _ | _ | _ <;> kernel_rfl
theorem rn3_khi8 (v : AV) (o : Option Bool) : rn3 (.lit (.ofNat 8)) (.rg (.ofNat 12) (.ofNat 9223372036854775807) 3) (.v 5) (.v 6) v (lv true o 11) = true := by
  rcases o with _ | _ | _ <;> kernel_rfl
theorem rn3_r8_10_0 (v : AV) (o : Option Bool) : rn3 (.lit (.ofNat 8)) (.lit (.ofNat 10)) (.v 5) (.v 6) v (lv true o 11) = true := by
  rcases o with _ | _ | _ <;> kernel_rfl
theorem rn3_r8_11_0 (v : AV) (o : Option Bool) : rn3 (.lit (.ofNat 8)) (.lit (.ofNat 11)) (.v 5) (.v 6) v (lv true o 11) = true := by
  rcases o with _ | _ | _ <;> kernel_rfl
theorem rn3_klo9 (v : AV) (o : Option Bool) : rn3 (.lit (.ofNat 9)) (.rg (.negSucc 9223372036854775807) (.ofNat 0) 3) (.v 5) (.v 6) v (lv true o 11) = true := by
  rcases o with _ | _ | _ <;> kernel_rfl
theorem rn3_khi9 (v : AV) (o : Option Bool) : rn3 (.lit (.ofNat 9)) (.rg (.ofNat 12) (.ofNat 9223372036854775807) 3) (.v 5) (.v 6) v (lv true o 11) = true := by
  rcases o with _ | _ | _ <;> kernel_rfl
theorem rn3_r9_1_0 (v : AV) (o : Option Bool) : rn3 (.lit (.ofNat 9)) (.lit (.ofNat 1)) (.v 5) (.v 6) v (lv true o 11) = true := by
  rcases o with _ | _ | _ <;> kernel_rfl
theorem rn3_r9_10_0 (v : AV) (o : Option Bool) : rn3 (.lit (.ofNat 9)) (.lit (.ofNat 10)) (.v 5) (.v 6) v (lv true o 11) = true := by
  rcases o with _ | _ | _ <;> kernel_rfl
theorem rn3_r9_11_0 (v : AV) (o : Option Bool) : rn3 (.lit (.ofNat 9)) (.lit (.ofNat 11)) (.v 5) (.v 6) v (lv true o 11) = true := by
  rcases o with _ | _ | _ <;> kernel_rfl
theorem rn3_klo10 (v : AV) (o : Option Bool) : rn3 (.lit (.ofNat 10)) (.rg (.negSucc 9223372036854775807) (.ofNat 0) 3) (.v 5) (.v 6) v (lv true o 11) = true := by
  rcases o with _ | _ | _ <;> kernel_rfl
theorem rn3_khi10 (v : AV) (o : Option Bool) : rn3 (.lit (.ofNat 10)) (.rg (.ofNat 12) (.ofNat 9223372036854775807) 3) (.v 5) (.v 6) v (lv true o 11) = true := by
  rcases o with _ | _ | _ <;> kernel_rfl
theorem rn3_r10_1_0 (v : AV) (o : Option Bool) : rn3 (.lit (.ofNat 10)) (.lit (.ofNat 1)) (.v 5) (.v 6) v (lv true o 11) = true := by
  rcases o with _ | _ | _ <;> kernel_rfl
theorem rn3_r10_10_0 (v : AV) (o : Option Bool) : rn3 (.lit (.ofNat 10)) (.lit (.ofNat 10)) (.v 5) (.v 6) v (lv true o 11) = true := by
  rcases o with _ | _ | _ <;> kernel_rfl
theorem rn3_r10_11_0 (v : AV) (o : Option Bool) : rn3 (.lit (.ofNat 10)) (.lit (.ofNat 11)) (.v 5) (.v 6) v (lv true o 11) = true := by
  rcases o with _ | _ | _ <;> kernel_rfl
theorem rn3_klo11 (v : AV) (o : Option Bool) : rn3 (.lit (.ofNat 11)) (.rg (.negSucc 9223372036854775807) (.ofNat 0) 3) (.v 5) (.v 6) v (lv true o 11) = true := by
  rcases o with _ | _ | _ <;> kernel_rfl
theorem rn3_khi11 (v : AV) (o : Option Bool) : rn3 (.lit (.ofNat 11)) (.rg (.ofNat 12) (.ofNat 9223372036854775807) 3) (.v 5) (.v 6) v (lv true o 11) = true := by
  rcases o with _ | _ | _ <;> kernel_rfl
theorem rn3_r11_11_0 (v : AV) (o : Option Bool) : rn3 (.lit (.ofNat 11)) (.lit (.ofNat 11)) (.v 5) (.v 6) v (lv true o 11) = true := by
  rcases o with _ | _ | _ <;> kernel_rfl
theorem rn3_klo12 (v : AV) (o : Option Bool) : rn3 (.lit (.ofNat 12)) (.rg (.negSucc 9223372036854775807) (.ofNat 0) 3) (.v 5) (.v 6) v (lv true o 11) = true := by
  rcases o with _ | _ | _ <;> kernel_rfl
theorem rn3_khi12 (v : AV) (o : Option Bool) : rn3 (.lit (.ofNat 12)) (.rg (.ofNat 12) (.ofNat 9223372036854775807) 3) (.v 5) (.v 6) v (lv true o 11) = true := by
  rcases o with _ | _ | _ <;> kernel_rfl
theorem rn3_r12_11_0 (v : AV) (o : Option Bool) : rn3 (.lit (.ofNat 12)) (.lit (.ofNat 11)) (.v 5) (.v 6) v (lv true o 11) = true := by
  rcases o with _ | _ | _ <;> kernel_rfl
theorem rn3_klo13 (v : AV) (o : Option Bool) : rn3 (.lit (.ofNat 13)) (.rg (.negSucc 9223372036854775807) (.ofNat 0) 3) (.v 5) (.v 6) v (lv true o 11) = true := by
  rcases o with _ | _ | _ <;> kernel_rfl
theorem rn3_khi13 (v : AV) (o : Option Bool) : rn3 (.lit (.ofNat 13)) (.rg (.ofNat 12) (.ofNat 9223372036854775807) 3) (.v 5) (.v 6) v (lv true o 11) = true := by
  rcases o with _ | _ | _ <;> kernel_rfl
theorem rn3_r13_1_0 (v : AV) (o : Option Bool) : rn3 (.lit (.ofNat 13)) (.lit (.ofNat 1)) (.v 5) (.v 6) v (lv true o 11) = true := by
  rcases o with _ | _ | _ <;> kernel_rfl
theorem rn3_r13_11_0 (v : AV) (o : Option Bool) : rn3 (.lit (.ofNat 13)) (.lit (.ofNat 11)) (.v 5) (.v 6) v (lv true o 11) = true := by
  rcases o with _ | _ | _ <;> kernel_rfl
theorem rn3_klo14 (v : AV) (o : Option Bool) : rn3 (.lit (.ofNat 14)) (.rg (.negSucc 9223372036854775807) (.ofNat 0) 3) (.v 5) (.v 6) v (lv true o 11) = true := by
  rcases o with _ | _ | _ <;> kernel_rfl
theorem rn3_khi14 (v : AV) (o : Option Bool) : rn3 (.lit (.ofNat 14)) (.rg (.ofNat 12) (.ofNat 9223372036854775807) 3) (.v 5) (.v 6) v (lv true o 11) = true := by
  rcases o with _ | _ | _ <;> kernel_rfl
theorem rn3_r14_1_0 (v : AV) (o : Option Bool) : rn3 (.lit (.ofNat 14)) (.lit (.ofNat 1)) (.v 5) (.v 6) v (lv true o 11) = true := by
  rcases o with _ | _ | _ <;> kernel_rfl
theorem rn3_r14_11_0 (v : AV) (o : Option Bool) : rn3 (.lit (.ofNat 14)) (.lit (.ofNat 11)) (.v 5) (.v 6) v (lv true o 11) = true := by
  rcases o with _ | _ | _ <;> kernel_rfl
theorem rn3_klo15 (v : AV) (o : Option Bool) : rn3 (.lit (.ofNat 15)) (.rg (.negSucc 9223372036854775807) (.ofNat 0) 3) (.v 5) (.v 6) v (lv true o 11) = true := by
  rcases o with _ | _ | _ <;> kernel_rfl
theorem rn3_khi15 (v : AV) (o : Option Bool) : rn3 (.lit (.ofNat 15)) (.rg (.ofNat 12) (.ofNat 9223372036854775807) 3) (.v 5) (.v 6) v (lv true o 11) = true := by
  rcases o with _ | _ | _ <;> kernel_rfl
theorem rn3_r15_1_0 (v : AV) (o : Option Bool) : rn3 (.lit (.ofNat 15)) (.lit (.ofNat 1)) (.v 5) (.v 6) v (lv true o 11) = true := by
  rcases o with _ | _ | _ <;> kernel_rfl
theorem rn3_r15_11_0 (v : AV) (o : Option Bool) : rn3 (.lit (.ofNat 15)) (.lit (.ofNat 11)) (.v 5) (.v 6) v (lv true o 11) = true := by
  rcases o with _ | _ | _ <;> kernel_rfl
theorem rn3_klo16 (v : AV) (o : Option Bool) : rn3 (.lit (.ofNat 16)) (.rg (.negSucc 9223372036854775807) (.ofNat 0) 3) (.v 5) (.v 6) v (lv true o 11) = true := by
  rcases o with _ | _ | _ <;> kernel_rfl
theorem rn3_khi16 (v : AV) (o : Option Bool) : rn3 (.lit (.ofNat 16)) (.rg (.ofNat 12) (.ofNat 9223372036854775807) 3) (.v 5) (.v 6) v (lv true o 11) = true := by
  rcases o with _ | _ | _ <;> kernel_rfl
theorem rn3_r16_1_0 (v : AV) (o : Option Bool) : rn3 (.lit (.ofNat 16)) (.lit (.ofNat 1)) (.v 5) (.v 6) v (lv true o 11) = true := by
  rcases o with _ | _ | _ <;> kernel_rfl
theorem rn3_r16_11_0 (v : AV) (o : Option Bool) : rn3 (.lit (.ofNat 16)) (.lit (.ofNat 11)) (.v 5) (.v 6) v (lv true o 11) = true := by
  rcases o with _ | _ | _ <;> kernel_rfl
theorem rn3_r1_2_0 (v u : AV) : rn3 (.lit (.ofNat 1)) (.lit (.ofNat 2)) (.v 5) (.v 6) v u = true := by kernel_rfl
theorem rn3_r3_4_0 (v u : AV) : rn3 (.lit (.ofNat 3)) (.lit (.ofNat 4)) (.v 5) (.v 6) v u = true := by kernel_rfl
theorem rn3_r4_6_6 (v u : AV) : rn3 (.lit (.ofNat 4)) (.lit (.ofNat 6)) (.qx (q3 6 false 56 false 56)) (.qy (q3 6 false 56 false 56)) v u = true := by kernel_rfl
theorem rn3_r5_6_4 (v u : AV) : rn3 (.lit (.ofNat 5)) (.lit (.ofNat 6)) (.qx (q3 4 false 56 false 56)) (.qy (q3 4 false 56 false 56)) v u = true := by kernel_rfl
theorem rn3_r7_1_00 (v u : AV) : rn3 (.lit (.ofNat 7)) (.lit (.ofNat 1)) (.md 2 0 5) (.md 2 0 6) v u = true := by kernel_rfl
theorem rn3_r8_6_0 (v u : AV) : rn3 (.lit (.ofNat 8)) (.lit (.ofNat 6)) (.v 5) (.v 6) v u = true := by kernel_rfl
theorem rn3_r10_2_7 (v u : AV) : rn3 (.lit (.ofNat 10)) (.lit (.ofNat 2)) (.qx (q3 7 true 56 false 0)) (.qy (q3 7 true 56 false 0)) v u = true := by kernel_rfl
theorem rn3_r11_2_1 (v u : AV) : rn3 (.lit (.ofNat 11)) (.lit (.ofNat 2)) (.qx (q3 1 true 56 true 56)) (.qy (q3 1 true 56 true 56)) v u = true := by kernel_rfl
theorem rn3_r11_8_3 (v u : AV) : rn3 (.lit (.ofNat 11)) (.lit (.ofNat 8)) (.qx (q3 3 false 32 false 32)) (.qy (q3 3 false 32 false 32)) v u = true := by kernel_rfl
theorem rn3_r12_5_3 (v u : AV) : rn3 (.lit (.ofNat 12)) (.lit (.ofNat 5)) (.qx (q3 3 true 0 true 0)) (.qy (q3 3 true 0 true 0)) v u = true := by kernel_rfl
theorem rn3_r13_4_1 (v u : AV) : rn3 (.lit (.ofNat 13)) (.lit (.ofNat 4)) (.qx (q3 1 true 32 true 32)) (.qy (q3 1 true 32 true 32)) v u = true := by kernel_rfl
theorem rn3_r14_2_2 (v u : AV) : rn3 (.lit (.ofNat 14)) (.lit (.ofNat 2)) (.qx (q3 2 true 56 true 56)) (.qy (q3 2 true 56 true 56)) v u = true := by kernel_rfl
end Go.X
