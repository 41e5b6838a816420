/- The executable reading of the model and its soundness, or the program, or a run. (a part of the proof of: DeadAll: for every input the law answers true and leaves its argument as it was.) -/
import Derived.Test.YtcinkldpihkhbaaGreatGT
import Derived.Test.YtcinkldpihkhbaaGreatXSo
import Derived.KernelRfl
set_option linter.unusedSectionVars false
set_option linter.unusedVariables false
set_option linter.unusedSimpArgs false
set_option linter.constructorNameAsVariable false
namespace Go.X
open Go.Proofs.Tryz
set_option maxRecDepth 100000
noncomputable section
def BC3 : Code :=
 (.seq (.reg [.o .p (.u .mv (.f u0)),
  .o .p (.u .mv (.f u2)),
  .o .p (.b (.idx 5) (.l u1) (.l u0)),
  .o .p (.u (.fad 2) (.l u0)),
  .o .p (.ld (.l u0)),
  .call .p f12 [(.l u0), (.c (.i .i64 (.ofNat 20)))],
  .o (.w u3) (.u .mv (.l u0))]) (.seq (.reg [.call .p f13 [(.c (.i .i64 (.ofNat 2))), (.c (.i .i64 (.ofNat 5)))],
  .o (.w u4) (.u .mv (.l u0))]) (.seq (.reg [.o .p (.u .mv (.f u4)),
  .call .p f14 [(.l u0), (.c (.i .i64 (.ofNat 1))), (.c (.i .i64 (.ofNat 1))), (.c (.i .i64 (.ofNat 2)))],
  .o (.w u5) (.u .mv (.l u0))]) (.seq (.seq (.reg [.o (.w u6) (.u .mv (.c (.i .i64 (.ofNat 0))))]) (.block 2 (.loop (.seq (.rc [.o .p (.u .mv (.f u6)),
  .o .p (.u .mv (.f u3)),
  .o .p (.b .lt (.l u1) (.l u0))] (.l u0) .skip (.exit 2)) (.seq (.block 3 (.reg [.o .p (.u .mv (.f u4)),
  .o .p (.u .mv (.f u6)),
  .o .p (.b .rem (.l u0) (.c (.i .i64 (.ofNat 3)))),
  .o .p (.b .add (.c (.i .i64 (.ofNat 2))) (.l u0)),
  .o .p (.u .mv (.f u5)),
  .call .p f14 [(.l u4), (.l u1), (.l u0), (.c (.i .i64 (.ofNat 1)))],
  .o (.w u5) (.u .mv (.l u0))])) (.reg [.o .p (.u .mv (.f u6)),
  .o .p (.b .add (.l u0) (.c (.i .i64 (.ofNat 1)))),
  .o (.w u6) (.u .mv (.l u0))])))))) (.seq (.reg [.o .p (.u .mv (.f u4)),
  .call .p f15 [(.l u0), (.c (.i .i64 (.ofNat 1)))]]) (.seq (.reg [.o .p (.u .mv (.f u4)),
  .call .p f16 [(.l u0), (.c (.i .i64 (.ofNat 2)))]]) (.seq (.reg [.o .p (.u .mv (.f u4)),
  .call .p f18 [(.l u0)],
  .call .p f17 [(.l u0)],
  .o .p (.u .mv (.l u0)),
  .o .p (.u (.ext 0) (.l u0)),
  .o .p (.u (.ext 1) (.l u1)),
  .o (.w u7) (.new [.sn, .sn]),
  .o .n (.st 2 (.f u7) (.l u1)),
  .o (.w u8) (.u .mv (.l u0))]) (.rc [.o .p (.u .mv (.f u8)),
  .call .p f19 [(.l u0)],
  .o .p (.b .ne (.l u0) (.c (.i .i64 (.ofNat 0)))),
  .o .p (.u .mv (.l u0)),
  .g (.l u0) false .p (.o .p (.ldn 2 (.f u7))),
  .g (.l u1) false .p (.call .p f20 [(.l u0), (.c (.i .i64 (.ofNat 1)))]),
  .g (.l u2) false .p (.o .p (.u .not (.l u0))),
  .o .p (.pick (.l u3) (.c (.b true)) (.l u0)),
  .o .p (.u .mv (.l u0)),
  .g (.l u0) false .p (.o .p (.u (.fad 0) (.f u7))),
  .g (.l u1) false .p (.o .p (.ld (.l u0))),
  .g (.l u2) false .p (.o .p (.b (.idx 4) (.l u0) (.c (.i .i64 (.ofNat 0))))),
  .g (.l u3) false .p (.o .p (.ldn 4 (.l u0))),
  .g (.l u4) false .p (.call .p f21 [(.l u0), (.c (.b true))]),
  .g (.l u5) false .p (.o .p (.b .ne (.l u0) (.c (.i .i64 (.ofNat 4))))),
  .o .p (.pick (.l u6) (.c (.b true)) (.l u0))] (.l u0) (.seq (.reg [.o (.w u1) (.u .mv (.c (.b false)))]) .ret) .skip))))))))
end
end Go.X

namespace Go.X
set_option maxRecDepth 100000
noncomputable section
def fl3 : List Bool := [false, false, false, false, false, false]
def rn3 (r : Nat) (J : List AV) : Bool := chkR false fl3 (ex FT 100000 BC3 (.x (.la (cellsOf (.v 2) (.v 3) (.md 20 r 4) (.v 5) (.v 6))) :: .b false :: .x .li :: J) [] .e n0)
def J3_0 : List AV := [.oq 0, .oq 1, .oq 2, .oq 3, .oq 4, .oq 5]
end
end Go.X
