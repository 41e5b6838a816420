/- The executable reading of the model and its soundness, or the program, or a run. (a part of the proof of: FoldChains: for every input the law answers true and leaves its argument as it was.) -/
import Derived.Test.YtcinkldpihkhbaaGreatGT
import Derived.Test.YtcinkldpihkhbaaGreatXSo
import Derived.KernelRfl
set_option linter.unusedSectionVars false
set_option linter.unusedVariables false
set_option linter.unusedSimpArgs false
set_option linter.constructorNameAsVariable false
namespace Go.X
open Go.Proofs.Tryz
set_option maxRecDepth 100000
noncomputable section
def BC10 : Code :=
 (.seq (.reg [.o .p (.u .mv (.f u0)),
  .o .p (.u .mv (.f u2)),
  .o .p (.b (.idx 5) (.l u1) (.l u0)),
  .o .p (.ldn 5 (.l u0)),
  .o (.w u3) (.new [(.i .i64 (.ofNat 0)), (.i .i64 (.ofNat 0)), (.i .i64 (.ofNat 0)), (.i .u64 (.ofNat 0)), (.i .u64 (.ofNat 0))]),
  .o .n (.st 5 (.f u3) (.l u0))]) (.seq (.reg [.o .p (.u (.fad 2) (.f u3)),
  .o .p (.ld (.l u0)),
  .call .p f12 [(.l u0), (.c (.i .i64 (.ofNat 20)))],
  .o .p (.b .add (.c (.i .i64 (.ofNat 1))) (.l u0)),
  .o (.w u4) (.u .mv (.l u0))]) (.seq (.reg [.call .p f13 [(.c (.i .i64 (.ofNat 0))), (.c (.i .i64 (.ofNat 0)))],
  .o (.w u5) (.u .mv (.l u0))]) (.seq (.reg [.o .p (.u .mv (.f u5)),
  .o .p (.u (.fad 3) (.f u3)),
  .o .p (.ld (.l u0)),
  .call .p f36 [(.l u2), (.c (.i .i64 (.ofNat 5))), (.l u0)],
  .o (.w u6) (.u .mv (.l u0))]) (.seq (.reg [.o .p (.u (.fad 3) (.f u3)),
  .o .p (.ld (.l u0)),
  .o (.w u7) (.u .mv (.l u0))]) (.seq (.seq (.reg [.o (.w u8) (.u .mv (.c (.i .i64 (.ofNat 0))))]) (.block 2 (.loop (.seq (.rc [.o .p (.u .mv (.f u8)),
  .o .p (.u .mv (.f u4)),
  .o .p (.b .lt (.l u1) (.l u0))] (.l u0) .skip (.exit 2)) (.seq (.block 3 (.seq (.reg [.o .p (.u .mv (.f u8)),
  .o .p (.u .mv (.f u4)),
  .o .p (.b .add (.l u1) (.l u0)),
  .o .p (.b .rem (.l u0) (.c (.i .i64 (.ofNat 3)))),
  .o .p (.b .add (.c (.i .i64 (.ofNat 1))) (.l u0)),
  .o (.w u9) (.u .mv (.l u0))]) (.seq (.reg [.o .p (.u .mv (.f u5)),
  .o .p (.u .mv (.f u9)),
  .o .p (.u .mv (.f u6)),
  .o .p (.u .mv (.f u5)),
  .o .p (.u (.fad 4) (.f u3)),
  .o .p (.ld (.l u0)),
  .o .p (.u .mv (.f u8)),
  .o .p (.u (.cvt .u64) (.l u0)),
  .o .p (.b .add (.l u2) (.l u0)),
  .call .p f36 [(.l u5), (.c (.i .i64 (.ofNat 5))), (.l u0)],
  .call .p f14 [(.l u9), (.l u8), (.l u7), (.l u0)],
  .o (.w u6) (.u .mv (.l u0))]) (.reg [.o .p (.u .mv (.f u9)),
  .o .p (.u .mv (.f u7)),
  .o .p (.u (.fad 4) (.f u3)),
  .o .p (.ld (.l u0)),
  .o .p (.u .mv (.f u8)),
  .o .p (.u (.cvt .u64) (.l u0)),
  .o .p (.b .add (.l u2) (.l u0)),
  .call .p f51 [(.l u6), (.c (.i .i64 (.ofNat 5))), (.l u5), (.l u0)],
  .o .p (.u .mv (.l u0)),
  .o .p (.u (.ext 0) (.l u0)),
  .o .p (.u (.ext 1) (.l u1)),
  .o (.w u7) (.u .mv (.l u1))])))) (.reg [.o .p (.u .mv (.f u8)),
  .o .p (.b .add (.l u0) (.c (.i .i64 (.ofNat 1)))),
  .o (.w u8) (.u .mv (.l u0))])))))) (.seq (.reg [.o .p (.u .mv (.f u5)),
  .o .p (.u .mv (.f u6)),
  .call .p f15 [(.l u1), (.l u0)]]) (.seq (.reg [.o .p (.u .mv (.f u5)),
  .call .p f16 [(.l u0), (.c (.i .i64 (.negSucc 0)))]]) (.seq (.reg [.o .p (.u .mv (.f u5)),
  .call .p f18 [(.l u0)],
  .call .p f52 [(.l u0)],
  .o .p (.u .mv (.l u0)),
  .o .p (.u (.ext 0) (.l u0)),
  .o .p (.u (.ext 1) (.l u1)),
  .o (.w u10) (.new [.sn, .sn]),
  .o .n (.st 2 (.f u10) (.l u1)),
  .o (.w u11) (.u .mv (.l u0))]) (.seq (.rc [.o .p (.u .mv (.f u11)),
  .call .p f53 [(.l u0)],
  .o .p (.b .ne (.l u0) (.c (.i .i64 (.ofNat 0)))),
  .o .p (.u .mv (.l u0)),
  .g (.l u0) false .p (.o .p (.ldn 2 (.f u10))),
  .g (.l u1) false .p (.call .p f20 [(.l u0), (.c (.i .i64 (.ofNat 1)))]),
  .g (.l u2) false .p (.o .p (.u .not (.l u0))),
  .o .p (.pick (.l u3) (.c (.b true)) (.l u0))] (.l u0) (.seq (.reg [.o (.w u1) (.u .mv (.c (.b false)))]) .ret) .skip) (.seq (.reg [.o .p (.u (.fad 0) (.f u10)),
  .o .p (.ld (.l u0)),
  .o .p (.b (.idx 4) (.l u0) (.c (.i .i64 (.ofNat 0)))),
  .o .p (.ldn 4 (.l u0)),
  .call .p f54 [(.l u0)],
  .o .p (.u .mv (.l u0)),
  .o .p (.u (.ext 0) (.l u0)),
  .o .p (.u (.ext 1) (.l u1)),
  .o (.w u12) (.u .mv (.l u1)),
  .o (.w u13) (.u .mv (.l u0))]) (.rc [.o .p (.u .mv (.f u13)),
  .o .p (.u .not (.l u0)),
  .o .p (.u .mv (.l u0)),
  .g (.l u0) false .p (.o .p (.u .mv (.f u12))),
  .g (.l u1) false .p (.o .p (.u .mv (.f u7))),
  .g (.l u2) false .p (.o .p (.b .ne (.l u1) (.l u0))),
  .o .p (.pick (.l u3) (.c (.b true)) (.l u0))] (.l u0) (.seq (.reg [.o (.w u1) (.u .mv (.c (.b false)))]) .ret) .skip))))))))))))
end
end Go.X

namespace Go.X
set_option maxRecDepth 100000
noncomputable section
def fl10 : List Bool := [false, false, false, false, false, false, false, false, false, false, true]
def rn10 (r : Nat) (J : List AV) : Bool := chkR false fl10 (ex FT 100000 BC10 (.x (.la (cellsOf (.v 2) (.v 3) (.md 20 r 4) (.v 5) (.v 6))) :: .b false :: .x .li :: J) [] .e n0)
def J10_0 : List AV := [.oq 0, .oq 1, .oq 2, .oq 3, .oq 4, .oq 5, .oq 6, .oq 7, .oq 8, .oq 9, .oq 10]
def J10_1 : List AV := [.oq 0, .oq 1, .oq 2, .oq 3, .oq 4, .oq 5, .oq 6, .oq 7, .oq 8, .oq 9, .b true]
end
end Go.X
