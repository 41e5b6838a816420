/- The executable reading of the model and its soundness, or the program, or a run. (a part of the proof of: FoldBranches: for every input the law answers true and leaves its argument as it was.) -/
import Derived.Test.YtcinkldpihkhbaaGreatGT
import Derived.Test.YtcinkldpihkhbaaGreatXSo
import Derived.KernelRfl
set_option linter.unusedSectionVars false
set_option linter.unusedVariables false
set_option linter.unusedSimpArgs false
set_option linter.constructorNameAsVariable false
namespace Go.X
open Go.Proofs.Tryz
set_option maxRecDepth 100000
noncomputable section
def BC11 : Code :=
 (.seq (.reg [.o .p (.u .mv (.f u0)),
  .o .p (.u .mv (.f u2)),
  .o .p (.b (.idx 5) (.l u1) (.l u0)),
  .o .p (.u (.fad 3) (.l u0)),
  .o .p (.ld (.l u0)),
  .o .p (.b .and (.l u0) (.c (.i .u64 (.ofNat 1)))),
  .o (.w u3) (.u .mv (.l u0))]) (.seq (.reg [.call .p f13 [(.c (.i .i64 (.ofNat 0))), (.c (.i .i64 (.ofNat 0)))],
  .o (.w u4) (.u .mv (.l u0))]) (.seq (.reg [.o .p (.u .mv (.f u4)),
  .o .p (.u .mv (.f u4)),
  .o .p (.u .mv (.f u3)),
  .call .p f36 [(.l u1), (.c (.i .i64 (.ofNat 1))), (.l u0)],
  .o .p (.bsl [(.i .i64 (.ofNat 0))] 1 [(0, 1, (.l u0))]),
  .call .p f23 [(.l u4), (.c (.i .i64 (.ofNat 2))), (.l u0)]]) (.seq (.reg [.o .p (.u .mv (.f u4)),
  .call .p f24 [(.l u0), (.c (.i .i64 (.ofNat 0)))],
  .o (.w u5) (.u .mv (.l u0))]) (.seq (.reg [.o .p (.u .mv (.f u4)),
  .call .p f24 [(.l u0), (.c (.i .i64 (.ofNat 0)))],
  .o (.w u6) (.u .mv (.l u0))]) (.seq (.reg [.o .p (.u .mv (.f u4)),
  .o .p (.u .nck (.l u0)),
  .o .p (.u (.fad 4) (.l u0)),
  .o .p (.ld (.l u0)),
  .o (.w u7) (.u .mv (.l u0))]) (.seq (.seq (.reg [.o (.w u8) (.u .mv (.c (.i .i64 (.ofNat 0))))]) (.block 2 (.loop (.seq (.rc [.o .p (.u .mv (.f u8)),
  .o .p (.b .lt (.l u0) (.c (.i .i64 (.ofNat 2))))] (.l u0) .skip (.exit 2)) (.seq (.block 3 (.seq (.reg [.o .p (.u .mv (.f u4)),
  .o .p (.u .mv (.f u7)),
  .o .p (.u .nck (.l u1)),
  .o .p (.u (.fad 4) (.l u0)),
  .o .n (.st 1 (.l u0) (.l u2))]) (.seq (.reg [.o .p (.u .mv (.f u4)),
  .o .p (.u .mv (.f u5)),
  .o .p (.u .nck (.l u1)),
  .o .p (.u (.fad 5) (.l u0)),
  .o .n (.st 1 (.l u0) (.l u2))]) (.seq (.rc [.o .p (.u .mv (.f u8)),
  .o .p (.b .eq (.l u0) (.c (.i .i64 (.ofNat 1))))] (.l u0) (.reg [.o .p (.u .mv (.f u4)),
  .o .p (.u .mv (.f u6)),
  .o .p (.u .nck (.l u1)),
  .o .p (.u (.fad 5) (.l u0)),
  .o .n (.st 1 (.l u0) (.l u2))]) .skip) (.seq (.reg [.o .p (.u .mv (.f u4)),
  .o .p (.u .mv (.f u4)),
  .o .p (.u .mv (.f u8)),
  .o .p (.b .add (.c (.i .i64 (.ofNat 70))) (.l u0)),
  .o .p (.u (.cvt .u64) (.l u0)),
  .call .p f36 [(.l u3), (.c (.i .i64 (.ofNat 5))), (.l u0)],
  .call .p f15 [(.l u5), (.l u0)]]) (.reg [.o .p (.u .mv (.f u4)),
  .call .p f16 [(.l u0), (.c (.i .i64 (.negSucc 0)))]])))))) (.reg [.o .p (.u .mv (.f u8)),
  .o .p (.b .add (.l u0) (.c (.i .i64 (.ofNat 1)))),
  .o (.w u8) (.u .mv (.l u0))])))))) (.seq (.reg [.o .p (.u .mv (.f u4)),
  .call .p f18 [(.l u0)],
  .call .p f52 [(.l u0)],
  .o .p (.u .mv (.l u0)),
  .o .p (.u (.ext 0) (.l u0)),
  .o .p (.u (.ext 1) (.l u1)),
  .o (.w u9) (.new [.sn, .sn]),
  .o .n (.st 2 (.f u9) (.l u1)),
  .o (.w u10) (.u .mv (.l u0))]) (.seq (.rc [.o .p (.u .mv (.f u10)),
  .call .p f53 [(.l u0)],
  .o .p (.b .ne (.l u0) (.c (.i .i64 (.ofNat 0)))),
  .o .p (.u .mv (.l u0)),
  .g (.l u0) false .p (.o .p (.ldn 2 (.f u9))),
  .g (.l u1) false .p (.call .p f20 [(.l u0), (.c (.i .i64 (.ofNat 1)))]),
  .g (.l u2) false .p (.o .p (.u .not (.l u0))),
  .o .p (.pick (.l u3) (.c (.b true)) (.l u0))] (.l u0) (.seq (.reg [.o (.w u1) (.u .mv (.c (.b false)))]) .ret) .skip) (.seq (.reg [.o (.w u11) (.u .mv (.c (.i .i64 (.ofNat 0))))]) (.seq (.seq (.reg [.o (.w u12) (.u .mv (.c (.i .i64 (.ofNat 0))))]) (.block 4 (.loop (.seq (.rc [.o .p (.u .mv (.f u12)),
  .o .p (.u (.fad 0) (.f u9)),
  .o .p (.ld (.l u0)),
  .o .p (.b (.idx 4) (.l u0) (.c (.i .i64 (.ofNat 0)))),
  .o .p (.u (.fad 2) (.l u0)),
  .o .p (.ld (.l u0)),
  .o .p (.u .len (.l u0)),
  .o .p (.b .lt (.l u6) (.l u0))] (.l u0) .skip (.exit 4)) (.seq (.block 5 (.rc [.o .p (.u (.fad 0) (.f u9)),
  .o .p (.ld (.l u0)),
  .o .p (.b (.idx 4) (.l u0) (.c (.i .i64 (.ofNat 0)))),
  .o .p (.u (.fad 2) (.l u0)),
  .o .p (.ld (.l u0)),
  .o .p (.u .mv (.f u12)),
  .o .p (.b (.idx 5) (.l u1) (.l u0)),
  .o .p (.u (.fad 0) (.l u0)),
  .o .p (.ld (.l u0)),
  .o .p (.b .eq (.l u0) (.c (.i .i64 (.ofNat 13))))] (.l u0) (.reg [.o .p (.u .mv (.f u11)),
  .o .p (.b .add (.l u0) (.c (.i .i64 (.ofNat 1)))),
  .o (.w u11) (.u .mv (.l u0))]) .skip)) (.reg [.o .p (.u .mv (.f u12)),
  .o .p (.b .add (.l u0) (.c (.i .i64 (.ofNat 1)))),
  .o (.w u12) (.u .mv (.l u0))])))))) (.seq (.reg [.o .p (.u (.fad 0) (.f u9)),
  .o .p (.ld (.l u0)),
  .o .p (.b (.idx 4) (.l u0) (.c (.i .i64 (.ofNat 0)))),
  .o .p (.ldn 4 (.l u0)),
  .call .p f54 [(.l u0)],
  .o .p (.u .mv (.l u0)),
  .o .p (.u (.ext 0) (.l u0)),
  .o .p (.u (.ext 1) (.l u1)),
  .o (.w u13) (.u .mv (.l u1)),
  .o (.w u14) (.u .mv (.l u0))]) (.rc [.o .p (.u .mv (.f u11)),
  .o .p (.b .ne (.l u0) (.c (.i .i64 (.ofNat 1)))),
  .o .p (.u .mv (.l u0)),
  .g (.l u0) false .p (.o .p (.u .mv (.f u14))),
  .g (.l u1) false .p (.o .p (.u .not (.l u0))),
  .o .p (.pick (.l u2) (.c (.b true)) (.l u0)),
  .o .p (.u .mv (.l u0)),
  .g (.l u0) false .p (.o .p (.u .mv (.f u13))),
  .g (.l u1) false .p (.o .p (.u .mv (.f u3))),
  .g (.l u2) false .p (.o .p (.b .sub (.c (.i .u64 (.ofNat 71))) (.l u0))),
  .g (.l u3) false .p (.o .p (.b .ne (.l u2) (.l u0))),
  .o .p (.pick (.l u4) (.c (.b true)) (.l u0))] (.l u0) (.seq (.reg [.o (.w u1) (.u .mv (.c (.b false)))]) .ret) .skip)))))))))))))
end
end Go.X

namespace Go.X
set_option maxRecDepth 100000
noncomputable section
def fl11 : List Bool := [false, false, false, false, false, false, false, false, false, false, false, true]
def rn11 (r : Nat) (J : List AV) : Bool := chkR false fl11 (ex FT 100000 BC11 (.x (.la (cellsOf (.v 2) (.v 3) (.v 4) (.md 2 r 5) (.v 6))) :: .b false :: .x .li :: J) [] .e n0)
def J11_0 : List AV := [.oq 0, .oq 1, .oq 2, .oq 3, .oq 4, .oq 5, .oq 6, .oq 7, .oq 8, .oq 9, .oq 10, .oq 11]
def J11_1 : List AV := [.oq 0, .oq 1, .oq 2, .oq 3, .oq 4, .oq 5, .oq 6, .oq 7, .oq 8, .oq 9, .oq 10, .b true]
end
end Go.X
