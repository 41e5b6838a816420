/- A part of the proof of this statement: CSELoads: for every input the law answers true and leaves its argument as it was. -/
import Derived.Test.YtcinkldpihkhbaaGreatWGF
import Derived.Test.YtcinkldpihkhbaaGreatWXB
set_option linter.unusedSectionVars false
set_option linter.unusedVariables false
set_option linter.unusedSimpArgs false
set_option linter.constructorNameAsVariable false
namespace Go.X
set_option maxRecDepth 100000
noncomputable section
def BC6 : Code :=
 (.seq (.reg [.o .p (.u .mv (.f u0)),
  .o .p (.u .mv (.f u2)),
  .o .p (.b (.idx 5) (.l u1) (.l u0)),
  .o .p (.u (.fad 2) (.l u0)),
  .o .p (.ld (.l u0)),
  .call .p f12 [(.l u0), (.c (.i .i64 (.ofNat 6)))],
  .o .p (.b .add (.c (.i .i64 (.ofNat 1))) (.l u0)),
  .o (.w u3) (.u .mv (.l u0))]) (.seq (.reg [.call .p f13 [(.c (.i .i64 (.ofNat 1))), (.c (.i .i64 (.ofNat 5)))],
  .o (.w u4) (.u .mv (.l u0))]) (.seq (.reg [.o .p (.u .mv (.f u4)),
  .call .p f34 [(.l u0), (.c (.i .u64 (.ofNat 8)))],
  .o (.w u5) (.u .mv (.l u0))]) (.seq (.seq (.reg [.o (.w u6) (.u .mv (.c (.i .i64 (.ofNat 0))))]) (.block 2 (.loop (.seq (.rc [.o .p (.u .mv (.f u6)),
  .o .p (.u .mv (.f u3)),
  .o .p (.b .lt (.l u1) (.l u0))] (.l u0) .skip (.exit 2)) (.seq (.block 3 (.seq (.reg [.o .p (.u .mv (.f u4)),
  .o .p (.u .mv (.f u5)),
  .o .p (.u .mv (.f u4)),
  .o .p (.u .mv (.f u4)),
  .o .p (.u .mv (.f u6)),
  .o .p (.u (.cvt .u64) (.l u0)),
  .call .p f36 [(.l u2), (.c (.i .i64 (.ofNat 5))), (.l u0)],
  .call .p f14 [(.l u4), (.c (.i .i64 (.ofNat 1))), (.c (.i .i64 (.ofNat 1))), (.l u0)],
  .call .p f35 [(.l u7), (.l u6), (.l u0), (.c (.i .i64 (.ofNat 0)))]]) (.seq (.reg [.o .p (.u .mv (.f u4)),
  .o .p (.u .mv (.f u5)),
  .call .p f37 [(.l u1), (.l u0), (.c (.i .i64 (.ofNat 5))), (.c (.i .i64 (.ofNat 0)))],
  .o (.w u7) (.u .mv (.l u0))]) (.seq (.reg [.o .p (.u .mv (.f u4)),
  .o .p (.u .mv (.f u5)),
  .call .p f37 [(.l u1), (.l u0), (.c (.i .i64 (.ofNat 5))), (.c (.i .i64 (.ofNat 0)))],
  .o (.w u8) (.u .mv (.l u0))]) (.reg [.o .p (.u .mv (.f u4)),
  .o .p (.u .mv (.f u4)),
  .o .p (.u .mv (.f u7)),
  .o .p (.u .mv (.f u8)),
  .call .p f14 [(.l u2), (.c (.i .i64 (.ofNat 1))), (.l u1), (.l u0)],
  .call .p f15 [(.l u4), (.l u0)]]))))) (.reg [.o .p (.u .mv (.f u6)),
  .o .p (.b .add (.l u0) (.c (.i .i64 (.ofNat 1)))),
  .o (.w u6) (.u .mv (.l u0))])))))) (.seq (.reg [.o .p (.u .mv (.f u4)),
  .call .p f16 [(.l u0), (.c (.i .i64 (.negSucc 0)))]]) (.seq (.reg [.o .p (.u .mv (.f u4)),
  .call .p f18 [(.l u0)],
  .call .p f31 [(.l u0)],
  .o .p (.u .mv (.l u0)),
  .o .p (.u (.ext 0) (.l u0)),
  .o .p (.u (.ext 1) (.l u1)),
  .o (.w u9) (.new [.sn, .sn]),
  .o .n (.st 2 (.f u9) (.l u1)),
  .o (.w u10) (.u .mv (.l u0))]) (.seq (.rc [.o .p (.u .mv (.f u10)),
  .call .p f32 [(.l u0)],
  .o .p (.b .ne (.l u0) (.c (.i .i64 (.ofNat 0)))),
  .o .p (.u .mv (.l u0)),
  .g (.l u0) false .p (.o .p (.ldn 2 (.f u9))),
  .g (.l u1) false .p (.call .p f20 [(.l u0), (.c (.i .i64 (.ofNat 1)))]),
  .g (.l u2) false .p (.o .p (.u .not (.l u0))),
  .o .p (.pick (.l u3) (.c (.b true)) (.l u0))] (.l u0) (.seq (.reg [.o (.w u1) (.u .mv (.c (.b false)))]) .ret) .skip) (.seq (.reg [.o (.w u11) (.u .mv (.c (.i .i64 (.ofNat 0))))]) (.seq (.seq (.reg [.o (.w u12) (.u .mv (.c (.i .i64 (.ofNat 0))))]) (.block 4 (.loop (.seq (.rc [.o .p (.u .mv (.f u12)),
  .o .p (.u (.fad 0) (.f u9)),
  .o .p (.ld (.l u0)),
  .o .p (.b (.idx 4) (.l u0) (.c (.i .i64 (.ofNat 0)))),
  .o .p (.u (.fad 2) (.l u0)),
  .o .p (.ld (.l u0)),
  .o .p (.u .len (.l u0)),
  .o .p (.b .lt (.l u6) (.l u0))] (.l u0) .skip (.exit 4)) (.seq (.block 5 (.rc [.o .p (.u (.fad 0) (.f u9)),
  .o .p (.ld (.l u0)),
  .o .p (.b (.idx 4) (.l u0) (.c (.i .i64 (.ofNat 0)))),
  .o .p (.u (.fad 2) (.l u0)),
  .o .p (.ld (.l u0)),
  .o .p (.u .mv (.f u12)),
  .o .p (.b (.idx 5) (.l u1) (.l u0)),
  .o .p (.u (.fad 0) (.l u0)),
  .o .p (.ld (.l u0)),
  .o .p (.b .eq (.l u0) (.c (.i .i64 (.ofNat 8))))] (.l u0) (.reg [.o .p (.u .mv (.f u11)),
  .o .p (.b .add (.l u0) (.c (.i .i64 (.ofNat 1)))),
  .o (.w u11) (.u .mv (.l u0))]) .skip)) (.reg [.o .p (.u .mv (.f u12)),
  .o .p (.b .add (.l u0) (.c (.i .i64 (.ofNat 1)))),
  .o (.w u12) (.u .mv (.l u0))])))))) (.dc [.q (.u .mv (.f u11)) [],
  .q (.u .mv (.f u3)) [],
  .q (.b .gt (.l u1) (.l u0)) [],
  .q (.u .mv (.l u0)) [],
  .g (.l u0) false (.q (.u .mv (.f u4)) []),
  .g (.l u1) false (.call f18 [(.l u0)]),
  .g (.l u2) false (.q (.ldn 2 (.f u9)) [u0, u1]),
  .g (.l u3) false (.q (.u .mv (.f u0)) []),
  .g (.l u4) false (.q (.u .mv (.f u2)) []),
  .g (.l u5) false (.q (.b (.idx 5) (.l u1) (.l u0)) []),
  .g (.l u6) false (.q (.u (.fad 3) (.l u0)) []),
  .g (.l u7) false (.q (.ld (.l u0)) [u0, u1]),
  .g (.l u8) false (.q (.bsl [(.i .u64 (.ofNat 0))] 1 [(0, 1, (.l u0))]) []),
  .g (.l u9) false (.q (.bsl [.sn] 1 [(0, 1, (.l u0))]) []),
  .g (.l u10) false (.call f29 [(.l u8), (.l u7), (.l u0), (.c (.i .i64 (.ofNat 900)))]),
  .g (.l u11) false (.q (.u .not (.l u0)) []),
  .q (.pick (.l u12) (.c (.b true)) (.l u0)) []] [] (.l u0) (.seq (.reg [.o (.w u1) (.u .mv (.c (.b false)))]) .ret) .skip))))))))))
end
end Go.X

namespace Go.X
set_option maxRecDepth 100000
noncomputable section
def fl6 : List Bool := [false, false, false, false, false, false, false, false, false, false]
def rn6 (r : Nat) (J : List AV) : Bool := chkR false fl6 (ex FT 100000 BC6 (.x (.la (cellsOf (.v 2) (.v 3) (.md 6 r 4) (.v 5) (.v 6))) :: .b false :: .x .li :: J) [] .e n0)
def J6_0 : List AV := [.oq 0, .oq 1, .oq 2, .oq 3, .oq 4, .oq 5, .oq 6, .oq 7, .oq 8, .oq 9]
end
end Go.X
