/- A part of the proof of this statement: CSEOnce: for every input the law answers true and leaves its argument as it was. -/
import Derived.Test.YtcinkldpihkhbaaGreatYGF
import Derived.Test.YtcinkldpihkhbaaGreatYXB
set_option linter.unusedSectionVars false
set_option linter.unusedVariables false
set_option linter.unusedSimpArgs false
set_option linter.constructorNameAsVariable false
namespace Go.X
set_option maxRecDepth 100000
noncomputable section
def BC5 : Code :=
 (.seq (.reg [.o .p (.u .mv (.f u0)),
  .o .p (.u .mv (.f u2)),
  .o .p (.b (.idx 5) (.l u1) (.l u0)),
  .o .p (.u (.fad 2) (.l u0)),
  .o .p (.ld (.l u0)),
  .call .p f12 [(.l u0), (.c (.i .i64 (.ofNat 10)))],
  .o .p (.b .add (.c (.i .i64 (.ofNat 2))) (.l u0)),
  .o (.w u3) (.u .mv (.l u0))]) (.seq (.reg [.call .p f13 [(.c (.i .i64 (.ofNat 2))), (.c (.i .i64 (.ofNat 5)))],
  .o (.w u4) (.u .mv (.l u0))]) (.seq (.seq (.reg [.o (.w u5) (.u .mv (.c (.i .i64 (.ofNat 0))))]) (.block 2 (.loop (.seq (.rc [.o .p (.u .mv (.f u5)),
  .o .p (.u .mv (.f u3)),
  .o .p (.b .lt (.l u1) (.l u0))] (.l u0) .skip (.exit 2)) (.seq (.block 3 (.seq (.reg [.o .p (.u .mv (.f u4)),
  .call .p f14 [(.l u0), (.c (.i .i64 (.ofNat 3))), (.c (.i .i64 (.ofNat 1))), (.c (.i .i64 (.ofNat 2)))],
  .o (.w u6) (.u .mv (.l u0))]) (.reg [.o .p (.u .mv (.f u4)),
  .o .p (.u .mv (.f u4)),
  .o .p (.u .mv (.f u6)),
  .call .p f14 [(.l u1), (.c (.i .i64 (.ofNat 8))), (.l u0), (.c (.i .i64 (.ofNat 1)))],
  .call .p f15 [(.l u3), (.l u0)]]))) (.reg [.o .p (.u .mv (.f u5)),
  .o .p (.b .add (.l u0) (.c (.i .i64 (.ofNat 1)))),
  .o (.w u5) (.u .mv (.l u0))])))))) (.seq (.reg [.o .p (.u .mv (.f u4)),
  .call .p f16 [(.l u0), (.c (.i .i64 (.negSucc 0)))]]) (.seq (.reg [.o .p (.u .mv (.f u4)),
  .call .p f18 [(.l u0)],
  .call .p f31 [(.l u0)],
  .o .p (.u .mv (.l u0)),
  .o .p (.u (.ext 0) (.l u0)),
  .o .p (.u (.ext 1) (.l u1)),
  .o (.w u7) (.new [.sn, .sn]),
  .o .n (.st 2 (.f u7) (.l u1)),
  .o (.w u8) (.u .mv (.l u0))]) (.seq (.rc [.o .p (.u .mv (.f u8)),
  .call .p f32 [(.l u0)],
  .o .p (.b .ne (.l u0) (.c (.i .i64 (.ofNat 0)))),
  .o .p (.u .mv (.l u0)),
  .g (.l u0) false .p (.o .p (.ldn 2 (.f u7))),
  .g (.l u1) false .p (.call .p f20 [(.l u0), (.c (.i .i64 (.ofNat 1)))]),
  .g (.l u2) false .p (.o .p (.u .not (.l u0))),
  .o .p (.pick (.l u3) (.c (.b true)) (.l u0))] (.l u0) (.seq (.reg [.o (.w u1) (.u .mv (.c (.b false)))]) .ret) .skip) (.seq (.reg [.o (.w u9) (.u .mv (.c (.i .i64 (.ofNat 0))))]) (.seq (.seq (.reg [.o (.w u10) (.u .mv (.c (.i .i64 (.ofNat 0))))]) (.block 4 (.loop (.seq (.rc [.o .p (.u .mv (.f u10)),
  .o .p (.u (.fad 0) (.f u7)),
  .o .p (.ld (.l u0)),
  .o .p (.b (.idx 4) (.l u0) (.c (.i .i64 (.ofNat 0)))),
  .o .p (.u (.fad 2) (.l u0)),
  .o .p (.ld (.l u0)),
  .o .p (.u .len (.l u0)),
  .o .p (.b .lt (.l u6) (.l u0))] (.l u0) .skip (.exit 4)) (.seq (.block 5 (.rc [.o .p (.u (.fad 0) (.f u7)),
  .o .p (.ld (.l u0)),
  .o .p (.b (.idx 4) (.l u0) (.c (.i .i64 (.ofNat 0)))),
  .o .p (.u (.fad 2) (.l u0)),
  .o .p (.ld (.l u0)),
  .o .p (.u .mv (.f u10)),
  .o .p (.b (.idx 5) (.l u1) (.l u0)),
  .o .p (.u (.fad 0) (.l u0)),
  .o .p (.ld (.l u0)),
  .o .p (.b .eq (.l u0) (.c (.i .i64 (.ofNat 4))))] (.l u0) (.reg [.o .p (.u .mv (.f u9)),
  .o .p (.b .add (.l u0) (.c (.i .i64 (.ofNat 1)))),
  .o (.w u9) (.u .mv (.l u0))]) .skip)) (.reg [.o .p (.u .mv (.f u10)),
  .o .p (.b .add (.l u0) (.c (.i .i64 (.ofNat 1)))),
  .o (.w u10) (.u .mv (.l u0))])))))) (.dc [.q (.u .mv (.f u9)) [],
  .q (.b .gt (.l u0) (.c (.i .i64 (.ofNat 2)))) [],
  .q (.u .mv (.l u0)) [],
  .g (.l u0) false (.q (.u .mv (.f u4)) []),
  .g (.l u1) false (.call f18 [(.l u0)]),
  .g (.l u2) false (.q (.ldn 2 (.f u7)) [u0, u1]),
  .g (.l u3) false (.q (.u .mv (.f u0)) []),
  .g (.l u4) false (.q (.u .mv (.f u2)) []),
  .g (.l u5) false (.q (.b (.idx 5) (.l u1) (.l u0)) []),
  .g (.l u6) false (.q (.u (.fad 3) (.l u0)) []),
  .g (.l u7) false (.q (.ld (.l u0)) [u0, u1]),
  .g (.l u8) false (.q (.u .mv (.f u0)) []),
  .g (.l u9) false (.q (.u .mv (.f u2)) []),
  .g (.l u10) false (.q (.b (.idx 5) (.l u1) (.l u0)) []),
  .g (.l u11) false (.q (.u (.fad 4) (.l u0)) []),
  .g (.l u12) false (.q (.ld (.l u0)) [u0, u1]),
  .g (.l u13) false (.q (.bsl [(.i .u64 (.ofNat 0)), (.i .u64 (.ofNat 0))] 2 [(0, 1, (.l u5)), (1, 1, (.l u0))]) []),
  .g (.l u14) false (.q (.bsl [.sn] 1 [(0, 1, (.l u0))]) []),
  .g (.l u15) false (.call f29 [(.l u13), (.l u12), (.l u0), (.c (.i .i64 (.ofNat 500)))]),
  .g (.l u16) false (.q (.u .not (.l u0)) []),
  .q (.pick (.l u17) (.c (.b true)) (.l u0)) []] [] (.l u0) (.seq (.reg [.o (.w u1) (.u .mv (.c (.b false)))]) .ret) .skip)))))))))
end
end Go.X

namespace Go.X
set_option maxRecDepth 100000
noncomputable section
def fl5 : List Bool := [false, false, false, false, false, false, false, false]
def rn5 (r : Nat) (J : List AV) : Bool := chkR false fl5 (ex FT 100000 BC5 (.x (.la (cellsOf (.v 2) (.v 3) (.md 10 r 4) (.v 5) (.v 6))) :: .b false :: .x .li :: J) [] .e n0)
def J5_0 : List AV := [.oq 0, .oq 1, .oq 2, .oq 3, .oq 4, .oq 5, .oq 6, .oq 7]
end
end Go.X
