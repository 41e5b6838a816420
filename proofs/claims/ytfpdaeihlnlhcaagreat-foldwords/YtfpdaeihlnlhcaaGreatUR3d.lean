/- A part of the proof of this statement: FoldWords: for every input the law answers true and leaves its argument as it was. -/
import Derived.Test.YtfpdaeihlnlhcaaGreatUGF
import Derived.Test.YtfpdaeihlnlhcaaGreatUXB
set_option linter.unusedSectionVars false
set_option linter.unusedVariables false
set_option linter.unusedSimpArgs false
set_option linter.constructorNameAsVariable false
namespace Go.X
set_option maxRecDepth 100000
noncomputable section
def BC3 : Code :=
 (.seq (.reg [.o .p (.u .mv (.f u0)),
  .o .p (.u .mv (.f u2)),
  .o .p (.b (.idx 5) (.l u1) (.l u0)),
  .o .p (.ldn 5 (.l u0)),
  .o (.w u3) (.new [(.i .i64 (.ofNat 0)), (.i .i64 (.ofNat 0)), (.i .i64 (.ofNat 0)), (.i .u64 (.ofNat 0)), (.i .u64 (.ofNat 0))]),
  .o .n (.st 5 (.f u3) (.l u0))]) (.seq (.reg [.o .p (.ldn 5 (.f u3)),
  .call .p f4 [(.l u0)],
  .o .p (.u .mv (.l u0)),
  .o .p (.u (.ext 0) (.l u0)),
  .o .p (.u (.ext 1) (.l u1)),
  .o .p (.u (.ext 2) (.l u2)),
  .o .p (.u (.ext 3) (.l u3)),
  .o (.w u4) (.u .mv (.l u3)),
  .o (.w u5) (.u .mv (.l u2)),
  .o (.w u6) (.u .mv (.l u1)),
  .o (.w u7) (.u .mv (.l u0))]) (.seq (.rc [.o .p (.u .mv (.f u7)),
  .o .p (.u .not (.l u0)),
  .o .p (.u .mv (.l u0)),
  .g (.l u0) false .p (.o .p (.u (.fad 1) (.f u3))),
  .g (.l u1) false .p (.o .p (.ld (.l u0))),
  .g (.l u2) false .p (.o .p (.b .eq (.l u0) (.c (.i .i64 (.ofNat 11))))),
  .o .p (.pick (.l u3) (.c (.b true)) (.l u0))] (.l u0) (.exit 1) .skip) (.seq (.reg [.call .p f5 [(.c (.i .i64 (.ofNat 0))), (.c (.i .i64 (.ofNat 0)))],
  .o (.w u8) (.u .mv (.l u0))]) (.seq (.dreg [.q (.u .mv (.f u8)) [],
  .q (.u (.fad 1) (.f u3)) [],
  .q (.ld (.l u0)) [u0],
  .q (.u .mv (.f u5)) [],
  .call f8 [(.l u3), (.l u1), (.l u0)],
  .q (.u .mv (.f u8)) [],
  .q (.u .mv (.f u4)) [],
  .q (.u .mv (.f u6)) [],
  .call f8 [(.l u2), (.l u1), (.l u0)],
  .q (.u .mv (.f u8)) [],
  .q (.u (.fad 0) (.f u3)) [],
  .q (.ld (.l u0)) [u0, u1, u2],
  .call f7 [(.l u2), (.l u0), (.l u7), (.l u3)],
  .q (.u .mv (.f u8)) [],
  .call f6 [(.l u0), (.l u1)]] []) (.seq (.reg [.o .p (.u .mv (.f u8)),
  .call .p f9 [(.l u0), (.c (.i .i64 (.negSucc 0)))]]) (.seq (.reg [.o .p (.u .mv (.f u8)),
  .call .p f11 [(.l u0)],
  .call .p f10 [(.l u0)],
  .o .p (.u .mv (.l u0)),
  .o .p (.u (.ext 0) (.l u0)),
  .o .p (.u (.ext 1) (.l u1)),
  .o (.w u9) (.new [.sn, .sn]),
  .o .n (.st 2 (.f u9) (.l u1)),
  .o (.w u10) (.u .mv (.l u0))]) (.seq (.reg [.o .p (.u (.fad 0) (.f u3)),
  .o .p (.ld (.l u0)),
  .o .p (.u (.fad 1) (.f u3)),
  .o .p (.ld (.l u0)),
  .o .p (.u .mv (.f u5)),
  .o .p (.u .mv (.f u6)),
  .call .p f12 [(.l u4), (.l u2), (.l u1), (.l u0)],
  .o .p (.u .mv (.l u0)),
  .o .p (.u (.ext 0) (.l u0)),
  .o .p (.u (.ext 1) (.l u1)),
  .o (.w u11) (.u .mv (.l u1)),
  .o (.w u12) (.u .mv (.l u0))]) (.seq (.rc [.o .p (.u .mv (.f u10)),
  .call .p f13 [(.l u0)],
  .o .p (.b .ne (.l u0) (.c (.i .i64 (.ofNat 0)))),
  .o .p (.u .mv (.l u0)),
  .g (.l u0) false .p (.o .p (.ldn 2 (.f u9))),
  .g (.l u1) false .p (.call .p f14 [(.l u0), (.c (.i .i64 (.ofNat 1)))]),
  .g (.l u2) false .p (.o .p (.u .not (.l u0))),
  .o .p (.pick (.l u3) (.c (.b true)) (.l u0))] (.l u0) (.seq (.reg [.o (.w u1) (.u .mv (.c (.b false)))]) .ret) .skip) (.seq (.reg [.o .p (.u (.fad 0) (.f u9)),
  .o .p (.ld (.l u0)),
  .o .p (.b (.idx 4) (.l u0) (.c (.i .i64 (.ofNat 0)))),
  .o .p (.ldn 4 (.l u0)),
  .call .p f15 [(.l u0)],
  .o .p (.u .mv (.l u0)),
  .o .p (.u (.ext 0) (.l u0)),
  .o .p (.u (.ext 1) (.l u1)),
  .o (.w u13) (.u .mv (.l u1)),
  .o (.w u14) (.u .mv (.l u0))]) (.rc [.o .p (.u .mv (.f u14)),
  .o .p (.u .mv (.f u12)),
  .o .p (.b .eq (.l u0) (.c (.i .i64 (.ofNat 0)))),
  .o .p (.b .neb (.l u2) (.l u0)),
  .o .p (.u .mv (.l u0)),
  .g (.l u0) false .p (.o .p (.u .mv (.f u14))),
  .g (.l u1) false .p (.o .p (.u .mv (.l u0))),
  .g (.l u0) true .p (.o .p (.u .mv (.f u13))),
  .g (.l u1) true .p (.o .p (.u .mv (.f u11))),
  .g (.l u2) true .p (.o .p (.b .ne (.l u1) (.l u0))),
  .g (.l u5) false .p (.o .p (.pick (.l u3) (.l u0) (.c (.b false)))),
  .o .p (.pick (.l u6) (.c (.b true)) (.l u0))] (.l u0) (.seq (.reg [.o (.w u1) (.u .mv (.c (.b false)))]) .ret) .skip)))))))))))
end
end Go.X

namespace Go.X
set_option maxRecDepth 100000
noncomputable section
def fl3 : List Bool := [false, false, false, false, true, false, false, false, false, false, false, true]
def q3 (c : Nat) (sg : Bool) (s : Nat) (sg' : Bool) (s' : Nat) : QC := ⟨c, sg, s, sg', s'⟩
def J3 (v u : AV) : List AV := [.oq 0, .oq 1, .oq 2, .oq 3, v, .oq 5, .oq 6, .oq 7, .oq 8, .oq 9, .oq 10, u]
def rn3 (tO tK tX tY : Tm) (v u : AV) : Bool := chkR true fl3 (ex FT 100000 BC3 (.x (.la (cellsOf tO tK (.v 4) tX tY)) :: .b false :: .x .li :: J3 v u) [] .e n0)
end
end Go.X
