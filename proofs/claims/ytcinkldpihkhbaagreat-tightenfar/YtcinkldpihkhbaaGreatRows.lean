/-
  No cell of these rows narrows 'for every input' (looked for: loops, veiled, ifaces, maps, wideKeys, modest, calm, conditions, laid).
  DERIVED. THE GIVEN ROWS OF THIS SEAT. 9 by the template 'for every input the law returns true; each argument reads behind the call as it read before'; 0 by the template 'total and deterministic' (their statements: YtcinkldpihkhbaaGreatTotals.lean).
  GIVEN WITH THE SEED: the statements are not yours to turn. If you find one false, say at which input.
  Laid BY PROGRAM, IN A SANDBOX (cutbox-rows.mjs): the forced cells as the released guide's own fill.sh prints them over the translation 8f3bd1f3e6ed66b7… (all of the seat's roots in one cut). By AI agents, Wed Nov 11 2026. No macro, syntax, notation, axiom, sorry.
-/
import Derived.Test.YtcinkldpihkhbaaGreatChecked
import GoSem.Claim
import GoSem.ClaimJoined
import GoSem.ClaimMapViews
import Derived.JoinedTies
import Derived.KernelRfl
namespace Go.Proofs.YtcinkldpihkhbaaGreat
/- THE CELL 'sum', in the pinned program and in every row, IS THE sha256 OF THE DUMP (.gsa) THAT YtcinkldpihkhbaaGreatProg.lean LOADS. Nothing in Lean hashes anything: it is a label: what it is worth is what the hold of that sum in a sandbox is worth. -/
noncomputable def Tryz.pinned : Pinned := { name := "ytcinkldpihkhbaagreat", sum := "8f3bd1f3e6ed66b783cab1da3fd9a40374f180d1f11889e64b99c2c7f118af9c", checked := Tryz.checked }
namespace Rows
def none {H : Type} : Left H := { results := [], args := [] }

/-- 'gantrylaw19.DeadAll': WHATEVER THE INPUT: true; the input reads as it did. -/
def deadAllSpec : ChangeSpec := { name := "deadAll", fn := fun _ => fun
  | [d] => { results := [.lit (.bool true)], args := [d] }
  | _ => none }
def deadAllRow : OpenClaim := { program := "ytcinkldpihkhbaagreat", sum := "8f3bd1f3e6ed66b783cab1da3fd9a40374f180d1f11889e64b99c2c7f118af9c", func := "gantry/gantrylaw19.DeadAll", spec := "deadAll", inPlace := ["math.Float64frombits", "math.Float64bits"], unfollowed := true, recurses := true, plainKeys := false, apart := false }
def DeadAllSaid : Prop := deadAllRow.holds Tryz.pinned (OpenSpec.ofChange deadAllSpec)

/-- ITS FALSE NEIGHBOUR: 'it returns false'. Refute it at one input. -/
def deadAllWrong : ChangeSpec := { name := "deadAll", fn := fun _ => fun
  | [d] => { results := [.lit (.bool false)], args := [d] }
  | _ => none }
def DeadAllWrongFalsely : Prop := deadAllRow.holds Tryz.pinned (OpenSpec.ofChange deadAllWrong)

/-- 'gantrylaw23.ChooseSides': WHATEVER THE INPUT: true; the input reads as it did. -/
def chooseSidesSpec : ChangeSpec := { name := "chooseSides", fn := fun _ => fun
  | [d] => { results := [.lit (.bool true)], args := [d] }
  | _ => none }
def chooseSidesRow : OpenClaim := { program := "ytcinkldpihkhbaagreat", sum := "8f3bd1f3e6ed66b783cab1da3fd9a40374f180d1f11889e64b99c2c7f118af9c", func := "gantry/gantrylaw23.ChooseSides", spec := "chooseSides", inPlace := ["math.Float64frombits", "math.Float64bits"], unfollowed := true, recurses := true, plainKeys := false, apart := false }
def ChooseSidesSaid : Prop := chooseSidesRow.holds Tryz.pinned (OpenSpec.ofChange chooseSidesSpec)

/-- ITS FALSE NEIGHBOUR: 'it returns false'. Refute it at one input. -/
def chooseSidesWrong : ChangeSpec := { name := "chooseSides", fn := fun _ => fun
  | [d] => { results := [.lit (.bool false)], args := [d] }
  | _ => none }
def ChooseSidesWrongFalsely : Prop := chooseSidesRow.holds Tryz.pinned (OpenSpec.ofChange chooseSidesWrong)

/-- 'gantrylaw18.CSEOnce': WHATEVER THE INPUT: true; the input reads as it did. -/
def cSEOnceSpec : ChangeSpec := { name := "cSEOnce", fn := fun _ => fun
  | [d] => { results := [.lit (.bool true)], args := [d] }
  | _ => none }
def cSEOnceRow : OpenClaim := { program := "ytcinkldpihkhbaagreat", sum := "8f3bd1f3e6ed66b783cab1da3fd9a40374f180d1f11889e64b99c2c7f118af9c", func := "gantry/gantrylaw18.CSEOnce", spec := "cSEOnce", inPlace := ["math.Float64frombits", "math.Float64bits"], unfollowed := true, recurses := true, plainKeys := false, apart := false }
def CSEOnceSaid : Prop := cSEOnceRow.holds Tryz.pinned (OpenSpec.ofChange cSEOnceSpec)

/-- ITS FALSE NEIGHBOUR: 'it returns false'. Refute it at one input. -/
def cSEOnceWrong : ChangeSpec := { name := "cSEOnce", fn := fun _ => fun
  | [d] => { results := [.lit (.bool false)], args := [d] }
  | _ => none }
def CSEOnceWrongFalsely : Prop := cSEOnceRow.holds Tryz.pinned (OpenSpec.ofChange cSEOnceWrong)

/-- 'gantrylaw18.CSELoads': WHATEVER THE INPUT: true; the input reads as it did. -/
def cSELoadsSpec : ChangeSpec := { name := "cSELoads", fn := fun _ => fun
  | [d] => { results := [.lit (.bool true)], args := [d] }
  | _ => none }
def cSELoadsRow : OpenClaim := { program := "ytcinkldpihkhbaagreat", sum := "8f3bd1f3e6ed66b783cab1da3fd9a40374f180d1f11889e64b99c2c7f118af9c", func := "gantry/gantrylaw18.CSELoads", spec := "cSELoads", inPlace := ["math.Float64frombits", "math.Float64bits"], unfollowed := true, recurses := true, plainKeys := false, apart := false }
def CSELoadsSaid : Prop := cSELoadsRow.holds Tryz.pinned (OpenSpec.ofChange cSELoadsSpec)

/-- ITS FALSE NEIGHBOUR: 'it returns false'. Refute it at one input. -/
def cSELoadsWrong : ChangeSpec := { name := "cSELoads", fn := fun _ => fun
  | [d] => { results := [.lit (.bool false)], args := [d] }
  | _ => none }
def CSELoadsWrongFalsely : Prop := cSELoadsRow.holds Tryz.pinned (OpenSpec.ofChange cSELoadsWrong)

/-- 'gantrylaw22.FuseRows': WHATEVER THE INPUT: true; the input reads as it did. -/
def fuseRowsSpec : ChangeSpec := { name := "fuseRows", fn := fun _ => fun
  | [d] => { results := [.lit (.bool true)], args := [d] }
  | _ => none }
def fuseRowsRow : OpenClaim := { program := "ytcinkldpihkhbaagreat", sum := "8f3bd1f3e6ed66b783cab1da3fd9a40374f180d1f11889e64b99c2c7f118af9c", func := "gantry/gantrylaw22.FuseRows", spec := "fuseRows", inPlace := ["math.Float64frombits", "math.Float64bits"], unfollowed := true, recurses := true, plainKeys := false, apart := false }
def FuseRowsSaid : Prop := fuseRowsRow.holds Tryz.pinned (OpenSpec.ofChange fuseRowsSpec)

/-- ITS FALSE NEIGHBOUR: 'it returns false'. Refute it at one input. -/
def fuseRowsWrong : ChangeSpec := { name := "fuseRows", fn := fun _ => fun
  | [d] => { results := [.lit (.bool false)], args := [d] }
  | _ => none }
def FuseRowsWrongFalsely : Prop := fuseRowsRow.holds Tryz.pinned (OpenSpec.ofChange fuseRowsWrong)

/-- 'gantrylaw21.ProveOnce': WHATEVER THE INPUT: true; the input reads as it did. -/
def proveOnceSpec : ChangeSpec := { name := "proveOnce", fn := fun _ => fun
  | [d] => { results := [.lit (.bool true)], args := [d] }
  | _ => none }
def proveOnceRow : OpenClaim := { program := "ytcinkldpihkhbaagreat", sum := "8f3bd1f3e6ed66b783cab1da3fd9a40374f180d1f11889e64b99c2c7f118af9c", func := "gantry/gantrylaw21.ProveOnce", spec := "proveOnce", inPlace := ["math.Float64frombits", "math.Float64bits"], unfollowed := true, recurses := true, plainKeys := false, apart := false }
def ProveOnceSaid : Prop := proveOnceRow.holds Tryz.pinned (OpenSpec.ofChange proveOnceSpec)

/-- ITS FALSE NEIGHBOUR: 'it returns false'. Refute it at one input. -/
def proveOnceWrong : ChangeSpec := { name := "proveOnce", fn := fun _ => fun
  | [d] => { results := [.lit (.bool false)], args := [d] }
  | _ => none }
def ProveOnceWrongFalsely : Prop := proveOnceRow.holds Tryz.pinned (OpenSpec.ofChange proveOnceWrong)

/-- 'gantrylaw25.TightenFar': WHATEVER THE INPUT: true; the input reads as it did. -/
def tightenFarSpec : ChangeSpec := { name := "tightenFar", fn := fun _ => fun
  | [d] => { results := [.lit (.bool true)], args := [d] }
  | _ => none }
def tightenFarRow : OpenClaim := { program := "ytcinkldpihkhbaagreat", sum := "8f3bd1f3e6ed66b783cab1da3fd9a40374f180d1f11889e64b99c2c7f118af9c", func := "gantry/gantrylaw25.TightenFar", spec := "tightenFar", inPlace := ["math.Float64frombits", "math.Float64bits", "slices.overlaps[int]"], unfollowed := true, recurses := true, plainKeys := false, apart := false }
def TightenFarSaid : Prop := tightenFarRow.holds Tryz.pinned (OpenSpec.ofChange tightenFarSpec)

/-- ITS FALSE NEIGHBOUR: 'it returns false'. Refute it at one input. -/
def tightenFarWrong : ChangeSpec := { name := "tightenFar", fn := fun _ => fun
  | [d] => { results := [.lit (.bool false)], args := [d] }
  | _ => none }
def TightenFarWrongFalsely : Prop := tightenFarRow.holds Tryz.pinned (OpenSpec.ofChange tightenFarWrong)

/-- 'gantrylaw17.FoldChains': WHATEVER THE INPUT: true; the input reads as it did. -/
def foldChainsSpec : ChangeSpec := { name := "foldChains", fn := fun _ => fun
  | [d] => { results := [.lit (.bool true)], args := [d] }
  | _ => none }
def foldChainsRow : OpenClaim := { program := "ytcinkldpihkhbaagreat", sum := "8f3bd1f3e6ed66b783cab1da3fd9a40374f180d1f11889e64b99c2c7f118af9c", func := "gantry/gantrylaw17.FoldChains", spec := "foldChains", inPlace := ["math.Float64frombits", "math.Float64bits"], unfollowed := true, recurses := true, plainKeys := false, apart := false }
def FoldChainsSaid : Prop := foldChainsRow.holds Tryz.pinned (OpenSpec.ofChange foldChainsSpec)

/-- ITS FALSE NEIGHBOUR: 'it returns false'. Refute it at one input. -/
def foldChainsWrong : ChangeSpec := { name := "foldChains", fn := fun _ => fun
  | [d] => { results := [.lit (.bool false)], args := [d] }
  | _ => none }
def FoldChainsWrongFalsely : Prop := foldChainsRow.holds Tryz.pinned (OpenSpec.ofChange foldChainsWrong)

/-- 'gantrylaw17.FoldBranches': WHATEVER THE INPUT: true; the input reads as it did. -/
def foldBranchesSpec : ChangeSpec := { name := "foldBranches", fn := fun _ => fun
  | [d] => { results := [.lit (.bool true)], args := [d] }
  | _ => none }
def foldBranchesRow : OpenClaim := { program := "ytcinkldpihkhbaagreat", sum := "8f3bd1f3e6ed66b783cab1da3fd9a40374f180d1f11889e64b99c2c7f118af9c", func := "gantry/gantrylaw17.FoldBranches", spec := "foldBranches", inPlace := ["math.Float64frombits", "math.Float64bits"], unfollowed := true, recurses := true, plainKeys := false, apart := false }
def FoldBranchesSaid : Prop := foldBranchesRow.holds Tryz.pinned (OpenSpec.ofChange foldBranchesSpec)

/-- ITS FALSE NEIGHBOUR: 'it returns false'. Refute it at one input. -/
def foldBranchesWrong : ChangeSpec := { name := "foldBranches", fn := fun _ => fun
  | [d] => { results := [.lit (.bool false)], args := [d] }
  | _ => none }
def FoldBranchesWrongFalsely : Prop := foldBranchesRow.holds Tryz.pinned (OpenSpec.ofChange foldBranchesWrong)

/- THE SECOND FORM. 'bulk': how many values and letters a reading holds, each counted each time it is reached (what is shared counts as often as it is met; a slice's spare places count too). A statement '..UptoSaid' is the law's where the arguments, and the package variables that the reading takes, are together of bulk at most 1048576: NARROWER than '..Said'. Prove '..Said' where nothing that the law and all that it calls make is longer than what came in: it says more and counts as full. Else prove '..UptoSaid'. A law counts once. -/
mutual
def uptoBulk {H : Type} : DataW H → Nat
  | .lit (.string bytes) => bytes.length + 1
  | .lit _ => 1
  | .nil => 1
  | .ptr d => uptoBulk d + 1
  | .slice elems spare => uptoBulkAll elems + uptoBulkAll spare + 1
  | .agg parts => uptoBulkAll parts + 1
  | .iface _ d => uptoBulk d + 1
  | .map entries => uptoBulkEntries entries + 1
  | .held _ => 1
def uptoBulkAll {H : Type} : List (DataW H) → Nat
  | [] => 0
  | d :: r => uptoBulk d + uptoBulkAll r
def uptoBulkEntries {H : Type} : List (Lit × DataW H) → Nat
  | [] => 0
  | x :: r => uptoBulkEntry x + uptoBulkEntries r
def uptoBulkEntry {H : Type} : Lit × DataW H → Nat
  | (.string bytes, d) => bytes.length + uptoBulk d + 1
  | (_, d) => uptoBulk d + 1
 end
def uptoSmall : (H : Type) → List (DataW H) → Bool := fun _ ds => decide (uptoBulkAll ds ≤ 1048576)
def OpenSpec.upto (s : _root_.Go.ChangeSpec) : _root_.Go.OpenSpec := { _root_.Go.OpenSpec.ofChange s with cond := some uptoSmall }

/-- 'gantrylaw19.DeadAll', WHERE WHAT IT READS IS OF BULK AT MOST 1048576: true; the input reads as it did. -/
def deadAllUptoRow : OpenClaim := { program := "ytcinkldpihkhbaagreat", sum := "8f3bd1f3e6ed66b783cab1da3fd9a40374f180d1f11889e64b99c2c7f118af9c", func := "gantry/gantrylaw19.DeadAll", spec := "deadAll", inPlace := ["math.Float64frombits", "math.Float64bits"], unfollowed := true, recurses := true, plainKeys := false, apart := false, narrowed := true }
def DeadAllUptoSaid : Prop := deadAllUptoRow.holds Tryz.pinned (OpenSpec.upto deadAllSpec)

/-- 'gantrylaw23.ChooseSides', WHERE WHAT IT READS IS OF BULK AT MOST 1048576: true; the input reads as it did. -/
def chooseSidesUptoRow : OpenClaim := { program := "ytcinkldpihkhbaagreat", sum := "8f3bd1f3e6ed66b783cab1da3fd9a40374f180d1f11889e64b99c2c7f118af9c", func := "gantry/gantrylaw23.ChooseSides", spec := "chooseSides", inPlace := ["math.Float64frombits", "math.Float64bits"], unfollowed := true, recurses := true, plainKeys := false, apart := false, narrowed := true }
def ChooseSidesUptoSaid : Prop := chooseSidesUptoRow.holds Tryz.pinned (OpenSpec.upto chooseSidesSpec)

/-- 'gantrylaw18.CSEOnce', WHERE WHAT IT READS IS OF BULK AT MOST 1048576: true; the input reads as it did. -/
def cSEOnceUptoRow : OpenClaim := { program := "ytcinkldpihkhbaagreat", sum := "8f3bd1f3e6ed66b783cab1da3fd9a40374f180d1f11889e64b99c2c7f118af9c", func := "gantry/gantrylaw18.CSEOnce", spec := "cSEOnce", inPlace := ["math.Float64frombits", "math.Float64bits"], unfollowed := true, recurses := true, plainKeys := false, apart := false, narrowed := true }
def CSEOnceUptoSaid : Prop := cSEOnceUptoRow.holds Tryz.pinned (OpenSpec.upto cSEOnceSpec)

/-- 'gantrylaw18.CSELoads', WHERE WHAT IT READS IS OF BULK AT MOST 1048576: true; the input reads as it did. -/
def cSELoadsUptoRow : OpenClaim := { program := "ytcinkldpihkhbaagreat", sum := "8f3bd1f3e6ed66b783cab1da3fd9a40374f180d1f11889e64b99c2c7f118af9c", func := "gantry/gantrylaw18.CSELoads", spec := "cSELoads", inPlace := ["math.Float64frombits", "math.Float64bits"], unfollowed := true, recurses := true, plainKeys := false, apart := false, narrowed := true }
def CSELoadsUptoSaid : Prop := cSELoadsUptoRow.holds Tryz.pinned (OpenSpec.upto cSELoadsSpec)

/-- 'gantrylaw22.FuseRows', WHERE WHAT IT READS IS OF BULK AT MOST 1048576: true; the input reads as it did. -/
def fuseRowsUptoRow : OpenClaim := { program := "ytcinkldpihkhbaagreat", sum := "8f3bd1f3e6ed66b783cab1da3fd9a40374f180d1f11889e64b99c2c7f118af9c", func := "gantry/gantrylaw22.FuseRows", spec := "fuseRows", inPlace := ["math.Float64frombits", "math.Float64bits"], unfollowed := true, recurses := true, plainKeys := false, apart := false, narrowed := true }
def FuseRowsUptoSaid : Prop := fuseRowsUptoRow.holds Tryz.pinned (OpenSpec.upto fuseRowsSpec)

/-- 'gantrylaw21.ProveOnce', WHERE WHAT IT READS IS OF BULK AT MOST 1048576: true; the input reads as it did. -/
def proveOnceUptoRow : OpenClaim := { program := "ytcinkldpihkhbaagreat", sum := "8f3bd1f3e6ed66b783cab1da3fd9a40374f180d1f11889e64b99c2c7f118af9c", func := "gantry/gantrylaw21.ProveOnce", spec := "proveOnce", inPlace := ["math.Float64frombits", "math.Float64bits"], unfollowed := true, recurses := true, plainKeys := false, apart := false, narrowed := true }
def ProveOnceUptoSaid : Prop := proveOnceUptoRow.holds Tryz.pinned (OpenSpec.upto proveOnceSpec)

/-- 'gantrylaw25.TightenFar', WHERE WHAT IT READS IS OF BULK AT MOST 1048576: true; the input reads as it did. -/
def tightenFarUptoRow : OpenClaim := { program := "ytcinkldpihkhbaagreat", sum := "8f3bd1f3e6ed66b783cab1da3fd9a40374f180d1f11889e64b99c2c7f118af9c", func := "gantry/gantrylaw25.TightenFar", spec := "tightenFar", inPlace := ["math.Float64frombits", "math.Float64bits", "slices.overlaps[int]"], unfollowed := true, recurses := true, plainKeys := false, apart := false, narrowed := true }
def TightenFarUptoSaid : Prop := tightenFarUptoRow.holds Tryz.pinned (OpenSpec.upto tightenFarSpec)

/-- 'gantrylaw17.FoldChains', WHERE WHAT IT READS IS OF BULK AT MOST 1048576: true; the input reads as it did. -/
def foldChainsUptoRow : OpenClaim := { program := "ytcinkldpihkhbaagreat", sum := "8f3bd1f3e6ed66b783cab1da3fd9a40374f180d1f11889e64b99c2c7f118af9c", func := "gantry/gantrylaw17.FoldChains", spec := "foldChains", inPlace := ["math.Float64frombits", "math.Float64bits"], unfollowed := true, recurses := true, plainKeys := false, apart := false, narrowed := true }
def FoldChainsUptoSaid : Prop := foldChainsUptoRow.holds Tryz.pinned (OpenSpec.upto foldChainsSpec)

/-- 'gantrylaw17.FoldBranches', WHERE WHAT IT READS IS OF BULK AT MOST 1048576: true; the input reads as it did. -/
def foldBranchesUptoRow : OpenClaim := { program := "ytcinkldpihkhbaagreat", sum := "8f3bd1f3e6ed66b783cab1da3fd9a40374f180d1f11889e64b99c2c7f118af9c", func := "gantry/gantrylaw17.FoldBranches", spec := "foldBranches", inPlace := ["math.Float64frombits", "math.Float64bits"], unfollowed := true, recurses := true, plainKeys := false, apart := false, narrowed := true }
def FoldBranchesUptoSaid : Prop := foldBranchesUptoRow.holds Tryz.pinned (OpenSpec.upto foldBranchesSpec)

end Rows
end Go.Proofs.YtcinkldpihkhbaaGreat
