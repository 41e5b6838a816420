/- An executable reading of the model, its soundness over any program, and what it reads of this program. -/
import GoSem.Core.Machine
set_option linter.unusedSectionVars false
set_option linter.unusedVariables false
set_option linter.unusedSimpArgs false
set_option linter.constructorNameAsVariable false
namespace Go.X
noncomputable section

/-- a digit -/
inductive Q where | a | b | c | d
  deriving DecidableEq
/-- a number, by its digits, the lowest first -/
abbrev Pa := List Q
def Q.val : Q → Nat | .a => 0 | .b => 1 | .c => 2 | .d => 3
def val : Pa → Nat
  | [] => 0
  | q :: p => q.val + 4 * val p

inductive Cap where
  | ex (n : Nat)
  | re (sz : Nat)

/-! ### words that are not known -/
inductive TO where | add | sub | mul | and | or | xor | quo | rem | shl | shr
/-- of two unknown words: what is known of them (c), when they are cut to words of a kind: signed or not, how many bits are cut off -/
structure QC where
  c : Nat
  sg : Bool
  s : Nat
  sg' : Bool
  s' : Nat
/-- a whole number that hangs on unknown words -/
inductive Tm where
  | lit (n : Int)
  | v (i : Nat)
  | md (m r i : Nat)
  | mb (r : Nat) (b : Bool) (i : Nat)
  | o (o : TO) (k : IntKind) (a b : Tm)
  | quo (k : IntKind) (a : Tm) (n : Nat)
  | rem (a : Tm) (n : Nat)
  | sl (k : IntKind) (a : Tm) (s : Nat)
  | sr (a : Tm) (s : Nat)
  | cv (k : IntKind) (a : Tm)
  | cn (sg : Bool) (s : Nat) (a : Tm)
  | qx (q : QC)
  | qy (q : QC)
  | rg (lo hi : Int) (i : Nat)
  | fb (op : Nat) (a b : Tm)
/-- a value that is not known: a number; the law's argument, the round, an address in the argument's row -/
inductive XV where
  | w (k : IntKind) (t : Tm)
  | la (c : List (IntKind × Tm))
  | li
  | ap (c : List (IntKind × Tm)) (o : Nat)

/-- an abstract value -/
inductive AV where
  | und
  | b (x : Bool)
  | i (k : IntKind) (n : Int)
  | fl (n : Nat)
  | s (x : List UInt8)
  | pn
  | p (id : Pa) (off : Nat)
  | sn
  | sl (id : Pa) (off len : Nat) (cap : Cap)
  | fn (f : Pa) (first cap : List AV)
  | yl (id : Pa)
  | fz
  | ic (t : Nat) (v : AV)
  | iz
  | ag (l : List AV)
  | tu (l : List AV)
  | oq (k : Nat)
  | x (x : XV)
  | em (id : Pa) (off l sz : Nat)
  | mp (id : Pa)
  | mn
  deriving Inhabited

/-- the first of n whose digits .. : the next number of as many digits -/
def incK {β : Type} (no : β) : Pa → (Pa → β) → β :=
  @List.rec Q (fun _ => (Pa → β) → β) (fun _ => no) fun q p ih =>
    @Q.rec (fun _ => (Pa → β) → β) (fun k => k (.b :: p)) (fun k => k (.c :: p)) (fun k => k (.d :: p)) (fun k => ih fun p => k (.a :: p)) q
def ifB {β : Type} (b : Bool) (t e : β) : β := @Bool.rec (fun _ => β) e t b
def qEq : Q → Q → Bool :=
  @Q.rec (fun _ => Q → Bool)
    (@Q.rec (fun _ => Bool) true false false false) (@Q.rec (fun _ => Bool) false true false false)
    (@Q.rec (fun _ => Bool) false false true false) (@Q.rec (fun _ => Bool) false false false true)
def paEq : Pa → Pa → Bool :=
  @List.rec Q (fun _ => Pa → Bool) (@List.rec Q (fun _ => Bool) true fun _ _ _ => false)
    fun q _ ih => @List.rec Q (fun _ => Bool) false fun q' p' _ => ifB (qEq q q') (ih p') false

inductive T (α : Type) where
  | e
  | v (x : α)
  | n (a b c d : T α)

section
variable {α β : Type}
def T.getNo : T α → Option α := fun _ => none
def T.getLeaf : T α → Option α := @T.rec α (fun _ => Option α) none some fun _ _ _ _ _ _ _ _ => none
def T.gQa (ih : T α → Option α) (a _ _ _ : T α) : Option α := ih a
def T.gQb (ih : T α → Option α) (_ b _ _ : T α) : Option α := ih b
def T.gQc (ih : T α → Option α) (_ _ c _ : T α) : Option α := ih c
def T.gQd (ih : T α → Option α) (_ _ _ d : T α) : Option α := ih d
def T.gQ : Q → (T α → Option α) → T α → T α → T α → T α → Option α := @Q.rec (fun _ => (T α → Option α) → T α → T α → T α → T α → Option α) T.gQa T.gQb T.gQc T.gQd
def T.gT0 : Q → (T α → Option α) → Option α := fun _ _ => none
def T.gT1 : α → Q → (T α → Option α) → Option α := fun _ _ _ => none
def T.gT2 (a b c d : T α) (_ _ _ _ : Q → (T α → Option α) → Option α) (q : Q) (ih : T α → Option α) : Option α := T.gQ q ih a b c d
def T.gT : T α → Q → (T α → Option α) → Option α := @T.rec α (fun _ => Q → (T α → Option α) → Option α) T.gT0 T.gT1 T.gT2
def T.getQ (q : Q) (ih : T α → Option α) : T α → Option α := fun t => T.gT t q ih
def T.gC (q : Q) (_ : Pa) (ih : T α → Option α) : T α → Option α := fun t => T.gT t q ih
def T.get : Pa → T α → Option α := @List.rec Q (fun _ => T α → Option α) T.getLeaf T.gC
def T.sQa (ih : T α → (T α → β) → β) (a b c d : T α) (k : T α → β) : β := ih a fun a => k (.n a b c d)
def T.sQb (ih : T α → (T α → β) → β) (a b c d : T α) (k : T α → β) : β := ih b fun b => k (.n a b c d)
def T.sQc (ih : T α → (T α → β) → β) (a b c d : T α) (k : T α → β) : β := ih c fun c => k (.n a b c d)
def T.sQd (ih : T α → (T α → β) → β) (a b c d : T α) (k : T α → β) : β := ih d fun d => k (.n a b c d)
def T.sQ : Q → (T α → (T α → β) → β) → T α → T α → T α → T α → (T α → β) → β := @Q.rec (fun _ => (T α → (T α → β) → β) → T α → T α → T α → T α → (T α → β) → β) T.sQa T.sQb T.sQc T.sQd
def T.sT0 : Q → (T α → (T α → β) → β) → (T α → β) → β := fun q ih k => T.sQ q ih .e .e .e .e k
def T.sT1 : α → Q → (T α → (T α → β) → β) → (T α → β) → β := fun _ q ih k => T.sQ q ih .e .e .e .e k
def T.sT2 (a b c d : T α) (_ _ _ _ : Q → (T α → (T α → β) → β) → (T α → β) → β) (q : Q) (ih : T α → (T α → β) → β) (k : T α → β) : β := T.sQ q ih a b c d k
def T.sT : T α → Q → (T α → (T α → β) → β) → (T α → β) → β := @T.rec α (fun _ => Q → (T α → (T α → β) → β) → (T α → β) → β) T.sT0 T.sT1 T.sT2
def T.sC (q : Q) (_ : Pa) (ih : T α → T α → (T α → β) → β) (x : T α) (t : T α) (k : T α → β) : β := T.sT t q (ih x) k
def T.sN (x : T α) (_ : T α) (k : T α → β) : β := k x
def T.sP : Pa → T α → T α → (T α → β) → β := @List.rec Q (fun _ => T α → T α → (T α → β) → β) T.sN T.sC
/-- lays the leaf x at a place -/
def T.setK (x : T α) (p : Pa) (t : T α) (k : T α → β) : β := T.sP p x t k
end

abbrev Fr := List AV

inductive U where | z | s (n : U)

inductive Opd where
  | l (i : U)
  | f (i : U)
  | c (v : AV)

inductive B2 where
  | add | sub | mul | quo | rem | and | or | xor | shl | shr | eq | ne | lt | le | gt | ge
  | eqb | neb
  | eqn (t : Nat)
  | nen (t : Nat)
  | idx (sz : Nat)
  | idxs
  | ida (m sz : Nat)

inductive B1 where
  | mv | nck | neg | not | com
  | cvt (k : IntKind)
  | mkif (t : Nat)
  | fad (off : Nat)
  | fld (off : Nat)
  | fldn (off n : Nat)
  | len
  | lens
  | ext (n : Nat)
  | tya (t : Nat) (z : AV)

/-- an operation -/
inductive Op where
  | u (o : B1) (x : Opd)
  | b (o : B2) (x y : Opd)
  | pick (c x y : Opd)
  | ld (a : Opd)
  | ldn (n : Nat) (a : Opd)
  | st (n : Nat) (a x : Opd)
  | new (z : List AV)
  | box (x : Opd)
  | bld (z : List AV) (ps : List (Nat × Nat × Opd))
  | bsl (z : List AV) (len : Nat) (ps : List (Nat × Nat × Opd))
  | mkf (f : Pa) (first cap : List Opd)
  | mks (by_ : Nat) (z : List AV) (l c : Opd)
  | slc (sz : Nat) (x : Opd) (lo hi mx : Option Opd)
  | app (sz by_ : Nat) (s x : Opd)
  | cpy (sz : Nat) (d s : Opd)
  | clr (z : List AV) (x : Opd)
  | mkm (nk : Nat)
  | lup (nk : Nat) (m k : Opd)
  | mup (nk : Nat) (m k v : Opd)
  | mdl (nk : Nat) (m k : Opd)

inductive Kd where
  | p
  | w (i : U)
  | n

inductive IOp where
  | o (k : Kd) (o : Op)
  | call (k : Kd) (f : Pa) (as : List Opd)
  | callv (k : Kd) (f : Opd) (as : List Opd)
  | dfr (k : Kd) (f : Opd) (as : List Opd)
  | pan (x : Opd)
  | rcv (k : Kd)
  | g (x : Opd) (b : Bool) (k : Kd) (o : IOp)

/-- an operation of a region whose order is open; which of the heaps ahead are asked too -/
inductive DOp where
  | q (o : Op) (at_ : List U)
  | e (o : Op)
  | call (f : Pa) (as : List Opd)
  | callv (f : Opd) (as : List Opd)
  | g (x : Opd) (b : Bool) (o : DOp)

inductive Code where
  | skip
  | reg (ops : List IOp)
  | dreg (ops : List DOp) (out : List (U × U))
  | rc (ops : List IOp) (x : Opd) (a b : Code)
  | dc (ops : List DOp) (out : List (U × U)) (x : Opd) (a b : Code)
  | seq (a b : Code)
  | cond (x : Opd) (a b : Code)
  | block (id : Nat) (c : Code)
  | loop (c : Code)
  | exit (id : Nat)
  | ret
  | rf (x : Opd) (ps : List U) (a b : Code)
  | lab (l : Nat)
  | sc (c : Code)

/-- a block: cells; the record of a loop over a function; the block of its rounds' deferred calls -/
inductive Blk where
  | c (l : List AV)
  | lp (ps : List U) (a b : Code) (fr : List AV)
  | df
  | mp (nk : Nat) (es : List (List Int × Int))
  /-- so many cells of one value, then cells -/
  | cz (m : Nat) (z : AV) (l : List AV)
abbrev HT := T Blk

inductive Rv where
  | t (i : U)
  | c1 (i : U)
  | cn (n : Nat) (i : U)

structure Func where
  np : Nat
  pad : List AV
  body : Code
  res : List Rv
  dfr : Bool
  /-- slices.Insert at []int: taken as one step -/
  ins : Bool
  /-- what it tells without being gone through -/
  sp : List AV → Option AV

inductive Df where
  | d (f : Pa) (as : List AV)
  | col (id : Pa)

inductive Res where
  | nm (fr : Fr) (ds : List Df) (h : HT) (n : Pa)
  | ex (id : Nat) (fr : Fr) (ds : List Df) (h : HT) (n : Pa)
  | rt (fr : Fr) (ds : List Df) (h : HT) (n : Pa)
  | pc (v : AV) (fr : Fr) (ds : List Df) (h : HT) (n : Pa)
  | no (w : Nat)

inductive OR where
  | ok (v : AV) (h : HT) (n : Pa)
  | no (w : Nat)

/-! ### values, looked at -/
/-- by cases, where the lists within are not gone through -/
def AV.by {β : Type} (u : β) (b : Bool → β) (i : IntKind → Int → β) (fl : Nat → β) (s : List UInt8 → β) (pn : β) (p : Pa → Nat → β) (sn : β)
    (sl : Pa → Nat → Nat → Cap → β) (fn : Pa → List AV → List AV → β) (yl : Pa → β) (fz : β) (ic : Nat → AV → β) (iz : β) (ag tu : List AV → β) : AV → β :=
  @AV.rec (fun _ => β) (fun _ => Unit) u b i fl s pn p sn sl (fun f a c _ _ => fn f a c) yl fz (fun t v _ => ic t v) iz (fun l _ => ag l) (fun l _ => tu l) (fun _ => u) (fun _ => u) (fun _ _ _ _ => u) (fun _ => u) u () fun _ _ _ _ => ()

inductive VI where | i (k : IntKind) (n : Int) | no
inductive VP where | p (id : Pa) (off : Nat) | no
inductive VS where | sl (id : Pa) (off len : Nat) (cap : Cap) | sn | no
inductive VB where | b (x : Bool) | no
inductive VL where | l (l : List AV) | no
inductive VF where | fn (f : Pa) (a c : List AV) | yl (id : Pa) | no
/-- nil or not -/
inductive VN where | nil (n : Nat) | some (n : Nat) | no
inductive VC where | ic (t : Nat) (v : AV) | iz | no

def asI : AV → VI := @AV.rec (fun _ => VI) (fun _ => Unit) .no (fun _ => .no) .i (fun _ => .no) (fun _ => .no) .no (fun _ _ => .no) .no (fun _ _ _ _ => .no) (fun _ _ _ _ _ => .no) (fun _ => .no) .no (fun _ _ _ => .no) .no (fun _ _ => .no) (fun _ _ => .no) (fun _ => .no) (fun _ => .no) (fun _ _ _ _ => .no) (fun _ => .no) .no () fun _ _ _ _ => ()
def asP : AV → VP := @AV.rec (fun _ => VP) (fun _ => Unit) .no (fun _ => .no) (fun _ _ => .no) (fun _ => .no) (fun _ => .no) .no .p .no (fun _ _ _ _ => .no) (fun _ _ _ _ _ => .no) (fun _ => .no) .no (fun _ _ _ => .no) .no (fun _ _ => .no) (fun _ _ => .no) (fun _ => .no) (fun _ => .no) (fun _ _ _ _ => .no) (fun _ => .no) .no () fun _ _ _ _ => ()
def asS : AV → VS := @AV.rec (fun _ => VS) (fun _ => Unit) .no (fun _ => .no) (fun _ _ => .no) (fun _ => .no) (fun _ => .no) .no (fun _ _ => .no) .sn .sl (fun _ _ _ _ _ => .no) (fun _ => .no) .no (fun _ _ _ => .no) .no (fun _ _ => .no) (fun _ _ => .no) (fun _ => .no) (fun _ => .no) (fun _ _ _ _ => .no) (fun _ => .no) .no () fun _ _ _ _ => ()
def asB : AV → VB := @AV.rec (fun _ => VB) (fun _ => Unit) .no .b (fun _ _ => .no) (fun _ => .no) (fun _ => .no) .no (fun _ _ => .no) .no (fun _ _ _ _ => .no) (fun _ _ _ _ _ => .no) (fun _ => .no) .no (fun _ _ _ => .no) .no (fun _ _ => .no) (fun _ _ => .no) (fun _ => .no) (fun _ => .no) (fun _ _ _ _ => .no) (fun _ => .no) .no () fun _ _ _ _ => ()
def asAg : AV → VL := @AV.rec (fun _ => VL) (fun _ => Unit) .no (fun _ => .no) (fun _ _ => .no) (fun _ => .no) (fun _ => .no) .no (fun _ _ => .no) .no (fun _ _ _ _ => .no) (fun _ _ _ _ _ => .no) (fun _ => .no) .no (fun _ _ _ => .no) .no (fun l _ => .l l) (fun _ _ => .no) (fun _ => .no) (fun _ => .no) (fun _ _ _ _ => .no) (fun _ => .no) .no () fun _ _ _ _ => ()
def asTu : AV → VL := @AV.rec (fun _ => VL) (fun _ => Unit) .no (fun _ => .no) (fun _ _ => .no) (fun _ => .no) (fun _ => .no) .no (fun _ _ => .no) .no (fun _ _ _ _ => .no) (fun _ _ _ _ _ => .no) (fun _ => .no) .no (fun _ _ _ => .no) .no (fun _ _ => .no) (fun l _ => .l l) (fun _ => .no) (fun _ => .no) (fun _ _ _ _ => .no) (fun _ => .no) .no () fun _ _ _ _ => ()
def asF : AV → VF := @AV.rec (fun _ => VF) (fun _ => Unit) .no (fun _ => .no) (fun _ _ => .no) (fun _ => .no) (fun _ => .no) .no (fun _ _ => .no) .no (fun _ _ _ _ => .no) (fun f a c _ _ => .fn f a c) .yl .no (fun _ _ _ => .no) .no (fun _ _ => .no) (fun _ _ => .no) (fun _ => .no) (fun _ => .no) (fun _ _ _ _ => .no) (fun _ => .no) .no () fun _ _ _ _ => ()
def asN : AV → VN := @AV.rec (fun _ => VN) (fun _ => Unit) .no (fun _ => .no) (fun _ _ => .no) (fun _ => .no) (fun _ => .no) (.nil 0) (fun _ _ => .some 0) (.nil 1) (fun _ _ _ _ => .some 1) (fun _ _ _ _ _ => .some 2) (fun _ => .no) (.nil 2) (fun _ _ _ => .some 3) (.nil 3) (fun _ _ => .no) (fun _ _ => .no) (fun _ => .nil 7) (fun _ => .no) (fun _ _ _ _ => .no) (fun _ => .no) .no () fun _ _ _ _ => ()
def asC : AV → VC := @AV.rec (fun _ => VC) (fun _ => Unit) .no (fun _ => .no) (fun _ _ => .no) (fun _ => .no) (fun _ => .no) .no (fun _ _ => .no) .no (fun _ _ _ _ => .no) (fun _ _ _ _ _ => .no) (fun _ => .no) .no (fun t v _ => .ic t v) .iz (fun _ _ => .no) (fun _ _ => .no) (fun _ => .no) (fun _ => .no) (fun _ _ _ _ => .no) (fun _ => .no) .no () fun _ _ _ _ => ()
/-- the cells of a value -/
def cells (v : AV) : List AV := @VL.rec (fun _ => List AV) (fun l => l) [v] (asAg v)

/-- a value of one cell -/
def oneC : AV → Bool := @AV.rec (fun _ => Bool) (fun _ => Unit) false (fun _ => true) (fun _ _ => true) (fun _ => true) (fun _ => true) true (fun _ _ => true) true (fun _ _ _ _ => true) (fun _ _ _ _ _ => true) (fun _ => true) true (fun _ _ _ => true) true (fun _ _ => false) (fun _ _ => false) (fun _ => false) (fun _ => true) (fun _ _ _ _ => true) (fun _ => true) true () fun _ _ _ _ => ()
/-! ### lists -/
def hd : List AV → AV := @List.rec AV (fun _ => AV) .und fun x _ _ => x
def nth : U → List AV → AV := @U.rec (fun _ => List AV → AV) hd fun _ ih => @List.rec AV (fun _ => AV) .und fun _ l _ => ih l
def nthO : Nat → List AV → Option AV :=
  @Nat.rec (fun _ => List AV → Option AV) (@List.rec AV (fun _ => Option AV) none fun x _ _ => some x) fun _ ih => @List.rec AV (fun _ => Option AV) none fun _ l _ => ih l
def ev : Opd → List AV → Fr → AV := @Opd.rec (fun _ => List AV → Fr → AV) (fun i l _ => nth i l) (fun i _ f => nth i f) (fun v _ _ => v)
def evs : List Opd → List AV → Fr → List AV := @List.rec Opd (fun _ => List AV → Fr → List AV) (fun _ _ => []) fun x _ ih l f => ev x l f :: ih l f
section
variable {β : Type}
def setU (v : AV) : U → List AV → (List AV → β) → β :=
  @U.rec (fun _ => List AV → (List AV → β) → β) (@List.rec AV (fun _ => (List AV → β) → β) (fun k => k []) fun _ l _ k => k (v :: l))
    fun _ ih => @List.rec AV (fun _ => (List AV → β) → β) (fun k => k []) fun x l _ k => ih l fun l => k (x :: l)
/-- lays the list vs over a list; no: it does not fit -/
def layK (no : β) : List AV → List AV → (List AV → β) → β :=
  @List.rec AV (fun _ => List AV → (List AV → β) → β) (fun l k => k l)
    fun v _ ih => @List.rec AV (fun _ => (List AV → β) → β) (fun _ => no) fun _ l _ k => ifB (oneC v) (ih l fun l => k (v :: l)) no
def setK (no : β) (vs : List AV) : Nat → List AV → (List AV → β) → β :=
  @Nat.rec (fun _ => List AV → (List AV → β) → β) (layK no vs)
    fun _ ih => @List.rec AV (fun _ => (List AV → β) → β) (fun _ => no) fun x l _ k => ih l fun l => k (x :: l)
/-- so many from the beginning on -/
def takeK (no : β) : Nat → List AV → (List AV → β) → β :=
  @Nat.rec (fun _ => List AV → (List AV → β) → β) (fun _ k => k [])
    fun _ ih => @List.rec AV (fun _ => (List AV → β) → β) (fun _ => no) fun x l _ k => ih l fun l => k (x :: l)
/-- so many from a place on -/
def cutK (no : β) (n : Nat) : Nat → List AV → (List AV → β) → β :=
  @Nat.rec (fun _ => List AV → (List AV → β) → β) (takeK no n)
    fun _ ih => @List.rec AV (fun _ => (List AV → β) → β) (fun _ => no) fun _ l _ => ih l
def appK : List AV → List AV → (List AV → β) → β :=
  @List.rec AV (fun _ => List AV → (List AV → β) → β) (fun l k => k l) fun x _ ih l k => ih l fun l => k (x :: l)
def forceN (n : Nat) (k : Nat → β) : β := @Nat.rec (fun _ => β) (k 0) (fun m _ => k (Nat.succ m)) n
def forceI (n : Int) (k : Int → β) : β := @Int.rec (fun _ => β) (fun m => forceN m fun m => k (.ofNat m)) (fun m => forceN m fun m => k (.negSucc m)) n
end
def lenA : List AV → Nat := @List.rec AV (fun _ => Nat) 0 fun _ _ ih => Nat.succ ih
def isLen : Nat → List AV → Bool :=
  @Nat.rec (fun _ => List AV → Bool) (@List.rec AV (fun _ => Bool) true fun _ _ _ => false) fun _ ih => @List.rec AV (fun _ => Bool) false fun _ l _ => ih l

/-! ### numbers -/
def maxI : Nat := 9223372036854775807
def maxU : Nat := 18446744073709551615
def wrS : Int → Int := @Int.rec (fun _ => Int) (fun m => ifB (Nat.ble m 9223372036854775807) (.ofNat m) (IntKind.wrap .i64 (.ofNat m))) (fun m => ifB (Nat.ble m 9223372036854775807) (.negSucc m) (IntKind.wrap .i64 (.negSucc m)))
def wrU : Int → Int := @Int.rec (fun _ => Int) (fun m => ifB (Nat.ble m 18446744073709551615) (.ofNat m) (IntKind.wrap .u64 (.ofNat m))) (fun m => IntKind.wrap .u64 (.negSucc m))
def wrapF : IntKind → Int → Int := @IntKind.rec (fun _ => Int → Int) (IntKind.wrap .i8) (IntKind.wrap .i16) (IntKind.wrap .i32) wrS (IntKind.wrap .u8) (IntKind.wrap .u16) (IntKind.wrap .u32) wrU
def iadd : Int → Int → Int := @Int.rec (fun _ => Int → Int) (fun a => @Int.rec (fun _ => Int) (fun b => .ofNat (Nat.add a b)) fun b => Int.add (.ofNat a) (.negSucc b)) fun a => Int.add (.negSucc a)
def ieq : Int → Int → Bool := @Int.rec (fun _ => Int → Bool) (fun a => @Int.rec (fun _ => Bool) (Nat.beq a) fun _ => false) fun a => @Int.rec (fun _ => Bool) (fun _ => false) (Nat.beq a)
def ile : Int → Int → Bool := @Int.rec (fun _ => Int → Bool) (fun a => @Int.rec (fun _ => Bool) (Nat.ble a) fun _ => false) fun a => @Int.rec (fun _ => Bool) (fun _ => true) fun b => Nat.ble b a
def ikEq : IntKind → IntKind → Bool :=
  @IntKind.rec (fun _ => IntKind → Bool)
    (@IntKind.rec (fun _ => Bool) true false false false false false false false) (@IntKind.rec (fun _ => Bool) false true false false false false false false)
    (@IntKind.rec (fun _ => Bool) false false true false false false false false) (@IntKind.rec (fun _ => Bool) false false false true false false false false)
    (@IntKind.rec (fun _ => Bool) false false false false true false false false) (@IntKind.rec (fun _ => Bool) false false false false false true false false)
    (@IntKind.rec (fun _ => Bool) false false false false false false true false) (@IntKind.rec (fun _ => Bool) false false false false false false false true)
def isI64 : IntKind → Bool := @IntKind.rec (fun _ => Bool) false false false true false false false false
def toU (k : IntKind) (n : Int) : Nat := (Int.emod n (.ofNat (Nat.pow 2 k.bits))).toNat
def shN (k : IntKind) (b : Nat) : Nat := ifB (Nat.ble b k.bits) b k.bits
def bnot : Bool → Bool := @Bool.rec (fun _ => Bool) true false

def okI (k : IntKind) (n : Int) : Option AV := forceI n fun n => some (.i k n)
def okB (b : Bool) : Option AV := some (.b b)

abbrev I2 := IntKind → Int → Int → Option AV
def aAdd : I2 := fun k a b => okI k (wrapF k (iadd a b))
def aSub : I2 := fun k a b => okI k (wrapF k (Int.sub a b))
def aMul : I2 := fun k a b => okI k (wrapF k (Int.mul a b))
def aQuo : I2 := fun k a b => ifB (ieq b (.ofNat 0)) none (okI k (wrapF k (Int.tdiv a b)))
def aRem : I2 := fun k a b => ifB (ieq b (.ofNat 0)) none (okI k (Int.tmod a b))
def aAnd : I2 := fun k a b => okI k (wrapF k (.ofNat (Nat.land (toU k a) (toU k b))))
def aOr : I2 := fun k a b => okI k (wrapF k (.ofNat (Nat.lor (toU k a) (toU k b))))
def aXor : I2 := fun k a b => okI k (wrapF k (.ofNat (Nat.xor (toU k a) (toU k b))))
def aEq : I2 := fun _ a b => okB (ieq a b)
def aNe : I2 := fun _ a b => okB (bnot (ieq a b))
def aLt : I2 := fun _ a b => okB (bnot (ile b a))
def aLe : I2 := fun _ a b => okB (ile a b)
def aGt : I2 := fun _ a b => okB (bnot (ile a b))
def aGe : I2 := fun _ a b => okB (ile b a)
def viV (o : I2) (k : IntKind) (a : Int) : VI → Option AV := @VI.rec (fun _ => Option AV) (fun k' b => ifB (ikEq k k') (o k a b) none) none
def arV (o : I2) (x y : AV) : Option AV := @VI.rec (fun _ => VI → Option AV) (viV o) (fun _ => none) (asI x) (asI y)
def nnO : Int → Option Nat := @Int.rec (fun _ => Option Nat) some fun _ => none
def shlN (k : IntKind) (a : Int) : Option Nat → Option AV := @Option.rec Nat (fun _ => Option AV) none fun b => okI k (wrapF k (Int.mul a (.ofNat (Nat.pow 2 (shN k b)))))
def shrN (k : IntKind) (a : Int) : Option Nat → Option AV := @Option.rec Nat (fun _ => Option AV) none fun b => okI k (Int.fdiv a (.ofNat (Nat.pow 2 (shN k b))))
def shV (o : IntKind → Int → Option Nat → Option AV) (x y : AV) : Option AV :=
  @VI.rec (fun _ => VI → Option AV) (fun k a => @VI.rec (fun _ => Option AV) (fun _ b => o k a (nnO b)) none) (fun _ => none) (asI x) (asI y)
def eqbB (x y : Bool) : Bool := @Bool.rec (fun _ => Bool) (bnot y) y x
def beV (o : Bool → Bool) (x y : AV) : Option AV :=
  @VB.rec (fun _ => VB → Option AV) (fun a => @VB.rec (fun _ => Option AV) (fun b => okB (o (eqbB a b))) none) (fun _ => none) (asB x) (asB y)
/-- against nil: of the kind t -/
def neV (o : Bool → Bool) (t : Nat) (x y : AV) : Option AV :=
  @VN.rec (fun _ => VN → Option AV)
    (fun a => ifB (Nat.beq a t) (@VN.rec (fun _ => Option AV) (fun b => ifB (Nat.beq b t) (okB (o true)) none) (fun b => ifB (Nat.beq b t) (okB (o false)) none) none) fun _ => none)
    (fun a => ifB (Nat.beq a t) (@VN.rec (fun _ => Option AV) (fun b => ifB (Nat.beq b t) (okB (o false)) none) (fun _ => none) none) fun _ => none) (fun _ => none) (asN x) (asN y)
def idB : Bool → Bool := fun b => b
def idxN (sz : Nat) (id : Pa) (off len : Nat) : Option Nat → Option AV := @Option.rec Nat (fun _ => Option AV) none fun i => ifB (Nat.ble (Nat.succ i) len) (forceN (Nat.add off (Nat.mul i sz)) fun o => some (.p id o)) none
def idxI (sz : Nat) (id : Pa) (off len : Nat) : VI → Option AV := @VI.rec (fun _ => Option AV) (fun _ n => idxN sz id off len (nnO n)) none
def idxV (sz : Nat) (x y : AV) : Option AV := @VS.rec (fun _ => Option AV) (fun id off len _ => idxI sz id off len (asI y)) none none (asS x)
def nthB : Nat → List UInt8 → Option AV := @Nat.rec (fun _ => List UInt8 → Option AV) (@List.rec UInt8 (fun _ => Option AV) none fun x _ _ => some (.i .u8 (.ofNat x.toNat))) fun _ ih => @List.rec UInt8 (fun _ => Option AV) none fun _ l _ => ih l
def asStr : AV → Option (List UInt8) := @AV.rec (fun _ => Option (List UInt8)) (fun _ => Unit) none (fun _ => none) (fun _ _ => none) (fun _ => none) some none (fun _ _ => none) none (fun _ _ _ _ => none) (fun _ _ _ _ _ => none) (fun _ => none) none (fun _ _ _ => none) none (fun _ _ => none) (fun _ _ => none) (fun _ => none) (fun _ => none) (fun _ _ _ _ => none) (fun _ => none) none () fun _ _ _ _ => ()
def idxsN (l : List UInt8) : Option Nat → Option AV := @Option.rec Nat (fun _ => Option AV) none fun i => nthB i l
def idxsV (x y : AV) : Option AV := @Option.rec (List UInt8) (fun _ => Option AV) none (fun l => @VI.rec (fun _ => Option AV) (fun _ n => idxsN l (nnO n)) none (asI y)) (asStr x)
def idaV (m sz : Nat) (x y : AV) : Option AV := @VP.rec (fun _ => Option AV) (fun id off => idxI sz id off m (asI y)) none (asP x)
def b2 : B2 → AV → AV → Option AV :=
  @B2.rec (fun _ => AV → AV → Option AV) (arV aAdd) (arV aSub) (arV aMul) (arV aQuo) (arV aRem) (arV aAnd) (arV aOr) (arV aXor) (shV shlN) (shV shrN)
    (arV aEq) (arV aNe) (arV aLt) (arV aLe) (arV aGt) (arV aGe) (beV idB) (beV bnot) (neV idB) (neV bnot) idxV idxsV idaV

def nckV (v : AV) : Option AV := @VN.rec (fun _ => Option AV) (fun n => ifB (Nat.beq n 1) (some v) none) (fun _ => some v) (some v) (asN v)
def i1 (o : IntKind → Int → Option AV) (v : AV) : Option AV := @VI.rec (fun _ => Option AV) o none (asI v)
def notV (v : AV) : Option AV := @VB.rec (fun _ => Option AV) (fun b => okB (bnot b)) none (asB v)
def cvtI (k : IntKind) (_ : IntKind) (n : Int) : Option AV := okI k (wrapF k n)
def fadV (off : Nat) (v : AV) : Option AV := @VP.rec (fun _ => Option AV) (fun id o => forceN (Nat.add o off) fun o => some (.p id o)) none (asP v)
def fldV (off : Nat) (v : AV) : Option AV := @VL.rec (fun _ => Option AV) (nthO off) none (asAg v)
def someAg (l : List AV) : Option AV := some (.ag l)
def fldnV (off n : Nat) (v : AV) : Option AV := @VL.rec (fun _ => Option AV) (fun l => cutK none n off l someAg) none (asAg v)
def lenB : List UInt8 → Nat := @List.rec UInt8 (fun _ => Nat) 0 fun _ _ ih => Nat.succ ih
def lenV (v : AV) : Option AV := @VS.rec (fun _ => Option AV) (fun _ _ len _ => some (.i .i64 (.ofNat len))) (some (.i .i64 (.ofNat 0))) none (asS v)
def lensV (v : AV) : Option AV := @Option.rec (List UInt8) (fun _ => Option AV) none (fun l => some (.i .i64 (.ofNat (lenB l)))) (asStr v)
def extV (n : Nat) (v : AV) : Option AV := @VL.rec (fun _ => Option AV) (nthO n) none (asTu v)
def tyaV (t : Nat) (z : AV) (v : AV) : Option AV :=
  @VC.rec (fun _ => Option AV) (fun t' v => ifB (Nat.beq t' t) (some (.tu [v, .b true])) (some (.tu [z, .b false]))) (some (.tu [z, .b false])) none (asC v)
def b1 : B1 → AV → Option AV :=
  @B1.rec (fun _ => AV → Option AV) some nckV (i1 fun k n => okI k (wrapF k (Int.sub (.ofNat 0) n))) notV (i1 fun k n => okI k (wrapF k (Int.sub (.negSucc 0) n)))
    (fun k => i1 (cvtI k)) (fun t v => some (.ic t v)) fadV fldV fldnV lenV lensV extV tyaV

/-! ### unknown words: the same? -/
def toEq : TO → TO → Bool
  | .add, .add => true | .sub, .sub => true | .mul, .mul => true | .and, .and => true | .or, .or => true | .xor, .xor => true
  | .quo, .quo => true | .rem, .rem => true | .shl, .shl => true | .shr, .shr => true
  | _, _ => false
def qcEq (q p : QC) : Bool := ifB (Nat.beq q.c p.c) (ifB (eqbB q.sg p.sg) (ifB (Nat.beq q.s p.s) (ifB (eqbB q.sg' p.sg') (Nat.beq q.s' p.s') false) false) false) false
def tmEq : Tm → Tm → Bool
  | .cn sg s a, .cn sg' s' a' => ifB (eqbB sg sg') (ifB (Nat.beq s s') (tmEq a a') false) false
  | .qx q, .qx p => qcEq q p
  | .qy q, .qy p => qcEq q p
  | .rg lo hi i, .rg lo' hi' i' => ifB (ieq lo lo') (ifB (ieq hi hi') (Nat.beq i i') false) false
  | .fb op a b, .fb op' a' b' => ifB (Nat.beq op op') (ifB (tmEq a a') (tmEq b b') false) false
  | .lit a, .lit b => ieq a b
  | .v i, .v j => Nat.beq i j
  | .md m r i, .md m' r' i' => ifB (Nat.beq m m') (ifB (Nat.beq r r') (Nat.beq i i') false) false
  | .mb r b i, .mb r' b' i' => ifB (Nat.beq r r') (ifB (eqbB b b') (Nat.beq i i') false) false
  | .o p k a b, .o p' k' a' b' => ifB (toEq p p') (ifB (ikEq k k') (ifB (tmEq a a') (tmEq b b') false) false) false
  | .quo k a n, .quo k' a' n' => ifB (ikEq k k') (ifB (Nat.beq n n') (tmEq a a') false) false
  | .rem a n, .rem a' n' => ifB (Nat.beq n n') (tmEq a a') false
  | .sl k a n, .sl k' a' n' => ifB (ikEq k k') (ifB (Nat.beq n n') (tmEq a a') false) false
  | .sr a n, .sr a' n' => ifB (Nat.beq n n') (tmEq a a') false
  | .cv k a, .cv k' a' => ifB (ikEq k k') (tmEq a a') false
  | _, _ => false
def clEq : List (IntKind × Tm) → List (IntKind × Tm) → Bool
  | [], [] => true
  | (k, t) :: l, (k', t') :: l' => ifB (ikEq k k') (ifB (tmEq t t') (clEq l l') false) false
  | _, _ => false
def xvEq : XV → XV → Bool
  | .w k t, .w k' t' => ifB (ikEq k k') (tmEq t t') false
  | .li, .li => true
  | .la c, .la c' => clEq c c'
  | .ap c o, .ap c' o' => ifB (Nat.beq o o') (clEq c c') false
  | _, _ => false
def asX : AV → Option XV := @AV.rec (fun _ => Option XV) (fun _ => Unit) none (fun _ => none) (fun _ _ => none) (fun _ => none) (fun _ => none) none (fun _ _ => none) none (fun _ _ _ _ => none) (fun _ _ _ _ _ => none) (fun _ => none) none (fun _ _ _ => none) none (fun _ _ => none) (fun _ _ => none) (fun _ => none) some (fun _ _ _ _ => none) (fun _ => none) none () fun _ _ _ _ => ()
def isX : AV → Bool := @AV.rec (fun _ => Bool) (fun _ => Unit) false (fun _ => false) (fun _ _ => false) (fun _ => false) (fun _ => false) false (fun _ _ => false) false (fun _ _ _ _ => false) (fun _ _ _ _ _ => false) (fun _ => false) false (fun _ _ _ => false) false (fun _ _ => false) (fun _ _ => false) (fun _ => false) (fun _ => true) (fun _ _ _ _ => true) (fun _ => false) false () fun _ _ _ _ => ()
def asEm : AV → Option (Pa × Nat × Nat × Nat)
  | .em id off l sz => some (id, off, l, sz)
  | _ => none
def emEq (id : Pa) (off l sz : Nat) (w : AV) : Bool := match asEm w with
  | some (id', off', l', sz') => ifB (paEq id id') (ifB (Nat.beq off off') (ifB (Nat.beq l l') (Nat.beq sz sz') false) false) false
  | none => false
def xEq (x : XV) (w : AV) : Bool := @Option.rec XV (fun _ => Bool) false (xvEq x) (asX w)

/-! ### operations on them -/
def isKK (k : IntKind) : Option IntKind → Option IntKind
  | some k' => ifB (ikEq k' k) (some k) none
  | none => none
/-- a word cut to one of a kind, in its 64 bits -/
def cnF (sg : Bool) (s : Nat) (a : Int) : Int :=
  ifB sg (IntKind.wrap .u64 (Int.fdiv (IntKind.wrap .i64 (IntKind.wrap .u64 (a * .ofNat (Nat.pow 2 s)))) (.ofNat (Nat.pow 2 s)))) (Int.fdiv (IntKind.wrap .u64 (a * .ofNat (Nat.pow 2 s))) (.ofNat (Nat.pow 2 s)))
/-- what is known of two words, cut -/
def qP (c : Nat) (sg : Bool) (x y : Int) : Bool :=
  match c with
  | 0 => true
  | 1 => ifB sg (decide (IntKind.wrap .i64 x < IntKind.wrap .i64 y)) (decide (x < y))
  | 2 => decide (x = y)
  | 3 => ifB sg (decide (IntKind.wrap .i64 y < IntKind.wrap .i64 x)) (decide (y < x))
  | 4 => decide (y = 0)
  | 5 => decide (y = 18446744073709551615)
  | 6 => decide (y ≠ 0) && (bnot sg || decide (y ≠ 18446744073709551615))
  | 7 => decide (y ≤ 63)
  | 8 => decide (63 < y)
  | _ => false
def qD : Nat → Int × Int
  | 1 => (0, 1)
  | 3 => (1, 0)
  | 5 => (0, 18446744073709551615)
  | 6 => (0, 1)
  | 8 => (0, 64)
  | _ => (0, 0)
def qB (q : QC) (x y : Int) : Bool := qP q.c q.sg (cnF q.sg q.s x) (cnF q.sg' q.s' y)
/-- there is such a pair -/
def qOk (q : QC) : Bool := qB q (qD q.c).1 (qD q.c).2
/-- the first, the second word of a pair, cut -/
def isCx : Tm → Option QC
  | .qx q => ifB (Nat.beq q.s 0) (some q) none
  | .cn sg s (.qx q) => ifB (eqbB sg q.sg) (ifB (Nat.beq s q.s) (some q) none) none
  | _ => none
def isCy : Tm → Option QC
  | .qy q => ifB (Nat.beq q.s' 0) (some q) none
  | .cn sg s (.qy q) => ifB (eqbB sg q.sg') (ifB (Nat.beq s q.s') (some q) none) none
  | _ => none
def unCv : Tm → Option Tm
  | .cv .i64 a => some a
  | _ => none
/-- a kind whose numbers it surely is one of -/
def tkO : Tm → Option IntKind
  | .lit _ => none
  | .v _ => some .u64
  | .md _ r _ => ifB (Nat.ble r 18446744073709551615) (some .u64) none
  | .mb r _ _ => ifB (Nat.ble r 3) (some .u64) none
  | .o .rem k a _ => isKK k (tkO a)
  | .o .shr _ a _ => tkO a
  | .o _ k _ _ => some k
  | .quo k _ _ => some k
  | .rem _ _ => none
  | .cn _ _ _ => some .u64
  | .qx _ => some .u64
  | .qy _ => some .u64
  | .rg _ _ _ => some .u64
  | .fb _ _ _ => some .u64
  | .sl k _ _ => some k
  | .sr a _ => tkO a
  | .cv k _ => some k
def isKO (k : IntKind) : Option IntKind → Bool
  | some k' => ikEq k' k
  | none => false
/-- k.wrap of it -/
def mkCv (k : IntKind) : Tm → Tm
  | .lit n => .lit (k.wrap n)
  | .cv k1 a => ifB (ikEq k1 k) (.cv k1 a) (ifB (Nat.ble k.bits k1.bits) (mkCv k a) (.cv k (.cv k1 a)))
  | t => ifB (isKO k (tkO t)) t (.cv k t)
def mkW (k : IntKind) : Tm → Option AV
  | .lit n => forceI n fun n => some (.i k n)
  | t => some (.x (.w k t))
def asT : AV → Option (IntKind × Tm)
  | .i k n => some (k, .lit n)
  | .x (.w k t) => some (k, t)
  | _ => none
def tAnd (k : IntKind) : Tm → Tm → Tm
  | .md 2 r i, .lit (.ofNat 1) => ifB (Nat.ble r 1) (ifB (ikEq k .u64) (.lit (.ofNat r)) (.o .and k (.md 2 r i) (.lit (.ofNat 1)))) (.o .and k (.md 2 r i) (.lit (.ofNat 1)))
  | a, b => .o .and k a b
def tRem : Tm → Nat → Tm
  | .md m r i, n => ifB (Nat.beq m n) (ifB (Nat.ble (Nat.succ r) m) (.lit (.ofNat r)) (.rem (.md m r i) n)) (.rem (.md m r i) n)
  | .mb r b i, n => ifB (Nat.beq n 4) (ifB (Nat.ble r 3) (.lit (.ofNat r)) (.rem (.mb r b i) n)) (.rem (.mb r b i) n)
  | a, n => .rem a n
/-- one of the two words that are ordered, as an int -/
def ord1 : Tm → Option Bool
  | .cv .i64 (.v 0) => some false
  | .cv .i64 (.v 1) => some true
  | _ => none
def ord0 : Tm → Option Bool
  | .v 0 => some false
  | .v 1 => some true
  | _ => none
/-- equal? of a pair's words -/
def qEq2 : Option QC → Option QC → Option Bool
  | some q, some p => ifB (qcEq q p) (ifB (qOk q) (match q.c with | 1 => some false | 2 => some true | 3 => some false | _ => none) none) none
  | _, _ => none
def qEq0 : Option QC → Tm → Option Bool
  | some q, .lit (.ofNat n) => ifB (qOk q) (match q.c with
    | 4 => some (Nat.beq n 0)
    | 5 => some (Nat.beq n 18446744073709551615)
    | 6 => ifB (Nat.beq n 0) (some false) (ifB q.sg (ifB (Nat.beq n 18446744073709551615) (some false) none) none)
    | _ => none) none
  | _, _ => none
def qEqM : Option Tm → Tm → Option Bool
  | some a, .lit (.negSucc 0) => match isCy a with
    | some q => ifB (qOk q) (ifB q.sg (match q.c with | 5 => some true | 6 => some false | _ => none) none) none
    | none => none
  | _, _ => none
def orO : Option Bool → Option Bool → Option Bool
  | some b, _ => some b
  | none, o => o
def isX2 (t : Tm) (q : QC) : Bool := match isCx t with | some p => qcEq p q | none => false
def isY2 (t : Tm) (q : QC) : Bool := match isCy t with | some p => qcEq p q | none => false
/-- less? of the first and the second -/
def qLtXY (sg : Bool) : Option QC → Option QC → Option Bool
  | some q, some p => ifB (qcEq q p) (ifB (qOk q) (ifB (eqbB q.sg sg) (match q.c with | 1 => some true | 2 => some false | 3 => some false | _ => none) none) none) none
  | _, _ => none
def qLtYX (sg : Bool) : Option QC → Option QC → Option Bool
  | some q, some p => ifB (qcEq q p) (ifB (qOk q) (ifB (eqbB q.sg sg) (match q.c with | 1 => some false | 2 => some false | 3 => some true | _ => none) none) none) none
  | _, _ => none
def qLt63 : Tm → Option QC → Option Bool
  | .lit (.ofNat 63), some q => ifB (qOk q) (match q.c with | 7 => some false | 8 => some true | _ => none) none
  | _, _ => none
def bindO : Option Tm → (Tm → Option QC) → Option QC
  | some a, f => f a
  | none, _ => none
def rgOf : Option Tm → Option (Int × Int)
  | some (.rg lo hi _) => ifB (ile lo hi) (ifB (ile (.negSucc 9223372036854775807) lo) (ifB (ile hi (.ofNat 9223372036854775807)) (some (lo, hi)) none) none) none
  | _ => none
def litI : Tm → Option Int
  | .lit n => some n
  | _ => none
def rgEq : Option (Int × Int) → Option Int → Option Bool
  | some (lo, hi), some n => ifB (ile lo n) (ifB (ile n hi) none (some false)) (some false)
  | _, _ => none
def rgLtL : Option (Int × Int) → Option Int → Option Bool
  | some (lo, hi), some n => ifB (ile n hi) (ifB (ile n lo) (some false) none) (some true)
  | _, _ => none
def rgLtR : Option Int → Option (Int × Int) → Option Bool
  | some n, some (lo, hi) => ifB (ile lo n) (ifB (ile hi n) (some false) none) (some true)
  | _, _ => none
def tEqQ (a b : Tm) : Option Bool := orO (qEq2 (isCx a) (isCy b)) (orO (qEq0 (isCy a) b) (orO (qEqM (unCv a) b) (rgEq (rgOf (unCv a)) (litI b))))
def tLtQ (a b : Tm) : Option Bool :=
  orO (qLtXY false (isCx a) (isCy b)) (orO (qLtXY true (bindO (unCv a) isCx) (bindO (unCv b) isCy)) (orO (qLtYX false (isCy a) (isCx b)) (orO (qLtYX true (bindO (unCv a) isCy) (bindO (unCv b) isCx))
    (orO (qLt63 a (isCy b)) (orO (rgLtL (rgOf (unCv a)) (litI b)) (rgLtR (litI a) (rgOf (unCv b))))))))
def tEqS : Tm → Tm → Option Bool
  | .rem (.quo .i64 (.cv .i64 (.mb r b _)) 4) 2, .lit (.ofNat 0) => ifB (Nat.ble r 3) (some b) none
  | a, b => match ord1 a, ord1 b with
    | some x, some y => some (eqbB x y)
    | _, _ => match ord0 a, ord0 b with
      | some x, some y => some (eqbB x y)
      | _, _ => tEqQ a b
def tEq (a b : Tm) : Option Bool := ifB (tmEq a b) (some true) (tEqS a b)
def tLt (a b : Tm) : Option Bool := ifB (tmEq a b) (some false) (match ord1 a, ord1 b with
  | some false, some true => some true
  | some true, some false => some false
  | _, _ => tLtQ a b)
def bO : Option Bool → Option AV
  | some b => some (.b b)
  | none => none
def bNO : Option Bool → Option AV
  | some b => some (.b (bnot b))
  | none => none
def litP : Tm → Option Nat
  | .lit (.ofNat n) => some n
  | _ => none
def isCn (sg : Bool) (s : Nat) : Tm → Bool
  | .cn sg' s' _ => ifB (eqbB sg sg') (Nat.beq s s') false
  | _ => false
def okS (s : Nat) : Bool := ifB (Nat.beq s 56) true (ifB (Nat.beq s 48) true (Nat.beq s 32))
/-- is it such a word already? -/
def isCnT (sg : Bool) (s : Nat) : Tm → Bool
  | .cn sg' s' _ => ifB (eqbB sg sg') (Nat.beq s s') false
  | .o .and .u64 a b => ifB (isCn sg s a) (isCn sg s b) false
  | .o .or .u64 a b => ifB (isCn sg s a) (isCn sg s b) false
  | .o .xor .u64 a b => ifB (isCn sg s a) (isCn sg s b) false
  | .o .quo .u64 a b => ifB sg false (ifB (isKO .u64 (tkO b)) (isCn sg s a) false)
  | .o .rem .u64 a _ => ifB sg false (isCn sg s a)
  | .o .shr .u64 a _ => ifB sg false (isCn sg s a)
  | .cv .u64 (.o .shr .i64 (.cv .i64 a) _) => ifB sg (isCn sg s a) false
  | .cv .u64 (.sr (.cv .i64 a) _) => ifB sg (isCn sg s a) false
  | _ => false
def bit1 : Bool → Nat → Tm → Option Nat
  | false, 63, .md 2 r _ => ifB (Nat.ble r 1) (some r) none
  | _, _, _ => none
def fb1 : Bool → Nat → Tm → Bool
  | false, 63, .fb op _ _ => Nat.ble 11 op
  | _, _, _ => false
def mkCn (sg : Bool) (s : Nat) (t : Tm) : Tm := match bit1 sg s t with
  | some r => .lit (.ofNat r)
  | none => ifB (fb1 sg s t) t (ifB (okS s) (ifB (isCnT sg s t) t (.cn sg s t)) (.cn sg s t))
def srX : Tm → Nat → Option Tm
  | .sl .u64 a s, s' => ifB (Nat.beq s s') (some (mkCn false s a)) none
  | _, _ => none
def cvX : IntKind → Tm → Option Tm
  | .u64, .sr (.cv .i64 (.sl .u64 a s)) s' => ifB (Nat.beq s s') (some (mkCn true s a)) none
  | _, _ => none
def mkCvX (k : IntKind) (t : Tm) : Tm := match cvX k t with
  | some r => r
  | none => mkCv k t
def nzC : Option QC → Bool
  | some q => ifB (qOk q) (ifB (Nat.beq q.c 6) true (Nat.beq q.c 5)) false
  | none => false
/-- is it surely not 0? -/
def nzd (b : Tm) : Bool := ifB (nzC (isCy b)) true (match unCv b with | some a => nzC (isCy a) | none => false)
def shC : Option QC → Option Bool
  | some q => ifB (qOk q) (match q.c with | 7 => some false | 8 => some true | _ => none) none
  | none => none
def sl2 (k : IntKind) (a b : Tm) : Option AV := match shC (isCy b) with
  | some false => mkW k (.o .shl k a b)
  | some true => mkW k (.lit (.ofNat 0))
  | none => none
def sr2 (k : IntKind) (a b : Tm) : Option AV := match shC (isCy b) with
  | some false => mkW k (.o .shr k a b)
  | some true => ifB (isKO k (tkO a)) (match k with | .u64 => mkW k (.lit (.ofNat 0)) | .i64 => mkW k (.sr a 63) | _ => none) none
  | none => none
def orA : Option AV → Option AV → Option AV
  | some v, _ => some v
  | none, o => o
def quoT (k : IntKind) (a : Tm) : Option Nat → Option AV
  | some (n + 1) => mkW k (.quo k a (n + 1))
  | _ => none
def remT (k : IntKind) (a : Tm) : Option Nat → Option AV
  | some (n + 1) => mkW k (tRem a (n + 1))
  | _ => none
def slT (k : IntKind) (a : Tm) : Option Nat → Option AV
  | some n => match shN k n with
    | 0 => mkW k (mkCv k a)
    | s + 1 => mkW k (.sl k a (s + 1))
  | none => none
def srT (k : IntKind) (a : Tm) : Option Nat → Option AV
  | some n => match shN k n with
    | 0 => mkW k a
    | s + 1 => match srX a (s + 1) with
      | some t => mkW k t
      | none => mkW k (.sr a (s + 1))
  | none => none
/-- of two of one kind -/
def arT (o : IntKind → Tm → Tm → Option AV) : Option (IntKind × Tm) → Option (IntKind × Tm) → Option AV
  | some (k, a), some (k', b) => ifB (ikEq k k') (o k a b) none
  | _, _ => none
def shT (o : IntKind → Tm → Option Nat → Option AV) : Option (IntKind × Tm) → Option (IntKind × Tm) → Option AV
  | some (k, a), some (_, b) => o k a (litP b)
  | _, _ => none
def shU (o : IntKind → Tm → Tm → Option AV) : Option (IntKind × Tm) → Option (IntKind × Tm) → Option AV
  | some (k, a), some (_, b) => o k a b
  | _, _ => none
def xIdx (sz : Nat) : AV → AV → Option AV
  | .x (.la c), .x .li => ifB (Nat.beq sz 5) (some (.x (.ap c 0))) none
  | _, _ => none
def x2 : B2 → AV → AV → Option AV
  | .add, x, y => arT (fun k a b => mkW k (.o .add k a b)) (asT x) (asT y)
  | .sub, x, y => arT (fun k a b => mkW k (.o .sub k a b)) (asT x) (asT y)
  | .mul, x, y => arT (fun k a b => mkW k (.o .mul k a b)) (asT x) (asT y)
  | .quo, x, y => arT (fun k a b => orA (quoT k a (litP b)) (ifB (nzd b) (mkW k (.o .quo k a b)) none)) (asT x) (asT y)
  | .rem, x, y => arT (fun k a b => orA (remT k a (litP b)) (ifB (nzd b) (mkW k (.o .rem k a b)) none)) (asT x) (asT y)
  | .and, x, y => arT (fun k a b => mkW k (tAnd k a b)) (asT x) (asT y)
  | .or, x, y => arT (fun k a b => mkW k (.o .or k a b)) (asT x) (asT y)
  | .xor, x, y => arT (fun k a b => mkW k (.o .xor k a b)) (asT x) (asT y)
  | .shl, x, y => orA (shT slT (asT x) (asT y)) (shU sl2 (asT x) (asT y))
  | .shr, x, y => orA (shT srT (asT x) (asT y)) (shU sr2 (asT x) (asT y))
  | .eq, x, y => arT (fun _ a b => bO (tEq a b)) (asT x) (asT y)
  | .ne, x, y => arT (fun _ a b => bNO (tEq a b)) (asT x) (asT y)
  | .lt, x, y => arT (fun _ a b => bO (tLt a b)) (asT x) (asT y)
  | .le, x, y => arT (fun _ a b => bNO (tLt b a)) (asT x) (asT y)
  | .gt, x, y => arT (fun _ a b => bO (tLt b a)) (asT x) (asT y)
  | .ge, x, y => arT (fun _ a b => bNO (tLt a b)) (asT x) (asT y)
  | .idx sz, x, y => xIdx sz x y
  | _, _, _ => none
def x1X : B1 → XV → Option AV
  | .neg, .w k t => mkW k (.o .sub k (.lit (.ofNat 0)) t)
  | .com, .w k t => mkW k (.o .sub k (.lit (.negSucc 0)) t)
  | .cvt k, .w _ t => mkW k (mkCvX k t)
  | .nck, .ap c o => some (.x (.ap c o))
  | .fad off, .ap c o => forceN (Nat.add o off) fun o => some (.x (.ap c o))
  | _, _ => none
def x1 : B1 → AV → Option AV
  | .mv, v => some v
  | .mkif t, v => some (.ic t v)
  | o, .x x => x1X o x
  | .len, .em _ _ _ _ => some (.i .i64 (.ofNat 0))
  | _, _ => none
def cellX : IntKind × Tm → AV
  | (k, .cv k' (.lit n)) => forceI (IntKind.wrap k' n) fun m => .i k m
  | (k, t) => .x (.w k t)
def xld : AV → Option AV
  | .x (.ap c o) => match c[o]? with
    | some kt => some (cellX kt)
    | none => none
  | _ => none
def xldn (m : Nat) : AV → Option AV
  | .x (.ap c o) => ifB (Nat.ble (Nat.add o m) c.length) (some (.ag ((c.drop o).take m |>.map cellX))) none
  | _ => none

/-! ### operations -/
abbrev HO := HT → Pa → OR
def no (w : Nat) : HO := fun _ _ => .no w
def orV : Option AV → HO := @Option.rec AV (fun _ => HO) (no 1) OR.ok
def pickB (x y : AV) : VB → HO := @VB.rec (fun _ => HO) (fun b => OR.ok (ifB b x y)) (no 2)
def blkC {β : Type} (no : β) (k : List AV → β) : Option Blk → β := @Option.rec Blk (fun _ => β) no (@Blk.rec (fun _ => β) k (fun _ _ _ _ => no) no (fun _ _ => no) fun _ _ _ => no)
def blkZ {β : Type} (no : β) (k : List AV → β) (kz : Nat → AV → List AV → β) : Option Blk → β := @Option.rec Blk (fun _ => β) no (@Blk.rec (fun _ => β) k (fun _ _ _ _ => no) no (fun _ _ => no) kz)
def ldZ (off m : Nat) (_ : AV) (l : List AV) : Option AV := ifB (Nat.ble m off) (nthO (Nat.sub off m) l) none
def ldC (off : Nat) : Option Blk → Option AV := blkZ none (nthO off) (ldZ off)
def ldV (v : AV) : HO := @VP.rec (fun _ => HO) (fun id off h => orV (ldC off (h.get id)) h) (no 3) (asP v)
def ldnC (off m : Nat) : Option Blk → Option AV := blkC none fun l => cutK none m off l someAg
def ldnV (m : Nat) (v : AV) : HO := @VP.rec (fun _ => HO) (fun id off h => orV (ldnC off m (h.get id)) h) (no 4) (asP v)
/-- a block is turned -/
def stH (id : Pa) (v : AV) (h : HT) (n : Pa) (c : List AV) : OR := T.setK (.v (.c c)) id h fun h => .ok v h n
def stZ (id : Pa) (v : AV) (h : HT) (n : Pa) (m : Nat) (z : AV) (c : List AV) : OR := T.setK (.v (.cz m z c)) id h fun h => .ok v h n
def stC (id : Pa) (off : Nat) (v : AV) (vs : List AV) (h : HT) (n : Pa) : OR :=
  blkZ (.no 6) (fun c => setK (.no 5) vs off c (stH id v h n)) (fun m z c => ifB (Nat.ble m off) (setK (.no 5) vs (Nat.sub off m) c (stZ id v h n m z)) (.no 86)) (h.get id)
def stV (m : Nat) (a x : AV) : HO := @VP.rec (fun _ => HO) (fun id off => ifB (isLen m (cells x)) (stC id off .und (cells x)) (no 7)) (no 8) (asP a)
/-- a new block -/
def newK (c : List AV) (k : Pa → AV) (h : HT) (n : Pa) : OR := incK (.no 9) n fun n' => T.setK (.v (.c c)) n h fun h => .ok (k n) h n'
def mkP (id : Pa) : AV := .p id 0
def fillK (no : OR) : List (Nat × Nat × AV) → List AV → (List AV → OR) → OR :=
  @List.rec (Nat × Nat × AV) (fun _ => List AV → (List AV → OR) → OR) (fun l k => k l)
    fun x _ ih l k => ifB (isLen x.2.1 (cells x.2.2)) (setK no (cells x.2.2) x.1 l fun l => ih l k) no
def evp : List (Nat × Nat × Opd) → List AV → Fr → List (Nat × Nat × AV) :=
  @List.rec (Nat × Nat × Opd) (fun _ => List AV → Fr → List (Nat × Nat × AV)) (fun _ _ => []) fun x _ ih l f => (x.1, x.2.1, ev x.2.2 l f) :: ih l f
def rep (z : List AV) : Nat → List AV := @Nat.rec (fun _ => List AV) [] fun _ ih => z ++ ih
def mkL (z : List AV) (c l : Nat) : HO := fun h n =>
  ifB (ifB (Nat.ble 64 c) (isLen 1 z) false) (incK (.no 9) n fun n' => T.setK (.v (.cz c (hd z) [])) n h fun h => .ok (.sl n 0 l (.ex c)) h n') (newK (rep z c) (fun id => .sl id 0 l (.ex c)) h n)
def mksN (by_ : Nat) (z : List AV) (l c : Nat) : HO :=
  ifB (Nat.ble l c) (ifB (Nat.ble (Nat.mul by_ c) 281474976710656) (ifB (Nat.ble c 9223372036854775807) (mkL z c l) (no 9)) (no 10)) (no 11)
def natI (k : IntKind) (n : Int) : Option Nat := ifB (isI64 k) (nnO n) none
def asNat (v : AV) : Option Nat := @VI.rec (fun _ => Option Nat) natI none (asI v)
def mksV (by_ : Nat) (z : List AV) (l c : AV) : HO :=
  @Option.rec Nat (fun _ => HO) (no 12) (fun l => @Option.rec Nat (fun _ => HO) (no 13) (fun c => mksN by_ z l c) (asNat c)) (asNat l)
/-- a bound of a slice expression -/
def bnd (d : Nat) (o : Option Opd) (l : List AV) (f : Fr) : Option Nat := @Option.rec Opd (fun _ => Option Nat) (some d) (fun x => @VI.rec (fun _ => Option Nat) (fun _ n => nnO n) none (asI (ev x l f))) o
def slcE (sz : Nat) (id : Pa) (off l hh m : Nat) : Option AV :=
  ifB (Nat.ble l hh) (ifB (Nat.ble hh m) (ifB (Nat.beq m l) (some (.sl id off (Nat.sub hh l) (.ex (Nat.sub m l))))
    (forceN (Nat.add off (Nat.mul l sz)) fun o => forceN (Nat.sub hh l) fun hl => forceN (Nat.sub m l) fun ml => some (.sl id o hl (.ex ml)))) none) none
/-- has a list so many at least? -/
def atLeast : Nat → List AV → Bool := @Nat.rec (fun _ => List AV → Bool) (fun _ => true) fun _ ih => @List.rec AV (fun _ => Bool) false fun _ l _ => ih l
/-- of a slice that reaches to its block's end, which is not known -/
def slcR (sz : Nat) (id : Pa) (off len l hh : Nat) (ok : Bool) : Option AV :=
  ifB ok (ifB (Nat.ble (Nat.succ l) hh) (forceN (Nat.add off (Nat.mul l sz)) fun o => forceN (Nat.sub hh l) fun hl => some (.sl id o hl (.re sz)))
    (ifB (Nat.beq hh 0) (ifB (Nat.beq l 0) (some (.sl id off 0 (.re sz))) none) (ifB (Nat.beq l hh) (some (.em id off l sz)) none))) none
def slcM (sz : Nat) (id : Pa) (off l hh c : Nat) (m : Option Nat) : Option AV := @Option.rec Nat (fun _ => Option AV) none (fun m => ifB (Nat.ble m c) (slcE sz id off l hh m) none) m
def slcH (sz : Nat) (l hh : Nat) (mx : Option Opd) (m : Option Nat) (id : Pa) (off len sz' : Nat) (cs : List AV) : Option AV :=
  ifB (Nat.beq sz sz') (ifB (Nat.ble 1 sz) (ifB (atLeast (Nat.add off (Nat.mul len sz)) cs) (@Option.rec Opd (fun _ => Option AV) (slcR sz id off len l hh (atLeast (Nat.add off (Nat.mul hh sz)) cs)) (fun _ => slcM sz id off l hh len m) mx) none) none) none
def slcN (sz : Nat) (h : HT) (l hh : Nat) (mx : Option Opd) (m : Option Nat) (v : AV) : Option AV :=
  @VS.rec (fun _ => Option AV)
    (fun id off len cap => @Cap.rec (fun _ => Option AV)
      (fun c => @Option.rec Opd (fun _ => Option AV) (slcE sz id off l hh c) (fun _ => slcM sz id off l hh c m) mx)
      (fun sz' => blkC none (slcH sz l hh mx m id off len sz') (h.get id)) cap)
    (ifB (Nat.beq l 0) (ifB (Nat.beq hh 0) (@Option.rec Nat (fun _ => Option AV) none (fun m => ifB (Nat.beq m 0) (some .sn) none) m) none) none)
    none (asS v)
def lenOf (v : AV) : Nat := @VS.rec (fun _ => Nat) (fun _ _ len _ => len) 0 0 (asS v)
def slcV (sz : Nat) (lo hi mx : Option Opd) (l : List AV) (f : Fr) (v : AV) : HO := fun h n =>
  orV (@Option.rec Nat (fun _ => Option AV) none (fun a => @Option.rec Nat (fun _ => Option AV) none (fun b => slcN sz h a b mx (bnd 0 mx l f) v) (bnd (lenOf v) hi l f)) (bnd 0 lo l f)) h n

/-- the cells of so many elements of a slice -/
def srcK (m : Nat) (v : AV) (h : HT) (k : List AV → OR) : OR :=
  @VS.rec (fun _ => OR) (fun id off _ _ => blkC (.no 30) (fun c => cutK (.no 31) m off c k) (h.get id)) (ifB (Nat.beq m 0) (k []) (.no 32)) (.no 33) (asS v)
def okSl (id : Pa) (off len : Nat) (c : Cap) (h : HT) (n : Pa) : OR := forceN len fun len => .ok (.sl id off len c) h n
def allOne : List AV → Bool := @List.rec AV (fun _ => Bool) true fun v _ ih => ifB (oneC v) ih false
def fits (m by_ : Nat) : Bool := ifB (Nat.ble (Nat.mul m by_) 140737488355328) (Nat.ble m 9223372036854775807) false
def mkSl (len : Nat) (sz : Nat) (id : Pa) : AV := .sl id 0 len (.re sz)
/-- append where there is no room: a new row of the old cells and the new -/
def growK (sz by_ : Nat) (old new : List AV) (m : Nat) (h : HT) (n : Pa) : OR :=
  ifB (fits m by_) (ifB (allOne new) (appK old new fun c => forceN m fun m => newK c (mkSl m sz) h n) (.no 13)) (.no 14)
/-- where there is -/
def roomK (sz : Nat) (id : Pa) (off len m : Nat) (c : Cap) (new cs : List AV) (h : HT) (n : Pa) : OR :=
  setK (.no 5) new (Nat.add off (Nat.mul len sz)) cs fun cs => forceN (Nat.add len m) fun lm => stH id (.sl id off lm c) h n cs
def appX (sz by_ : Nat) (new : List AV) (m : Nat) (id : Pa) (off len c : Nat) (cs : List AV) (h : HT) (n : Pa) : OR :=
  ifB (Nat.ble (Nat.add len m) c) (roomK sz id off len m (.ex c) new cs h n) (cutK (.no 16) (Nat.mul len sz) off cs fun old => growK sz by_ old new (Nat.add len m) h n)
def appR (sz by_ : Nat) (new : List AV) (m : Nat) (id : Pa) (off len sz' : Nat) (cs : List AV) (h : HT) (n : Pa) : OR :=
  ifB (Nat.beq sz sz')
    (ifB (Nat.ble (Nat.add off (Nat.mul (Nat.add len m) sz)) (lenA cs)) (roomK sz id off len m (.re sz) new cs h n)
      (ifB (Nat.beq off 0) (T.setK .e id h fun h => cutK (.no 17) (Nat.mul len sz) 0 cs fun old => growK sz by_ old new (Nat.add len m) h n) (.no 18)))
    (.no 19)
/-- append of nothing -/
def app0 (sz : Nat) (s : AV) (h : HT) (n : Pa) : OR :=
  @VS.rec (fun _ => OR)
    (fun id off len cap => @Cap.rec (fun _ => OR) (fun c => ifB (Nat.ble len c) (.ok s h n) (.no 27))
      (fun sz' => blkC (.no 28) (fun cs => ifB (Nat.beq sz sz') (ifB (atLeast (Nat.add off (Nat.mul len sz)) cs) (.ok s h n) (.no 29)) (.no 29)) (h.get id)) cap)
    (.ok s h n) (.no 21) (asS s)
def growZ (by_ mz : Nat) (z : AV) (l new : List AV) (m : Nat) (h : HT) (n : Pa) : OR :=
  ifB (fits m by_) (ifB (allOne new) (appK l new fun c => forceN m fun m => incK (.no 9) n fun n' => T.setK (.v (.cz mz z c)) n h fun h => .ok (mkSl m 1 n) h n') (.no 13)) (.no 14)
def appZ (sz by_ : Nat) (new : List AV) (m : Nat) (id : Pa) (off len : Nat) (cap : Cap) (h : HT) (n : Pa) (mz : Nat) (z : AV) (l : List AV) : OR :=
  ifB (Nat.beq sz 1) (ifB (Nat.beq off 0) (ifB (Nat.beq len (Nat.add mz (lenA l)))
    (@Cap.rec (fun _ => OR) (fun c => ifB (Nat.ble (Nat.add len m) c) (.no 87) (growZ by_ mz z l new (Nat.add len m) h n))
      (fun sz' => ifB (Nat.beq sz' 1) (T.setK .e id h fun h => growZ by_ mz z l new (Nat.add len m) h n) (.no 88)) cap) (.no 88)) (.no 88)) (.no 88)
/-- append of new cells, which are m elements -/
def appC (sz by_ : Nat) (s : AV) (m : Nat) (h : HT) (n : Pa) (new : List AV) : OR :=
  ifB (Nat.beq m 0) (app0 sz s h n)
    (@VS.rec (fun _ => OR)
      (fun id off len cap => blkZ (.no 20) (fun cs => @Cap.rec (fun _ => OR) (fun c => appX sz by_ new m id off len c cs h n) (fun sz' => appR sz by_ new m id off len sz' cs h n) cap) (appZ sz by_ new m id off len cap h n) (h.get id))
      (growK sz by_ [] new m h n) (.no 21) (asS s))
def isSl (v : AV) : Bool := @VS.rec (fun _ => Bool) (fun _ _ _ _ => true) true false (asS v)
def appS (sz by_ : Nat) (s x : AV) (h : HT) (n : Pa) : OR := ifB (isSl s) (srcK (Nat.mul (lenOf x) sz) x h (appC sz by_ s (lenOf x) h n)) (.no 22)
def cpyN (sz : Nat) (s : AV) (id : Pa) (off m : Nat) (h : HT) (n : Pa) : OR :=
  srcK (Nat.mul m sz) s h fun new => stC id off (.i .i64 (.ofNat m)) new h n
def cpyV (sz : Nat) (d s : AV) : HO :=
  @VS.rec (fun _ => HO) (fun id off len _ => ifB (isSl s) (ifB (Nat.ble (lenOf s) len) (cpyN sz s id off (lenOf s)) (cpyN sz s id off len)) (no 23))
    (ifB (isSl s) (OR.ok (.i .i64 (.ofNat 0))) (no 24)) (no 25) (asS d)
def clrV (z : List AV) (x : AV) : HO := @VS.rec (fun _ => HO) (fun id off len _ => stC id off .und (rep z len)) (OR.ok .und) (no 26) (asS x)

/-! ### maps whose keys are rows of ints and whose values are ints -/
abbrev MEs := List (List Int × Int)
def asM : AV → Option Pa
  | .mp id => some id
  | _ => none
def blkM {β : Type} (no : β) (k : Nat → MEs → β) : Option Blk → β := @Option.rec Blk (fun _ => β) no (@Blk.rec (fun _ => β) (fun _ => no) (fun _ _ _ _ => no) no k fun _ _ _ => no)
def bndI (n : Int) : Bool := ifB (ile (.negSucc 9223372036854775807) n) (ile n (.ofNat 9223372036854775807)) false
def i64K {β : Type} (no : β) (v : AV) (k : Int → β) : β := @VI.rec (fun _ => β) (fun kd n => ifB (isI64 kd) (ifB (bndI n) (k n) no) no) no (asI v)
def keyK {β : Type} (no : β) : List AV → (List Int → β) → β := @List.rec AV (fun _ => (List Int → β) → β) (fun k => k []) fun v _ ih k => i64K no v fun n => ih fun l => k (n :: l)
def keyEq : List Int → List Int → Bool :=
  @List.rec Int (fun _ => List Int → Bool) (@List.rec Int (fun _ => Bool) true fun _ _ _ => false) fun a _ ih => @List.rec Int (fun _ => Bool) false fun b m _ => ifB (ieq a b) (ih m) false
def isLenI : Nat → List Int → Bool :=
  @Nat.rec (fun _ => List Int → Bool) (@List.rec Int (fun _ => Bool) true fun _ _ _ => false) fun _ ih => @List.rec Int (fun _ => Bool) false fun _ l _ => ih l
def mFnd (key : List Int) : MEs → Option Int := @List.rec (List Int × Int) (fun _ => Option Int) none fun x _ ih => ifB (keyEq key x.1) (some x.2) ih
def mDel {β : Type} (key : List Int) (no : β) : MEs → (MEs → β) → β := @List.rec (List Int × Int) (fun _ => (MEs → β) → β) (fun _ => no) fun x l ih k => ifB (keyEq key x.1) (k l) (ih fun l => k (x :: l))
def mApp {β : Type} (x : List Int × Int) : MEs → (MEs → β) → β := @List.rec (List Int × Int) (fun _ => (MEs → β) → β) (fun k => k [x]) fun y _ ih k => ih fun l => k (y :: l)
def mapV (nk : Nat) (m ky : AV) (k : Pa → List Int → MEs → OR) (h : HT) : OR :=
  @Option.rec Pa (fun _ => OR) (.no 90) (fun id => blkM (.no 91) (fun nk' es => ifB (Nat.beq nk nk') (@VL.rec (fun _ => OR) (fun l => keyK (.no 92) l fun key => ifB (isLenI nk key) (k id key es) (.no 93)) (.no 99) (asAg ky)) (.no 94)) (h.get id)) (asM m)
def lupR (h : HT) (n : Pa) : Option Int → OR := @Option.rec Int (fun _ => OR) (.ok (.tu [.i .i64 (.ofNat 0), .b false]) h n) fun v => .ok (.tu [.i .i64 v, .b true]) h n
def lupV (nk : Nat) (m ky : AV) : HO := fun h n => mapV nk m ky (fun _ key es => lupR h n (mFnd key es)) h
def stM (id : Pa) (nk : Nat) (h : HT) (n : Pa) (es : MEs) : OR := T.setK (.v (.mp nk es)) id h fun h => .ok .und h n
def mupV (nk : Nat) (m ky v : AV) : HO := fun h n => mapV nk m ky (fun id key es => i64K (.no 95) v fun x => @Option.rec Int (fun _ => OR) (mApp (key, x) es (stM id nk h n)) (fun _ => .no 96) (mFnd key es)) h
def mdlV (nk : Nat) (m ky : AV) : HO := fun h n => mapV nk m ky (fun id key es => mDel key (.no 97) es (stM id nk h n)) h
def mkmV (nk : Nat) : HO := fun h n => incK (.no 98) n fun n' => T.setK (.v (.mp nk [])) n h fun h => .ok (.mp n) h n'

abbrev SO := List AV → Fr → HO
def sop0 : Op → SO :=
  @Op.rec (fun _ => SO) (fun o x l f => orV (b1 o (ev x l f))) (fun o x y l f => orV (b2 o (ev x l f) (ev y l f)))
    (fun c x y l f => pickB (ev x l f) (ev y l f) (asB (ev c l f))) (fun a l f => ldV (ev a l f)) (fun m a l f => ldnV m (ev a l f)) (fun m a x l f => stV m (ev a l f) (ev x l f))
    (fun z _ _ => newK z mkP) (fun x l f => newK (cells (ev x l f)) mkP)
    (fun z ps l f h n => fillK (.no 40) (evp ps l f) z fun c => .ok (.ag c) h n)
    (fun z m ps l f h n => fillK (.no 41) (evp ps l f) z fun c => newK c (fun id => .sl id 0 m (.ex m)) h n)
    (fun g a c l f => OR.ok (.fn g (evs a l f) (evs c l f)))
    (fun by_ z x c l f => mksV by_ z (ev x l f) (ev c l f))
    (fun sz x lo hi mx l f => slcV sz lo hi mx l f (ev x l f))
    (fun sz by_ s x l f => appS sz by_ (ev s l f) (ev x l f))
    (fun sz d s l f => cpyV sz (ev d l f) (ev s l f))
    (fun z x l f => clrV z (ev x l f)) (fun nk _ _ => mkmV nk) (fun nk m y l f => lupV nk (ev m l f) (ev y l f)) (fun nk m y v l f => mupV nk (ev m l f) (ev y l f) (ev v l f)) (fun nk m y l f => mdlV nk (ev m l f) (ev y l f))
def isXop : Op → List AV → Fr → Bool :=
  @Op.rec (fun _ => List AV → Fr → Bool) (fun _ x l f => isX (ev x l f)) (fun _ x y l f => ifB (isX (ev x l f)) true (isX (ev y l f)))
    (fun _ _ _ _ _ => false) (fun a l f => isX (ev a l f)) (fun _ a l f => isX (ev a l f)) (fun _ _ _ _ _ => false)
    (fun _ _ _ => false) (fun _ _ _ => false) (fun _ _ _ _ => false) (fun _ _ _ _ _ => false) (fun _ _ _ _ _ => false) (fun _ _ _ _ _ _ => false)
    (fun _ _ _ _ _ _ _ => false) (fun _ _ _ _ _ _ => false) (fun _ _ _ _ _ => false) (fun _ _ _ _ => false)
    (fun _ _ _ => false) (fun _ _ _ _ _ => false) (fun _ _ _ _ _ _ => false) (fun _ _ _ _ _ => false)
def sxO : Op → List AV → Fr → Option AV
  | .u o x, l, f => x1 o (ev x l f)
  | .b o x y, l, f => x2 o (ev x l f) (ev y l f)
  | .ld a, l, f => xld (ev a l f)
  | .ldn m a, l, f => xldn m (ev a l f)
  | _, _, _ => none
def isEmR : AV → Bool := @AV.rec (fun _ => Bool) (fun _ => Unit) false (fun _ => false) (fun _ _ => false) (fun _ => false) (fun _ => false) false (fun _ _ => false) false (fun _ _ _ _ => false) (fun _ _ _ _ _ => false) (fun _ => false) false (fun _ _ _ => false) false (fun _ _ => false) (fun _ _ => false) (fun _ => false) (fun _ => false) (fun _ _ _ _ => true) (fun _ => false) false () fun _ _ _ _ => ()
def isEm (v : AV) : Bool := @Option.rec (Pa × Nat × Nat × Nat) (fun _ => Bool) false (fun _ => true) (asEm v)
/-- append of an empty slice: which -/
def emApp : Op → List AV → Fr → Option (Nat × Nat × AV)
  | .app sz by_ s x, l, f => ifB (isEm (ev x l f)) (some (sz, by_, ev s l f)) none
  | _, _, _ => none
def sopE (o : Op) : SO := fun l f h n => @Option.rec (Nat × Nat × AV) (fun _ => OR) (sop0 o l f h n) (fun x => app0 x.1 x.2.2 h n) (emApp o l f)
def sopS (o : Op) : SO := fun l f h n => ifB (isXop o l f) (orV (sxO o l f) h n) (sopE o l f h n)
def sopU (o : B1) (v : AV) : HO := fun h n => ifB (isX v) (orV (x1 o v) h n) (orV (b1 o v) h n)
def sopB (o : B2) (x y : AV) : HO := fun h n => ifB (ifB (isX x) true (isX y)) (orV (x2 o x y) h n) (orV (b2 o x y) h n)
def sopL (v : AV) : HO := fun h n => ifB (isX v) (orV (xld v) h n) (ldV v h n)
def sopN (m : Nat) (v : AV) : HO := fun h n => ifB (isX v) (orV (xldn m v) h n) (ldnV m v h n)
def sopA (sz by_ : Nat) (s x : AV) : HO := fun h n => ifB (isEmR x) (app0 sz s h n) (appS sz by_ s x h n)
/-- the same as sopS, in one step -/
def sop : Op → SO :=
  @Op.rec (fun _ => SO) (fun o x l f => sopU o (ev x l f)) (fun o x y l f => sopB o (ev x l f) (ev y l f))
    (fun c x y l f => pickB (ev x l f) (ev y l f) (asB (ev c l f))) (fun a l f => sopL (ev a l f)) (fun m a l f => sopN m (ev a l f)) (fun m a x l f => stV m (ev a l f) (ev x l f))
    (fun z _ _ => newK z mkP) (fun x l f => newK (cells (ev x l f)) mkP)
    (fun z ps l f h n => fillK (.no 40) (evp ps l f) z fun c => .ok (.ag c) h n)
    (fun z m ps l f h n => fillK (.no 41) (evp ps l f) z fun c => newK c (fun id => .sl id 0 m (.ex m)) h n)
    (fun g a c l f => OR.ok (.fn g (evs a l f) (evs c l f)))
    (fun by_ z x c l f => mksV by_ z (ev x l f) (ev c l f))
    (fun sz x lo hi mx l f => slcV sz lo hi mx l f (ev x l f))
    (fun sz by_ s x l f => sopA sz by_ (ev s l f) (ev x l f))
    (fun sz d s l f => cpyV sz (ev d l f) (ev s l f))
    (fun z x l f => clrV z (ev x l f)) (fun nk _ _ => mkmV nk) (fun nk m y l f => lupV nk (ev m l f) (ev y l f)) (fun nk m y v l f => mupV nk (ev m l f) (ev y l f) (ev v l f)) (fun nk m y l f => mdlV nk (ev m l f) (ev y l f))

/-! ### code -/
abbrev Ih := Code → Fr → List Df → HT → Pa → Res
abbrev KF := List AV → Fr → Res
def pkP : AV → KF → KF := fun v k l f => k (v :: l) f
def pkW : U → AV → KF → KF := fun i v k l f => setU v i f (k l)
def pkN : AV → KF → KF := fun _ k => k
def pk : Kd → AV → KF → KF := @Kd.rec (fun _ => AV → KF → KF) pkP pkW pkN
def putK (v : AV) (k : KF) : Kd → KF := fun kd => pk kd v k
def resV (fr : Fr) (h : HT) : Rv → Option AV :=
  @Rv.rec (fun _ => Option AV) (fun i => some (nth i fr)) (fun i => @VP.rec (fun _ => Option AV) (fun id off => ldC off (h.get id)) none (asP (nth i fr)))
    (fun m i => @VP.rec (fun _ => Option AV) (fun id off => ldnC off m (h.get id)) none (asP (nth i fr)))
def consO (v : AV) : Option (List AV) → Option (List AV) := @Option.rec (List AV) (fun _ => Option (List AV)) none fun l => some (v :: l)
def resL (fr : Fr) (h : HT) : List Rv → Option (List AV) :=
  @List.rec Rv (fun _ => Option (List AV)) (some []) fun r _ ih => @Option.rec AV (fun _ => Option (List AV)) none (fun v => consO v ih) (resV fr h r)
def one (l : List AV) : AV := @List.rec AV (fun _ => AV) (.tu l) (fun x r _ => @List.rec AV (fun _ => AV) x (fun _ _ _ => .tu l) r) l
abbrev KV := AV → HT → Pa → Res
def finK (k : KV) (h : HT) (n : Pa) : Option (List AV) → Res := @Option.rec (List AV) (fun _ => Res) (.no 50) fun l => k (one l) h n
/-- a frame -/
def enterK {β : Type} (no : β) (F : Func) (as : List AV) (k : Fr → β) : β := ifB (isLen F.np as) (appK as F.pad k) no
def noDs {β : Type} (no : β) (k : β) : List Df → β := @List.rec Df (fun _ => β) k fun _ _ _ => no
abbrev KPR := Func → KV → KV → Res
def prN : Fr → List Df → HT → Pa → KPR := fun fr ds h n F k _ => noDs (.no 51) (finK k h n (resL fr h F.res)) ds
def prE : Nat → Fr → List Df → HT → Pa → KPR := fun _ _ _ _ _ _ _ _ => .no 51
def prP : AV → Fr → List Df → HT → Pa → KPR := fun v _ ds h n _ _ kp => noDs (.no 51) (kp v h n) ds
def prX : Nat → KPR := fun w _ _ _ => .no w
def pr : Res → KPR := @Res.rec (fun _ => KPR) prN prE prN prP prX
def plainRes (F : Func) (k kp : KV) : Res → Res := fun r => pr r F k kp

/-! ### a region whose order is open -/
def eqI (k : IntKind) (n : Int) : AV → Bool := fun w => @VI.rec (fun _ => Bool) (fun k' n' => ifB (ikEq k k') (ieq n n') false) false (asI w)
def capEq : Cap → Cap → Bool := @Cap.rec (fun _ => Cap → Bool) (fun a => @Cap.rec (fun _ => Bool) (Nat.beq a) fun _ => false) fun a => @Cap.rec (fun _ => Bool) (fun _ => false) (Nat.beq a)
def eqS (id : Pa) (o l : Nat) (c : Cap) : AV → Bool := fun w =>
  @VS.rec (fun _ => Bool) (fun id' o' l' c' => ifB (paEq id id') (ifB (Nat.beq o o') (ifB (Nat.beq l l') (capEq c c') false) false) false) false false (asS w)
def eqP (id : Pa) (o : Nat) : AV → Bool := fun w => @VP.rec (fun _ => Bool) (fun id' o' => ifB (paEq id id') (Nat.beq o o') false) false (asP w)
def eqB (x : Bool) : AV → Bool := fun w => @VB.rec (fun _ => Bool) (eqbB x) false (asB w)
def eqN (a : Nat) : AV → Bool := fun w => @VN.rec (fun _ => Bool) (Nat.beq a) (fun _ => false) false (asN w)
/-- equal, as far as it is looked at -/
def avEq0 : AV → AV → Bool :=
  @AV.rec (fun _ => AV → Bool) (fun _ => Unit) (fun _ => false) eqB eqI (fun _ _ => false) (fun _ _ => false) (eqN 0) eqP (eqN 1) eqS (fun _ _ _ _ _ _ => false) (fun _ _ => false) (eqN 2)
    (fun _ _ _ _ => false) (eqN 3) (fun _ _ _ => false) (fun _ _ _ => false) (fun _ _ => false) xEq emEq (fun _ _ => false) (fun _ => false) () fun _ _ _ _ => ()
def avEqL : List AV → List AV → Bool :=
  @List.rec AV (fun _ => List AV → Bool) (@List.rec AV (fun _ => Bool) true fun _ _ _ => false) fun x _ ih => @List.rec AV (fun _ => Bool) false fun y m _ => ifB (avEq0 x y) (ih m) false
def avEq (v w : AV) : Bool := @VL.rec (fun _ => Bool) (fun l => @VL.rec (fun _ => Bool) (avEqL l) false (asAg w)) (avEq0 v w) (asAg v)
def orEq (v : AV) : OR → Bool := @OR.rec (fun _ => Bool) (fun w _ _ => avEq v w) fun _ => false
def nthH : U → List HT → HT := @U.rec (fun _ => List HT → HT) (@List.rec HT (fun _ => HT) .e fun x _ _ => x) fun _ ih => @List.rec HT (fun _ => HT) .e fun _ l _ => ih l
/-- is a value the same in these heaps too? -/
def sameIn (o : Op) (v : AV) (l : List AV) (f : Fr) (n : Pa) (hs : List HT) : List U → Bool :=
  @List.rec U (fun _ => Bool) true fun i _ ih => ifB (orEq v (sop o l f (nthH i hs) n)) ih false
def sameK (o : Op) (as : List U) (l : List AV) (f : Fr) (hs : List HT) (k : KV) : OR → Res :=
  @OR.rec (fun _ => Res) (fun v h n => ifB (sameIn o v l f n hs as) (k v h n) (.no 58)) .no
def isQ : DOp → Bool := @DOp.rec (fun _ => Bool) (fun _ _ => true) (fun _ => false) (fun _ _ => false) (fun _ _ => false) (fun _ _ _ ih => ih)
def qv : Q → Nat := @Q.rec (fun _ => Nat) 0 1 2 3
def valN : Pa → Nat := @List.rec Q (fun _ => Nat) 0 fun q _ ih => Nat.add (qv q) (Nat.mul 4 ih)
def lenQ : Pa → Pa → Bool := @List.rec Q (fun _ => Pa → Bool) (@List.rec Q (fun _ => Bool) true fun _ _ _ => false) fun _ _ ih => @List.rec Q (fun _ => Bool) false fun _ m _ => ih m
def okN (n n' : Pa) : Bool := ifB (lenQ n n') (Nat.ble (valN n) (valN n')) false
def wanted (b : Bool) : VB → Bool := @VB.rec (fun _ => Bool) (eqbB b) false
/-- what a deferred body does: a panic that is there, then its end -/
inductive DR where
  | ok (p : Option AV) (h : HT) (n : Pa)
  | no (w : Nat)
abbrev KD := Option AV → List AV → Fr → HT → Pa → DR
def putD (v : AV) (k : List AV → Fr → DR) : Kd → List AV → Fr → DR := @Kd.rec (fun _ => List AV → Fr → DR) (fun l f => k (v :: l) f) (fun i l f => setU v i f (k l)) k
def orD (k : AV → HT → Pa → DR) : OR → DR := @OR.rec (fun _ => DR) k .no
def dOp (k : KD) : IOp → KD :=
  @IOp.rec (fun _ => KD) (fun kd o p l f h n => orD (fun v h n => putD v (fun l f => k p l f h n) kd l f) (sop o l f h n)) (fun _ _ _ _ _ _ _ _ => .no 60) (fun _ _ _ _ _ _ _ _ => .no 60)
    (fun _ _ _ _ _ _ _ _ => .no 60) (fun _ _ _ _ _ _ => .no 60)
    (fun kd p l f h n => putD (@Option.rec AV (fun _ => AV) .iz (fun v => v) p) (fun l f => k none l f h n) kd l f) (fun _ _ _ _ _ _ _ _ _ _ => .no 60)
def dOps : List IOp → KD → KD := @List.rec IOp (fun _ => KD → KD) (fun k => k) fun o _ ih k => dOp (ih k) o
abbrev KDH := List AV → List HT → HT → Pa → DR
def sameD (o : Op) (as : List U) (l : List AV) (f : Fr) (hs : List HT) (n0 : Pa) (k : AV → HT → Pa → DR) : OR → DR :=
  @OR.rec (fun _ => DR) (fun v h n => ifB (sameIn o v l f n hs as) (k v h n) (.no 58)) .no
/-- a deferred body's region whose order is open: no calls -/
def dD (f : Fr) (k : KDH) : DOp → KDH :=
  @DOp.rec (fun _ => KDH)
    (fun o as l hs h n => sameD o as l f hs n (fun v h n => k (v :: l) hs h n) (sop o l f h n))
    (fun o l hs h n => orD (fun v h n' => ifB (okN n n') (k (v :: l) (h :: hs) h n') (.no 85)) (sop o l f h n))
    (fun _ _ _ _ _ _ => .no 69) (fun _ _ _ _ _ _ => .no 69)
    (fun x b d o l hs h n => ifB (wanted b (asB (ev x l f))) (o l hs h n) (k (.und :: l) (ifB (isQ d) hs (h :: hs)) h n))
def dDs (f : Fr) : List DOp → (List AV → HT → Pa → DR) → KDH :=
  @List.rec DOp (fun _ => (List AV → HT → Pa → DR) → KDH) (fun k l _ h n => k l h n) fun o _ r k => dD f (r k) o
def outD (l : List AV) : List (U × U) → Fr → (Fr → DR) → DR := @List.rec (U × U) (fun _ => Fr → (Fr → DR) → DR) (fun f k => k f) fun x _ ih f k => setU (nth x.2 l) x.1 f fun f => ih f k
abbrev KC := Bool → Option AV → Fr → HT → Pa → DR
abbrev DC := Option AV → Fr → HT → Pa → KC → DR
def dIf (a b : DC) (v : VB) : DC := @VB.rec (fun _ => DC) (fun x => ifB x a b) (fun _ _ _ _ _ => .no 61) v
def dNo : DC := fun _ _ _ _ _ => .no 63
/-- a body of a deferred function: regions, conditions, a return -/
def dCode : Code → DC :=
  @Code.rec (fun _ => DC) (fun p f h n k => k true p f h n) (fun ops p f h n k => dOps ops (fun p _ f h n => k true p f h n) p [] f h n)
    (fun ops out p f h n k => dDs f ops (fun l h n => outD l out f fun f => k true p f h n) [] [h] h n)
    (fun ops x _ _ a b p f h n k => dOps ops (fun p l f h n => dIf a b (asB (ev x l f)) p f h n k) p [] f h n) (fun _ _ _ _ _ _ _ => dNo)
    (fun _ _ a b p f h n k => a p f h n fun go p f h n => ifB go (b p f h n k) (k false p f h n)) (fun x _ _ a b p f => dIf a b (asB (ev x [] f)) p f)
    (fun _ _ _ => dNo) (fun _ _ => dNo) (fun _ => dNo) (fun p f h n k => k false p f h n) (fun _ _ _ _ _ _ => dNo) (fun _ => dNo) (fun _ _ => dNo)
abbrev DA := Option AV → HT → Pa → DR
def noRs (k : DR) : List Rv → DR := @List.rec Rv (fun _ => DR) k fun _ _ _ => .no 68
def dCallF (as : List AV) : Option Func → DA :=
  @Option.rec Func (fun _ => DA) (fun _ _ _ => .no 66) fun F p h n => ifB F.dfr (.no 65) (noRs (enterK (.no 64) F as fun fr => dCode F.body p fr h n fun _ p _ h n => .ok p h n) F.res)
def blkD {β : Type} (no : β) (k : β) : Option Blk → β := @Option.rec Blk (fun _ => β) no (@Blk.rec (fun _ => β) (fun _ => no) (fun _ _ _ _ => no) k (fun _ _ => no) fun _ _ _ => no)
def dCall (ft : T Func) : Df → DA :=
  @Df.rec (fun _ => DA) (fun f as => dCallF as (ft.get f)) fun id p h n => blkD (.no 67) (T.setK .e id h fun h => .ok p h n) (h.get id)
/-- the deferred calls of a frame, the last one first -/
def dAll (ft : T Func) : List Df → DA := @List.rec Df (fun _ => DA) DR.ok fun d _ ih p h n => @DR.rec (fun _ => DR) ih .no (dCall ft d p h n)
def endK (F : Func) (fr : Fr) (k kp : KV) : DR → Res :=
  @DR.rec (fun _ => Res) (fun p h n => @Option.rec AV (fun _ => Res) (finK k h n (resL fr h F.res)) (fun v => kp v h n) p) .no
def dfrRes (ft : T Func) (F : Func) (k kp : KV) : Res → Res :=
  @Res.rec (fun _ => Res) (fun fr ds h n => endK F fr k kp (dAll ft ds none h n)) (fun _ _ _ _ _ => .no 52)
    (fun fr ds h n => endK F fr k kp (dAll ft ds none h n)) (fun v fr ds h n => endK F fr k kp (dAll ft ds (some v) h n)) .no
/-! ### what is told of floats -/
def spNo : List AV → Option AV := fun _ => none
def fOp (o : Nat) : Bool := ifB (Nat.ble 1 o) (ifB (Nat.ble o 4) true (ifB (Nat.ble 11 o) (Nat.ble o 16) false)) false
def inU (t : Tm) : Bool := match litP t with
  | some n => Nat.ble n 18446744073709551615
  | none => isKO .u64 (tkO t)
def spF2 (o : Nat) : Option (IntKind × Tm) → Option (IntKind × Tm) → Option AV
  | some (.u64, a), some (.u64, b) => ifB (fOp o) (ifB (inU a) (ifB (inU b) (some (.tu [.x (.w .u64 (.fb o a b)), .i .i64 (.ofNat 0)])) none) none) none
  | _, _ => none
def spF : List AV → Option AV
  | [.i .i64 (.ofNat o), .i .i64 (.ofNat 10), x, y] => spF2 o (asT x) (asT y)
  | _ => none
/-! ### slices.Insert of one int -/
def insAt {β : Type} (no : β) (v : AV) : Nat → List AV → (List AV → β) → β :=
  @Nat.rec (fun _ => List AV → (List AV → β) → β) (fun l k => k (v :: l)) fun _ ih => @List.rec AV (fun _ => (List AV → β) → β) (fun _ => no) fun x l _ k => ih l fun l => k (x :: l)
def insC (len i : Nat) (cs : List AV) (h : HT) (n : Pa) (new : List AV) : OR :=
  ifB (Nat.ble (Nat.succ i) len) (ifB (Nat.ble len 1000) (cutK (.no 101) len 0 cs fun old => ifB (allOne old) (ifB (allOne new) (insAt (.no 102) (hd new) i old fun c => forceN (Nat.succ len) fun m => newK c (mkSl m 1) h n) (.no 103)) (.no 104)) (.no 105)) (.no 106)
def insS (iv v : AV) (id : Pa) (len : Nat) (h : HT) (n : Pa) (cs : List AV) : OR :=
  @Option.rec Nat (fun _ => OR) (.no 106) (fun i => T.setK .e id h fun h' => ifB (Nat.beq (lenOf v) 1) (srcK 1 v h' (insC len i cs h' n)) (.no 107)) (asNat iv)
def insV (iv v s : AV) (h : HT) (n : Pa) : OR :=
  @VS.rec (fun _ => OR) (fun id off len cap => @Cap.rec (fun _ => OR) (fun _ => .no 108) (fun sz => ifB (Nat.beq sz 1) (ifB (Nat.beq off 0) (blkC (.no 109) (insS iv v id len h n) (h.get id)) (.no 110)) (.no 111)) cap) (.no 112) (.no 113) (asS s)
def insR (as : List AV) (h : HT) (n : Pa) : OR :=
  @List.rec AV (fun _ => OR) (.no 114) (fun s l _ => @List.rec AV (fun _ => OR) (.no 114) (fun iv l _ => @List.rec AV (fun _ => OR) (.no 114) (fun v l _ => @List.rec AV (fun _ => OR) (insV iv v s h n) (fun _ _ _ => .no 114) l) l) l) as
def insK (as : List AV) (k : KV) (h : HT) (n : Pa) : Res := @OR.rec (fun _ => Res) k .no (insR as h n)
abbrev HK := HT → Pa → Res
abbrev KCF := T Func → Ih → List AV → KV → KV → HK
def cfN : KCF := fun _ _ _ _ _ _ _ => .no 54
def cfP : Func → KCF := fun F ft ih as k kp h n => enterK (.no 53) F as fun fr => @Bool.rec (fun _ => Res → Res) (plainRes F k kp) (dfrRes ft F k kp) F.dfr (ih F.body fr [] h n)
def cfS : Func → KCF := fun F ft ih as k kp h n => @Bool.rec (fun _ => Res) (@Option.rec AV (fun _ => Res) (cfP F ft ih as k kp h n) (fun v => k v h n) (F.sp as)) (insK as k h n) F.ins
def cf : Option Func → KCF := @Option.rec Func (fun _ => KCF) cfN cfS
def callF (ft : T Func) (ih : Ih) (as : List AV) (k kp : KV) : Option Func → HK := fun o => cf o ft ih as k kp
/-- yield's parameters -/
def parK (k : Fr → Res) : List U → List AV → Fr → Res :=
  @List.rec U (fun _ => List AV → Fr → Res) (@List.rec AV (fun _ => Fr → Res) k fun _ _ _ _ => .no 72)
    fun i _ ih => @List.rec AV (fun _ => Fr → Res) (fun _ => .no 72) fun v vs _ f => setU v i f (ih vs)
def rndE (b : Blk) (id : Pa) (k : KV) : Res → Res :=
  @Res.rec (fun _ => Res) (fun _ ds h n => noDs (.no 73) (T.setK (.v b) id h fun h => k (.b true) h n) ds) (fun _ _ _ _ _ => .no 73) (fun _ _ _ _ => .no 73) (fun _ _ _ _ _ => .no 73) .no
def rndB (ih : Ih) (b : Code) (e : Res → Res) : Res → Res :=
  @Res.rec (fun _ => Res) (fun fr ds h n => noDs (.no 74) (e (ih b fr [] h n)) ds) (fun _ _ _ _ _ => .no 74) (fun _ _ _ _ => .no 74) (fun _ _ _ _ _ => .no 74) .no
def blkL {β : Type} (no : β) (k : List U → Code → Code → Fr → β) : Option Blk → β := @Option.rec Blk (fun _ => β) no (@Blk.rec (fun _ => β) (fun _ => no) k no (fun _ _ => no) fun _ _ _ => no)
def yldV (ih : Ih) (id : Pa) (as : List AV) (k : KV) (h : HT) (n : Pa) : Res :=
  blkL (.no 77) (fun ps a b fr => parK (fun fr' => T.setK .e id h fun h => rndB ih b (rndE (.lp ps a b fr) id k) (ih a fr' [] h n)) ps as fr) (h.get id)
def callV (ft : T Func) (ih : Ih) (as : List AV) (k kp : KV) (h : HT) (n : Pa) : VF → Res :=
  @VF.rec (fun _ => Res) (fun f a c => appK as c fun l => appK a l fun l => callF ft ih l k kp (ft.get f) h n) (fun id => yldV ih id as k h n) (.no 55)
def orK (k : KV) : OR → Res := @OR.rec (fun _ => Res) k .no
def dfrV (as : List AV) (k : Df → Res) : VF → Res := @VF.rec (fun _ => Res) (fun f a c => appK as c fun l => appK a l fun l => k (.d f l)) (fun _ => .no 56) (.no 56)

def panV (f : Fr) (ds : List Df) (h : HT) (n : Pa) : VC → Res := @VC.rec (fun _ => Res) (fun t v => .pc (.ic t v) f ds h n) (.no 83) (.no 84)
abbrev KI := List AV → Fr → List Df → HT → Pa → Res
/-- one operation -/
abbrev KE := T Func → Ih → KI → KI
def eiO : Kd → Op → KE := fun kd o _ _ k l f ds h n => orK (fun v h n => putK v (fun l f => k l f ds h n) kd l f) (sop o l f h n)
def eiC : Kd → Pa → List Opd → KE := fun kd g as ft ih k l f ds h n => callF ft ih (evs as l f) (fun v h n => putK v (fun l f => k l f ds h n) kd l f) (fun v h n => .pc v f ds h n) (ft.get g) h n
def eiV : Kd → Opd → List Opd → KE := fun kd g as ft ih k l f ds h n => callV ft ih (evs as l f) (fun v h n => putK v (fun l f => k l f ds h n) kd l f) (fun v h n => .pc v f ds h n) h n (asF (ev g l f))
def eiD : Kd → Opd → List Opd → KE := fun kd g as _ _ k l f ds h n => dfrV (evs as l f) (fun d => putK .und (fun l f => k l f (d :: ds) h n) kd l f) (asF (ev g l f))
def eiP : Opd → KE := fun x _ _ _ l f ds h n => panV f ds h n (asC (ev x l f))
def eiR : Kd → KE := fun _ _ _ _ _ _ _ _ _ => .no 57
def eiG : Opd → Bool → Kd → IOp → KE → KE := fun x b kd _ o ft ih k l f ds h n => ifB (wanted b (asB (ev x l f))) (o ft ih k l f ds h n) (putK .und (fun l f => k l f ds h n) kd l f)
def ei : IOp → KE := @IOp.rec (fun _ => KE) eiO eiC eiV eiD eiP eiR eiG
def exI (ft : T Func) (ih : Ih) (k : KI) : IOp → KI := fun o => ei o ft ih k
def esN : T Func → Ih → KI → KI := fun _ _ k => k
def esC : IOp → List IOp → (T Func → Ih → KI → KI) → T Func → Ih → KI → KI := fun o _ r ft ih k => ei o ft ih (r ft ih k)
def es : List IOp → T Func → Ih → KI → KI := @List.rec IOp (fun _ => T Func → Ih → KI → KI) esN esC
def exOps (ft : T Func) (ih : Ih) : List IOp → KI → KI := fun os => es os ft ih

abbrev KH := List AV → List HT → HT → Pa → Res
def kpNo : KV := fun _ _ _ => .no 59
/-- hs: the heaps behind its effects, the last one first -/
abbrev KDE := T Func → Ih → Fr → KH → KH
def edQ : Op → List U → KDE := fun o as _ _ f k l hs h n => sameK o as l f hs (fun v h n => k (v :: l) hs h n) (sop o l f h n)
def edE : Op → KDE := fun o _ _ f k l hs h n => orK (fun v h n' => ifB (okN n n') (k (v :: l) (h :: hs) h n') (.no 85)) (sop o l f h n)
def edC : Pa → List Opd → KDE := fun g as ft ih f k l hs h n => callF ft ih (evs as l f) (fun v h n' => ifB (okN n n') (k (v :: l) (h :: hs) h n') (.no 85)) kpNo (ft.get g) h n
def edV : Opd → List Opd → KDE := fun g as ft ih f k l hs h n => callV ft ih (evs as l f) (fun v h n' => ifB (okN n n') (k (v :: l) (h :: hs) h n') (.no 85)) kpNo h n (asF (ev g l f))
def edG : Opd → Bool → DOp → KDE → KDE := fun x b d o ft ih f k l hs h n => ifB (wanted b (asB (ev x l f))) (o ft ih f k l hs h n) (k (.und :: l) (ifB (isQ d) hs (h :: hs)) h n)
def ed : DOp → KDE := @DOp.rec (fun _ => KDE) edQ edE edC edV edG
def exD (ft : T Func) (ih : Ih) (f : Fr) (k : KH) : DOp → KH := fun o => ed o ft ih f k
abbrev KL := List AV → HT → Pa → Res
abbrev KDS := T Func → Ih → Fr → KL → KH
def dsN : KDS := fun _ _ _ k l _ h n => k l h n
def dsC : DOp → List DOp → KDS → KDS := fun o _ r ft ih f k => ed o ft ih f (r ft ih f k)
def dss : List DOp → KDS := @List.rec DOp (fun _ => KDS) dsN dsC
def exDs (ft : T Func) (ih : Ih) (f : Fr) : List DOp → KL → KH := fun os => dss os ft ih f
def outK (l : List AV) : List (U × U) → Fr → (Fr → Res) → Res := @List.rec (U × U) (fun _ => Fr → (Fr → Res) → Res) (fun f k => k f) fun x _ ih f k => setU (nth x.2 l) x.1 f fun f => ih f k

abbrev KR := Fr → List Df → HT → Pa → Res
def condK (ih : Ih) (a b : Code) : VB → KR := @VB.rec (fun _ => KR) (fun x => ih (ifB x a b)) fun _ _ _ _ => .no 70
def seqK (k : KR) : Res → Res := @Res.rec (fun _ => Res) k .ex .rt .pc .no
def blockK (id : Nat) : Res → Res := @Res.rec (fun _ => Res) .nm (fun id' f ds h n => ifB (Nat.beq id' id) (.nm f ds h n) (.ex id' f ds h n)) .rt .pc .no
/-- behind a range over a function -/
def rfE (id idd : Pa) (f : Fr) (ds : List Df) (h : HT) (n : Pa) : Res := blkL (.no 78) (fun _ _ _ _ => T.setK .e id h fun h => .nm f (.col idd :: ds) h n) (h.get id)
def rfG (ft : T Func) (ih : Ih) (ps : List U) (c d : Code) (f : Fr) (ds : List Df) (g' : Pa) (as cs : List AV) (h : HT) (n n1 n2 : Pa) : Res :=
  T.setK (.v .df) n h fun h => T.setK (.v (.lp ps c d f)) n1 h fun h => appK as (.yl n1 :: cs) fun l => callF ft ih l (fun _ h n' => rfE n1 n f ds h n') kpNo (ft.get g') h n2
def rfV (ft : T Func) (ih : Ih) (ps : List U) (c d : Code) (f : Fr) (ds : List Df) (h : HT) (n : Pa) : VF → Res :=
  @VF.rec (fun _ => Res) (fun g' as cs => incK (.no 80) n fun n1 => incK (.no 81) n1 fun n2 => rfG ft ih ps c d f ds g' as cs h n n1 n2) (fun _ => .no 82) (.no 71)
/-- the code behind a label -/
def findL : Code → Nat → Option Code
  | .seq a b, l => match findL a l with
    | some r => some (.seq r b)
    | none => findL b l
  | .lab l', l => match Nat.beq l' l with | true => some .skip | false => none
  | _, _ => none
def noGt : Res → Res := @Res.rec (fun _ => Res) .nm (fun id f ds h n => ifB (Nat.ble 1000000 id) (.no 95) (.ex id f ds h n)) .rt .pc .no
/-- behind a scope: who goes to a label goes on there -/
def scK (ih : Ih) (c : Code) : Res → Res :=
  @Res.rec (fun _ => Res) .nm
    (fun id f ds h n => ifB (Nat.ble 1000000 id) (@Option.rec Code (fun _ => Res) (.no 96) (fun r => noGt (ih r f ds h n)) (findL c (Nat.sub id 1000000))) (.ex id f ds h n)) .rt .pc .no
abbrev KCE := T Func → Ih → KR
def ecN : KCE := fun _ _ => Res.nm
def ecR : List IOp → KCE := fun ops ft ih f ds h n => exOps ft ih ops (fun _ => Res.nm) [] f ds h n
def ecD : List DOp → List (U × U) → KCE := fun ops out ft ih f ds h n => exDs ft ih f ops (fun l h n => outK l out f fun f => .nm f ds h n) [] [h] h n
def ecRC : List IOp → Opd → Code → Code → KCE → KCE → KCE := fun ops x a b _ _ ft ih f ds h n => exOps ft ih ops (fun l f => condK ih a b (asB (ev x l f)) f) [] f ds h n
def ecDC : List DOp → List (U × U) → Opd → Code → Code → KCE → KCE → KCE := fun ops out x a b _ _ ft ih f ds h n => exDs ft ih f ops (fun l h n => outK l out f fun f' => condK ih a b (asB (ev x l f)) f' ds h n) [] [h] h n
def ecS : Code → Code → KCE → KCE → KCE := fun a b _ _ _ ih f ds h n => seqK (ih b) (ih a f ds h n)
def ecC : Opd → Code → Code → KCE → KCE → KCE := fun x a b _ _ _ ih f => condK ih a b (asB (ev x [] f)) f
def ecB : Nat → Code → KCE → KCE := fun id c _ _ ih f ds h n => blockK id (ih c f ds h n)
def ecL : Code → KCE → KCE := fun c _ _ ih f ds h n => seqK (ih (.loop c)) (ih c f ds h n)
def ecE : Nat → KCE := fun id _ _ => Res.ex id
def ecT : KCE := fun _ _ => Res.rt
def ecF : Opd → List U → Code → Code → KCE → KCE → KCE := fun x ps c d _ _ ft ih f ds h n => rfV ft ih ps c d f ds h n (asF (ev x [] f))
def ecA : Nat → KCE := fun _ _ _ => Res.nm
def ecO : Code → KCE → KCE := fun c _ _ ih f ds h n => scK ih c (ih c f ds h n)
def ec : Code → KCE := @Code.rec (fun _ => KCE) ecN ecR ecD ecRC ecDC ecS ecC ecB ecL ecE ecT ecF ecA ecO
def exC (ft : T Func) (ih : Ih) : Code → KR := fun c => ec c ft ih
def ex (ft : T Func) : Nat → Ih := @Nat.rec (fun _ => Ih) (fun _ _ _ _ _ => .no 0) fun _ ih => exC ft ih
end
end Go.X

namespace Go.X
/-- digits of 0 -/
def n0 : Pa := [.a, .a, .a, .a, .a, .a, .a]
def n1 : Pa := [.b, .a, .a, .a, .a, .a, .a]
def avJ : AV → Bool
  | .und | .i _ _ | .fl _ | .s _ | .pn | .p _ _ | .sn | .sl _ _ _ _ | .oq _ | .tu _ | .x _ | .em _ _ _ _ | .mp _ | .mn => true
  | _ => false
def isLa : AV → Bool
  | .x (.la _) => true
  | _ => false
def isLi : AV → Bool
  | .x .li => true
  | _ => false
def isF : AV → Bool
  | .b false => true
  | _ => false
def isBv (ok : Bool) : AV → Bool
  | .b c => c || ok
  | _ => false
/-- the slots that a round leaves behind -/
def chkL (ok : Bool) : List Bool → Fr → Bool
  | [], [] => true
  | b :: fl, x :: l => (avJ x || (b && isBv ok x)) && chkL ok fl l
  | _, _ => false
/-- the frame behind a round: argument, result and round are as they were; the rest may be left behind -/
def chkF (ok : Bool) (fl : List Bool) : Fr → Bool
  | x :: y :: z :: l => isLa x && (isF y && (isLi z && chkL ok fl l))
  | _ => false
def chkR (ok : Bool) (fl : List Bool) : Res → Bool
  | .nm f [] _ _ => chkF ok fl f
  | .ex 1 f [] _ _ => chkF ok fl f
  | _ => false
/-- a slot that may hold a bool -/
def lv (b : Bool) (o : Option Bool) (k : Nat) : AV := match b, o with
  | true, some c => .b c
  | _, _ => .oq k
/-- the element that is looked at, by terms of words -/
def cellsOf (tO tK tN tX tY : Tm) : List (IntKind × Tm) := [(.i64, .cv .i64 tO), (.i64, .cv .i64 tK), (.i64, .cv .i64 tN), (.u64, tX), (.u64, tY)]
end Go.X
