/- An executable reading of the model, its soundness over any program, and what it reads of this program. -/
import Derived.Test.YtfpdaeihlnlhcaaGreatUXQ
import Derived.Test.YtfpdaeihlnlhcaaGreatUXO
import Derived.RangeFuncLeaves
import Derived.RecoverIn
import Derived.Scope
set_option linter.unusedSectionVars false
set_option linter.unusedVariables false
set_option linter.unusedSimpArgs false
set_option linter.constructorNameAsVariable false
namespace Go.X
variable [Sym]

/-! ### the functions' code -/
def isQop : Op → Bool
  | .st _ _ _ | .app _ _ _ _ | .cpy _ _ _ | .clr _ _ | .mkm _ | .lup _ _ _ | .mup _ _ _ _ | .mdl _ _ _ => false
  | _ => true
/-- neither deferred calls nor loops over functions -/
def calmI : IOp → Bool
  | .dfr _ _ _ => false
  | .g _ _ _ o => calmI o
  | _ => true
def calm : Code → Bool
  | .reg ops => ops.all calmI
  | .rc ops _ a b => ops.all calmI && (calm a && calm b)
  | .dc _ _ _ a b => calm a && calm b
  | .seq a b => calm a && calm b
  | .cond _ a b => calm a && calm b
  | .block _ c => calm c
  | .loop c => calm c
  | .sc c => calm c
  | .rf _ _ _ _ => false
  | _ => true
def dstOk (nt : Nat) (ops : List Oper) : Bool := ops.all fun o => match o.dst with | none => true | some t => Nat.blt t nt
abbrev DR3 := List DOp × List (U × U) × List (Nat × U)
def assoc (t : Nat) : List (Nat × U) → Option U
  | [] => none
  | (x, i) :: l => match Nat.beq x t with | true => some i | false => assoc t l
/-- what a condition behind a region whose order is open looks at -/
def roD (L : List (Nat × U)) (nm : List Nat) : Operand → Option Opd
  | .tmp t => match assoc t L with
    | some i => some (.l i)
    | none => match fnd t nm with
      | some i => some (.f i)
      | none => none
  | o => ro [] nm o
def cPs (nm : List Nat) : List Nat → Option (List U)
  | [] => some []
  | t :: l => (fnd t nm).bind fun i => (cPs nm l).map (i :: ·)

section
variable (P : Program) (cD : List Nat → Array Oper → Option DR3) (nt : Nat) (nm : List Nat)
def cReg (ops : Array Oper) : Option (List IOp × List Nat) := match dstOk nt ops.toList with | true => cOps P nm ops.toList ops.toList [] | false => none
def cCond (cC : Go.Code → Option Code) (ops : Array Oper) (x : Operand) (a b : Go.Code) : Bool → Option Code
  | false => (cReg P nt nm ops).bind fun r => (ro r.2 nm x).bind fun x => (cC a).bind fun a => (cC b).map fun b => .rc r.1 x a b
  | true => (cD nm ops).bind fun r => (roD r.2.2 nm x).bind fun x => (cC a).bind fun a => (cC b).map fun b => .dc r.1 r.2.1 x a b
def cCode : Go.Code → Option Code
  | .skip => some .skip
  | .region _ ops d => match d with
    | false => (cReg P nt nm ops).map fun r => .reg r.1
    | true => (cD nm ops).map fun r => .dreg r.1 r.2.1
  | .seq (.region _ ops d) (.cond x a b) => match d with
    | false => (cReg P nt nm ops).bind fun r => (ro r.2 nm x).bind fun x => (cCode a).bind fun a => (cCode b).map fun b => .rc r.1 x a b
    | true => (cD nm ops).bind fun r => (roD r.2.2 nm x).bind fun x => (cCode a).bind fun a => (cCode b).map fun b => .dc r.1 r.2.1 x a b
  | .seq a b => (cCode a).bind fun a => (cCode b).map (.seq a)
  | .cond x a b => (ro [] nm x).bind fun x => (cCode a).bind fun a => (cCode b).map (.cond x a)
  | .block id c => match Nat.ble 1000000 id with | true => none | false => (cCode c).map (.block id)
  | .loop c => (cCode c).map .loop
  | .exit id => match Nat.ble 1000000 id with | true => none | false => some (.exit id)
  | .goto l => some (.exit (1000000 + l))
  | .label l => some (.lab l)
  | .scope c => (cCode c).map .sc
  | .ret => some .ret
  | .rangeFunc x ps a b => (ro [] nm x).bind fun x => (cPs nm ps.toList).bind fun ps => (cCode a).bind fun a => (cCode b).bind fun b => match calm a && calm b with | true => some (.rf x ps a b) | false => none
  | _ => none
end

/-! ### relations -/
variable {P : Program} {cD : Nat → List Nat → Array Oper → Option DR3} {K : Loop → List Nat → List U → Code → Code → Prop} {E E' : Env} {w w' : World} {h h' : HT} {n n' : Pa}
/-- what is known of a loop's record -/
def KLp (P : Program) (cD : Nat → List Nat → Array Oper → Option DR3) (r : Loop) (nm : List Nat) (ps : List U) (a b : Code) : Prop :=
  ∃ nt, nt ≤ r.tmps.size ∧ nm.Nodup ∧ cCode P (cD nt) nt nm r.assign = some a ∧ cCode P (cD nt) nt nm r.body = some b ∧ calm a = true ∧ calm b = true ∧ cPs nm r.params.toList = some ps

def FW (ro : Option Nat) : Fence := { fn := fun _ => True, depth := none, alive := false, round := ro }

def LRel (E : Env) (ls : List Nat) (l : List AV) (tmps : Array Value) : Prop := ∀ t i, fnd t ls = some i → tmps.getD t undef = den E (nth i l)

def DfR (E : Env) (n : Pa) : Df → Deferred → Prop
  | .d f as, d => ScL (Up n) as ∧ ∃ cap, d.target = .fn (.func (val f)) cap ∧ (d.args ++ cap).toList = denL E as
  | .col id, d => Up n id ∧ d.target = .collected (E.blk id)
def DsR (E : Env) (n : Pa) : List Df → List Deferred → Prop
  | [], [] => True
  | x :: l, d :: m => DfR E n x d ∧ DsR E n l m
  | _, _ => False

structure SRel (P : Program) (cD : Nat → List Nat → Array Oper → Option DR3) (E : Env) (a : Act) (w : World) (nt : Nat) (nm : List Nat) (f : Fr) (ds : List Df) (h : HT) (n : Pa) : Prop where
  nt : nt ≤ a.tmps.size
  fr : FRel E nm f a.tmps
  sc : ScL (Up n) f
  wr : WRel (KLp P cD) E w h n
  ds : DsR E n ds a.defers

theorem Step.denL {l : List AV} (s : Step E w h n E' w' h' n') (hl : ScL (Up n) l) : denL E' l = denL E l := denL_congr (fun p hp => s.env p hp.1 (by have := hp.2; omega)) l hl
theorem Step.scl {l : List AV} (s : Step E w h n E' w' h' n') (hl : ScL (Up n) l) : ScL (Up n') l := ScL.mono (fun _ hp => s.up hp) l hl
theorem sc_getD {S : Pa → Prop} {l : List AV} (hl : ScL S l) (i : Nat) : Sc S (l.getD i .und) := by
  rw [List.getD_eq_getElem?_getD]
  cases h : l[i]? with
  | none => simp [Sc]
  | some v => exact ScL_get hl h
theorem sc_nth {S : Pa → Prop} {l : List AV} (hl : ScL S l) (i : U) : Sc S (nth i l) := by rw [nth_eq]; exact sc_getD hl _
theorem FRel.step {nm : List Nat} {f : Fr} {tmps : Array Value} (hf : FRel E nm f tmps) (hs : ScL (Up n) f) (s : Step E w h n E' w' h' n') : FRel E' nm f tmps :=
  ⟨hf.1, fun i t hi => ⟨(hf.2 i t hi).1, by rw [(hf.2 i t hi).2, s.den (sc_getD hs i)]⟩⟩
theorem LRel.step {ls : List Nat} {l : List AV} {tmps : Array Value} (hf : LRel E ls l tmps) (hs : ScL (Up n) l) (s : Step E w h n E' w' h' n') : LRel E' ls l tmps :=
  fun t i hi => by rw [hf t i hi, s.den (sc_nth hs i)]
theorem DfR.step {x : Df} {d : Deferred} (hd : DfR E n x d) (s : Step E w h n E' w' h' n') : DfR E' n' x d := by
  cases x with
  | d f as => exact ⟨s.scl hd.1, let ⟨c, h1, h2⟩ := hd.2; ⟨c, h1, by rw [h2, s.denL hd.1]⟩⟩
  | col id => exact ⟨s.up hd.1, by rw [hd.2, (s.env id hd.1.1 (by have := hd.1.2; omega)).1]⟩
theorem DsR.step : ∀ {ds : List Df} {l : List Deferred}, DsR E n ds l → Step E w h n E' w' h' n' → DsR E' n' ds l
  | [], [], _, _ => trivial
  | [], _ :: _, hd, _ => hd.elim
  | _ :: _, [], hd, _ => hd.elim
  | _ :: _, _ :: _, hd, s => ⟨hd.1.step s, DsR.step hd.2 s⟩
theorem SRel.step {a : Act} {nt : Nat} {nm : List Nat} {f : Fr} {ds : List Df} (hr : SRel P cD E a w nt nm f ds h n) (hw : WRel (KLp P cD) E' w' h' n') (s : Step E w h n E' w' h' n') : SRel P cD E' a w' nt nm f ds h' n' :=
  ⟨hr.nt, hr.fr.step hr.sc s, s.scl hr.sc, hw, hr.ds.step s⟩

/-! ### operands -/
theorem fnd_some : ∀ {t : Nat} {l : List Nat} {i : U}, fnd t l = some i → l[i.nat]? = some t
  | t, [], i, h => by cases h
  | t, x :: l, i, h => by
    simp only [fnd] at h
    split at h
    · rename_i hb
      cases h
      simp [U.nat, Nat.eq_of_beq_eq_true hb]
    · cases hf : fnd t l with
      | none => rw [hf] at h; cases h
      | some j =>
        rw [hf] at h
        cases h
        simpa [U.nat] using fnd_some hf
theorem fnd_none : ∀ {t : Nat} {l : List Nat}, fnd t l = none → t ∉ l
  | t, [], _ => by simp
  | t, x :: l, h => by
    simp only [fnd] at h
    split at h
    · cases h
    · rename_i hb
      cases hf : fnd t l with
      | some j => rw [hf] at h; cases h
      | none => simp [fnd_none hf]; intro e; subst e; simp at hb
theorem FRel.get {nm : List Nat} {f : Fr} {tmps : Array Value} (hf : FRel E nm f tmps) {t : Nat} {i : U} (h : fnd t nm = some i) : tmps.getD t undef = den E (nth i f) := by
  rw [(hf.2 _ _ (fnd_some h)).2, nth_eq]
theorem ro_sound {ls nm : List Nat} {l : List AV} {f : Fr} {a : Act} (hf : FRel E nm f a.tmps) (hl : LRel E ls l a.tmps) (sf : ScL (Up n) f) (sl : ScL (Up n) l) (x : Operand) (y : Opd) (h : ro ls nm x = some y) :
    a.eval x = den E (ev y l f) ∧ Sc (Up n) (ev y l f) := by
  cases x with
  | tmp t =>
    simp only [ro] at h
    cases h1 : fnd t ls with
    | some i => rw [h1] at h; cases h; exact ⟨hl t i h1, sc_nth sl i⟩
    | none =>
      rw [h1] at h
      simp only at h
      cases h2 : fnd t nm with
      | some i => rw [h2] at h; cases h; exact ⟨hf.get h2, sc_nth sf i⟩
      | none => rw [h2] at h; cases h
  | const v =>
    simp only [ro] at h
    cases h1 : cv v with
    | none => rw [h1] at h; cases h
    | some x =>
      rw [h1] at h
      cases h
      exact ⟨((cv_sound h1).1 E).symm, (cv_sound h1).2 _⟩
  | global g => simp [ro] at h
  | func g =>
    simp only [ro] at h
    cases h1 : fpa g with
    | none => rw [h1] at h; cases h
    | some p =>
      rw [h1] at h
      cases h
      exact ⟨by simp [Act.eval, ev, den, denL, fpa_val h1], by simp [ev, Sc, ScL]⟩

/-! ### a slot is laid -/
theorem getD_set_eq {tmps : Array Value} {t : Nat} (ht : t < tmps.size) (v : Value) : (tmps.setIfInBounds t v).getD t undef = v := by simp [ht]
theorem getD_set_ne' {tmps : Array Value} {t u : Nat} (h : t ≠ u) (v : Value) : (tmps.setIfInBounds t v).getD u undef = tmps.getD u undef := by simp [Array.getElem?_setIfInBounds_ne h]
theorem DsR.put {E : Env} {ds : List Df} {a : Act} {d : Option Tmp} {v : Value} (h : DsR E n ds a.defers) : DsR E n ds (a.put d v).defers := by cases d <;> exact h
theorem nodup_inj : ∀ {l : List Nat}, l.Nodup → ∀ {i j t : Nat}, l[i]? = some t → l[j]? = some t → i = j
  | [], _, i, j, t, h, _ => by simp at h
  | x :: l, hn, i, j, t, h1, h2 => by
    rw [List.nodup_cons] at hn
    cases i with
    | zero =>
      cases j with
      | zero => rfl
      | succ j =>
        simp only [List.getElem?_cons_zero, Option.some.injEq, List.getElem?_cons_succ] at h1 h2
        subst h1
        exact absurd (List.mem_of_getElem? h2) hn.1
    | succ i =>
      cases j with
      | zero =>
        simp only [List.getElem?_cons_zero, Option.some.injEq, List.getElem?_cons_succ] at h1 h2
        subst h2
        exact absurd (List.mem_of_getElem? h1) hn.1
      | succ j =>
        simp only [List.getElem?_cons_succ] at h1 h2
        rw [nodup_inj hn.2 h1 h2]
theorem fnd_get {nm : List Nat} (hn : nm.Nodup) {t : Nat} {i : U} {j : Nat} (h : fnd t nm = some i) (hj : nm[j]? = some t) : j = i.nat := nodup_inj hn hj (fnd_some h)
theorem FRel.put {nm : List Nat} {f : Fr} {tmps : Array Value} (hf : FRel E nm f tmps) (hn : nm.Nodup) {t : Nat} {i : U} (h : fnd t nm = some i) (v : AV) : FRel E nm (f.set i.nat v) (tmps.setIfInBounds t (den E v)) := by
  refine ⟨by simp [hf.1], fun j u hj => ?_⟩
  obtain ⟨h1, h2⟩ := hf.2 j u hj
  refine ⟨by simpa using h1, ?_⟩
  by_cases e : u = t
  · subst e
    have hji := fnd_get hn h hj
    subst hji
    have hlt : i.nat < f.length := by rw [hf.1]; exact (List.getElem?_eq_some_iff.1 hj).1
    rw [getD_set_eq h1]
    simp [List.getD_eq_getElem?_getD, hlt]
  · rw [getD_set_ne' (fun e' => e e'.symm)]
    have hne : i.nat ≠ j := fun e' => by subst e'; rw [fnd_some h] at hj; exact e (Option.some.inj hj).symm
    rw [h2]
    simp [List.getD_eq_getElem?_getD, List.getElem?_set_ne hne]
theorem FRel.put_out {nm : List Nat} {f : Fr} {tmps : Array Value} (hf : FRel E nm f tmps) {t : Nat} (h : t ∉ nm) (v : Value) : FRel E nm f (tmps.setIfInBounds t v) := by
  refine ⟨hf.1, fun j u hj => ?_⟩
  obtain ⟨h1, h2⟩ := hf.2 j u hj
  refine ⟨by simpa using h1, ?_⟩
  have : t ≠ u := fun e => h (by subst e; exact List.mem_of_getElem? hj)
  rw [getD_set_ne' this, h2]
theorem sc_set {S : Pa → Prop} {l : List AV} (hl : ScL S l) (i : Nat) {v : AV} (hv : Sc S v) : ScL S (l.set i v) :=
  (ScL_iff _ _).2 fun u hu => by
    rcases List.mem_or_eq_of_mem_set hu with h | h
    · exact (ScL_iff _ _).1 hl u h
    · subst h; exact hv
def lsP (ls : List Nat) (o : Option Nat) : List Nat := match o with | some t => t :: ls | none => ls
/-- the slots of a region are none of the frame's -/
def Apart (ls nm : List Nat) : Prop := ∀ t i, fnd t ls = some i → fnd t nm = none
/-- a state within a region -/
structure RRel (P : Program) (cD : Nat → List Nat → Array Oper → Option DR3) (E : Env) (a : Act) (w : World) (nt : Nat) (nm ls : List Nat) (l : List AV) (f : Fr) (ds : List Df) (h : HT) (n : Pa) : Prop where
  s : SRel P cD E a w nt nm f ds h n
  lr : LRel E ls l a.tmps
  scl : ScL (Up n) l
theorem RRel.step {a : Act} {nt : Nat} {nm ls : List Nat} {l : List AV} {f : Fr} {ds : List Df} (hr : RRel P cD E a w nt nm ls l f ds h n) (hw : WRel (KLp P cD) E' w' h' n') (s : Step E w h n E' w' h' n') : RRel P cD E' a w' nt nm ls l f ds h' n' :=
  ⟨hr.s.step hw s, hr.lr.step hr.scl s, s.scl hr.scl⟩
theorem put_sound {a : Act} {nt : Nat} {nm ls : List Nat} {l : List AV} {f : Fr} {ds : List Df} {dst : Option Nat} {v : AV} {k : KF} {res : Res} (hr : RRel P cD E a w nt nm ls l f ds h n) (hn : nm.Nodup) (hls : Apart ls nm)
    (hd : ∀ t, dst = some t → t < nt) (hv : Sc (Up n) v) (e : putK v k (fndK nm dst).1 l f = res) :
    ∃ l' f', k l' f' = res ∧ RRel P cD E (a.put dst (den E v)) w nt nm (lsP ls (fndK nm dst).2) l' f' ds h n ∧ Apart (lsP ls (fndK nm dst).2) nm := by
  cases dst with
  | none => exact ⟨l, f, e, hr, hls⟩
  | some t =>
    have ht := hd t rfl
    have hlt : t < a.tmps.size := Nat.lt_of_lt_of_le ht hr.s.nt
    cases hf : fnd t nm with
    | some i =>
      simp only [fndK, hf] at e ⊢
      have e' : setU v i f (k l) = res := e
      rw [setU_eq] at e'
      refine ⟨l, f.set i.nat v, e', ⟨⟨by simpa [Act.put] using hr.s.nt, hr.s.fr.put hn hf v, sc_set hr.s.sc _ hv, hr.s.wr, hr.s.ds⟩, fun u j hj => ?_, hr.scl⟩, hls⟩
      have hne : t ≠ u := fun e => by subst e; rw [hls t j hj] at hf; cases hf
      simp only [Act.put]
      rw [getD_set_ne' hne]; exact hr.lr u j hj
    | none =>
      simp only [fndK, hf] at e ⊢
      refine ⟨v :: l, f, e, ⟨⟨by simpa [Act.put] using hr.s.nt, hr.s.fr.put_out (fnd_none hf) _, hr.s.sc, hr.s.wr, hr.s.ds⟩, fun u j hj => ?_, ⟨hv, hr.scl⟩⟩, fun u j hj => ?_⟩
      · simp only [Act.put]
        simp only [lsP, fnd] at hj
        split at hj
        · rename_i hb
          cases hj
          rw [Nat.eq_of_beq_eq_true hb] at hlt ⊢
          rw [getD_set_eq hlt]; rfl
        · rename_i hb
          have hne : t ≠ u := fun e => by subst e; simp at hb
          cases hf2 : fnd u ls with
          | none => rw [hf2] at hj; cases hj
          | some j' =>
            rw [hf2] at hj
            cases hj
            rw [getD_set_ne' hne]
            exact hr.lr u j' hf2
      · simp only [lsP, fnd] at hj
        split at hj
        · rename_i hb
          rw [← Nat.eq_of_beq_eq_true hb]; exact hf
        · cases hf2 : fnd u ls with
          | none => rw [hf2] at hj; cases hj
          | some j' => exact hls u j' hf2
end Go.X

namespace Go.X
variable [Sym]
variable {P : Program} {cD : Nat → List Nat → Array Oper → Option DR3} {E E' E1 : Env} {w w' w1 : World} {h h' h1 : HT} {n n' n1 : Pa}

def Res.ok : Res → Prop
  | .no _ => False
  | _ => True
def pan (v : Value) : List PanicEntry := [{ v, recovered := false }]
/-- what a code's end is, told of the world -/
def PostR (P : Program) (cD : Nat → List Nat → Array Oper → Option DR3) (E : Env) (w : World) (h : HT) (n : Pa) (nt : Nat) (nm : List Nat) : Res → Exit → Act → World → Prop
  | .nm f ds h' n', .normal, a', w' => ∃ E', SRel P cD E' a' w' nt nm f ds h' n' ∧ Step E w h n E' w' h' n'
  | .ex id f ds h' n', .exit id', a', w' => (id < 1000000 ∧ id' = id) ∧ ∃ E', SRel P cD E' a' w' nt nm f ds h' n' ∧ Step E w h n E' w' h' n'
  | .ex id f ds h' n', .goto l, a', w' => id = 1000000 + l ∧ ∃ E', SRel P cD E' a' w' nt nm f ds h' n' ∧ Step E w h n E' w' h' n'
  | .rt f ds h' n', .ret, a', w' => ∃ E', SRel P cD E' a' w' nt nm f ds h' n' ∧ Step E w h n E' w' h' n'
  | .pc v f ds h' n', .panic ch, a', w' => ∃ E', ch = pan (den E' v) ∧ Sc (Up n') v ∧ SRel P cD E' a' w' nt nm f ds h' n' ∧ Step E w h n E' w' h' n'
  | _, _, _, _ => False
theorem PostR.trans {nt : Nat} {nm : List Nat} {r : Res} {e : Exit} {a : Act} (hp : PostR P cD E1 w1 h1 n1 nt nm r e a w') (s : Step E w h n E1 w1 h1 n1) : PostR P cD E w h n nt nm r e a w' := by
  cases r <;> cases e <;> simp only [PostR] at hp ⊢
  · obtain ⟨E', h1, h2⟩ := hp; exact ⟨E', h1, s.trans h2⟩
  · obtain ⟨e, E', h1, h2⟩ := hp; exact ⟨e, E', h1, s.trans h2⟩
  · obtain ⟨e, E', h1, h2⟩ := hp; exact ⟨e, E', h1, s.trans h2⟩
  · obtain ⟨E', h1, h2⟩ := hp; exact ⟨E', h1, s.trans h2⟩
  · obtain ⟨E', h0, h1, h2, h3⟩ := hp; exact ⟨E', h0, h1, h2, s.trans h3⟩

/-! ### a loop -/
section
variable {F : Fence} {m : Nat} {Q : Exit → Act → World → Prop} {a : Act}
def LoopHead (F : Fence) (n : Nat) (P : Program) (c : Go.Code) (Q : Exit → Act → World → Prop) (a : Act) (w : World) : Prop :=
  ∀ (b : Frame) (k : List Item) (cs : List Frame), b.roundOf = F.round → F.fn b.fn → F.room (cs.length + 1 + n) →
    ∃ e a' w', Q e a' w' ∧ ArrivesIn (Machine.fenced P F) P (lone (b.atR a (.code c :: .inLoop c :: k)) cs w) b k cs e a' w'
theorem loop_of_head {c : Go.Code} (hh : LoopHead F m P c Q a w) : (Go.Code.loop c).wpIn F m P Q a w :=
  fun b k cs hro hb hr => let ⟨e, a', w', q, r⟩ := hh b k cs hro hb hr; ⟨e, a', w', q, .of_steps (.one (fenced_calm hb hr rfl) stepR_loop) r⟩
theorem head_of_body {c : Go.Code} (hc : c.wpIn F m P (Exit.then (LoopHead F m P c Q) Q) a w) : LoopHead F m P c Q a w := by
  intro b k cs hro hb hr
  obtain ⟨e, a₁, w₁, hq, harr⟩ := hc b (.inLoop c :: k) cs hro hb hr
  cases e with
  | normal =>
    obtain ⟨e₂, a₂, w₂, hq₂, harr₂⟩ := hq b k cs hro hb hr
    exact ⟨e₂, a₂, w₂, hq₂, .of_steps (StepsIn.trans harr (.one (fenced_calm hb hr rfl) stepR_inLoop)) harr₂⟩
  | exit id => exact ⟨_, a₁, w₁, hq, .pass (x := .inLoop c) rfl (fun _ _ => .inl (by simp)) harr⟩
  | goto l => exact ⟨_, a₁, w₁, hq, .pass (x := .inLoop c) rfl (fun _ _ => .inl (by simp)) harr⟩
  | ret => exact ⟨_, a₁, w₁, hq, .pass (x := .inLoop c) rfl (fun _ _ => .inl (by simp)) harr⟩
  | panic ch => exact ⟨_, a₁, w₁, hq, .pass (x := .inLoop c) rfl (fun _ _ => .inl (by simp)) harr⟩
  | outgrown => exact ⟨_, a₁, w₁, hq, .pass (x := .inLoop c) rfl (fun _ _ => .inl (by simp)) harr⟩
theorem LoopHead.mono {c : Go.Code} {Q' : Exit → Act → World → Prop} (hh : LoopHead F m P c Q a w) (hq : ∀ e a w, Q e a w → Q' e a w) : LoopHead F m P c Q' a w :=
  fun b k cs hro hb hr => let ⟨e, a', w', q, r⟩ := hh b k cs hro hb hr; ⟨e, a', w', hq _ _ _ q, r⟩
end

/-- a code is looked at soundly -/
def CodeOk (P : Program) (cD : Nat → List Nat → Array Oper → Option DR3) (ih : Ih) : Prop :=
  ∀ (ro : Option Nat) (nt : Nat) (nm : List Nat) (c : Go.Code) (c' : Code) (E : Env) (a : Act) (w : World) (f : Fr) (ds : List Df) (h : HT) (n : Pa),
    cCode P (cD nt) nt nm c = some c' → nm.Nodup → (ro ≠ none → calm c' = true) → SRel P cD E a w nt nm f ds h n → (ih c' f ds h n).ok →
    c.wpIn (FW ro) 0 P (PostR P cD E w h n nt nm (ih c' f ds h n)) a w ∧ ∀ c0, c = .loop c0 → LoopHead (FW ro) 0 P c0 (PostR P cD E w h n nt nm (ih c' f ds h n)) a w

/-! ### functions -/
def cRv (P : Program) (nm : List Nat) : ResultVar → Option Rv
  | .tmp t => (fnd t nm).map .t
  | .cell a t => (fnd a nm).bind fun i => (P.underlying t).bind fun d => match isAggD d with | true => (szo P t).map fun s => .cn s i | false => some (.c1 i)
def cRvs (P : Program) (nm : List Nat) : List ResultVar → Option (List Rv)
  | [] => some []
  | r :: l => (cRv P nm r).bind fun r => (cRvs P nm l).map (r :: ·)
/-- a function's code is what is looked at -/
structure FnIs (P : Program) (cD : Nat → List Nat → Array Oper → Option DR3) (fid : Nat) (F : Func) (fn : Go.Func) (c : Go.Code) (nm : List Nat) : Prop where
  func : P.funcs[fid]? = some fn
  body : fn.body = some c
  name : (fn.name == "runtime.NumGoroutine") = false
  nodup : nm.Nodup
  code : cCode P (cD fn.ntmps) fn.ntmps nm c = some F.body
  res : cRvs P nm fn.results.toList = some F.res
  take : nm.take F.np = List.range F.np
  len : nm.length = F.np + F.pad.length
  pad : ∀ v ∈ F.pad, v = .und
  small : ∀ t ∈ nm, t < fn.ntmps
  ins : F.ins = false
  sp : SpOk P fid F.sp
def FnOk (P : Program) (cD : Nat → List Nat → Array Oper → Option DR3) (fid : Nat) (F : Func) : Prop := ∃ fn c nm, FnIs P cD fid F fn c nm
noncomputable def outF (l : List AV) : List (U × U) → Fr → Fr
  | [], f => f
  | x :: out, f => outF l out (f.set x.1.nat (nth x.2 l))
theorem outK_eq (l : List AV) : ∀ (out : List (U × U)) (f : Fr) (k : Fr → Res), outK l out f k = k (outF l out f)
  | [], f, k => rfl
  | x :: out, f, k => by
    show setU (nth x.2 l) x.1 f (fun f => outK l out f k) = _
    rw [setU_eq, outK_eq l out]; rfl
def DOk (P : Program) (cD : Nat → List Nat → Array Oper → Option DR3) (ft : T Func) : Prop :=
  ∀ (ih : Ih), CodeOk P cD ih → ∀ (ro : Option Nat) (nt : Nat) (nm : List Nat) (id : Nat) (ops : Array Oper) (o : List DOp) (out : List (U × U)) (L : List (Nat × U)), cD nt nm ops = some (o, out, L) → nm.Nodup →
    ∀ (Q : Exit → Act → World → Prop) (k : Go.X.KL) (E : Env) (a : Act) (w : World) (f : Fr) (ds : List Df) (h : HT) (n : Pa) (res : Res), SRel P cD E a w nt nm f ds h n → exDs ft ih f o k [] [h] h n = res → res.ok →
      (∀ E' a' w' l h' n', SRel P cD E' a' w' nt nm (outF l out f) ds h' n' → (∀ x y, roD L nm x = some y → a'.eval x = den E' (ev y l f)) → Step E w h n E' w' h' n' → k l h' n' = res → Q .normal a' w') →
      (Go.Code.region id ops true).wpIn (FW ro) 0 P Q a w

def TabOk (P : Program) (cD : Nat → List Nat → Array Oper → Option DR3) (ft : T Func) : Prop :=
  (∀ p F, ft.get p = some F → FnOk P cD (val p) F ∨ (F.ins = true ∧ F.dfr = true ∧ InsOk P (val p))) ∧ ((∃ p F, ft.get p = some F) → ∀ inst : Sym, @DOk inst P cD .e)

def resS (tmps : Array Value) : ResultVar → Sem Value
  | .tmp t => pure (tmps.getD t undef)
  | .cell a t => do loadVar t (← asAddr (tmps.getD a undef))
theorem results_eq (fn : Go.Func) (tmps : Array Value) : results fn tmps = (fn.results.mapM (resS tmps) >>= fun vs => pure (if h : vs.size = 1 then vs[0] else .tuple vs)) := by
  unfold results
  congr 1
theorem resV_sound {nm : List Nat} {f : Fr} {tmps : Array Value} (hf : FRel E nm f tmps) (hs : ScL (Up n) f) (hw : WRel (KLp P cD) E w h n) {r : ResultVar} {q : Rv} (hc : cRv P nm r = some q) {v : AV} (he : resV f h q = some v) :
    (resS tmps r).run P w = .ok (den E v) w ∧ Sc (Up n) v := by
  cases r with
  | tmp t =>
    obtain ⟨i, hi, rfl⟩ := map_some hc
    cases he
    exact ⟨by show Result.ok (tmps.getD t undef) w = _; rw [hf.get hi], sc_nth hs i⟩
  | cell a t =>
    obtain ⟨i, hi, hc⟩ := bind_some hc
    obtain ⟨d, hd, hc⟩ := bind_some hc
    have hx : Sc (Up n) (nth i f) := sc_nth hs i
    have key : ∀ {v}, (Instr.loadAt t (den E (nth i f))).run P w = .ok v w → ∀ id off, nth i f = .p id off → (resS tmps (.cell a t)).run P w = .ok v w := by
      intro v hv id off hp
      simp only [resS]
      rw [hf.get hi, hp]
      rw [hp] at hv
      simpa [Instr.loadAt, den, asAddr, Instr.sureAddr, Result.andThen] using hv
    split at hc
    · rename_i hag
      obtain ⟨s, hs', rfl⟩ := map_some hc
      cases hp : asP (nth i f) with
      | no => simp only [resV, hp] at he; cases he
      | p id off =>
        have he' : ldnC off s (h.get id) = some v := by simpa only [resV, hp] using he
        have hl : ldnV s (nth i f) h n = .ok v h n := by simp only [ldnV, hp]; rw [he']; rfl
        obtain ⟨k1, k2, _, _⟩ := ldn_sound (P := P) hd hag hs' hw hx hl
        exact ⟨key k1 id off (asP_p hp), k2⟩
    · rename_i hag
      cases hc
      cases hp : asP (nth i f) with
      | no => simp only [resV, hp] at he; cases he
      | p id off =>
        have he' : ldC off (h.get id) = some v := by simpa only [resV, hp] using he
        have hl : ldV (nth i f) h n = .ok v h n := by simp only [ldV, hp]; rw [he']; rfl
        obtain ⟨k1, k2, _, _⟩ := ld_sound (P := P) hd hag hw hx hl
        exact ⟨key k1 id off (asP_p hp), k2⟩

theorem one_den (l : List AV) : den E (one l) = (if h : (denL E l).toArray.size = 1 then (denL E l).toArray[0] else .tuple (denL E l).toArray) := by
  cases l with
  | nil => simp [one, den, denL]
  | cons x l =>
    cases l with
    | nil => simp [one, denL]
    | cons y l => simp [one, den, denL]
theorem one_sc {S : Pa → Prop} {l : List AV} (hl : ScL S l) : Sc S (one l) := by
  cases l with
  | nil => simp [one, Sc, ScL]
  | cons x l =>
    cases l with
    | nil => exact hl.1
    | cons y l => simpa [one, Sc] using hl
theorem resL_sound {nm : List Nat} {f : Fr} {tmps : Array Value} (hf : FRel E nm f tmps) (hs : ScL (Up n) f) (hw : WRel (KLp P cD) E w h n) : ∀ {rs : List ResultVar} {qs : List Rv} {vs : List AV}, cRvs P nm rs = some qs → resL f h qs = some vs →
    (rs.mapM (resS tmps)).run P w = .ok (denL E vs) w ∧ ScL (Up n) vs
  | [], qs, vs, hc, he => by
    cases hc
    cases he
    exact ⟨by simp [denL], trivial⟩
  | r :: rs, qs, vs, hc, he => by
    obtain ⟨q, hq, hc⟩ := bind_some hc
    obtain ⟨qs', hqs, rfl⟩ := map_some hc
    cases hv : resV f h q with
    | none =>
      have : resL f h (q :: qs') = none := by show @Option.rec AV (fun _ => Option (List AV)) none (fun v => consO v (resL f h qs')) (resV f h q) = _; rw [hv]
      rw [this] at he; cases he
    | some v =>
      have e2 : resL f h (q :: qs') = consO v (resL f h qs') := by show @Option.rec AV (fun _ => Option (List AV)) none (fun v => consO v (resL f h qs')) (resV f h q) = _; rw [hv]
      rw [e2] at he
      cases hr : resL f h qs' with
      | none => rw [hr] at he; cases he
      | some l =>
        rw [hr] at he
        cases he
        obtain ⟨k1, k2⟩ := resV_sound hf hs hw hq hv
        obtain ⟨k3, k4⟩ := resL_sound hf hs hw hqs hr
        refine ⟨?_, k2, k4⟩
        rw [List.mapM_cons, Sem.run_bind, k1]
        simp [Result.andThen, k3, denL]
theorem results_sound {fid : Nat} {F : Func} {fn : Go.Func} {c : Go.Code} {nm : List Nat} (hF : FnIs P cD fid F fn c nm) {f : Fr} {tmps : Array Value} (hf : FRel E nm f tmps) (hs : ScL (Up n) f) (hw : WRel (KLp P cD) E w h n) {vs : List AV} (he : resL f h F.res = some vs) :
    (results fn tmps).run P w = .ok (den E (one vs)) w ∧ Sc (Up n) (one vs) := by
  obtain ⟨k1, k2⟩ := resL_sound hf hs hw hF.res he
  refine ⟨?_, one_sc k2⟩
  rw [one_den]
  rw [results_eq, ← Array.toArray_toList (xs := fn.results), List.mapM_toArray]
  simp [Result.andThen, k1]
end Go.X

namespace Go.X
variable [Sym]
variable {P : Program} {cD : Nat → List Nat → Array Oper → Option DR3} {E E' E1 : Env} {w w' w1 : World} {h h' h1 : HT} {n n' n1 : Pa}

/-! ### which code a code comes from -/
def CInv (P : Program) (cD : List Nat → Array Oper → Option DR3) (nt : Nat) (nm : List Nat) (c : Go.Code) : Code → Prop
  | .skip => c = .skip
  | .reg o => ∃ id ops ls, c = .region id ops false ∧ cReg P nt nm ops = some (o, ls)
  | .dreg o out => ∃ id ops L, c = .region id ops true ∧ cD nm ops = some (o, out, L)
  | .rc o x a b => ∃ id ops ls x' a' b', c = .seq (.region id ops false) (.cond x' a' b') ∧ cReg P nt nm ops = some (o, ls) ∧ ro ls nm x' = some x ∧ cCode P cD nt nm a' = some a ∧ cCode P cD nt nm b' = some b
  | .dc o out x a b => ∃ id ops L x' a' b', c = .seq (.region id ops true) (.cond x' a' b') ∧ cD nm ops = some (o, out, L) ∧ roD L nm x' = some x ∧ cCode P cD nt nm a' = some a ∧ cCode P cD nt nm b' = some b
  | .seq a b => ∃ a' b', c = .seq a' b' ∧ cCode P cD nt nm a' = some a ∧ cCode P cD nt nm b' = some b
  | .cond x a b => ∃ x' a' b', c = .cond x' a' b' ∧ ro [] nm x' = some x ∧ cCode P cD nt nm a' = some a ∧ cCode P cD nt nm b' = some b
  | .block id a => ∃ a', c = .block id a' ∧ cCode P cD nt nm a' = some a ∧ id < 1000000
  | .loop a => ∃ a', c = .loop a' ∧ cCode P cD nt nm a' = some a
  | .exit id => (c = .exit id ∧ id < 1000000) ∨ ∃ l, c = .goto l ∧ id = 1000000 + l
  | .lab l => c = .label l
  | .sc a => ∃ a', c = .scope a' ∧ cCode P cD nt nm a' = some a
  | .ret => c = .ret
  | .rf x ps a b => ∃ x' ps' a' b', c = .rangeFunc x' ps' a' b' ∧ ro [] nm x' = some x ∧ cPs nm ps'.toList = some ps ∧ cCode P cD nt nm a' = some a ∧ cCode P cD nt nm b' = some b ∧ calm a = true ∧ calm b = true
theorem cCode_inv {cD : List Nat → Array Oper → Option DR3} {nt : Nat} {nm : List Nat} {c : Go.Code} {c' : Code} (hc : cCode P cD nt nm c = some c') : CInv P cD nt nm c c' := by
  unfold cCode at hc
  split at hc
  · cases hc; rfl
  · split at hc
    · obtain ⟨r, h1, rfl⟩ := map_some hc; exact ⟨_, _, r.2, rfl, h1⟩
    · obtain ⟨r, h1, rfl⟩ := map_some hc; exact ⟨_, _, r.2.2, rfl, h1⟩
  · split at hc
    · obtain ⟨r, h1, hc⟩ := bind_some hc
      obtain ⟨x, h2, hc⟩ := bind_some hc
      obtain ⟨a, h3, hc⟩ := bind_some hc
      obtain ⟨b, h4, rfl⟩ := map_some hc
      exact ⟨_, _, r.2, _, _, _, rfl, h1, h2, h3, h4⟩
    · obtain ⟨r, h1, hc⟩ := bind_some hc
      obtain ⟨x, h2, hc⟩ := bind_some hc
      obtain ⟨a, h3, hc⟩ := bind_some hc
      obtain ⟨b, h4, rfl⟩ := map_some hc
      exact ⟨_, _, r.2.2, _, _, _, rfl, h1, h2, h3, h4⟩
  · obtain ⟨a, h3, hc⟩ := bind_some hc
    obtain ⟨b, h4, rfl⟩ := map_some hc
    exact ⟨_, _, rfl, h3, h4⟩
  · obtain ⟨x, h2, hc⟩ := bind_some hc
    obtain ⟨a, h3, hc⟩ := bind_some hc
    obtain ⟨b, h4, rfl⟩ := map_some hc
    exact ⟨_, _, _, rfl, h2, h3, h4⟩
  · split at hc
    · cases hc
    · rename_i hb
      obtain ⟨a, h3, rfl⟩ := map_some hc
      exact ⟨_, rfl, h3, by have : ¬ 1000000 ≤ _ := fun h => by rw [Nat.ble_eq_true_of_le h] at hb; cases hb
                            omega⟩
  · obtain ⟨a, h3, rfl⟩ := map_some hc; exact ⟨_, rfl, h3⟩
  · split at hc
    · cases hc
    · rename_i hb
      cases hc
      exact .inl ⟨rfl, by have : ¬ 1000000 ≤ _ := fun h => by rw [Nat.ble_eq_true_of_le h] at hb; cases hb
                          omega⟩
  · cases hc; exact .inr ⟨_, rfl, rfl⟩
  · cases hc; rfl
  · obtain ⟨a, h3, rfl⟩ := map_some hc; exact ⟨_, rfl, h3⟩
  · cases hc; rfl
  · obtain ⟨x, h2, hc⟩ := bind_some hc
    obtain ⟨ps, h5, hc⟩ := bind_some hc
    obtain ⟨a, h3, hc⟩ := bind_some hc
    obtain ⟨b, h4, hc⟩ := bind_some hc
    split at hc
    · rename_i hcm
      cases hc
      rw [Bool.and_eq_true] at hcm
      exact ⟨_, _, _, _, rfl, h2, h5, h3, h4, hcm.1, hcm.2⟩
    · cases hc
  · cases hc

/-! ### labels -/
theorem findLabel_shape : ∀ (c : Go.Code) (l : Nat) {r : Go.Code}, findLabel c l = some r → r = .skip ∨ ∃ x y, r = .seq x y
  | .seq a b, l, r, h => by
    simp only [findLabel] at h
    split at h
    · cases h; exact .inr ⟨_, _, rfl⟩
    · exact findLabel_shape b l h
  | .label l', l, r, h => by
    simp only [findLabel] at h
    split at h
    · cases h; exact .inl rfl
    · cases h
  | .skip, _, _, h | .region _ _ _, _, _, h | .cond _ _ _, _, _, h | .block _ _, _, _, h | .loop _, _, _, h | .rangeFunc _ _ _ _, _, _, h | .exit _, _, _, h | .scope _, _, _, h | .goto _, _, _, h | .ret, _, _, h | .refuse _, _, _, h => by cases h
theorem findL_ok {cD : List Nat → Array Oper → Option DR3} {nt : Nat} {nm : List Nat} (l : Nat) : ∀ {c' : Code} {c : Go.Code}, cCode P cD nt nm c = some c' →
    match findL c' l with
    | some r' => ∃ rest, findLabel c l = some rest ∧ cCode P cD nt nm rest = some r'
    | none => findLabel c l = none := by
  intro c'
  induction c' with
  | seq a' b' iha ihb =>
    intro c hc
    obtain ⟨ca, cb, rfl, hca, hcb⟩ := cCode_inv hc
    have h1 := iha hca
    have h2 := ihb hcb
    simp only [findL]
    cases hfa : findL a' l with
    | some r =>
      rw [hfa] at h1
      obtain ⟨rest, h3, h4⟩ := h1
      refine ⟨.seq rest cb, by simp only [findLabel, h3], ?_⟩
      rcases findLabel_shape ca l h3 with rfl | ⟨x, y, rfl⟩ <;> simp only [cCode, h4, hcb] <;> (try rfl)
      all_goals (simp only [cCode] at h4 ⊢; rw [h4]; simp [hcb])
    | none =>
      rw [hfa] at h1
      simp only at h1
      cases hfb : findL b' l with
      | some r =>
        rw [hfb] at h2
        obtain ⟨rest, h3, h4⟩ := h2
        exact ⟨rest, by simp only [findLabel, h1]; exact h3, h4⟩
      | none =>
        rw [hfb] at h2
        simp only [findLabel, h1]; exact h2
  | lab l' =>
    intro c hc
    have hi := cCode_inv hc
    simp only [CInv] at hi
    subst hi
    simp only [findL]
    cases hb : Nat.beq l' l with
    | true =>
      have := Nat.eq_of_beq_eq_true hb
      subst this
      exact ⟨.skip, by simp [findLabel], rfl⟩
    | false =>
      have hne : l' ≠ l := fun e => by subst e; simp at hb
      simp [findLabel, hne]
  | skip => intro c hc; have hi := cCode_inv hc; simp only [CInv] at hi; subst hi; rfl
  | ret => intro c hc; have hi := cCode_inv hc; simp only [CInv] at hi; subst hi; rfl
  | exit id => intro c hc; rcases cCode_inv hc with ⟨rfl, _⟩ | ⟨l, rfl, _⟩ <;> rfl
  | reg o => intro c hc; obtain ⟨id, ops, ls, rfl, _⟩ := cCode_inv hc; rfl
  | dreg o out => intro c hc; obtain ⟨id, ops, ls, rfl, _⟩ := cCode_inv hc; rfl
  | rc o x a b => intro c hc; obtain ⟨id, ops, ls, x', a', b', rfl, _⟩ := cCode_inv hc; rfl
  | dc o out x a b => intro c hc; obtain ⟨id, ops, ls, x', a', b', rfl, _⟩ := cCode_inv hc; rfl
  | cond x a b => intro c hc; obtain ⟨x', a', b', rfl, _⟩ := cCode_inv hc; rfl
  | block id a => intro c hc; obtain ⟨a', rfl, _⟩ := cCode_inv hc; rfl
  | loop a => intro c hc; obtain ⟨a', rfl, _⟩ := cCode_inv hc; rfl
  | rf x ps a b => intro c hc; obtain ⟨x', ps', a', b', rfl, _⟩ := cCode_inv hc; rfl
  | sc a => intro c hc; obtain ⟨a', rfl, _⟩ := cCode_inv hc; rfl
theorem findL_calm {l : Nat} : ∀ {c r : Code}, calm c = true → findL c l = some r → calm r = true := by
  intro c
  induction c with
  | seq a b iha ihb =>
    intro r hc hf
    simp only [calm, Bool.and_eq_true] at hc
    simp only [findL] at hf
    split at hf
    · rename_i r1 h1
      cases hf
      simp only [calm, Bool.and_eq_true]
      exact ⟨iha hc.1 h1, hc.2⟩
    · exact ihb hc.2 hf
  | lab l' =>
    intro r hc hf
    simp only [findL] at hf
    split at hf
    · cases hf; rfl
    · cases hf
  | _ => intro r hc hf; cases hf
/-- a scope that is jumped in at most once -/
theorem wpIn_scope1 {F : Fence} {m : Nat} {c : Go.Code} {Q : Exit → Act → World → Prop} {a : Act} {w : World}
    (first : c.wpIn F m P (fun e a w => match e with | .goto l => ∃ rest, findLabel c l = some rest ∧ rest.wpIn F m P (Exit.noGoto Q) a w | e => Q e a w) a w) : (Go.Code.scope c).wpIn F m P Q a w := by
  intro b k cs hro hb hr
  have sS : ∀ (a : Act) (w : World), step P (lone (b.atR a (.code (.scope c) :: k)) cs w) = .next (lone (b.atR a (.code c :: .inScope c :: k)) cs w) := fun a w => step_lone_go (by simp [stepG, stepG.exec, Frame.atR])
  have sI : ∀ (a : Act) (w : World), step P (lone (b.atR a (.inScope c :: k)) cs w) = .next (lone (b.atR a k) cs w) := fun a w => step_lone_go (by simp [stepG, stepG.exec, Frame.atR])
  have s0 : StepsIn (Machine.fenced P F) P (lone (b.atR a (.code (.scope c) :: k)) cs w) (lone (b.atR a (.code c :: .inScope c :: k)) cs w) := .one (fenced_calm hb hr rfl) (sS a w)
  obtain ⟨e, a₁, w₁, hq, harr⟩ := first b (.inScope c :: k) cs hro hb hr
  cases e with
  | normal => exact ⟨.normal, a₁, w₁, hq, .of_steps s0 (StepsIn.trans harr (.one (fenced_calm hb hr rfl) (sI _ _)))⟩
  | exit id => exact ⟨.exit id, a₁, w₁, hq, .of_steps s0 ⟨fun k' hk => harr.1 k' (by simp [exitTo, hk]), fun hr' hk => harr.2 hr' (by simp [exitTo, hk])⟩⟩
  | goto l =>
    obtain ⟨rest, hf, hrest⟩ := hq
    have hg : gotoIn l (.inScope c :: k) = some (.code rest :: .inScope c :: k) := by simp [gotoIn, hf]
    have s1 := s0.trans (harr.1 _ hg)
    obtain ⟨e2, a2, w2, hq2, harr2⟩ := hrest b (.inScope c :: k) cs hro hb hr
    cases e2 with
    | normal => exact ⟨.normal, a2, w2, hq2, .of_steps s1 (StepsIn.trans harr2 (.one (fenced_calm hb hr rfl) (sI _ _)))⟩
    | exit id => exact ⟨.exit id, a2, w2, hq2, .of_steps s1 ⟨fun k' hk => harr2.1 k' (by simp [exitTo, hk]), fun hr' hk => harr2.2 hr' (by simp [exitTo, hk])⟩⟩
    | goto l2 => exact hq2.elim
    | ret => exact ⟨_, a2, w2, hq2, .of_steps s1 harr2⟩
    | panic ch => exact ⟨_, a2, w2, hq2, .of_steps s1 harr2⟩
    | outgrown => exact ⟨_, a2, w2, hq2, .of_steps s1 harr2⟩
  | ret => exact ⟨_, a₁, w₁, hq, .of_steps s0 harr⟩
  | panic ch => exact ⟨_, a₁, w₁, hq, .of_steps s0 harr⟩
  | outgrown => exact ⟨_, a₁, w₁, hq, .of_steps s0 harr⟩

/-! ### a function is entered -/
theorem enter_sound {fid : Nat} {F : Func} {fn : Go.Func} {c : Go.Code} {nm : List Nat} (hF : FnIs P cD fid F fn c nm) {as : List AV} (hl : as.length = F.np) (hs : ScL (Up n) as) (hw : WRel (KLp P cD) E w h n) :
    SRel P cD E { tmps := (denL E as).toArray ++ Array.replicate (fn.ntmps - (denL E as).toArray.size) undef, defers := [] } w fn.ntmps nm (as ++ F.pad) [] h n := by
  have hsz : ((denL E as).toArray ++ Array.replicate (fn.ntmps - (denL E as).toArray.size) undef).size = max as.length fn.ntmps := by simp [denL_length]; omega
  refine ⟨?_, ⟨by simp [hl, hF.len], fun i t hi => ?_⟩, ScL_app hs ((ScL_iff _ _).2 fun v hv => by rw [hF.pad v hv]; simp [Sc]), hw, trivial⟩
  · simp only [hsz]; omega
  · have hsm := hF.small t (List.mem_of_getElem? hi)
    refine ⟨by rw [hsz]; omega, ?_⟩
    rw [Array.getD_eq_getD_getElem?, Array.getElem?_append, List.getD_eq_getElem?_getD]
    by_cases hlt : i < F.np
    · have h1 : (nm.take F.np)[i]? = some t := by rw [List.getElem?_take_of_lt hlt]; exact hi
      rw [hF.take, List.getElem?_range hlt] at h1
      have e : i = t := Option.some.inj h1
      subst e
      have h2 : i < as.length := hl ▸ hlt
      rw [if_pos (by simp [denL_length, h2]), denL_get, List.getElem?_append_left h2]
      simp [h2]
    · have h2 : ¬ t < F.np := fun ht => by
        have h1 : (nm.take F.np)[t]? = some t := by rw [hF.take, List.getElem?_range ht]
        rw [List.getElem?_take_of_lt ht] at h1
        exact hlt (nodup_inj hF.nodup hi h1 ▸ ht)
      rw [if_neg (by simp [denL_length, hl]; omega)]
      have h3 : as.length ≤ i := by omega
      rw [List.getElem?_append_right h3]
      have e1 : (F.pad[i - as.length]?).getD .und = .und := by
        cases hp : F.pad[i - as.length]? with
        | none => rfl
        | some v => exact hF.pad v (List.mem_of_getElem? hp)
      rw [e1]
      have e2 : ((Array.replicate (fn.ntmps - (denL E as).toArray.size) undef)[t - (denL E as).toArray.size]?).getD undef = undef := by
        rw [Array.getElem?_replicate]; split <;> rfl
      rw [e2]
      simp [den, denL, undef]

theorem enterK_ok {F : Func} {as : List AV} {k : Fr → Res} {no : Nat} {res : Res} (he : enterK (.no no) F as k = res) (hok : res.ok) : as.length = F.np ∧ k (as ++ F.pad) = res := by
  unfold enterK at he
  rw [isLen_eq, appK_eq] at he
  by_cases hl : as.length = F.np
  · simp [hl] at he; exact ⟨hl, he⟩
  · simp [hl] at he; subst he; exact hok.elim
theorem finK_ok {k : KV} {o : Option (List AV)} {res : Res} (he : finK k h n o = res) (hok : res.ok) : ∃ vs, o = some vs ∧ k (one vs) h n = res := by
  cases o with
  | none => have he' : Res.no 50 = res := he; subst he'; exact hok.elim
  | some vs => exact ⟨vs, rfl, he⟩
theorem noDs_ok {no : Nat} {k : Res} {ds : List Df} {res : Res} (he : noDs (.no no) k ds = res) (hok : res.ok) : ds = [] ∧ k = res := by
  cases ds with
  | nil => exact ⟨rfl, he⟩
  | cons d ds => have he' : Res.no no = res := he; subst he'; exact hok.elim
theorem DsR.nil {l : List Deferred} (hd : DsR E n [] l) : l = [] := by
  cases l with
  | nil => rfl
  | cons => exact hd.elim
end Go.X

namespace Go.X
variable [Sym]
variable {P : Program} {cD : Nat → List Nat → Array Oper → Option DR3} {E E' E1 : Env} {w w' w1 : World} {h h' h1 : HT} {n n' n1 : Pa}

/-! ### which operation an operation comes from -/
def IInv (P : Program) (R : Operand → Option Opd) (k : Kd) (op : Go.Op) : IOp → Prop
  | .o k' o => k' = k ∧ compOp P R op = some o
  | .call k' p as => k' = k ∧ ∃ c f, op = .call c ∧ c.callee = .value (.func f) ∧ fpa f = some p ∧ ros R c.args.toList = some as
  | .callv k' x as => k' = k ∧ ∃ c f, op = .call c ∧ c.callee = .value f ∧ R f = some x ∧ ros R c.args.toList = some as
  | .dfr k' x as => k' = k ∧ ∃ c f, op = .defer c ∧ c.callee = .value f ∧ R f = some x ∧ ros R c.args.toList = some as
  | .pan x => ∃ y, op = .panic y ∧ R y = some x
  | .rcv k' => k' = k ∧ ∃ c, op = .call c ∧ c.callee = .builtin .recover
  | .g _ _ _ _ => False
theorem cIOp_inv {R : Operand → Option Opd} {k : Kd} {op : Go.Op} {x : IOp} (hc : cIOp P R k op = some x) : IInv P R k op x := by
  unfold cIOp at hc
  split at hc
  · split at hc
    · obtain ⟨p, h1, hc⟩ := bind_some hc
      obtain ⟨as, h2, rfl⟩ := map_some hc
      exact ⟨rfl, _, _, rfl, ‹_›, h1, h2⟩
    · obtain ⟨p, h1, hc⟩ := bind_some hc
      obtain ⟨as, h2, rfl⟩ := map_some hc
      exact ⟨rfl, _, _, rfl, ‹_›, h1, h2⟩
    · cases hc
      exact ⟨rfl, _, rfl, ‹_›⟩
    · rename_i b hno hb
      obtain ⟨o, h1, rfl⟩ := map_some hc
      exact ⟨rfl, by simp only [compOp, hb]; exact h1⟩
    · cases hc
  · split at hc
    · obtain ⟨p, h1, hc⟩ := bind_some hc
      obtain ⟨as, h2, rfl⟩ := map_some hc
      exact ⟨rfl, _, _, rfl, ‹_›, h1, h2⟩
    · cases hc
  · obtain ⟨y, h1, rfl⟩ := map_some hc
    exact ⟨_, rfl, h1⟩
  · obtain ⟨o, h1, rfl⟩ := map_some hc
    exact ⟨rfl, h1⟩

theorem RRel.ro {a : Act} {nt : Nat} {nm ls : List Nat} {l : List AV} {f : Fr} {ds : List Df} (hr : RRel P cD E a w nt nm ls l f ds h n) (x : Operand) (y : Opd) (hx : ro ls nm x = some y) : a.eval x = den E (ev y l f) ∧ Sc (Up n) (ev y l f) :=
  ro_sound hr.s.fr hr.lr hr.s.sc hr.scl x y hx

/-! ### deferred calls -/
def DR.good : DR → Prop
  | .ok _ _ _ => True
  | .no _ => False
def PMu (E : Env) (n : Pa) : Option AV → FrameMode → Prop
  | some v, u => u = .panicking (pan (den E v)) ∧ Sc (Up n) v
  | none, u => u = .returning ∨ ∃ v, u = .panicking [{ v, recovered := true }]
theorem PMu.step {p : Option AV} {u : FrameMode} (hp : PMu E n p u) (s : Step E w h n E' w' h' n') : PMu E' n' p u := by
  cases p with
  | none => exact hp
  | some v => exact ⟨by rw [s.den hp.2]; exact hp.1, s.sc hp.2⟩
theorem orD_ok {k : AV → HT → Pa → DR} {o : OR} {res : DR} (he : orD k o = res) (hg : res.good) : ∃ v h' n', o = .ok v h' n' ∧ k v h' n' = res := by
  cases o with
  | ok v h' n' => exact ⟨v, h', n', rfl, he⟩
  | no m => have he' : DR.no m = res := he; subst he'; exact hg.elim
theorem putD_sound {a : Act} {nt : Nat} {nm ls : List Nat} {l : List AV} {f : Fr} {ds : List Df} {dst : Option Nat} {v : AV} {k : List AV → Fr → DR} {res : DR} (hr : RRel P cD E a w nt nm ls l f ds h n) (hn : nm.Nodup) (hls : Apart ls nm)
    (hd : ∀ t, dst = some t → t < nt) (hv : Sc (Up n) v) (e : putD v k (fndK nm dst).1 l f = res) :
    ∃ l' f', k l' f' = res ∧ RRel P cD E (a.put dst (den E v)) w nt nm (lsP ls (fndK nm dst).2) l' f' ds h n ∧ Apart (lsP ls (fndK nm dst).2) nm := by
  have key : ∀ (kd : Kd), ∃ l' f', putD v k kd l f = k l' f' ∧ ∀ (k2 : KF), putK v k2 kd l f = k2 l' f' := by
    intro kd
    cases kd with
    | p => exact ⟨_, _, rfl, fun _ => rfl⟩
    | w i => exact ⟨l, f.set i.nat v, by show setU v i f (k l) = _; rw [setU_eq], fun k2 => by show setU v i f (k2 l) = _; rw [setU_eq]⟩
    | n => exact ⟨_, _, rfl, fun _ => rfl⟩
  obtain ⟨l', f', h1, h2⟩ := key (fndK nm dst).1
  obtain ⟨l2, f2, h3, h4, h5⟩ := put_sound (k := fun l f => .nm (.ag l :: f) [] h n) hr hn hls hd hv (h2 _)
  cases h3
  exact ⟨l', f', h1 ▸ e, h4, h5⟩

section
variable {all : Array Oper} {nt : Nat} {nm : List Nat} {Q : Exit → Act → List Frame → World → Prop} {c₀ : Frame} {cs : List Frame}
theorem dOps_sound (hn : nm.Nodup) : ∀ (os : List Oper) (idx ls : List Nat) (os' : List IOp) (ls' : List Nat), idx.map (all[·]?) = os.map some → cOps P nm all.toList os ls = some (os', ls') → dstOk nt os = true → Apart ls nm →
    ∀ {k : KD} {E : Env} {a : Act} {w : World} {p : Option AV} {u : FrameMode} {l : List AV} {f : Fr} {ds : List Df} {h : HT} {n : Pa} {res : DR}, RRel P cD E a w nt nm ls l f ds h n → PMu E n p u → dOps os' k p l f h n = res → res.good →
    (∀ E' a' w' p' u' l' f' h' n', RRel P cD E' a' w' nt nm ls' l' f' ds h' n' → Apart ls' nm → PMu E' n' p' u' → Step E w h n E' w' h' n' → k p' l' f' h' n' = res → Q .normal a' ({ c₀ with mode := u' } :: cs) w') →
    wpOpsSIn (FW none) 0 P all Q idx a ({ c₀ with mode := u } :: cs) w
  | [], idx, ls, os', ls', hi, hc, _, hap, k, E, a, w, p, u, l, f, ds, h, n, res, hr, hp, he, hg, hk => by
    have : idx = [] := by simpa using hi
    subst this
    cases hc
    exact hk E a w p u l f h n hr hap hp (Step.refl _ _ _ _) he
  | o :: os, [], _, _, _, hi, _, _, _, _, _, _, _, _, _, _, _, _, _, _, _, _, _, _, _, _ => by simp at hi
  | o :: os, i :: idx, ls, os', ls', hi, hc, hdst, hap, k, E, a, w, p, u, l, f, ds, h, n, res, hr, hp, he, hg, hk => by
    simp only [List.map_cons, List.cons.injEq] at hi
    simp only [cOps] at hc
    obtain ⟨x, hx, hc⟩ := bind_some hc
    obtain ⟨x', hx', hc⟩ := bind_some hc
    obtain ⟨⟨xs, ls2⟩, hxs, hc⟩ := map_some hc
    cases hc
    simp only [dstOk, List.all_cons, Bool.and_eq_true] at hdst
    have hd : ∀ t, o.dst = some t → t < nt := fun t ht => by
      have := hdst.1
      rw [ht] at this
      simpa using this
    have hinv := cIOp_inv hx
    simp only [wpOpsSIn, hi.1]
    refine ⟨fun _ _ => trivial, ?_⟩
    have he' : dOp (dOps xs k) x' p l f h n = res := he
    cases hgd : o.guard with
    | some g =>
      exfalso
      simp only [cGuard, hgd] at hx'
      obtain ⟨o', _, hx'⟩ := bind_some hx'
      obtain ⟨t, _, hx'⟩ := bind_some hx'
      obtain ⟨y, _, rfl⟩ := map_some hx'
      have he2 : DR.no 60 = res := he'
      subst he2
      exact hg.elim
    | none =>
      simp only [cGuard, hgd] at hx'
      cases hx'
      have hwant : Region.wanted o (yielded all a.tmps) = true := by simp [Region.wanted, hgd]
      rw [if_pos hwant]
      -- behind one operation
      have next : ∀ E1 w1 p1 u1 v h1 n1, RRel P cD E1 a w1 nt nm ls l f ds h1 n1 → Sc (Up n1) v → PMu E1 n1 p1 u1 → Step E w h n E1 w1 h1 n1 → putD v (fun l f => dOps xs k p1 l f h1 n1) (fndK nm o.dst).1 l f = res →
          wpOpsSIn (FW none) 0 P all Q idx (a.put o.dst (den E1 v)) ({ c₀ with mode := u1 } :: cs) w1 := by
        intro E1 w1 p1 u1 v h1 n1 r1 sv pm st e1
        obtain ⟨l', f', e2, r2, ap2⟩ := putD_sound r1 hn hap hd sv e1
        exact dOps_sound hn os idx _ xs _ hi.2 hxs hdst.2 ap2 r2 pm e2 hg fun E' a' w' p' u' l' f' h' n' q1 q2 q3 q4 q5 => hk E' a' w' p' u' l' f' h' n' q1 q2 q3 (st.trans q4) q5
      cases x with
      | o kd o' =>
        obtain ⟨rfl, hco⟩ := hinv
        obtain ⟨v, h1, n1, hs, e1⟩ := orD_ok (o := sop o' l f h n) he' hg
        obtain ⟨E1, w1, nx, hrun, hnx, sv, wr1, st⟩ := sop_sound hr.ro hco hr.s.wr hs
        rw [hrun]
        have r1 := hr.step wr1 st
        rcases hnx with rfl | ⟨rfl, hu⟩
        · exact next E1 w1 p u v h1 n1 r1 sv (hp.step st) st e1
        · have := next E1 w1 p u v h1 n1 r1 sv (hp.step st) st e1
          rw [hu] at this; exact this
      | rcv kd =>
        obtain ⟨rfl, c, hop, hcal⟩ := hinv
        have hrun : (execOp a.eval o).run P w = .ok .recover w := by
          simp [execOp, hop, resolve, hcal, invoke, builtin]
        rw [hrun]
        cases p with
        | some v =>
          obtain ⟨rfl, sv⟩ := hp
          simp only [recoverD, pan]
          exact next E w none _ v h n hr sv (.inr ⟨_, rfl⟩) (Step.refl _ _ _ _) he'
        | none =>
          have hnone : recoverD ({ c₀ with mode := u } :: cs) = none := by
            rcases hp with rfl | ⟨v, rfl⟩ <;> rfl
          simp only [hnone]
          have := next E w none u .iz h n hr (by simp [Sc]) hp (Step.refl _ _ _ _) he'
          simpa [den] using this
      | call => have he2 : DR.no 60 = res := he'; subst he2; exact hg.elim
      | callv => have he2 : DR.no 60 = res := he'; subst he2; exact hg.elim
      | dfr => have he2 : DR.no 60 = res := he'; subst he2; exact hg.elim
      | pan => have he2 : DR.no 60 = res := he'; subst he2; exact hg.elim
      | g => exact hinv.elim
end

theorem range_map (ops : Array Oper) : (List.range ops.size).map (ops[·]?) = ops.toList.map some := by
  apply List.ext_getElem?
  intro i
  simp only [List.getElem?_map, List.getElem?_range']
  by_cases hi : i < ops.size
  · simp [List.getElem?_range hi, hi]
  · simp [hi]
theorem asB_ok {v : VB} {x : Bool} (h : v = .b x) : v = .b x := h

section
variable {nt : Nat} {nm : List Nat} {Q : Exit → Act → List Frame → World → Prop} {c₀ : Frame} {cs : List Frame}
/-- how a deferred body goes on -/
def DK (P : Program) (cD : Nat → List Nat → Array Oper → Option DR3) (Q : Exit → Act → List Frame → World → Prop) (c₀ : Frame) (cs : List Frame) (nt : Nat) (nm : List Nat) (ds : List Df) (E : Env) (w : World) (h : HT) (n : Pa) (k : KC) (res : DR) : Prop :=
  ∀ go E' a' w' p' u' f' h' n', SRel P cD E' a' w' nt nm f' ds h' n' → PMu E' n' p' u' → Step E w h n E' w' h' n' → k go p' f' h' n' = res → Q (if go = true then .normal else .ret) a' ({ c₀ with mode := u' } :: cs) w'
theorem dIf_ok {a b : DC} {v : VB} {p : Option AV} {f : Fr} {k : KC} {res : DR} (he : dIf a b v p f h n k = res) (hg : res.good) : ∃ x, v = .b x ∧ (if x = true then a else b) p f h n k = res := by
  cases v with
  | no => have he2 : DR.no 61 = res := he; subst he2; exact hg.elim
  | b x => exact ⟨x, rfl, by cases x <;> exact he⟩
/-- a region whose order is open, without calls -/
theorem sameD_ok {o : Op} {as : List U} {l : List AV} {f : Fr} {hs : List HT} {n0 : Pa} {k : AV → HT → Pa → DR} {r : OR} {res : DR} (he : sameD o as l f hs n0 k r = res) (hg : res.good) : ∃ v h' n', r = .ok v h' n' ∧ sameIn o v l f n' hs as = true ∧ k v h' n' = res := by
  cases r with
  | no m => have he2 : DR.no m = res := he; subst he2; exact hg.elim
  | ok v h' n' =>
    have he2 : ifB (sameIn o v l f n' hs as) (k v h' n') (.no 58) = res := he
    cases hs' : sameIn o v l f n' hs as with
    | true => rw [hs'] at he2; exact ⟨v, h', n', rfl, hs', he2⟩
    | false => rw [hs'] at he2; have he3 : DR.no 58 = res := he2; subst he3; exact hg.elim
theorem dD_ex {f : Fr} {ih : Ih} : ∀ (d : DOp) {k : KDH} {l : List AV} {hs : List HT} {h : HT} {n : Pa} {res : DR}, dD f k d l hs h n = res → res.good →
    ∃ l' hs' h' n', k l' hs' h' n' = res ∧ ∀ K : KH, exD .e ih f K d l hs h n = K l' hs' h' n' := by
  intro d
  induction d with
  | q o as =>
    intro k l hs h n res he hg
    obtain ⟨v, h', n', e1, e2, e3⟩ := sameD_ok (r := sop o l f h n) (n0 := n) (k := fun v h n => k (v :: l) hs h n) he hg
    refine ⟨v :: l, hs, h', n', e3, fun K => ?_⟩
    show sameK o as l f hs (fun v h n => K (v :: l) hs h n) (sop o l f h n) = _
    rw [e1]
    show ifB (sameIn o v l f n' hs as) _ _ = _
    rw [e2]; rfl
  | e o =>
    intro k l hs h n res he hg
    obtain ⟨v, h', n', e1, e2⟩ := orD_ok (o := sop o l f h n) he hg
    cases hok : okN n n' with
    | false =>
      rw [hok] at e2
      have he3 : DR.no 85 = res := e2
      subst he3; exact hg.elim
    | true =>
      rw [hok] at e2
      refine ⟨v :: l, h' :: hs, h', n', e2, fun K => ?_⟩
      show orK (fun v h n' => ifB (okN n n') (K (v :: l) (h :: hs) h n') (.no 85)) (sop o l f h n) = _
      rw [e1]
      show ifB (okN n n') _ _ = _
      rw [hok]; rfl
  | call g as => intro k l hs h n res he hg; have he2 : DR.no 69 = res := he; subst he2; exact hg.elim
  | callv g as => intro k l hs h n res he hg; have he2 : DR.no 69 = res := he; subst he2; exact hg.elim
  | g x b d ihd =>
    intro k l hs h n res he hg
    have he' : ifB (wanted b (asB (ev x l f))) (dD f k d l hs h n) (k (.und :: l) (ifB (isQ d) hs (h :: hs)) h n) = res := he
    have hx : ∀ K : KH, exD .e ih f K (.g x b d) l hs h n = ifB (wanted b (asB (ev x l f))) (exD .e ih f K d l hs h n) (K (.und :: l) (ifB (isQ d) hs (h :: hs)) h n) := fun _ => rfl
    cases hw : wanted b (asB (ev x l f)) with
    | true =>
      rw [hw] at he'
      obtain ⟨l', hs', h', n', e1, e2⟩ := ihd he' hg
      exact ⟨l', hs', h', n', e1, fun K => by rw [hx, hw]; exact e2 K⟩
    | false =>
      rw [hw] at he'
      exact ⟨_, _, _, _, he', fun K => by rw [hx, hw]; rfl⟩
theorem dDs_ex {f : Fr} {ih : Ih} : ∀ (ds : List DOp) {k : List AV → HT → Pa → DR} {l : List AV} {hs : List HT} {h : HT} {n : Pa} {res : DR}, dDs f ds k l hs h n = res → res.good →
    ∃ l' h' n', k l' h' n' = res ∧ ∀ K : KL, exDs .e ih f ds K l hs h n = K l' h' n'
  | [], k, l, hs, h, n, res, he, _ => ⟨l, h, n, he, fun _ => rfl⟩
  | d :: ds, k, l, hs, h, n, res, he, hg => by
    obtain ⟨l1, hs1, h1, n1, e1, e2⟩ := dD_ex (ih := ih) d (k := dDs f ds k) he hg
    obtain ⟨l', h', n', e3, e4⟩ := dDs_ex (ih := ih) ds e1 hg
    exact ⟨l', h', n', e3, fun K => by
      show exD .e ih f (exDs .e ih f ds K) d l hs h n = _
      rw [e2, e4]⟩
theorem outD_eq (l : List AV) : ∀ (out : List (U × U)) (f : Fr) (k : Fr → DR), outD l out f k = k (outF l out f)
  | [], f, k => rfl
  | x :: out, f, k => by
    show setU (nth x.2 l) x.1 f (fun f => outD l out f k) = _
    rw [setU_eq, outD_eq l out]; rfl
theorem codeOk_no : CodeOk P cD (fun _ _ _ _ _ => .no 0) := fun _ _ _ _ _ _ _ _ _ _ _ _ _ _ _ _ hok => hok.elim
theorem dCode_sound (hD : DOk P cD .e) (hn : nm.Nodup) : ∀ (c' : Code) (c : Go.Code), cCode P (cD nt) nt nm c = some c' → ∀ {Q : Exit → Act → List Frame → World → Prop} {k : KC} {E : Env} {a : Act} {w : World} {p : Option AV} {u : FrameMode} {f : Fr} {ds : List Df} {h : HT} {n : Pa} {res : DR}, SRel P cD E a w nt nm f ds h n → PMu E n p u →
    dCode c' p f h n k = res → res.good → DK P cD Q c₀ cs nt nm ds E w h n k res → c.wpSIn (FW none) 0 P Q a ({ c₀ with mode := u } :: cs) w := by
  intro c'
  induction c' with
  | skip =>
    intro c hc Q k E a w p u f ds h n res hr hp he hg hk
    have hi := cCode_inv hc
    simp only [CInv] at hi
    subst hi
    exact wpSIn_of_wpIn rfl (wpIn_skip (hk true E a w p u f h n hr hp (Step.refl _ _ _ _) he))
  | ret =>
    intro c hc Q k E a w p u f ds h n res hr hp he hg hk
    have hi := cCode_inv hc
    simp only [CInv] at hi
    subst hi
    exact wpSIn_of_wpIn rfl (wpIn_ret (hk false E a w p u f h n hr hp (Step.refl _ _ _ _) he))
  | reg ops' =>
    intro c hc Q k E a w p u f ds h n res hr hp he hg hk
    obtain ⟨id, ops, ls, rfl, hreg⟩ := cCode_inv hc
    unfold cReg at hreg
    split at hreg
    · rename_i hdst
      refine wpSIn_region (dOps_sound (l := []) hn _ _ [] _ _ (range_map ops) hreg hdst (fun t i hi => by cases hi) ⟨hr, (fun t i hi => by cases hi), trivial⟩ hp he hg ?_)
      intro E' a' w' p' u' l' f' h' n' q1 _ q3 q4 q5
      exact hk true E' a' w' p' u' f' h' n' q1.s q3 q4 q5
    · cases hreg
  | rc ops' x' a' b' iha ihb =>
    intro c hc Q k E a w p u f ds h n res hr hp he hg hk
    obtain ⟨id, ops, ls, x, ca, cb, rfl, hreg, hx, hca, hcb⟩ := cCode_inv hc
    unfold cReg at hreg
    split at hreg
    · rename_i hdst
      refine wpSIn_seq (wpSIn_region (dOps_sound (l := []) hn _ _ [] _ _ (range_map ops) hreg hdst (fun t i hi => by cases hi) ⟨hr, (fun t i hi => by cases hi), trivial⟩ hp he hg ?_))
      intro E' a2 w' p' u' l' f' h' n' q1 _ q3 q4 q5
      obtain ⟨t, ht, e2⟩ := dIf_ok q5 hg
      have hv := (q1.ro x x' hx).1
      rw [asB_b ht] at hv
      refine wpSIn_cond (t := t) (by rw [hv]; simp [den]) ?_
      have hk' : DK P cD Q c₀ cs nt nm ds E' w' h' n' k res := fun go E2 a3 w2 p2 u2 f2 h2 n2 r1 r2 r3 r4 => hk go E2 a3 w2 p2 u2 f2 h2 n2 r1 r2 (q4.trans r3) r4
      cases t with
      | true => exact iha ca hca q1.s q3 e2 hg hk'
      | false => exact ihb cb hcb q1.s q3 e2 hg hk'
    · cases hreg
  | seq a' b' iha ihb =>
    intro c hc Q k E a w p u f ds h n res hr hp he hg hk
    obtain ⟨ca, cb, rfl, hca, hcb⟩ := cCode_inv hc
    refine wpSIn_seq (iha ca hca hr hp he hg ?_)
    intro go E' a2 w' p' u' f' h' n' q1 q2 q3 q4
    cases go with
    | true => exact ihb cb hcb q1 q2 q4 hg fun go E2 a3 w2 p2 u2 f2 h2 n2 r1 r2 r3 r4 => hk go E2 a3 w2 p2 u2 f2 h2 n2 r1 r2 (q3.trans r3) r4
    | false => exact hk false E' a2 w' p' u' f' h' n' q1 q2 q3 q4
  | cond x' a' b' iha ihb =>
    intro c hc Q k E a w p u f ds h n res hr hp he hg hk
    obtain ⟨x, ca, cb, rfl, hx, hca, hcb⟩ := cCode_inv hc
    obtain ⟨t, ht, e2⟩ := dIf_ok he hg
    have hv := (ro_sound (ls := []) (l := []) hr.fr (fun t i hi => by cases hi) hr.sc trivial x x' hx).1
    rw [asB_b ht] at hv
    refine wpSIn_cond (t := t) (by rw [hv]; simp [den]) ?_
    cases t with
    | true => exact iha ca hca hr hp e2 hg hk
    | false => exact ihb cb hcb hr hp e2 hg hk
  | dreg o out =>
    intro c hc Q k E a w p u f ds h n res hr hp he hg hk
    obtain ⟨id, ops, L, rfl, hd⟩ := cCode_inv hc
    obtain ⟨l', h', n', e1, e2⟩ := dDs_ex (ih := fun _ _ _ _ _ => .no 0) o he hg
    have e1 : outD l' out f (fun f => k true p f h' n') = res := e1
    rw [outD_eq] at e1
    refine wpSIn_of_wpIn rfl (hD _ codeOk_no none nt nm id ops o out L hd hn _ (fun l h n => .nm [.ag l] [] h n) E a w f ds h n _ hr (e2 _) trivial ?_)
    intro E' a' w' l2 h2 n2 q1 _ q3 q4
    cases q4
    exact hk true E' a' w' p u _ _ _ q1 (hp.step q3) q3 e1
  | dc | block | loop | exit | rf | lab | sc =>
    intro c hc Q k E a w p u f ds h n res hr hp he hg hk
    have he2 : DR.no 63 = res := he
    subst he2
    exact hg.elim
end
end Go.X
