/- An executable reading of the model, its soundness over any program, and what it reads of this program. -/
import Derived.Test.YtfpdaeihlnlhcaaGreatUXSj
import Derived.Below
import Derived.Test.YtfpdaeihlnlhcaaGreatUXB
import Derived.KernelRfl
import Derived.ProofKit
import Derived.Deep.Slices
import Derived.Deep.Fields
import Derived.ChangeSame
set_option linter.unusedSectionVars false
set_option linter.unusedVariables false
set_option linter.unusedSimpArgs false
set_option linter.constructorNameAsVariable false
namespace Go.X
/-- none is wanted -/
@[reducible] def Sym.none : Sym := ⟨fun _ => .int .i64 0, (fun _ _ h => by cases h), (fun _ h => by cases h), (fun _ _ h => by cases h), (fun k => k % 2), (fun k => by omega), (by decide), False, 0, #[], 0, 0, 0, 0, (fun h => h.elim)⟩
attribute [local instance] Sym.none

/-! ### a table of functions -/
def nodupB : List Nat → Bool
  | [] => true
  | x :: l => !hasN x l && nodupB l
/-- k, k+1, .. : so many, then whatever -/
def fromB : Nat → Nat → List Nat → Bool
  | 0, _, _ => true
  | _ + 1, _, [] => false
  | m + 1, k, x :: l => Nat.beq x k && fromB m (k + 1) l
def allUnd : List AV → Bool
  | [] => true
  | .und :: l => allUnd l
  | _ :: _ => false
def smallB (nt : Nat) : List Nat → Bool
  | [] => true
  | x :: l => Nat.blt x nt && smallB nt l
noncomputable def look2 (P : Program) (nm : List Nat) (np : Nat) (pad : List AV) (fn : Go.Func) : Option Go.Code → Option (Code × List Rv)
  | none => none
  | some c => match nodupB nm && (fromB np 0 nm && (smallB fn.ntmps nm && (allUnd pad && Nat.beq nm.length (np + pad.length)))) with
    | true => (cCode P (cD P fn.ntmps) fn.ntmps nm c).bind fun b => (cRvs P nm fn.results.toList).map fun r => (b, r)
    | false => none
noncomputable def look (P : Program) (fid : Nat) (nm : List Nat) (np : Nat) (pad : List AV) : Option (Code × List Rv) :=
  match P.funcs[fid]? with
  | none => none
  | some fn => look2 P nm np pad fn fn.body
def nameOk (P : Program) (fid : Nat) : Bool := match P.funcs[fid]? with | some fn => !(fn.name == "runtime.NumGoroutine") | none => false

theorem nodupB_sound : ∀ {l : List Nat}, nodupB l = true → l.Nodup
  | [], _ => List.nodup_nil
  | x :: l, h => by
    simp only [nodupB, Bool.and_eq_true, Bool.not_eq_true'] at h
    rw [List.nodup_cons]
    refine ⟨fun hx => ?_, nodupB_sound h.2⟩
    have h1 := h.1
    rw [hasN_iff.2 hx] at h1
    cases h1
theorem fromB_sound : ∀ {m k : Nat} {l : List Nat}, fromB m k l = true → l.take m = List.range' k m
  | 0, k, l, _ => by simp
  | m + 1, k, [], h => by cases h
  | m + 1, k, x :: l, h => by
    simp only [fromB, Bool.and_eq_true] at h
    rw [List.take_succ_cons, fromB_sound h.2, Nat.eq_of_beq_eq_true h.1]
    rfl
theorem allUnd_sound : ∀ {l : List AV}, allUnd l = true → ∀ v ∈ l, v = .und
  | [], _, v, hv => by cases hv
  | x :: l, h, v, hv => by
    cases x <;> simp only [allUnd, Bool.false_eq_true] at h
    rcases List.mem_cons.1 hv with rfl | hv
    · rfl
    · exact allUnd_sound h v hv
theorem smallB_sound {nt : Nat} : ∀ {l : List Nat}, smallB nt l = true → ∀ t ∈ l, t < nt
  | [], _, v, hv => by cases hv
  | x :: l, h, v, hv => by
    simp only [smallB, Bool.and_eq_true] at h
    rcases List.mem_cons.1 hv with rfl | hv
    · simpa using h.1
    · exact smallB_sound h.2 v hv
theorem fnOk_mk {P : Program} {fid : Nat} {F : Func} {nm : List Nat} (hn : nameOk P fid = true) (h : look P fid nm F.np F.pad = some (F.body, F.res)) (hins : F.ins = false) (hsp : SpOk P fid F.sp) : FnOk P (cD P) fid F := by
  unfold look at h
  split at h
  · cases h
  · rename_i fn hfn
    unfold nameOk at hn
    rw [hfn] at hn
    generalize hb : fn.body = b at h
    unfold look2 at h
    split at h
    · cases h
    · split at h
      · rename_i hc
        simp only [Bool.and_eq_true] at hc
        obtain ⟨b, h1, h⟩ := bind_some h
        obtain ⟨r, h2, h⟩ := map_some h
        cases h
        refine ⟨fn, _, nm, hfn, hb, by simpa using hn, nodupB_sound hc.1, h1, h2, ?_, Nat.eq_of_beq_eq_true hc.2.2.2.2, allUnd_sound hc.2.2.2.1, smallB_sound hc.2.2.1, hins, hsp⟩
        rw [fromB_sound hc.2.1, List.range_eq_range']
      · cases h
/-- all leaves of a tree -/
def TAll {α : Type} : (Pa → α → Prop) → T α → Prop
  | _, .e => True
  | Q, .v x => Q [] x
  | Q, .n a b c d => TAll (fun p => Q (.a :: p)) a ∧ TAll (fun p => Q (.b :: p)) b ∧ TAll (fun p => Q (.c :: p)) c ∧ TAll (fun p => Q (.d :: p)) d
theorem TAll.get {α : Type} : ∀ {t : T α} {Q : Pa → α → Prop} {p : Pa} {x : α}, TAll Q t → t.get p = some x → Q p x
  | .e, Q, p, x, _, hg => by rw [T.get_e] at hg; cases hg
  | .v y, Q, [], x, h, hg => by cases hg; exact h
  | .v y, Q, _ :: _, x, h, hg => by rw [T.get_v_cons] at hg; cases hg
  | .n a b c d, Q, [], x, h, hg => by cases hg
  | .n a b c d, Q, q :: p, x, h, hg => by
    rw [T.get_n] at hg
    cases q with
    | a => exact TAll.get (Q := fun p => Q (.a :: p)) h.1 hg
    | b => exact TAll.get (Q := fun p => Q (.b :: p)) h.2.1 hg
    | c => exact TAll.get (Q := fun p => Q (.c :: p)) h.2.2.1 hg
    | d => exact TAll.get (Q := fun p => Q (.d :: p)) h.2.2.2 hg
/-- of a table: a function whose code is looked at, or slices.Insert -/
def FnIn (P : Program) (cD : Nat → List Nat → Array Oper → Option DR3) (fid : Nat) (F : Func) : Prop := FnOk P cD fid F ∨ (F.ins = true ∧ F.dfr = true ∧ InsOk P fid)
theorem tabOk_e {P : Program} : TabOk P (cD P) .e := ⟨fun p F hg => (by rw [T.get_e] at hg; cases hg), fun ⟨p, F, hg⟩ => (by rw [T.get_e] at hg; cases hg)⟩
theorem tabOk_of {P : Program} (hm : P.follows .mixedOrders = true) {ft : T Func} (h : TAll (fun p F => FnIn P (cD P) (val p) F) ft) : TabOk P (cD P) ft := ⟨fun _ _ hg => h.get hg, fun _ inst => @d_ok inst P .e hm tabOk_e⟩
theorem exec_ok [Sym] {P : Program} {ft : T Func} (hm : P.follows .mixedOrders = true) (hft : TabOk P (cD P) ft) (fuel : Nat) : CodeOk P (cD P) (ex ft fuel) := ex_sound hft (d_ok hm hft) fuel
end Go.X

namespace Go.X
variable [Sym]
variable {F : Fence} {n : Nat} {P : Program} {ops : Array Oper} {Q : Exit → Act → World → Prop}

/-- a region in two -/
theorem uponIn_then {o : Oper} {a : Act} {next : Act → World → Prop} {nx : Act → World → Prop} {r : Result Next} (h : o.uponIn F n P a next (Exit.then nx Q) r) : o.uponIn F n P a next Q r := h
theorem wpOpsIn_append : ∀ (l1 l2 : List Nat) (a : Act) (w : World), wpOpsIn F n P ops (Exit.then (wpOpsIn F n P ops Q l2) Q) l1 a w → wpOpsIn F n P ops Q (l1 ++ l2) a w
  | [], l2, a, w, h => h
  | i :: l1, l2, a, w, h => by
    simp only [List.cons_append, wpOpsIn] at h ⊢
    have ih := wpOpsIn_append l1 l2
    have up : ∀ (o : Oper) (r : Result Next), o.uponIn F n P a (wpOpsIn F n P ops (Exit.then (wpOpsIn F n P ops Q l2) Q) l1) (Exit.then (wpOpsIn F n P ops Q l2) Q) r → o.uponIn F n P a (wpOpsIn F n P ops Q (l1 ++ l2)) Q r := by
      intro o r hr
      cases r with
      | halt e w' => cases e <;> exact hr
      | ok nx w' =>
        cases nx with
        | value v => exact ih _ _ hr
        | skip => exact ih _ _ hr
        | defer d => exact ih _ _ hr
        | enter f args => exact ⟨hr.1, hr.2.mono fun e w'' he => by cases e <;> first | exact ih _ _ he | exact he⟩
        | row row args => exact ⟨hr.1, hr.2.mono fun v w'' he => ih _ _ he⟩
        | round l f tmps as body => exact ⟨hr.1, hr.2.mono fun e w'' he => by cases e <;> first | exact ih _ _ he | exact he⟩
        | _ => exact hr
    cases ho : ops[i]? with
    | none => rw [ho] at h; exact ih _ _ h
    | some o =>
      rw [ho] at h
      simp only at h ⊢
      split
      · rename_i hw
        rw [if_pos hw] at h
        exact ⟨h.1, up o _ h.2⟩
      · rename_i hw
        rw [if_neg hw] at h
        exact ⟨h.1, ih _ _ h.2⟩
end Go.X

namespace Go.X
open Go.RowKit
variable {P : Program} {ft : T Func}

theorem wrel_empty [Sym] {cX : Nat → List Nat → Array Oper → Option DR3} (E : Env) (w : World) (n : Pa) (ha : Sym.has → ∃ el z, w.heap[Sym.ab]? = some (.cells Sym.ac el z)) : WRel (KLp P cX) E w .e n :=
  ⟨(fun p hp => absurd (T.get_e p) hp.2), (fun p b _ hb => by rw [T.get_e] at hb; cases hb), (fun p q hp _ _ => absurd (T.get_e p) hp.2), (fun hh => ⟨ha hh, fun p hp => absurd (T.get_e p) hp.2⟩)⟩
theorem Step.below {E E' : Env} {w w' : World} {h' : HT} {n n' : Pa} (s : Step E w .e n E' w' h' n') : Below w.heap.size w w' :=
  ⟨s.os, s.tape, s.output, s.size, fun k hk => s.keep k hk fun p hp => absurd (T.get_e p) hp.2⟩

/-- the round's head: is there a round more? -/
def headOps (lim : Nat) : List IOp := [.o .p (.u .mv (.f (.s (.s .z)))), .o .p (.u .mv (.f .z)), .o .p (.u .len (.l .z)), .o .p (.b .lt (.l (.s (.s .z))) (.l .z)), .o .p (.u .mv (.l .z)),
  .g (.l .z) true .p (.o .p (.u .mv (.f (.s (.s .z))))), .g (.l (.s .z)) true .p (.o .p (.b .lt (.l .z) (.c (.i .i64 (.ofNat lim))))), .o .p (.pick (.l (.s (.s .z))) (.l .z) (.c (.b false)))]
def headC (lim : Nat) : Code := .rc (headOps lim) (.l .z) .skip (.exit 0)
/-- a slice, as it came in -/
inductive SliceAV (E : Env) : AV → Value → Nat → Prop
  | nil : SliceAV E .sn (.slice none 0 0) 0
  | some (off len cap : Nat) : SliceAV E (.sl n0 off len (.ex cap)) (.slice (some ⟨E.blk n0, off, none⟩) len cap) len
theorem SliceAV.den [Sym] {E : Env} {av : AV} {v : Value} {len : Nat} (h : SliceAV E av v len) : den E av = v := by cases h <;> simp [Go.X.den]
theorem SliceAV.sc [Sym] {E : Env} {av : AV} {v : Value} {len : Nat} (h : SliceAV E av v len) : Sc (Up n1) av := by
  cases h
  · simp [Sc]
  · simp only [Sc]; exact ⟨rfl, by decide⟩
theorem head_run {E : Env} {av : AV} {v : Value} {len lim i : Nat} (hs : SliceAV E av v len) (J : List AV) :
    ex ft 2 (headC lim) (av :: .b false :: .i .i64 (.ofNat i) :: J) [] .e n1 = if i < len ∧ i < lim then .nm (av :: .b false :: .i .i64 (.ofNat i) :: J) [] .e n1 else .ex 0 (av :: .b false :: .i .i64 (.ofNat i) :: J) [] .e n1 := by
  have key : ∀ (b1 b2 : Bool), (exOps ft (ex ft 1) [.o .p (.u .mv (.l .z)),
      .g (.l .z) true .p (.o .p (.u .mv (.f (.s (.s .z))))), .g (.l (.s .z)) true .p (.o .p (.b .lt (.l .z) (.c (.i .i64 (.ofNat lim))))), .o .p (.pick (.l (.s (.s .z))) (.l .z) (.c (.b false)))]
      (fun l f => condK (ex ft 1) .skip (.exit 0) (asB (ev (.l .z) l f)) f) [.b b1, .i .i64 (.ofNat len), av, .i .i64 (.ofNat i)] (av :: .b false :: .i .i64 (.ofNat i) :: J) [] .e n1) =
      ifB b1 (ifB (bnot (Nat.ble lim i)) (.nm (av :: .b false :: .i .i64 (.ofNat i) :: J) [] .e n1) (.ex 0 (av :: .b false :: .i .i64 (.ofNat i) :: J) [] .e n1)) (.ex 0 (av :: .b false :: .i .i64 (.ofNat i) :: J) [] .e n1) := by
    intro b1 b2
    cases b1 with
    | false => rfl
    | true =>
      have e1 : ∀ x : Bool, exOps ft (ex ft 1) [.o .p (.pick (.l (.s (.s .z))) (.l .z) (.c (.b false)))] (fun l f => condK (ex ft 1) .skip (.exit 0) (asB (ev (.l .z) l f)) f)
          [.b x, .i .i64 (.ofNat i), .b true, .b true, .i .i64 (.ofNat len), av, .i .i64 (.ofNat i)] (av :: .b false :: .i .i64 (.ofNat i) :: J) [] .e n1 =
          ifB x (.nm (av :: .b false :: .i .i64 (.ofNat i) :: J) [] .e n1) (.ex 0 (av :: .b false :: .i .i64 (.ofNat i) :: J) [] .e n1) := by intro x; cases x <;> rfl
      exact e1 (bnot (Nat.ble lim i))
  have h1 : ex ft 2 (headC lim) (av :: .b false :: .i .i64 (.ofNat i) :: J) [] .e n1 = ifB (bnot (Nat.ble len i)) (ifB (bnot (Nat.ble lim i)) (.nm (av :: .b false :: .i .i64 (.ofNat i) :: J) [] .e n1) (.ex 0 (av :: .b false :: .i .i64 (.ofNat i) :: J) [] .e n1)) (.ex 0 (av :: .b false :: .i .i64 (.ofNat i) :: J) [] .e n1) := by
    rw [← key (bnot (Nat.ble len i)) true]
    cases hs <;> rfl
  rw [h1, ifB_eq, ifB_eq]
  simp only [bnot_eq, Bool.not_eq_true', ← Bool.not_eq_true, Nat.ble_eq, Nat.not_le]
  by_cases a1 : i < len <;> by_cases a2 : i < lim <;> simp [a1, a2]
end Go.X

namespace Go.X
open Go.RowKit
variable {P : Program} {ft : T Func}

theorem Code.wpIn_of [Sym] (hm : P.follows .mixedOrders = true) (hft : TabOk P (cD P) ft) {nt : Nat} {nm : List Nat} {c : Go.Code} {c' : Code} {fuel : Nat} {E : Env} {a : Act} {w : World} {f : Fr} {ds : List Df} {h : HT} {n : Pa} {r : Res} (hc : cCode P (cD P nt) nt nm c = some c') (hn : nm.Nodup)
    (hr : SRel P (cD P) E a w nt nm f ds h n) (he : ex ft fuel c' f ds h n = r) (hok : r.ok) : c.wpIn (FW none) 0 P (PostR P (cD P) E w h n nt nm r) a w := by
  subst he
  exact (exec_ok hm hft fuel none nt nm c c' E a w f ds h n hc hn (fun h => absurd rfl h) hr hok).1

/-- what may lie in a slot that a round leaves behind -/
def Junk (x : Value) : Prop := (∀ c, x ≠ .agg c) ∧ x ≠ .nilIface ∧ ∀ b, x ≠ .bool b
theorem Sym.junk [Sym] (k : Nat) : Junk (Sym.val k) := ⟨Sym.one k, Sym.nn k, Sym.nb k⟩
theorem getD_junk {l : List Value} (h : ∀ x ∈ l, Junk x) (k : Nat) : Junk (l.getD k (.int .i64 0)) := by
  rw [List.getD_eq_getElem?_getD]
  cases hk : l[k]? with
  | none => exact ⟨(fun c h => by cases h), (fun h => by cases h), (fun b h => by cases h)⟩
  | some x => exact h x (List.mem_of_getElem? hk)
/-- what a slot of a bool may hold behind a round: nothing that is looked at, or a bool -/
def JunkF (b : Bool) (o : Option Bool) (x : Value) : Prop := match b, o with
  | true, some c => x = .bool c
  | _, _ => Junk x
/-- what is left of the round before, as it is looked at -/
def jfr (ch : Nat → Option Bool) : List Bool → Nat → List AV
  | [], _ => []
  | b :: l, k => lv b (ch k) k :: jfr ch l (k + 1)
theorem jfr_len (ch : Nat → Option Bool) : ∀ (l : List Bool) (k : Nat), (jfr ch l k).length = l.length
  | [], _ => rfl
  | b :: l, k => by simp [jfr, jfr_len ch l]
theorem jfr_get (ch : Nat → Option Bool) : ∀ (l : List Bool) (k j : Nat), (jfr ch l k)[j]? = (l[j]?).map fun b => lv b (ch (k + j)) (k + j)
  | [], _, _ => by simp [jfr]
  | b :: l, k, 0 => by simp [jfr]
  | b :: l, k, j + 1 => by
    simp only [jfr, List.getElem?_cons_succ]
    rw [jfr_get ch l (k + 1) j, show k + 1 + j = k + (j + 1) by omega]
def jval : Value → Value
  | .bool _ => .int .i64 0
  | x => x
theorem Junk.val {x : Value} (h : Junk x) : jval x = x := by
  cases x <;> first | rfl | exact absurd rfl (h.2.2 _)
theorem junk_int (k : IntKind) (n : Int) : Junk (.int k n) := ⟨(fun c h => by cases h), (fun h => by cases h), (fun b h => by cases h)⟩
theorem JunkF.junk {b : Bool} {o : Option Bool} {x : Value} (h : JunkF b o x) : Junk (jval x) := by
  unfold JunkF at h
  split at h
  · subst h; exact junk_int _ _
  · rw [h.val]; exact h
@[reducible] def symX (l : List Value) (h : ∀ x ∈ l, Junk x) (wv : Nat → Nat) (hw : ∀ k, wv k ≤ 18446744073709551615) (ho : IntKind.wrap .i64 (wv 0 : Int) < IntKind.wrap .i64 (wv 1 : Int))
    (has : Prop) (ab : Nat) (ac : Array Value) (aoff alen acap ai : Nat) (hi : has → ai < alen) : Sym :=
  ⟨fun k => l.getD k (.int .i64 0), fun k => (getD_junk h k).1, fun k => (getD_junk h k).2.1, fun k => (getD_junk h k).2.2, wv, hw, ho, has, ab, ac, aoff, alen, acap, ai, hi⟩
@[reducible] def symOf (l : List Value) (h : ∀ x ∈ l, Junk x) : Sym := symX l h (fun k => k % 2) (fun k => by omega) (by decide) False 0 #[] 0 0 0 0 (fun h => h.elim)
/-- a frame: the argument, the result, the round, and what is left of the round before -/
structure FR3 (ok : Bool) (js : List Nat) (fl : List Bool) (ch : Nat → Option Bool) (v : Value) (i : Nat) (a : Act) (nt : Nat) : Prop where
  nt : nt ≤ a.tmps.size
  df : a.defers = []
  s0 : a.tmps.getD 0 undef = v
  s2 : a.tmps.getD 2 undef = .bool false
  s3 : a.tmps.getD 3 undef = .int .i64 (i : Int)
  jk : ∀ (k t : Nat) (b : Bool), js[k]? = some t → fl[k]? = some b → JunkF b (ch k) (a.tmps.getD t undef)
  al : ∀ (k : Nat) (b : Bool), ch k = some b → (b || ok) = true
def nmJ (js : List Nat) : List Nat := 0 :: 2 :: 3 :: js
def frJ (fl : List Bool) (ch : Nat → Option Bool) (x y z : AV) : Fr := x :: y :: z :: jfr ch fl 0
/-- the slots hold what the frame says -/
def SlotsJ [Sym] (js : List Nat) (fl : List Bool) (ch : Nat → Option Bool) (tmps : Array Value) : Prop := ∀ (k t : Nat) (b : Bool), js[k]? = some t → fl[k]? = some b → ∀ E, tmps.getD t undef = den E (lv b (ch k) k)
theorem slots_of {js : List Nat} {fl : List Bool} {ch : Nat → Option Bool} {tmps : Array Value} {inst : Sym} (hv : ∀ (k t : Nat), js[k]? = some t → inst.val k = jval (tmps.getD t undef))
    (hj : ∀ (k t : Nat) (b : Bool), js[k]? = some t → fl[k]? = some b → JunkF b (ch k) (tmps.getD t undef)) : SlotsJ js fl ch tmps := fun k t b h1 h2 E => by
  have h3 := hj k t b h1 h2
  have h4 := hv k t h1
  unfold JunkF at h3
  unfold lv
  cases b with
  | false => simp only [den]; rw [h4, h3.val]
  | true =>
    cases hc : ch k with
    | none =>
      rw [hc] at h3
      simp only [den]
      rw [h4, Junk.val h3]
    | some c =>
      rw [hc] at h3
      have h3 : tmps.getD t undef = .bool c := h3
      rw [h3]; simp [den]
theorem map_jval {js : List Nat} {tmps : Array Value} {k t : Nat} (h : js[k]? = some t) (rest : List Value) : ((js.map fun t => jval (tmps.getD t undef)) ++ rest).getD k (.int .i64 0) = jval (tmps.getD t undef) := by
  have hlt := (List.getElem?_eq_some_iff.1 h).1
  rw [List.getD_eq_getElem?_getD, List.getElem?_append_left (by simpa using hlt), List.getElem?_map, h]
  rfl
theorem all_jval {js : List Nat} {fl : List Bool} {ch : Nat → Option Bool} {tmps : Array Value} (hl : js.length = fl.length) (hj : ∀ (k t : Nat) (b : Bool), js[k]? = some t → fl[k]? = some b → JunkF b (ch k) (tmps.getD t undef)) :
    ∀ x ∈ js.map fun t => jval (tmps.getD t undef), Junk x := fun x hx => by
  obtain ⟨t, ht, rfl⟩ := List.mem_map.1 hx
  obtain ⟨k, hk⟩ := List.mem_iff_getElem?.1 ht
  have hlt := (List.getElem?_eq_some_iff.1 hk).1
  exact (hj k t _ hk (List.getElem?_eq_getElem (by omega))).junk
theorem FR3.sym {ok : Bool} {js : List Nat} {fl : List Bool} {ch : Nat → Option Bool} {v : Value} {i nt : Nat} {a : Act} (hl : js.length = fl.length) (h : FR3 ok js fl ch v i a nt) : ∃ inst : Sym, ¬ inst.has ∧ @SlotsJ inst js fl ch a.tmps := by
  refine ⟨symOf _ (all_jval hl h.jk), id, ?_⟩
  exact slots_of (inst := symOf _ (all_jval hl h.jk)) (fun k t hk => by
    have := map_jval (tmps := a.tmps) hk []
    rw [List.append_nil] at this
    exact this) h.jk
section
variable [Sym] {ok : Bool} {E : Env} {av : AV} {v : Value} {len i nt : Nat} {a : Act} {w : World} {js : List Nat} {fl : List Bool} {ch : Nat → Option Bool}
theorem lv_sc (S : Pa → Prop) (b : Bool) (o : Option Bool) (k : Nat) : Sc S (lv b o k) := by
  unfold lv; split <;> simp [Sc]
theorem jfr_sc (S : Pa → Prop) (l : List Bool) (k : Nat) : ScL S (jfr ch l k) := (ScL_iff _ _).2 fun u hu => by
  obtain ⟨j, hj⟩ := List.mem_iff_getElem?.1 hu
  rw [jfr_get] at hj
  cases hb : l[j]? with
  | none => rw [hb] at hj; cases hj
  | some b => rw [hb] at hj; cases hj; exact lv_sc S _ _ _
theorem srelJ {x y z : AV} (hl : js.length = fl.length) (h0 : nt ≤ a.tmps.size) (h1 : a.defers = []) (h4 : 4 ≤ nt) (hj : ∀ t ∈ js, t < nt) (hS : SlotsJ js fl ch a.tmps) {m : Pa} (ha : Sym.has → ∃ el z, w.heap[Sym.ab]? = some (.cells Sym.ac el z))
    (e0 : a.tmps.getD 0 undef = den E x) (e2 : a.tmps.getD 2 undef = den E y) (e3 : a.tmps.getD 3 undef = den E z) (sx : Sc (Up m) x) (sy : Sc (Up m) y) (sz : Sc (Up m) z) :
    SRel P (cD P) E a w nt (nmJ js) (frJ fl ch x y z) [] .e m := by
  refine ⟨h0, ⟨by simp [nmJ, frJ, jfr_len, hl], fun j t hjt => ?_⟩, ⟨sx, sy, sz, jfr_sc _ _ _⟩, wrel_empty _ _ _ ha, by rw [h1]; trivial⟩
  match j, hjt with
  | 0, hj => cases hj; exact ⟨by omega, e0⟩
  | 1, hj => cases hj; exact ⟨by omega, e2⟩
  | 2, hj => cases hj; exact ⟨by omega, e3⟩
  | j + 3, hjt =>
    have hjt' : js[j]? = some t := hjt
    have hlt := (List.getElem?_eq_some_iff.1 hjt').1
    have hb : fl[j]? = some (fl[j]'(by omega)) := List.getElem?_eq_getElem (by omega)
    refine ⟨Nat.lt_of_lt_of_le (hj t (List.mem_of_getElem? hjt')) h0, ?_⟩
    rw [hS j t _ hjt' hb E]
    show _ = den E ((jfr ch fl 0).getD j .und)
    rw [List.getD_eq_getElem?_getD, jfr_get, hb]
    simp
theorem FR3.srel (hs : SliceAV E av v len) (hl : js.length = fl.length) (h4 : 4 ≤ nt) (hj : ∀ t ∈ js, t < nt) (h : FR3 ok js fl ch v i a nt) (hn : ¬ Sym.has) (hS : SlotsJ js fl ch a.tmps) : SRel P (cD P) E a w nt (nmJ js) (frJ fl ch av (.b false) (.i .i64 (.ofNat i))) [] .e n1 :=
  srelJ hl h.nt h.df h4 hj hS (fun hh => absurd hh hn) (by rw [h.s0, hs.den]) (by rw [h.s2]; simp [den]) (by rw [h.s3]; simp [den]) hs.sc (by simp [Sc]) (by simp [Sc])
theorem FRel.slots {E : Env} {x y z : AV} {tmps : Array Value} (h : FRel E (nmJ js) (frJ fl ch x y z) tmps) : tmps.getD 0 undef = den E x ∧ tmps.getD 2 undef = den E y ∧ tmps.getD 3 undef = den E z ∧
    ∀ (k t : Nat) (b : Bool), js[k]? = some t → fl[k]? = some b → JunkF b (ch k) (tmps.getD t undef) :=
  ⟨(h.2 0 0 rfl).2, (h.2 1 2 rfl).2, (h.2 2 3 rfl).2, fun k t b hk hb => by
    rw [(h.2 (k + 3) t hk).2]
    show JunkF b (ch k) (den E ((jfr ch fl 0).getD k .und))
    rw [List.getD_eq_getElem?_getD, jfr_get, hb]
    simp only [Option.map_some, Option.getD_some, Nat.zero_add]
    unfold JunkF lv
    cases b with
    | false => simp only [den]; exact Sym.junk k
    | true =>
      cases ch k with
      | none => simp only [den]; exact Sym.junk k
      | some c => simp [den]⟩
end
theorem SliceAV.step [Sym] {E E' : Env} {av : AV} {v : Value} {len : Nat} {w w' : World} {h' : HT} {n' : Pa} (hs : SliceAV E av v len) (q : Step E w .e n1 E' w' h' n') : SliceAV E' av v len := by
  cases hs with
  | nil => exact .nil
  | some off len cap =>
    have := q.env n0 rfl (fun hh => absurd hh.1 (by decide))
    rw [← this.1]; exact .some off len cap

def r0C : Code := .reg [.o (.w (.s .z)) (.u .mv (.c (.b false)))]
def r1C : Code := .reg [.o (.w (.s (.s .z))) (.u .mv (.c (.i .i64 (.ofNat 0))))]
def r3C : Code := .reg [.o .p (.u .mv (.f (.s (.s .z)))), .o .p (.b .add (.l .z) (.c (.i .i64 (.ofNat 1)))), .o (.w (.s (.s .z))) (.u .mv (.l .z))]
def tailC (fw : Pa) : Code := .seq (.reg [.call .p fw [], .o (.w (.s .z)) (.u .mv (.l .z))]) .ret
theorem r3_run {fl : List Bool} {ch : Nat → Option Bool} {av : AV} {i : Nat} (hi : i < 1000) : ex ft 2 r3C (frJ fl ch av (.b false) (.i .i64 (.ofNat i))) [] .e n1 = .nm (frJ fl ch av (.b false) (.i .i64 (.ofNat (i + 1)))) [] .e n1 := by
  have h1 : ex ft 2 r3C (frJ fl ch av (.b false) (.i .i64 (.ofNat i))) [] .e n1 = exOps ft (ex ft 1) [.o (.w (.s (.s .z))) (.u .mv (.l .z))] (fun _ => Res.nm) [.i .i64 (wrS (.ofNat (i + 1))), .i .i64 (.ofNat i)] (frJ fl ch av (.b false) (.i .i64 (.ofNat i))) [] .e n1 := by
    show orK _ (orV (okI .i64 (wrapF .i64 (iadd (.ofNat i) (.ofNat 1)))) .e n1) = _
    simp only [okI, forceI_eq]
    rfl
  rw [h1, wrS_eq, show (Int.ofNat (i + 1)) = ((i + 1 : Nat) : Int) from rfl, wrap_i64_small _ (by omega) (by omega)]
  rfl
theorem tail_run [Sym] {fl : List Bool} {ch : Nat → Option Bool} {fw : Pa} {fuel : Nat} {av : AV} {i : Nat} (hw : callF ft (ex ft fuel) [] (fun v _ _ => .nm [v] [] .e []) kpNo (ft.get fw) .e n1 = .nm [.b true] [] .e []) :
    ∃ h' n', ex ft (fuel + 2) (tailC fw) (frJ fl ch av (.b false) (.i .i64 (.ofNat i))) [] .e n1 = .rt (frJ fl ch av (.b true) (.i .i64 (.ofNat i))) [] h' n' := by
  obtain ⟨v, h', n', e1, e2⟩ := callF_split hw trivial
  cases e1
  refine ⟨h', n', ?_⟩
  show seqK (ex ft (fuel + 1) .ret) (callF ft (ex ft fuel) [] _ _ (ft.get fw) .e n1) = _
  rw [e2]
  rfl

/-- the round's number -/
def rnd (a : Act) : Nat := match a.tmps.getD 3 undef with | .int _ k => k.toNat | _ => 0

theorem law_calls (hm : P.follows .mixedOrders = true) (hft : TabOk P (cD P) ft) {fid : Nat} {fn : Go.Func} {R0 R1 R2 B R3 R16 : Go.Code} {x : Operand} {ok : Bool} {js : List Nat} {fl : List Bool} {lim len fuel : Nat} {fw : Pa} {E : Env} {av : AV} {v : Value} {W : World}
    (hfn : P.funcs[fid]? = some fn) (hbody : fn.body = some (.seq R0 (.seq (.seq R1 (.block 0 (.loop (.seq (.seq R2 (.cond x .skip (.exit 0))) (.seq (.block 1 B) R3))))) (.seq R16 .ret)))) (hres : fn.results = #[.tmp 2]) (h4 : 4 ≤ fn.ntmps)
    (hl : js.length = fl.length) (hnd : (nmJ js).Nodup) (hj : ∀ t ∈ js, 3 < t ∧ t < fn.ntmps)
    (c0 : cCode P (cD P fn.ntmps) fn.ntmps (nmJ js) R0 = some r0C) (c1 : cCode P (cD P fn.ntmps) fn.ntmps (nmJ js) R1 = some r1C) (cH : cCode P (cD P fn.ntmps) fn.ntmps (nmJ js) (.seq R2 (.cond x .skip (.exit 0))) = some (headC lim))
    (c3 : cCode P (cD P fn.ntmps) fn.ntmps (nmJ js) R3 = some r3C) (cT : cCode P (cD P fn.ntmps) fn.ntmps (nmJ js) (.seq R16 .ret) = some (tailC fw)) (hlim : lim < 1000)
    (hw : callF ft (ex ft fuel) [] (fun v _ _ => .nm [v] [] .e []) kpNo (ft.get fw) .e n1 = .nm [.b true] [] .e []) (hs : SliceAV E av v len)
    (hB : ∀ i ch a w, i < len → i < lim → FR3 ok js fl ch v i a fn.ntmps → Below W.heap.size W w → B.wpIn (FW none) 0 P (fun e a' w' => (e = .normal ∨ e = .exit 1) ∧ (∃ ch', FR3 ok js fl ch' v i a' fn.ntmps) ∧ Below W.heap.size W w') a w) :
    Calls P fid #[v] W fun e w' => e = .returned (.bool true) ∧ Below W.heap.size W w' := by
  refine (callsIn_of_wp (F := FW none) (n := 0) hfn hbody trivial ?_).calls (fun k d hd => by cases hd)
  have hjl : ∀ t ∈ js, t < fn.ntmps := fun t ht => (hj t ht).2
  have hsz : (#[v] ++ Array.replicate (fn.ntmps - (#[v] : Array Value).size) undef).size = fn.ntmps := by simp; omega
  have hg : ∀ t, 0 < t → (#[v] ++ Array.replicate (fn.ntmps - (#[v] : Array Value).size) undef).getD t undef = undef := fun t ht => by
    rw [Array.getD_eq_getD_getElem?, Array.getElem?_append_right (by simp; omega), Array.getElem?_replicate]
    split <;> rfl
  have hju : Junk undef := ⟨(fun c h => by cases h), (fun h => by cases h), (fun b h => by cases h)⟩
  -- the beginning
  have hj0 : ∀ (k t : Nat) (b : Bool), js[k]? = some t → fl[k]? = some b → JunkF b none ((#[v] ++ Array.replicate (fn.ntmps - (#[v] : Array Value).size) undef).getD t undef) := fun k t b hk _ => by
    rw [hg t (by have := (hj t (List.mem_of_getElem? hk)).1; omega)]
    cases b <;> exact hju
  obtain ⟨i0, hn0, hS0⟩ : ∃ inst : Sym, ¬ inst.has ∧ @SlotsJ inst js fl (fun _ => none) (#[v] ++ Array.replicate (fn.ntmps - (#[v] : Array Value).size) undef) :=
    ⟨symOf _ (all_jval hl hj0), id, slots_of (inst := symOf _ (all_jval hl hj0)) (fun k t hk => by
      have := map_jval (tmps := (#[v] ++ Array.replicate (fn.ntmps - (#[v] : Array Value).size) undef)) hk []
      rw [List.append_nil] at this
      exact this) hj0⟩
  have s0 : SRel P (cD P) E { tmps := #[v] ++ Array.replicate (fn.ntmps - (#[v] : Array Value).size) undef, defers := [] } W fn.ntmps (nmJ js) (frJ fl (fun _ => none) av .und .und) [] .e n1 :=
    srelJ hl (by simp only [hsz]; exact Nat.le_refl _) rfl h4 hjl hS0 (fun hh => absurd hh hn0) (by rw [hs.den, Array.getD_eq_getD_getElem?, Array.getElem?_append_left (by simp)]; rfl) (by rw [hg 2 (by omega)]; simp [den, undef]) (by rw [hg 3 (by omega)]; simp [den, undef]) hs.sc (by simp [Sc]) (by simp [Sc])
  have w0 := Code.wpIn_of hm hft (fuel := 2) c0 hnd s0 (show ex ft 2 r0C (frJ fl (fun _ => none) av .und .und) [] .e n1 = .nm (frJ fl (fun _ => none) av (.b false) .und) [] .e n1 from rfl) trivial
  refine wpIn_seq (wpIn_mono w0 fun e a w hq => ?_)
  cases e with
  | normal =>
    obtain ⟨E1, q1, q2⟩ := hq
    have hs1 := hs.step q2
    have w1 := Code.wpIn_of hm hft (fuel := 2) c1 hnd q1 (show ex ft 2 r1C (frJ fl (fun _ => none) av (.b false) .und) [] .e n1 = .nm (frJ fl (fun _ => none) av (.b false) (.i .i64 (.ofNat 0))) [] .e n1 from rfl) trivial
    refine wpIn_seq (wpIn_seq (wpIn_mono w1 fun e a1 w1 hq => ?_))
    cases e with
    | normal =>
      obtain ⟨E2, q3, q4⟩ := hq
      have hs2 := hs1.step q4
      have hbel : Below W.heap.size W w1 := (q2.trans q4).below
      have hfr : FR3 ok js fl (fun _ => none) v 0 a1 fn.ntmps := by
        obtain ⟨t0, t2, t3, tj⟩ := FRel.slots q3.fr
        exact ⟨q3.nt, q3.ds.nil, by rw [t0, hs2.den], by rw [t2]; simp [den], by rw [t3]; simp [den], tj, (fun k b h => by cases h)⟩
      clear q3 q4 q1 q2 s0 w0 hS0
      refine wpIn_block (wpIn_loop (fun a w => ∃ i ch, i ≤ lim ∧ FR3 ok js fl ch v i a fn.ntmps ∧ Below W.heap.size W w) (fun a _ => lim + 1 - rnd a) ⟨0, fun _ => none, Nat.zero_le _, hfr, hbel⟩ fun a2 w2 hI => ?_)
      obtain ⟨i, ch, hi, hf2, hb2⟩ := hI
      have hrnd : rnd a2 = i := by simp [rnd, hf2.s3]
      obtain ⟨i2, hn2, hS2⟩ := hf2.sym hl
      have sH := hf2.srel (P := P) (w := w2) hs2 hl h4 hjl hn2 hS2
      have hrun := head_run (ft := ft) (lim := lim) (i := i) hs2 (jfr ch fl 0)
      have hok : (ex ft 2 (headC lim) (frJ fl ch av (.b false) (.i .i64 (.ofNat i))) [] .e n1).ok := by show (ex ft 2 (headC lim) (av :: .b false :: .i .i64 (.ofNat i) :: jfr ch fl 0) [] .e n1).ok; rw [hrun]; split <;> trivial
      refine wpIn_seq (wpIn_mono (Code.wpIn_of hm hft cH hnd sH hrun (hrun ▸ hok)) fun e a3 w3 hq => ?_)
      by_cases hgo : i < len ∧ i < lim
      · rw [if_pos hgo] at hq
        cases e with
        | normal =>
          obtain ⟨E3, q5, q6⟩ := hq
          have hs3 := hs2.step q6
          have hb3 : Below W.heap.size W w3 := hb2.trans (q6.below.mono hb2.size)
          have hf3 : FR3 ok js fl ch v i a3 fn.ntmps := by
            obtain ⟨t0, t2, t3, tj⟩ := FRel.slots q5.fr
            exact ⟨q5.nt, q5.ds.nil, by rw [t0, hs3.den], by rw [t2]; simp [den], by rw [t3]; simp [den], tj, hf2.al⟩
          refine wpIn_seq (wpIn_block (wpIn_mono (hB i ch a3 w3 hgo.1 hgo.2 hf3 hb3) fun e a4 w4 hq => ?_))
          obtain ⟨hex, ⟨ch', hf4⟩, hb4⟩ := hq
          have hcase : ∀ Q : Exit → Act → World → Prop, Q .normal a4 w4 → Exit.inBlock 1 Q e a4 w4 := fun Q h => by
            rcases hex with rfl | rfl
            · exact h
            · simpa [Exit.inBlock] using h
          refine hcase _ ?_
          clear q5 sH hS2
          obtain ⟨i4, hn4, hS4⟩ := hf4.sym hl
          have s3 := hf4.srel (P := P) (w := w4) hs3 hl h4 hjl hn4 hS4
          refine wpIn_mono (Code.wpIn_of hm hft c3 hnd s3 (r3_run (by omega)) trivial) fun e a5 w5 hq => ?_
          cases e with
          | normal =>
            obtain ⟨E5, q7, q8⟩ := hq
            obtain ⟨t0, t2, t3, tj⟩ := FRel.slots q7.fr
            have hs5 := hs3.step q8
            have hf5 : FR3 ok js fl ch' v (i + 1) a5 fn.ntmps := ⟨q7.nt, q7.ds.nil, by rw [t0, hs5.den], by rw [t2]; simp [den], by rw [t3]; simp [den], tj, hf4.al⟩
            have hr5 : rnd a5 = i + 1 := by simp [rnd, hf5.s3]
            exact ⟨⟨i + 1, ch', by omega, hf5, hb4.trans (q8.below.mono hb4.size)⟩, by rw [hrnd, hr5]; omega⟩
          | _ => exact hq.elim
        | _ => exact hq.elim
      · rw [if_neg hgo] at hq
        cases e with
        | exit id =>
          obtain ⟨⟨_, rfl⟩, E3, q5, q6⟩ := hq
          -- behind the rounds
          have hs3 := hs2.step q6
          have hb3 : Below W.heap.size W w3 := hb2.trans (q6.below.mono hb2.size)
          obtain ⟨h', n', ht⟩ := tail_run (fl := fl) (ch := ch) (av := av) (i := i) hw
          have key : (Go.Code.seq R16 .ret).wpIn (FW none) 0 P (bodyPost P fn fun e w' => e = .returned (.bool true) ∧ Below W.heap.size W w') a3 w3 := by
            refine wpIn_mono (Code.wpIn_of hm hft cT hnd q5 ht trivial) fun e a6 w6 hq => ?_
            cases e with
            | ret =>
              obtain ⟨E6, q7, q8⟩ := hq
              obtain ⟨t0, t2, t3, _⟩ := FRel.slots q7.fr
              exact ⟨q7.ds.nil, .bool true, by simp [results, hres] at t2 ⊢; simp [t2, den], rfl, hb3.trans (q8.below.mono hb3.size)⟩
            | _ => exact hq.elim
          simpa [Exit.then, Exit.inBlock] using key
        | goto l =>
          exfalso
          have := hq.1
          omega
        | _ => exact hq.elim
    | _ => exact hq.elim
  | _ => exact hq.elim
end Go.X

namespace Go.X
open Go.RowKit
variable {P : Program} {ft : T Func}

/-! ### what a closed run leaves -/
theorem avJ_junk [Sym] {E : Env} {v : AV} (h : avJ v = true) : Junk (den E v) := by
  cases v with
  | oq k => exact Sym.junk k
  | sl id off len c => cases c <;> exact ⟨(fun c h => by cases h), (fun h => by cases h), (fun b h => by cases h)⟩
  | em id off l s => obtain ⟨a, c, he⟩ := den_em E id off l s; rw [he]; exact ⟨(fun c h => by cases h), (fun h => by cases h), (fun b h => by cases h)⟩
  | x y => cases y <;> exact ⟨(fun c h => by cases h), (fun h => by cases h), (fun b h => by cases h)⟩
  | und | i | fl | s | pn | p | sn | tu | mp | mn => exact ⟨(fun c h => by cases h), (fun h => by cases h), (fun b h => by cases h)⟩
  | _ => cases h
theorem chkF_some {ok : Bool} {fl : List Bool} {f : Fr} (h : chkF ok fl f = true) : ∃ c l, f = .x (.la c) :: .b false :: .x .li :: l ∧ chkL ok fl l = true := by
  match f, h with
  | x :: y :: z :: l, h' =>
    simp only [chkF, Bool.and_eq_true] at h'
    obtain ⟨h1, h2, h3, h4⟩ := h'
    unfold isLa at h1
    split at h1
    · unfold isF at h2
      split at h2
      · unfold isLi at h3
        split at h3
        · exact ⟨_, l, rfl, h4⟩
        · cases h3
      · cases h2
    · cases h1
theorem chkR_some {ok : Bool} {fl : List Bool} {r : Res} (h : chkR ok fl r = true) : ∃ c l h' n', (r = .nm (.x (.la c) :: .b false :: .x .li :: l) [] h' n' ∨ r = .ex 1 (.x (.la c) :: .b false :: .x .li :: l) [] h' n') ∧ chkL ok fl l = true := by
  unfold chkR at h
  split at h
  · obtain ⟨c, l, rfl, h4⟩ := chkF_some h
    exact ⟨c, l, _, _, .inl rfl, h4⟩
  · obtain ⟨c, l, rfl, h4⟩ := chkF_some h
    exact ⟨c, l, _, _, .inr rfl, h4⟩
  · cases h
theorem chkL_get {ok : Bool} : ∀ {fl : List Bool} {l : Fr}, chkL ok fl l = true → ∀ (k : Nat) (b : Bool), fl[k]? = some b → ∃ x, l[k]? = some x ∧ (avJ x = true ∨ (b = true ∧ isBv ok x = true))
  | [], _, _, k, b, hb => by simp at hb
  | b :: fl, x :: l, h, 0, b', hb => by
    simp only [chkL, Bool.and_eq_true, Bool.or_eq_true] at h
    cases hb
    exact ⟨x, rfl, h.1⟩
  | b :: fl, x :: l, h, k + 1, b', hb => by
    simp only [chkL, Bool.and_eq_true, Bool.or_eq_true] at h
    exact chkL_get h.2 k b' hb
theorem chkL_all {ok : Bool} : ∀ {fl : List Bool} {l : Fr}, chkL ok fl l = true → ∀ (k : Nat) (x : AV), l[k]? = some x → avJ x = true ∨ isBv ok x = true
  | [], [], _, k, b, hb => by simp at hb
  | b :: fl, x :: l, h, 0, y, hb => by
    simp only [chkL, Bool.and_eq_true, Bool.or_eq_true] at h
    cases hb
    exact h.1.imp id (·.2)
  | b :: fl, x :: l, h, k + 1, y, hb => by
    simp only [chkL, Bool.and_eq_true, Bool.or_eq_true] at h
    exact chkL_all h.2 k y hb
def chOf (l : Fr) (k : Nat) : Option Bool := match l[k]? with
  | some (.b c) => some c
  | _ => none
theorem chOf_al {ok : Bool} {fl : List Bool} {l : Fr} (h : chkL ok fl l = true) (k : Nat) (b : Bool) (hb : chOf l k = some b) : (b || ok) = true := by
  unfold chOf at hb
  split at hb
  · rename_i c hc
    cases hb
    rcases chkL_all h k _ hc with h1 | h1
    · cases h1
    · exact h1
  · cases hb

/-- a round's body that is a closed run -/
theorem body_run (hm : P.follows .mixedOrders = true) (hft : TabOk P (cD P) ft) {nt : Nat} {C : Go.Code} {C' : Code} {ok : Bool} {js : List Nat} {fl : List Bool} {ch : Nat → Option Bool} {fuel i b off len cap : Nat} {arr : Array Value} {el : TypeId} {z : Nat × Nat} {a : Act} {w W : World}
    (h4 : 4 ≤ nt) (hl : js.length = fl.length) (hnd : (nmJ js).Nodup) (hj : ∀ t ∈ js, 3 < t ∧ t < nt)
    (hc : cCode P (cD P nt) nt (nmJ js) C = some C') (hi : i < len) (hw : w.heap[b]? = some (.cells arr el z))
    (c : List (IntKind × Tm)) (wv : Nat → Nat) (hwl : ∀ k, wv k ≤ 18446744073709551615) (hwo : IntKind.wrap .i64 (wv 0 : Int) < IntKind.wrap .i64 (wv 1 : Int))
    (hC : ∀ inst : Sym, inst.wv = wv → ∀ (j : Nat) (kt : IntKind × Tm), c[j]? = some kt → arr[off + i * 5 + j]? = some (.int kt.1 (tmv kt.2)))
    (hf : FR3 ok js fl ch (.slice (some ⟨b, off, none⟩) len cap) i a nt) (hbel : Below W.heap.size W w)
    (hrun : chkR ok fl (ex ft fuel C' (.x (.la c) :: .b false :: .x .li :: jfr ch fl 0) [] .e n0) = true) :
    C.wpIn (FW none) 0 P (fun e a' w' => (e = .normal ∨ e = .exit 1) ∧ (∃ ch', FR3 ok js fl ch' (.slice (some ⟨b, off, none⟩) len cap) i a' nt) ∧ Below W.heap.size W w') a w := by
  let inst : Sym := symX (js.map fun t => jval (a.tmps.getD t undef)) (all_jval hl hf.jk) wv hwl hwo True b arr off len cap i (fun _ => hi)
  have hS : SlotsJ js fl ch a.tmps := slots_of (inst := inst) (fun k t hk => by
      have := map_jval (tmps := a.tmps) hk []
      rw [List.append_nil] at this
      exact this) hf.jk
  obtain ⟨c', l, h', n', hr, hl'⟩ := chkR_some hrun
  have hsr : SRel P (cD P) ⟨fun _ => 0, fun _ => 0⟩ a w nt (nmJ js) (frJ fl ch (.x (.la c)) (.b false) (.x .li)) [] .e n0 :=
    srelJ hl hf.nt hf.df h4 (fun t ht => (hj t ht).2) hS (fun _ => ⟨el, z, hw⟩) (by rw [hf.s0]; simp only [den, denX]; rfl) (by rw [hf.s2]; simp [den]) (by rw [hf.s3]; simp only [den, denX]; rfl)
      (by simp only [Sc, XOk]; exact ⟨trivial, hC inst rfl⟩) (by simp [Sc]) (by simp [Sc, XOk])
  have fin : ∀ (E' : Env) (a' : Act) (w' : World), SRel P (cD P) E' a' w' nt (nmJ js) (.x (.la c') :: .b false :: .x .li :: l) [] h' n' → Step ⟨fun _ => 0, fun _ => 0⟩ w .e n0 E' w' h' n' → (∃ ch', FR3 ok js fl ch' (.slice (some ⟨b, off, none⟩) len cap) i a' nt) ∧ Below W.heap.size W w' := by
    intro E' a' w' q1 q2
    have g0 := (q1.fr.2 0 0 rfl).2
    have g2 := (q1.fr.2 1 2 rfl).2
    have g3 := (q1.fr.2 2 3 rfl).2
    refine ⟨⟨chOf l, q1.nt, q1.ds.nil, by rw [g0]; simp only [List.getD_cons_zero, den, denX]; rfl, by rw [g2]; simp [den], by rw [g3]; simp only [List.getD_cons_succ, List.getD_cons_zero, den, denX]; rfl, fun k t b hk hb => ?_, chOf_al hl'⟩, hbel.trans (q2.below.mono hbel.size)⟩
    rw [(q1.fr.2 (k + 3) t hk).2]
    show JunkF b (chOf l k) (den E' (l.getD k .und))
    obtain ⟨x, hx, h1⟩ := chkL_get hl' k b hb
    rw [List.getD_eq_getElem?_getD, hx]
    simp only [Option.getD_some]
    rcases h1 with h1 | ⟨rfl, h1⟩
    · have hne : chOf l k = none := by
        unfold chOf; rw [hx]
        cases x <;> first | rfl | cases h1
      rw [hne]
      have hJ := avJ_junk (E := E') h1
      unfold JunkF
      split
      · rename_i e; cases e
      · exact hJ
    · cases x <;> simp only [isBv, Bool.false_eq_true] at h1
      rename_i c
      have hc' : chOf l k = some c := by unfold chOf; rw [hx]
      rw [hc']
      simp [JunkF, den]
  rcases hr with hr | hr
  · refine wpIn_mono (Code.wpIn_of hm hft hc hnd hsr hr trivial) fun e a' w' hq => ?_
    cases e with
    | normal =>
      obtain ⟨E', q1, q2⟩ := hq
      exact ⟨.inl rfl, fin E' a' w' q1 q2⟩
    | _ => exact hq.elim
  · refine wpIn_mono (Code.wpIn_of hm hft hc hnd hsr hr trivial) fun e a' w' hq => ?_
    cases e with
    | exit id =>
      obtain ⟨⟨_, rfl⟩, E', q1, q2⟩ := hq
      exact ⟨.inr rfl, fin E' a' w' q1 q2⟩
    | goto l => obtain ⟨hl, _⟩ := hq; omega
    | _ => exact hq.elim
end Go.X

namespace Go.X
open Go.RowKit Go.WideShapes Go.ChangeShapes Go.Deep
variable {P : Program} {ft : T Func}

/-! ### the argument: a row of elements of three ints and two words -/
/-- five cells of a row -/
structure OpAt (arr : Array Value) (p : Nat) (o k n x y : Int) : Prop where
  c0 : arr[p]? = some (.int .i64 o)
  c1 : arr[p + 1]? = some (.int .i64 k)
  c2 : arr[p + 2]? = some (.int .i64 n)
  c3 : arr[p + 3]? = some (.int .u64 x)
  c4 : arr[p + 4]? = some (.int .u64 y)
  r0 : IntKind.wrap .i64 o = o
  r1 : IntKind.wrap .i64 k = k
  r2 : IntKind.wrap .i64 n = n
  r3 : IntKind.wrap .u64 x = x
  r4 : IntKind.wrap .u64 y = y
def ArgOk (W : World) (v : Value) : Prop := v = .slice none 0 0 ∨
  ∃ (b off len cap : Nat) (arr : Array Value) (el : TypeId) (z : Nat × Nat), v = .slice (some ⟨b, off, none⟩) len cap ∧ W.heap[b]? = some (.cells arr el z) ∧ ∀ i, i < len → ∃ o k n x y, OpAt arr (off + i * 5) o k n x y

theorem okWide_row {w : World} {r : Reach} {base : Nat} {t e : TypeId} {v : Value} (ht : P.underlying t = some (.slice e)) (h : Value.okWide P w r base t v) :
    v = .slice none 0 0 ∨ ∃ (b off len cap : Nat) (arr : Array Value) (el : TypeId) (z : Nat × Nat), v = .slice (some ⟨b, off, none⟩) len cap ∧ w.heap[b]? = some (.cells arr el z) := by
  obtain ⟨a, len, cap, rfl⟩ := okWide_slice ht h
  simp only [Value.okWide, ht, Cell.okWide] at h
  unfold Cell.ok at h
  rw [ht] at h
  cases a with
  | none =>
    left
    split at h <;> simp_all
  | some a =>
    right
    obtain ⟨b, off, spot⟩ := a
    simp only at h
    obtain ⟨_, _, hh⟩ := h
    obtain ⟨_, hs, row, cells, hsh, _⟩ := hh
    simp only at hs
    subst hs
    unfold World.shape? at hsh
    split at hsh
    · rename_i c el z hb
      exact ⟨b, off, len, cap, c, el, z, rfl, hb⟩
    · cases hsh

theorem wf_wrap {k : IntKind} {n : Int} (h : (Lit.int k n).wf = true) : k.wrap n = n := by
  have h' : k.min ≤ n ∧ n ≤ k.max := by simpa [Lit.wf] using h
  exact (wrap_fix k n).2 h'

theorem arg_ok {H : Type} {enc : TypeId × Value → H} {W : World} {base : Nat} {spare : Nat → Bool} {held : Bool} {r : Reach} {b0 : Nat} {t e ti tw : TypeId} {fs : Array Field} {v : Value} {d : DataW H} {pl : List MemPlace}
    (ht : P.underlying t = some (.slice e)) (he : P.underlying e = some (.struct fs)) (hone : oneCellFields P fs = true) (hC : P.cellsOf e = 5)
    (hi : P.underlying ti = some (.int .i64)) (hwd : P.underlying tw = some (.int .u64)) (hfs : fs.toList.map (·.type) = [ti, ti, ti, tw, tw])
    (hv : Value.okWide P W r b0 t v) (h : DataW.Trod enc P W base spare held t v d pl) : ArgOk W v := by
  rcases okWide_row ht hv with rfl | ⟨b, off, len, cap, arr, el, z, rfl, hb⟩
  · exact .inl rfl
  · refine .inr ⟨b, off, len, cap, arr, el, z, rfl, hb, fun i hlt => ?_⟩
    obtain ⟨fuel, hf⟩ := h
    rcases open_slice ht hf with h0 | ⟨a, len', cap', m, n, D, Pl, hcs, _, hl, hm, hmm, hx, hel⟩
    · simp [Value.cells] at h0
    · simp [Value.cells] at hcs
      obtain ⟨rfl, rfl, rfl⟩ := hcs
      have hmi : i < m := by rw [hmm]; split <;> omega
      obtain ⟨cs', hc, ht'⟩ := hel i hmi
      rw [hC] at hc
      obtain ⟨ys, n', hn', hy, hlen, hyl, hfl⟩ := DataW.trod_struct he ht'
      obtain ⟨_, hcl, hat⟩ := World.cells?_some hc
      have key : ∀ (j : Nat) (tj : TypeId) (k : IntKind), (fs.toList.map (·.type)).getD j 0 = tj → j < 5 → P.underlying tj = some (.int k) → ∃ q, arr[off + i * 5 + j]? = some (.int k q) ∧ k.wrap q = q := by
        intro j tj k hj hj5 hk
        have hsz : fs.size = 5 := by have := congrArg List.length hfs; simpa using this
        have hfj : fs[j]? = some (fs[j]'(by omega)) := Array.getElem?_eq_getElem (by omega)
        have htj : (fs[j]'(by omega)).type = tj := by
          rw [← hj, List.getD_eq_getElem?_getD, List.getElem?_map]
          simp [hsz, hj5]
        obtain ⟨ho, hk1⟩ := hone_of hone j _ hfj
        have hcell := hat j (by omega)
        have hv : cs'[j]? = some (cs'[j]'(by omega)) := List.getElem?_eq_getElem (by omega)
        have h1 := hfl j _ hfj
        rw [ho, hk1] at h1
        have hone' : (cs'.drop j).take 1 = [cs'[j]'(by omega)] := by
          rw [List.drop_eq_getElem_cons (by omega)]
          rfl
        rw [hone'] at h1
        have hys : ys[j]? = some (ys[j]'(by omega)) := List.getElem?_eq_getElem (by omega)
        obtain ⟨q, hq, _, hwf⟩ := DataW.trod_int (by rw [htj]; exact hk) (h1.trans hys)
        refine ⟨q, ?_, wf_wrap hwf⟩
        have hq' : cs'[j]'(by omega) = .int k q := by simpa using hq
        rw [hv, hq'] at hcell
        have ea : ((⟨b, off, none⟩ : Addr).add (i * 5)).add j = ⟨b, off + i * 5 + j, none⟩ := by rw [addr_add, addr_add]
        rw [ea] at hcell
        simpa [World.cell?, hb] using hcell
      obtain ⟨o, h0, q0⟩ := key 0 ti .i64 (by rw [hfs]; rfl) (by omega) hi
      obtain ⟨k, h1, q1⟩ := key 1 ti .i64 (by rw [hfs]; rfl) (by omega) hi
      obtain ⟨n2, h2, q2⟩ := key 2 ti .i64 (by rw [hfs]; rfl) (by omega) hi
      obtain ⟨x, h3, q3⟩ := key 3 tw .u64 (by rw [hfs]; rfl) (by omega) hwd
      obtain ⟨y, h4, q4⟩ := key 4 tw .u64 (by rw [hfs]; rfl) (by omega) hwd
      exact ⟨o, k, n2, x, y, h0, h1, h2, h3, h4, q0, q1, q2, q3, q4⟩

/-! ### which words -/
def word (n : Int) : Nat := (IntKind.wrap .u64 n).toNat
theorem word_int (n : Int) : ((word n : Nat) : Int) = IntKind.wrap .u64 n := by
  unfold word; rw [wrap_u64']; omega
theorem word_le (n : Int) : word n ≤ 18446744073709551615 := by
  unfold word; rw [wrap_u64']; omega
theorem word_i64 {n : Int} (h : IntKind.wrap .i64 n = n) : IntKind.wrap .i64 ((word n : Nat) : Int) = n := by
  rw [word_int, wrap_wrap .i64 .u64 _ (Nat.le_refl _), h]
theorem word_u64 {n : Int} (h : IntKind.wrap .u64 n = n) : ((word n : Nat) : Int) = n := by rw [word_int, h]

/-- what a choice of words and terms must be -/
structure SelOk (o k n x y : Int) (wv : Nat → Nat) (tO tK tN tX tY : Tm) : Prop where
  le : ∀ k, wv k ≤ 18446744073709551615
  ord : IntKind.wrap .i64 (wv 0 : Int) < IntKind.wrap .i64 (wv 1 : Int)
  eq : ∀ inst : Sym, inst.wv = wv → tmv tO = (word o : Int) ∧ tmv tK = (word k : Int) ∧ tmv tN = (word n : Int) ∧ tmv tX = (word x : Int) ∧ tmv tY = (word y : Int)
theorem SelOk.cells {o k n x y : Int} {wv : Nat → Nat} {tO tK tN tX tY : Tm} (h : SelOk o k n x y wv tO tK tN tX tY) {arr : Array Value} {p : Nat} (ha : OpAt arr p o k n x y) (inst : Sym) (hw : inst.wv = wv) :
    ∀ (j : Nat) (kt : IntKind × Tm), (cellsOf tO tK tN tX tY)[j]? = some kt → arr[p + j]? = some (.int kt.1 (tmv kt.2)) := by
  obtain ⟨e0, e1, e2, e3, e4⟩ := h.eq inst hw
  intro j kt hj
  match j, hj with
  | 0, hj => cases hj; simp only [tmv]; rw [e0, word_i64 ha.r0]; exact ha.c0
  | 1, hj => cases hj; simp only [tmv]; rw [e1, word_i64 ha.r1]; exact ha.c1
  | 2, hj => cases hj; simp only [tmv]; rw [e2, word_i64 ha.r2]; exact ha.c2
  | 3, hj => cases hj; simp only; rw [e3, word_u64 ha.r3]; exact ha.c3
  | 4, hj => cases hj; simp only; rw [e4, word_u64 ha.r4]; exact ha.c4
  | j + 5, hj => cases hj
/-- the words of an element: the third to the seventh; the first two are 0 and 1 -/
def wvE (o k n x y : Int) : Nat → Nat
  | 1 => 1
  | 2 => word o
  | 3 => word k
  | 4 => word n
  | 5 => word x
  | 6 => word y
  | _ => 0
theorem wvE_le (o k n x y : Int) (j : Nat) : wvE o k n x y j ≤ 18446744073709551615 := by
  unfold wvE; split <;> first | exact word_le _ | omega
/-- the same, the first two given -/
def wvO (a b : Nat) (o k n x y : Int) : Nat → Nat
  | 0 => a
  | 1 => b
  | j => wvE o k n x y j
theorem wvO_le {a b : Nat} (ha : a ≤ 18446744073709551615) (hb : b ≤ 18446744073709551615) (o k n x y : Int) (j : Nat) : wvO a b o k n x y j ≤ 18446744073709551615 := by
  unfold wvO; split <;> first | assumption | exact wvE_le _ _ _ _ _ _
theorem tmv_v {inst : Sym} {wv : Nat → Nat} (hw : inst.wv = wv) (i : Nat) : tmv (.v i) = (wv i : Int) := by
  subst hw; rfl
theorem tmv_md {inst : Sym} {wv : Nat → Nat} (hw : inst.wv = wv) (m i : Nat) : tmv (.md m (wv i % m) i) = (wv i : Int) := by
  subst hw; simp [tmv]
def evenQ (x : Nat) : Bool := decide ((IntKind.wrap .i64 ((IntKind.wrap .i64 (x : Int)).tdiv (4 : Nat))).tmod (2 : Nat) = 0)
theorem tmv_mb {inst : Sym} {wv : Nat → Nat} (hw : inst.wv = wv) (i : Nat) : tmv (.mb (wv i % 4) (evenQ (wv i)) i) = (wv i : Int) := by
  subst hw
  have : mbP (Sym.wv i) (Sym.wv i % 4) (evenQ (Sym.wv i)) := ⟨rfl, rfl⟩
  simp [tmv, this]
/-- all words plain, but for the third number's rest by m -/
theorem selE (m : Nat) (o k n x y : Int) : SelOk o k n x y (wvE o k n x y) (.v 2) (.v 3) (.md m (word n % m) 4) (.v 5) (.v 6) where
  le := wvE_le _ _ _ _ _
  ord := by show IntKind.wrap .i64 0 < IntKind.wrap .i64 1; decide
  eq := fun inst hw => ⟨tmv_v hw 2, tmv_v hw 3, tmv_md hw m 4, tmv_v hw 5, tmv_v hw 6⟩
/-- .. but for the fourth's -/
theorem selX (m : Nat) (o k n x y : Int) : SelOk o k n x y (wvE o k n x y) (.v 2) (.v 3) (.v 4) (.md m (word x % m) 5) (.v 6) where
  le := wvE_le _ _ _ _ _
  ord := by show IntKind.wrap .i64 0 < IntKind.wrap .i64 1; decide
  eq := fun inst hw => ⟨tmv_v hw 2, tmv_v hw 3, tmv_v hw 4, tmv_md hw m 5, tmv_v hw 6⟩

/-! ### a law whose rounds are closed runs -/
theorem law_of_runs (hm : P.follows .mixedOrders = true) (hft : TabOk P (cD P) ft) {fid : Nat} {fn : Go.Func} {R0 R1 R2 B R3 R16 : Go.Code} {x : Operand} {ok : Bool} {js : List Nat} {fl : List Bool} {lim fuel fuelB : Nat} {fw : Pa} {v : Value} {W : World} {BC : Code}
    (hfn : P.funcs[fid]? = some fn) (hbody : fn.body = some (.seq R0 (.seq (.seq R1 (.block 0 (.loop (.seq (.seq R2 (.cond x .skip (.exit 0))) (.seq (.block 1 B) R3))))) (.seq R16 .ret)))) (hres : fn.results = #[.tmp 2]) (h4 : 4 ≤ fn.ntmps)
    (hl : js.length = fl.length) (hnd : (nmJ js).Nodup) (hj : ∀ t ∈ js, 3 < t ∧ t < fn.ntmps)
    (c0 : cCode P (cD P fn.ntmps) fn.ntmps (nmJ js) R0 = some r0C) (c1 : cCode P (cD P fn.ntmps) fn.ntmps (nmJ js) R1 = some r1C) (cH : cCode P (cD P fn.ntmps) fn.ntmps (nmJ js) (.seq R2 (.cond x .skip (.exit 0))) = some (headC lim))
    (c3 : cCode P (cD P fn.ntmps) fn.ntmps (nmJ js) R3 = some r3C) (cT : cCode P (cD P fn.ntmps) fn.ntmps (nmJ js) (.seq R16 .ret) = some (tailC fw)) (cB : cCode P (cD P fn.ntmps) fn.ntmps (nmJ js) B = some BC) (hlim : lim < 1000)
    (hw : callF ft (ex ft fuel) [] (fun v _ _ => .nm [v] [] .e []) kpNo (ft.get fw) .e n1 = .nm [.b true] [] .e [])
    (hsel : ∀ o k n x y : Int, ∃ (wv : Nat → Nat) (tO tK tN tX tY : Tm), SelOk o k n x y wv tO tK tN tX tY ∧ ∀ ch : Nat → Option Bool, (∀ (k : Nat) (b : Bool), ch k = some b → (b || ok) = true) → chkR ok fl (ex ft fuelB BC (.x (.la (cellsOf tO tK tN tX tY)) :: .b false :: .x .li :: jfr ch fl 0) [] .e n0) = true)
    (ha : ArgOk W v) : Calls P fid #[v] W fun e w' => e = .returned (.bool true) ∧ Below W.heap.size W w' := by
  rcases ha with rfl | ⟨b, off, len, cap, arr, el, z, rfl, hb, hrow⟩
  · exact law_calls hm hft (ok := ok) (E := ⟨fun _ => 0, fun _ => 0⟩) hfn hbody hres h4 hl hnd hj c0 c1 cH c3 cT hlim hw .nil (fun i ch a w hi => absurd hi (Nat.not_lt_zero _))
  · have hlt : b < W.heap.size := (Array.getElem?_eq_some_iff.1 hb).1
    refine law_calls hm hft (ok := ok) (E := ⟨fun _ => b, fun _ => 0⟩) hfn hbody hres h4 hl hnd hj c0 c1 cH c3 cT hlim hw (.some off len cap) (fun i ch a w hi _ hf hbel => ?_)
    obtain ⟨o, k, n, x, y, hop⟩ := hrow i hi
    obtain ⟨wv, tO, tK, tN, tX, tY, hs, hr⟩ := hsel o k n x y
    exact body_run hm hft h4 hl hnd hj cB hi (by rw [hbel.block b hlt]; exact hb) _ wv hs.le hs.ord (fun inst hw' => hs.cells hop inst hw') hf hbel (hr ch hf.al)
end Go.X
