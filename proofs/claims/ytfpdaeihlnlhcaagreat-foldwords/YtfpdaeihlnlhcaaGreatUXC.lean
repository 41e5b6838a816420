/- An executable reading of the model, its soundness over any program, and what it reads of this program. -/
import Derived.Test.YtfpdaeihlnlhcaaGreatUXB
import Derived.Laws.AppendOwn
import Derived.Laws.OwnMore
import Derived.CallsIn
import Derived.RangeFuncIn
import Derived.DefersIn
import Derived.RecoverIn
import Derived.DeepKeys3
set_option linter.unusedSectionVars false
set_option linter.unusedVariables false
set_option linter.unusedSimpArgs false
set_option linter.constructorNameAsVariable false
namespace Go.X

/-! ### numbers by digits -/
theorem val_inj : ∀ (p q : Pa), p.length = q.length → val p = val q → p = q
  | [], [], _, _ => rfl
  | x :: p, y :: q, hl, hv => by
    simp only [val] at hv
    have hx : x.val < 4 := by cases x <;> decide
    have hy : y.val < 4 := by cases y <;> decide
    have h1 : x.val = y.val := by omega
    have h2 : val p = val q := by omega
    have h3 : x = y := by cases x <;> cases y <;> first | rfl | (simp [Q.val] at h1)
    rw [h3, val_inj p q (by simpa using hl) h2]

noncomputable def inc (p : Pa) : Option Pa := incK none p some
theorem incK_eq {β : Type} (no : β) : ∀ (p : Pa) (k : Pa → β), incK no p k = match inc p with | some q => k q | none => no
  | [], k => rfl
  | .a :: p, k => rfl
  | .b :: p, k => rfl
  | .c :: p, k => rfl
  | .d :: p, k => by
    show incK no p (fun p => k (.a :: p)) = _
    rw [incK_eq no p]
    show _ = match incK none p (fun p => some (.a :: p)) with | some q => k q | none => no
    rw [incK_eq none p]
    cases inc p <;> rfl
theorem inc_spec : ∀ (p q : Pa), inc p = some q → val q = val p + 1 ∧ q.length = p.length
  | [], q, h => by cases h
  | .a :: p, q, h => by cases h; simp [val, Q.val]; omega
  | .b :: p, q, h => by cases h; simp [val, Q.val]; omega
  | .c :: p, q, h => by cases h; simp [val, Q.val]; omega
  | .d :: p, q, h => by
    have h' : incK none p (fun p => some (.a :: p)) = some q := h
    rw [incK_eq] at h'
    cases hp : inc p with
    | none => rw [hp] at h'; cases h'
    | some r =>
      rw [hp] at h'
      have := inc_spec p r hp
      cases h'
      simp [val, Q.val]; omega

@[simp] theorem ifB_true {β : Type} (t e : β) : ifB true t e = t := rfl
@[simp] theorem ifB_false {β : Type} (t e : β) : ifB false t e = e := rfl
theorem ifB_eq {β : Type} (b : Bool) (t e : β) : ifB b t e = if b = true then t else e := by cases b <;> rfl
theorem qEq_iff (a b : Q) : qEq a b = true ↔ a = b := by cases a <;> cases b <;> simp [qEq]
theorem paEq_iff : ∀ (a b : Pa), paEq a b = true ↔ a = b
  | [], [] => by simp [paEq]
  | [], _ :: _ => by simp [paEq]
  | _ :: _, [] => by simp [paEq]
  | x :: a, y :: b => by
    show ifB (qEq x y) (paEq a b) false = true ↔ _
    cases h : qEq x y with
    | true => rw [(qEq_iff x y).1 h]; simp [paEq_iff a b]
    | false =>
      have : x ≠ y := fun e => by rw [(qEq_iff x y).2 e] at h; cases h
      simp [this]

/-! ### the tree -/
section
variable {α β : Type}
noncomputable def T.set (x : T α) (p : Pa) (t : T α) : T α := T.setK x p t id
theorem T.setK_eq' (x : T α) : ∀ (p : Pa) (t : T α) (γ : Type) (k : T α → γ), T.setK x p t k = k (T.set x p t)
  | [], t, γ, k => rfl
  | q :: p, t, γ, k => by
    have ih := fun t (k : T α → γ) => T.setK_eq' x p t γ k
    have ih' := fun t (k : T α → T α) => T.setK_eq' x p t (T α) k
    cases t <;> cases q <;> (
      simp only [T.set]
      show T.setK x p _ _ = k (T.setK x p _ _)
      rw [ih, ih']; rfl)
theorem T.setK_eq (x : T α) (p : Pa) (t : T α) (k : T α → β) : T.setK x p t k = k (T.set x p t) := T.setK_eq' x p t β k
theorem T.set_cons (x : T α) (q : Q) (p : Pa) (t : T α) : T.set x (q :: p) t = match t, q with
    | .n a b c d, .a => .n (T.set x p a) b c d
    | .n a b c d, .b => .n a (T.set x p b) c d
    | .n a b c d, .c => .n a b (T.set x p c) d
    | .n a b c d, .d => .n a b c (T.set x p d)
    | _, .a => .n (T.set x p .e) .e .e .e
    | _, .b => .n .e (T.set x p .e) .e .e
    | _, .c => .n .e .e (T.set x p .e) .e
    | _, .d => .n .e .e .e (T.set x p .e) := by
  cases t <;> cases q <;> (
    simp only [T.set]
    show T.setK x p _ _ = _
    rw [T.setK_eq]; rfl)
theorem T.get_e (p : Pa) : T.get p (.e : T α) = none := by cases p <;> rfl
theorem T.get_v_cons (q : Q) (p : Pa) (x : α) : T.get (q :: p) (.v x) = none := rfl
theorem T.get_n (q : Q) (p : Pa) (a b c d : T α) : T.get (q :: p) (.n a b c d) = match q with | .a => T.get p a | .b => T.get p b | .c => T.get p c | .d => T.get p d := by cases q <;> rfl
theorem T.get_set_same (x : α) : ∀ (p : Pa) (t : T α), T.get p (T.set (.v x) p t) = some x
  | [], t => rfl
  | q :: p, t => by
    rw [T.set_cons]
    cases t <;> cases q <;> exact T.get_set_same x p _
theorem T.get_del_same : ∀ (p : Pa) (t : T α), T.get p (T.set .e p t) = none
  | [], t => rfl
  | q :: p, t => by
    rw [T.set_cons]
    cases t <;> cases q <;> exact T.get_del_same p _
theorem T.get_set_ne (x : T α) : ∀ (p p' : Pa) (t : T α), p.length = p'.length → p ≠ p' → T.get p' (T.set x p t) = T.get p' t
  | [], [], t, _, h => absurd rfl h
  | q :: p, q' :: p', t, hl, h => by
    have hl' : p.length = p'.length := by simpa using hl
    have ih := fun (hh : p ≠ p') t => T.get_set_ne x p p' t hl' hh
    rw [T.set_cons]
    by_cases hp : p = p'
    · subst hp
      have hq : q ≠ q' := fun e => h (by rw [e])
      cases t <;> cases q <;> cases q' <;> first | exact absurd rfl hq | (simp [T.get_n, T.get_e, T.get_v_cons])
    · cases t <;> cases q <;> cases q' <;> simp [T.get_n, T.get_e, T.get_v_cons, ih hp]
end

/-! ### lists -/
def U.nat : U → Nat | .z => 0 | .s n => n.nat + 1
theorem nth_eq : ∀ (i : U) (l : List AV), nth i l = l.getD i.nat .und
  | .z, [] => rfl
  | .z, _ :: _ => rfl
  | .s n, [] => rfl
  | .s n, _ :: l => by show nth n l = _; rw [nth_eq n l]; simp [U.nat]
theorem nthO_eq : ∀ (i : Nat) (l : List AV), nthO i l = l[i]?
  | 0, [] => rfl
  | 0, _ :: _ => rfl
  | n + 1, [] => rfl
  | n + 1, _ :: l => by show nthO n l = _; rw [nthO_eq n l]; simp
theorem evs_eq : ∀ (xs : List Opd) (l : List AV) (f : Fr), evs xs l f = xs.map fun x => ev x l f
  | [], _, _ => rfl
  | x :: xs, l, f => by show ev x l f :: evs xs l f = _; rw [evs_eq xs]; rfl
theorem setU_eq {β : Type} (v : AV) : ∀ (i : U) (l : List AV) (k : List AV → β), setU v i l k = k (l.set i.nat v)
  | .z, [], k => rfl
  | .z, _ :: _, k => rfl
  | .s n, [], k => rfl
  | .s n, x :: l, k => by show setU v n l (fun l => k (x :: l)) = _; rw [setU_eq v n l]; rfl
theorem layK_eq {β : Type} (no : β) : ∀ (vs l : List AV) (k : List AV → β), layK no vs l k = if vs.length ≤ l.length ∧ (∀ v ∈ vs, oneC v = true) then k (vs ++ l.drop vs.length) else no
  | [], l, k => by simp [layK]
  | v :: vs, [], k => by simp [layK]
  | v :: vs, x :: l, k => by
    show ifB (oneC v) (layK no vs l fun l => k (v :: l)) no = _
    rw [layK_eq no vs l, ifB_eq]
    by_cases h : oneC v = true <;> simp [h]
theorem setK_eq {β : Type} (no : β) (vs : List AV) : ∀ (n : Nat) (l : List AV) (k : List AV → β),
    setK no vs n l k = if n + vs.length ≤ l.length ∧ (∀ v ∈ vs, oneC v = true) then k (l.take n ++ vs ++ l.drop (n + vs.length)) else no
  | 0, l, k => by show layK no vs l k = _; rw [layK_eq]; simp
  | n + 1, [], k => by show no = _; rw [if_neg]; simp
  | n + 1, x :: l, k => by
    show setK no vs n l (fun l => k (x :: l)) = _
    rw [setK_eq no vs n l]
    have e : n + 1 + vs.length = (n + vs.length) + 1 := by omega
    have : n + 1 + vs.length ≤ (x :: l).length ↔ n + vs.length ≤ l.length := by simp; omega
    simp only [this]
    rw [e]; simp
theorem takeK_eq {β : Type} (no : β) : ∀ (n : Nat) (l : List AV) (k : List AV → β), takeK no n l k = if n ≤ l.length then k (l.take n) else no
  | 0, l, k => by show k [] = _; simp
  | n + 1, [], k => by simp [takeK]
  | n + 1, x :: l, k => by
    show takeK no n l (fun l => k (x :: l)) = _
    rw [takeK_eq no n l]; simp
theorem cutK_eq {β : Type} (no : β) (n : Nat) : ∀ (o : Nat) (l : List AV) (k : List AV → β), cutK no n o l k = if o + n ≤ l.length then k ((l.drop o).take n) else no
  | 0, l, k => by show takeK no n l k = _; rw [takeK_eq]; simp
  | o + 1, [], k => by show no = _; rw [if_neg]; simp
  | o + 1, x :: l, k => by
    show cutK no n o l k = _
    rw [cutK_eq no n o l]
    have : o + 1 + n ≤ (x :: l).length ↔ o + n ≤ l.length := by simp; omega
    simp only [this]; simp
theorem appK_eq {β : Type} : ∀ (a b : List AV) (k : List AV → β), appK a b k = k (a ++ b)
  | [], b, k => rfl
  | x :: a, b, k => by show appK a b (fun l => k (x :: l)) = _; rw [appK_eq a b]; rfl
@[simp] theorem forceN_eq {β : Type} (n : Nat) (k : Nat → β) : forceN n k = k n := by cases n <;> rfl
@[simp] theorem forceI_eq {β : Type} (n : Int) (k : Int → β) : forceI n k = k n := by
  cases n with
  | ofNat m => exact forceN_eq m fun m => k (.ofNat m)
  | negSucc m => exact forceN_eq m fun m => k (.negSucc m)
theorem lenA_eq : ∀ (l : List AV), lenA l = l.length
  | [] => rfl
  | x :: l => by show Nat.succ (lenA l) = _; rw [lenA_eq l]; rfl
theorem isLen_eq : ∀ (n : Nat) (l : List AV), isLen n l = decide (l.length = n)
  | 0, [] => rfl
  | 0, x :: l => by show false = _; simp
  | n + 1, [] => by show false = _; simp
  | n + 1, x :: l => by show isLen n l = _; rw [isLen_eq n l]; simp
theorem rep_eq (z : List AV) : ∀ n, rep z n = (List.replicate n z).flatten
  | 0 => rfl
  | n + 1 => by show z ++ rep z n = _; rw [rep_eq z n, List.replicate_succ]; rfl
theorem lenB_eq : ∀ (l : List UInt8), lenB l = l.length
  | [] => rfl
  | x :: l => by show Nat.succ (lenB l) = _; rw [lenB_eq l]; rfl
theorem nthB_eq : ∀ (n : Nat) (l : List UInt8), nthB n l = (l[n]?).map fun x => .i .u8 (.ofNat x.toNat)
  | 0, [] => rfl
  | 0, _ :: _ => rfl
  | n + 1, [] => rfl
  | n + 1, x :: l => by show nthB n l = _; rw [nthB_eq n l]; simp

/-! ### numbers -/
@[simp] theorem ikEq_iff (a b : IntKind) : ikEq a b = true ↔ a = b := by cases a <;> cases b <;> simp [ikEq]
theorem isI64_iff (k : IntKind) : isI64 k = true ↔ k = .i64 := by cases k <;> simp [isI64]
theorem wrap_i64_small (n : Int) (h1 : -9223372036854775808 ≤ n) (h2 : n ≤ 9223372036854775807) : IntKind.wrap .i64 n = n := by
  have e63 : (2 : Int) ^ (64 - 1) = 9223372036854775808 := by decide
  have e64 : (2 : Int) ^ 64 = 18446744073709551616 := by decide
  simp only [IntKind.wrap, IntKind.bits, IntKind.signed, Bool.true_and, e63, e64]
  split <;> simp_all <;> omega
theorem wrap_u64_small (n : Int) (h1 : 0 ≤ n) (h2 : n ≤ 18446744073709551615) : IntKind.wrap .u64 n = n := by
  have e64 : (2 : Int) ^ 64 = 18446744073709551616 := by decide
  simp only [IntKind.wrap, IntKind.bits, IntKind.signed, Bool.false_and, e64]
  simp; omega
theorem wrS_eq (n : Int) : wrS n = IntKind.wrap .i64 n := by
  cases n with
  | ofNat m =>
    show ifB (Nat.ble m 9223372036854775807) _ _ = _
    rw [ifB_eq]; split
    · rename_i h; have := Nat.le_of_ble_eq_true h; have h0 : Int.ofNat m = (m : Int) := rfl; rw [wrap_i64_small] <;> (rw [h0]; omega)
    · rfl
  | negSucc m =>
    show ifB (Nat.ble m 9223372036854775807) _ _ = _
    rw [ifB_eq]; split
    · rename_i h; have := Nat.le_of_ble_eq_true h; rw [wrap_i64_small] <;> omega
    · rfl
theorem wrU_eq (n : Int) : wrU n = IntKind.wrap .u64 n := by
  cases n with
  | ofNat m =>
    show ifB (Nat.ble m 18446744073709551615) _ _ = _
    rw [ifB_eq]; split
    · rename_i h; have := Nat.le_of_ble_eq_true h; have h0 : Int.ofNat m = (m : Int) := rfl; rw [wrap_u64_small] <;> (rw [h0]; omega)
    · rfl
  | negSucc m => rfl
@[simp] theorem wrapF_eq (k : IntKind) (n : Int) : wrapF k n = k.wrap n := by cases k <;> first | rfl | exact wrS_eq n | exact wrU_eq n
@[simp] theorem iadd_eq (a b : Int) : iadd a b = a + b := by cases a <;> cases b <;> rfl
theorem ieq_eq (a b : Int) : ieq a b = (a == b) := by
  cases a <;> cases b <;> simp [ieq, BEq.beq]
  · rename_i m n; rw [Bool.eq_iff_iff]; simp [Nat.beq_eq]; omega
  · rename_i m n; rw [Bool.eq_iff_iff]; simp [Nat.beq_eq]
theorem ile_eq (a b : Int) : ile a b = decide (a ≤ b) := by
  cases a <;> cases b <;> simp [ile]
  · rename_i m n; rw [Bool.eq_iff_iff]; simp [Nat.ble_eq]
  · omega
  · omega
  · rename_i m n; rw [Bool.eq_iff_iff]; simp [Nat.ble_eq]; omega
@[simp] theorem bnot_eq (b : Bool) : bnot b = !b := by cases b <;> rfl
theorem eqbB_eq (a b : Bool) : eqbB a b = (a == b) := by cases a <;> cases b <;> rfl
theorem isEmR_eq (v : AV) : isEmR v = isEm v := by cases v <;> rfl
theorem sop_eq (o : Op) (l : List AV) (f : Fr) (h : HT) (n : Pa) : sop o l f h n = sopS o l f h n := by
  cases o with
  | app sz by_ s x =>
    show ifB (isEmR (ev x l f)) (app0 sz (ev s l f) h n) (appS sz by_ (ev s l f) (ev x l f) h n) = sopE (.app sz by_ s x) l f h n
    rw [isEmR_eq]
    unfold sopE
    cases hem : isEm (ev x l f) with
    | true =>
      have e0 : emApp (.app sz by_ s x) l f = some (sz, by_, ev s l f) := by
        show ifB (isEm (ev x l f)) _ none = _
        rw [hem]; rfl
      rw [e0]; rfl
    | false =>
      have e0 : emApp (.app sz by_ s x) l f = none := by
        show ifB (isEm (ev x l f)) _ none = _
        rw [hem]; rfl
      rw [e0]; rfl
  | _ => rfl
end Go.X

namespace Go.X

/-- where abstract blocks lie, and how many cells they have -/
structure Env where
  blk : Pa → Nat
  sz : Pa → Nat

/-- values that are not looked at -/
class Sym where
  val : Nat → Value
  one : ∀ k c, val k ≠ .agg c
  nn : ∀ k, val k ≠ .nilIface
  nb : ∀ k b, val k ≠ .bool b
  /-- unknown words; the first is less than the second, as ints -/
  wv : Nat → Nat
  wlt : ∀ k, wv k ≤ 18446744073709551615
  ord : IntKind.wrap .i64 (wv 0 : Int) < IntKind.wrap .i64 (wv 1 : Int)
  /-- the law's argument, if it is spoken of: its block and that block's cells, where the row lies in it, the round -/
  has : Prop
  ab : Nat
  ac : Array Value
  aoff : Nat
  alen : Nat
  acap : Nat
  ai : Nat
  ilt : has → ai < alen
variable [Sym]
/-- of the word x: its rest by 4, and whether a quarter of it, as an int, is even -/
def mbP (x r : Nat) (b : Bool) : Prop := x % 4 = r ∧ decide ((IntKind.wrap .i64 ((IntKind.wrap .i64 (x : Int)).tdiv (4 : Nat))).tmod (2 : Nat) = 0) = b
instance (x r : Nat) (b : Bool) : Decidable (mbP x r b) := by unfold mbP; infer_instance
/-- two floats reckoned with, by their bits: 1 to 4 sum, difference, product, quotient; 11 to 16 comparisons -/
def fbR (op x y : Nat) : Nat :=
  let f := FloatKind.format .f64
  let res : Option Nat → Nat := fun o => match o with
    | some r => if f.order r r == some .eq then r else 0x7ff8000000000000
    | none => 0x7ff8000000000000
  match op with
  | 1 => res (f.add x y)
  | 2 => res (f.sub x y)
  | 3 => res (f.mul x y)
  | 4 => res (f.div x y)
  | 11 => if f.order x y == some .eq then 1 else 0
  | 12 => if f.order x y == some .eq then 0 else 1
  | 13 => if f.order x y == some .lt then 1 else 0
  | 14 => if f.order x y == some .lt || f.order x y == some .eq then 1 else 0
  | 15 => if f.order x y == some .gt then 1 else 0
  | 16 => if f.order x y == some .gt || f.order x y == some .eq then 1 else 0
  | _ => 0
def fbF (op x y : Nat) : Nat := if fbR op x y ≤ 18446744073709551615 then fbR op x y else 0
noncomputable def tmv : Tm → Int
  | .lit n => n
  | .v i => (Sym.wv i : Int)
  | .md m r i => ((if Sym.wv i % m = r then Sym.wv i else r : Nat) : Int)
  | .mb r b i => ((if mbP (Sym.wv i) r b then Sym.wv i else (if b then r else r + 4) : Nat) : Int)
  | .o .add k a b => k.wrap (tmv a + tmv b)
  | .o .sub k a b => k.wrap (tmv a - tmv b)
  | .o .mul k a b => k.wrap (tmv a * tmv b)
  | .o .and k a b => k.wrap (.ofNat (Nat.land (toU k (tmv a)) (toU k (tmv b))))
  | .o .or k a b => k.wrap (.ofNat (Nat.lor (toU k (tmv a)) (toU k (tmv b))))
  | .o .xor k a b => k.wrap (.ofNat (Nat.xor (toU k (tmv a)) (toU k (tmv b))))
  | .o .quo k a b => k.wrap ((tmv a).tdiv (tmv b))
  | .o .rem _ a b => (tmv a).tmod (tmv b)
  | .o .shl k a b => k.wrap (tmv a * .ofNat (Nat.pow 2 (shN k (tmv b).toNat)))
  | .o .shr k a b => Int.fdiv (tmv a) (.ofNat (Nat.pow 2 (shN k (tmv b).toNat)))
  | .cn sg s a => cnF sg s (tmv a)
  | .qx q => if qB q (Sym.wv 5) (Sym.wv 6) = true then (Sym.wv 5 : Int) else (qD q.c).1
  | .qy q => if qB q (Sym.wv 5) (Sym.wv 6) = true then (Sym.wv 6 : Int) else (qD q.c).2
  | .rg lo hi i => if lo ≤ IntKind.wrap .i64 (Sym.wv i : Int) ∧ IntKind.wrap .i64 (Sym.wv i : Int) ≤ hi then (Sym.wv i : Int) else IntKind.wrap .u64 lo
  | .fb op a b => (fbF op (tmv a).toNat (tmv b).toNat : Int)
  | .quo k a n => k.wrap ((tmv a).tdiv (n : Int))
  | .rem a n => (tmv a).tmod (n : Int)
  | .sl k a s => k.wrap (tmv a * .ofNat (Nat.pow 2 s))
  | .sr a s => Int.fdiv (tmv a) (.ofNat (Nat.pow 2 s))
  | .cv k a => k.wrap (tmv a)
/-- the cells of the argument's element that is looked at -/
def CellsOk (c : List (IntKind × Tm)) : Prop := ∀ (j : Nat) (kt : IntKind × Tm), c[j]? = some kt → Sym.ac[Sym.aoff + Sym.ai * 5 + j]? = some (.int kt.1 (tmv kt.2))
noncomputable def denX : XV → Value
  | .w k t => .int k (tmv t)
  | .la _ => .slice (some ⟨Sym.ab, Sym.aoff, none⟩) Sym.alen Sym.acap
  | .li => .int .i64 (Sym.ai : Int)
  | .ap _ o => .pointer (some ⟨Sym.ab, Sym.aoff + Sym.ai * 5 + o, none⟩)
def XOk : XV → Prop
  | .w _ _ => True
  | .li => True
  | .la c => Sym.has ∧ CellsOk c
  | .ap c _ => Sym.has ∧ CellsOk c
mutual
noncomputable def den (E : Env) : AV → Value
  | .und => .tuple #[]
  | .b x => .bool x
  | .i k n => .int k n
  | .fl n => .float .f64 n
  | .s x => .string ⟨x.toArray⟩
  | .pn => .pointer none
  | .p id off => .pointer (some ⟨E.blk id, off, none⟩)
  | .sn => .slice none 0 0
  | .sl id off len (.ex c) => .slice (some ⟨E.blk id, off, none⟩) len c
  | .sl id off len (.re s) => .slice (some ⟨E.blk id, off, none⟩) len ((E.sz id - off) / s)
  | .fn f a c => .func (.func (val f)) (denL E a).toArray (denL E c).toArray
  | .yl id => .func (.yield (E.blk id)) #[] #[]
  | .fz => .nilFunc
  | .ic t v => .iface t (den E v)
  | .iz => .nilIface
  | .ag l => .agg (denL E l).toArray
  | .tu l => .tuple (denL E l).toArray
  | .oq k => Sym.val k
  | .x x => denX x
  | .em id off l s => if (E.sz id - off) / s = l then .slice (some ⟨E.blk id, off, none⟩) 0 0 else .slice (some ⟨E.blk id, off + l * s, none⟩) 0 ((E.sz id - off) / s - l)
  | .mp id => .map (some (E.blk id))
  | .mn => .map none
noncomputable def denL (E : Env) : List AV → List Value
  | [] => []
  | v :: l => den E v :: denL E l
end
theorem den_em (E : Env) (id : Pa) (off l s : Nat) : ∃ a c, den E (.em id off l s) = .slice a 0 c := by
  simp only [den]; split <;> exact ⟨_, _, rfl⟩
theorem denL_eq (E : Env) : ∀ l, denL E l = l.map (den E)
  | [] => by simp [denL]
  | v :: l => by simp [denL, denL_eq E l]

mutual
/-- the blocks that it names are there -/
def Sc (S : Pa → Prop) : AV → Prop
  | .p id _ => S id
  | .sl id _ _ _ => S id
  | .fn _ a c => ScL S a ∧ ScL S c
  | .yl id => S id
  | .ic _ v => Sc S v
  | .ag l => ScL S l
  | .tu l => ScL S l
  | .x x => XOk x
  | .em id _ _ _ => S id
  | .mp id => S id
  | _ => True
def ScL (S : Pa → Prop) : List AV → Prop
  | [] => True
  | v :: l => Sc S v ∧ ScL S l
end
theorem ScL_iff (S : Pa → Prop) : ∀ l, ScL S l ↔ ∀ v ∈ l, Sc S v
  | [] => by simp [ScL]
  | v :: l => by simp [ScL, ScL_iff S l]

mutual
theorem Sc.mono {S S' : Pa → Prop} (h : ∀ p, S p → S' p) : ∀ v, Sc S v → Sc S' v
  | .und, _ | .b _, _ | .i _ _, _ | .fl _, _ | .s _, _ | .pn, _ | .sn, _ | .fz, _ | .iz, _ | .oq _, _ | .mn, _ => by simp [Sc]
  | .x _, hs => by simp only [Sc] at hs ⊢; exact hs
  | .em _ _ _ _, hs => by simp only [Sc] at hs ⊢; exact h _ hs
  | .mp _, hs => by simp only [Sc] at hs ⊢; exact h _ hs
  | .p _ _, hs => by simp only [Sc] at hs ⊢; exact h _ hs
  | .sl _ _ _ _, hs => by simp only [Sc] at hs ⊢; exact h _ hs
  | .fn _ a c, hs => by simp only [Sc] at hs ⊢; exact ⟨ScL.mono h a hs.1, ScL.mono h c hs.2⟩
  | .yl _, hs => by simp only [Sc] at hs ⊢; exact h _ hs
  | .ic _ v, hs => by simp only [Sc] at hs ⊢; exact Sc.mono h v hs
  | .ag l, hs => by simp only [Sc] at hs ⊢; exact ScL.mono h l hs
  | .tu l, hs => by simp only [Sc] at hs ⊢; exact ScL.mono h l hs
theorem ScL.mono {S S' : Pa → Prop} (h : ∀ p, S p → S' p) : ∀ l, ScL S l → ScL S' l
  | [], _ => by simp [ScL]
  | v :: l, hs => by simp only [ScL] at hs ⊢; exact ⟨Sc.mono h v hs.1, ScL.mono h l hs.2⟩
end
mutual
theorem den_congr {S : Pa → Prop} {E E' : Env} (h : ∀ p, S p → E'.blk p = E.blk p ∧ E'.sz p = E.sz p) : ∀ v, Sc S v → den E' v = den E v
  | .und, _ | .b _, _ | .i _ _, _ | .fl _, _ | .s _, _ | .pn, _ | .sn, _ | .fz, _ | .iz, _ | .oq _, _ | .x _, _ | .mn, _ => by simp [den]
  | .p _ _, hs => by simp only [Sc] at hs; simp [den, h _ hs]
  | .em _ _ _ _, hs => by simp only [Sc] at hs; simp [den, h _ hs]
  | .mp _, hs => by simp only [Sc] at hs; simp [den, h _ hs]
  | .sl _ _ _ (.ex _), hs => by simp only [Sc] at hs; simp [den, h _ hs]
  | .sl _ _ _ (.re _), hs => by simp only [Sc] at hs; simp [den, h _ hs]
  | .fn _ a c, hs => by simp only [Sc] at hs; simp [den, denL_congr h a hs.1, denL_congr h c hs.2]
  | .yl _, hs => by simp only [Sc] at hs; simp [den, h _ hs]
  | .ic _ v, hs => by simp only [Sc] at hs; simp [den, den_congr h v hs]
  | .ag l, hs => by simp only [Sc] at hs; simp [den, denL_congr h l hs]
  | .tu l, hs => by simp only [Sc] at hs; simp [den, denL_congr h l hs]
theorem denL_congr {S : Pa → Prop} {E E' : Env} (h : ∀ p, S p → E'.blk p = E.blk p ∧ E'.sz p = E.sz p) : ∀ l, ScL S l → denL E' l = denL E l
  | [], _ => by simp [denL]
  | v :: l, hs => by simp only [ScL] at hs; simp [denL, den_congr h v hs.1, denL_congr h l hs.2]
end

/-- the blocks ahead of a number -/
def Up (n : Pa) (p : Pa) : Prop := p.length = n.length ∧ val p < val n

/-- a frame: the values of the slots nm -/
def FRel (E : Env) (nm : List Nat) (fr : List AV) (tmps : Array Value) : Prop :=
  fr.length = nm.length ∧ ∀ (i t : Nat), nm[i]? = some t → t < tmps.size ∧ tmps.getD t undef = den E (fr.getD i .und)

/-- an int of 64 bits -/
def KB (i : Int) : Prop := -9223372036854775808 ≤ i ∧ i ≤ 9223372036854775807
def keyV (l : List Int) : Value := .agg (l.map (Value.int .i64)).toArray
def entV (x : List Int × Int) : Value × Value := (keyV x.1, .int .i64 x.2)
def BRel (K : Loop → List Nat → List U → Code → Code → Prop) (E : Env) (w : World) (p : Pa) : Blk → Prop
  | .c l => ∃ (arr : Array Value) (el : TypeId), w.heap[E.blk p]? = some (.cells arr el (0, 0)) ∧ arr.size = E.sz p ∧ l.length ≤ arr.size ∧ ∀ (i : Nat) (v : AV), l[i]? = some v → arr[i]? = some (den E v)
  | .lp ps a b fr => ∃ (r : Loop) (nm : List Nat), w.heap[E.blk p]? = some (.loop r) ∧ r.state = .ready ∧ r.pending = none ∧ K r nm ps a b ∧ FRel E nm fr r.tmps
  | .df => w.heap[E.blk p]? = some (.deferred (some []))
  | .cz m z l => ∃ (arr : Array Value) (el : TypeId), w.heap[E.blk p]? = some (.cells arr el (0, 0)) ∧ arr.size = E.sz p ∧ (List.replicate m z ++ l).length ≤ arr.size ∧ ∀ (i : Nat) (v : AV), (List.replicate m z ++ l)[i]? = some v → arr[i]? = some (den E v)
  | .mp nk es => ∃ (A : Array MapEntry) (c : Nat), w.heap[E.blk p]? = some (.map A c) ∧ A.toList.map (fun e => (e.key, e.val)) = es.map entV ∧ (∀ x ∈ es, x.1.length = nk ∧ ∀ i ∈ x.1, KB i) ∧ (es.map (·.1)).Nodup

def BSc (S : Pa → Prop) : Blk → Prop
  | .c l => ScL S l
  | .lp _ _ _ fr => ScL S fr
  | .df => True
  | .mp _ _ => True
  | .cz m z l => ScL S (List.replicate m z ++ l)

/-- is there a block? -/
def In (h : HT) (n p : Pa) : Prop := p.length = n.length ∧ h.get p ≠ none

/-- the world, and the heap as it is looked at -/
structure WRel (K : Loop → List Nat → List U → Code → Code → Prop) (E : Env) (w : World) (h : HT) (n : Pa) : Prop where
  dom : ∀ p, In h n p → val p < val n
  blk : ∀ p b, p.length = n.length → h.get p = some b → BRel K E w p b ∧ BSc (Up n) b
  inj : ∀ p q, In h n p → In h n q → E.blk p = E.blk q → p = q
  arg : Sym.has → (∃ el z, w.heap[Sym.ab]? = some (.cells Sym.ac el z)) ∧ ∀ p, In h n p → E.blk p ≠ Sym.ab

/-- a step: new blocks are named, none of those that are not the heap's has turned -/
structure Step (E : Env) (w : World) (h : HT) (n : Pa) (E' : Env) (w' : World) (h' : HT) (n' : Pa) : Prop where
  len : n'.length = n.length
  le : val n ≤ val n'
  env : ∀ p, p.length = n.length → ¬ (val n ≤ val p ∧ val p < val n') → E'.blk p = E.blk p ∧ E'.sz p = E.sz p
  os : w'.os = w.os
  tape : w'.tape = w.tape
  output : w'.output = w.output
  size : w.heap.size ≤ w'.heap.size
  keep : ∀ b, b < w.heap.size → (∀ p, In h n p → E.blk p ≠ b) → w'.heap[b]? = w.heap[b]?
  own : ∀ p, In h' n' p → w.heap.size ≤ E'.blk p ∨ ∃ q, In h n q ∧ E.blk q = E'.blk p

theorem Step.refl (E : Env) (w : World) (h : HT) (n : Pa) : Step E w h n E w h n :=
  ⟨rfl, Nat.le_refl _, fun _ _ _ => ⟨rfl, rfl⟩, rfl, rfl, rfl, Nat.le_refl _, fun _ _ _ => rfl, fun p hp => .inr ⟨p, hp, rfl⟩⟩

theorem Step.trans {E E1 E2 : Env} {w w1 w2 : World} {h h1 h2 : HT} {n n1 n2 : Pa} (a : Step E w h n E1 w1 h1 n1) (b : Step E1 w1 h1 n1 E2 w2 h2 n2) : Step E w h n E2 w2 h2 n2 where
  len := b.len.trans a.len
  le := Nat.le_trans a.le b.le
  env := fun p hp hn => by
    have hl := a.le
    have hl' := b.le
    have e1 := a.env p hp (by omega)
    have e2 := b.env p (hp.trans a.len.symm) (by omega)
    exact ⟨e2.1.trans e1.1, e2.2.trans e1.2⟩
  os := b.os.trans a.os
  tape := b.tape.trans a.tape
  output := b.output.trans a.output
  size := Nat.le_trans a.size b.size
  keep := fun k hk hno => by
    rw [b.keep k (Nat.lt_of_lt_of_le hk a.size) fun p hp e => ?_, a.keep k hk hno]
    rcases a.own p hp with h1 | ⟨q, hq, e1⟩
    · omega
    · exact hno q hq (e1.trans e)
  own := fun p hp => by
    rcases b.own p hp with h1 | ⟨q, hq, e1⟩
    · exact .inl (Nat.le_trans a.size h1)
    · rcases a.own q hq with h2 | ⟨r, hr, e2⟩
      · exact .inl (e1 ▸ h2)
      · exact .inr ⟨r, hr, e2.trans e1⟩

theorem Step.up {E E' : Env} {w w' : World} {h h' : HT} {n n' : Pa} (a : Step E w h n E' w' h' n') {p : Pa} (hp : Up n p) : Up n' p :=
  ⟨hp.1.trans a.len.symm, Nat.lt_of_lt_of_le hp.2 a.le⟩
theorem Step.sc {E E' : Env} {w w' : World} {h h' : HT} {n n' : Pa} (a : Step E w h n E' w' h' n') {v : AV} (hv : Sc (Up n) v) : Sc (Up n') v := Sc.mono (fun _ hp => a.up hp) v hv
theorem Step.den {E E' : Env} {w w' : World} {h h' : HT} {n n' : Pa} (a : Step E w h n E' w' h' n') {v : AV} (hv : Sc (Up n) v) : den E' v = den E v :=
  den_congr (fun p hp => a.env p hp.1 (by have := hp.2; omega)) v hv

theorem Up.self {n p : Pa} (h : Up n p) : p.length = n.length := h.1
end Go.X

namespace Go.X

/-! ### what the functions' code is, looked at so -/
def fnd (t : Nat) : List Nat → Option U
  | [] => none
  | x :: l => match Nat.beq x t with
    | true => some .z
    | false => match fnd t l with
      | some i => some (.s i)
      | none => none
def dig : Nat → Nat → Pa
  | 0, _ => []
  | d + 1, n => (match n % 4 with | 0 => Q.a | 1 => Q.b | 2 => Q.c | _ => Q.d) :: dig d (n / 4)
def fpa (f : Nat) : Option Pa := match Nat.beq (val (dig 5 f)) f with | true => some (dig 5 f) | false => none
def cv0 : Value → Option AV
  | .bool b => some (.b b)
  | .int k n => some (.i k n)
  | .float .f64 n => some (.fl n)
  | .string s => some (.s s.data.toList)
  | .pointer none => some .pn
  | .slice none 0 0 => some .sn
  | .map none => some .mn
  | .nilFunc => some .fz
  | .nilIface => some .iz
  | .tuple ⟨[]⟩ => some .und
  | _ => none
def cvs : List Value → Option (List AV)
  | [] => some []
  | v :: l => match cv0 v with
    | some x => match cvs l with
      | some r => some (x :: r)
      | none => none
    | none => none
def cv : Value → Option AV
  | .agg cs => match cvs cs.toList with | some l => some (.ag l) | none => none
  | v => cv0 v
def ro (ls nm : List Nat) : Operand → Option Opd
  | .tmp t => match fnd t ls with
    | some i => some (.l i)
    | none => match fnd t nm with
      | some i => some (.f i)
      | none => none
  | .const v => match cv v with | some x => some (.c x) | none => none
  | .func f => match fpa f with | some p => some (.c (.fn p [] [])) | none => none
  | .global _ => none
def ros (R : Operand → Option Opd) : List Operand → Option (List Opd)
  | [] => some []
  | x :: l => match R x with
    | some y => match ros R l with
      | some r => some (y :: r)
      | none => none
    | none => none

section
variable (P : Program) (R : Operand → Option Opd)
def isAggD : TypeDesc → Bool
  | .struct _ => true
  | .array _ _ => true
  | _ => false
def zer (t : TypeId) : Option (List AV) := (P.info? t).bind fun i => i.zero.bind fun z => cvs z.cells.toList
def szo (t : TypeId) : Option Nat := (P.info? t).map (·.size)
/-- the parts of a struct, of a row -/
def psG (place : Nat → Option (Nat × Nat)) : List (Nat × Operand) → Option (List (Nat × Nat × Opd))
  | [] => some []
  | (j, x) :: l => (place j).bind fun p => (R x).bind fun y => (psG place l).bind fun r => some ((p.1, p.2, y) :: r)
def cBin : BinOp → Option B2
  | .add => some .add | .sub => some .sub | .mul => some .mul | .quo => some .quo | .rem => some .rem
  | .and => some .and | .or => some .or | .xor => some .xor | .shl => some .shl | .shr => some .shr
  | .eql => some .eq | .neq => some .ne | .lss => some .lt | .leq => some .le | .gtr => some .gt | .geq => some .ge
  | _ => none
/-- is a constant one of the two? (asked at interface values) -/
def isC : Operand → Bool | .const _ => true | _ => false
def cBinT (op : BinOp) (c : Bool) : TypeDesc → Option B2
  | .int _ => cBin op
  | .bool => match op with | .eql => some .eqb | .neq => some .neb | _ => none
  | .pointer _ => match op with | .eql => some (.eqn 0) | .neq => some (.nen 0) | _ => none
  | .slice _ => match op with | .eql => some (.eqn 1) | .neq => some (.nen 1) | _ => none
  | .func _ _ _ => match op with | .eql => some (.eqn 2) | .neq => some (.nen 2) | _ => none
  | .interface _ => match c with
    | true => match op with | .eql => some (.eqn 3) | .neq => some (.nen 3) | _ => none
    | false => none
  | _ => none
def oR : Option Operand → Option (Option Opd)
  | none => some none
  | some x => (R x).map some
/-- a type whose cells are ints of 64 bits, and nothing else -/
def flat : Nat → TypeId → Bool
  | 0, _ => false
  | d + 1, t => match P.underlying t with
    | some (.int .i64) => P.cellsOf t == 1
    | some (.array n e) => P.cellsOf t == n * P.cellsOf e && flat d e
    | some (.struct fs) => fs.all fun f => f.name != "_" && (flat d f.type && Nat.ble (f.offset + P.cellsOf f.type) (P.cellsOf t))
    | _ => false
def isWide : Option TypeDesc → Bool
  | some (.array _ _) | some (.struct _) => true
  | _ => false
/-- a map's type: how many ints its keys have -/
def mapN (t : TypeId) : Option Nat := (P.underlying t).bind fun d => match d with
  | .map kt et => match Nat.ble 8 P.types.size && (P.keyTypeAt 9 kt && (P.tiled 9 kt && (P.keyType kt && (isWide (P.underlying kt) && flat P 9 kt)))) with
    | true => (P.info? et).bind fun i => i.zero.bind fun z => match z with
      | .int .i64 (.ofNat 0) => some (P.cellsOf kt)
      | _ => none
    | false => none
  | _ => none
def cBuiltin (args : List Operand) (ats : Array TypeId) : Builtin → Option Op
  | .len => match args, ats.toList with
    | [x], [t] => (P.underlying t).bind fun d => (R x).bind fun y => match d with
      | .slice _ => some (.u .len y)
      | .string => some (.u .lens y)
      | _ => none
    | _, _ => none
  | .append => match args, ats.toList with
    | [s, x], [t, t2] => match Nat.beq t t2 with
      | true => (P.underlying t).bind fun d => (R s).bind fun a => (R x).bind fun b => match d with
        | .slice e => (P.info? e).bind fun i => i.zero.bind fun z => match Nat.beq z.cells.size i.size with
          | true => match Nat.ble 1 i.size with | true => some (.app i.size i.bytes a b) | false => none
          | false => none
        | _ => none
      | false => none
    | _, _ => none
  | .copy => match args, ats.toList with
    | [d, s], [t, _] => (P.underlying t).bind fun ty => (R d).bind fun a => (R s).bind fun b => match ty with
      | .slice e => (szo P e).bind fun z => some (.cpy z a b)
      | _ => none
    | _, _ => none
  | .clear => match args, ats.toList with
    | [x], [t] => (P.underlying t).bind fun ty => (R x).bind fun a => match ty with
      | .slice e => (zer P e).bind fun z => some (.clr z a)
      | _ => none
    | _, _ => none
  | .delete => match args, ats.toList with
    | [m, k], t :: _ => (mapN P t).bind fun nk => (R m).bind fun m => (R k).map fun k => .mdl nk m k
    | _, _ => none
  | _ => none
def compOp : Go.Op → Option Op
  | .move x => (R x).map (.u .mv)
  | .assign x => (R x).map (.u .mv)
  | .pick c x y => (R c).bind fun c => (R x).bind fun x => (R y).bind fun y => some (.pick c x y)
  | .alloc e => (zer P e).map .new
  | .box _ x => (R x).map .box
  | .build t ps => (P.underlying t).bind fun d => (zer P t).bind fun z => match d with
    | .struct fs => (fs.toList.mapM (fun f => (P.info? f.type).map fun i => (f.offset, i.size))).bind fun places => (psG R (places.toArray[·]?) ps.toList).map (.bld z)
    | .array _ e => (szo P e).bind fun s => (psG R (fun i => some (i * s, s)) ps.toList).map (.bld z)
    | _ => none
  | .buildSlice t len ps => (P.underlying t).bind fun d => match d with
    | .slice e => (szo P e).bind fun s => (zer P e).bind fun z => (psG R (fun i => some (i * s, s)) ps.toList).bind fun q =>
      match Nat.ble (len * s) 16777216 with
      | true => match Nat.beq z.length s with
        | true => some (.bsl (rep z len) len q)
        | false => none
      | false => none
    | _ => none
  | .load t x => (P.underlying t).bind fun d => (szo P t).bind fun s => (R x).map fun y => match isAggD d with | true => .ldn s y | false => .ld y
  | .store t a x => (szo P t).bind fun s => (R a).bind fun a => (R x).map fun x => .st s a x
  | .nilCheck x => (R x).map (.u .nck)
  | .binOp op t x y _ => (R x).bind fun a => (R y).bind fun b => (P.underlying t).bind fun d => (cBinT op (isC x || isC y) d).map fun o => .b o a b
  | .unOp op _ x => (R x).bind fun y => match op with
    | .neg => some (.u .neg y)
    | .not => some (.u .not y)
    | .xor => some (.u .com y)
    | _ => none
  | .convert s d x => (P.underlying s).bind fun _ => (P.underlying d).bind fun d => (R x).bind fun y => match d with
    | .int k => some (.u (.cvt k) y)
    | _ => none
  | .makeInterface t x => (P.underlying t).bind fun d => (R x).bind fun y => match d with
    | .interface _ => none
    | _ => some (.u (.mkif t) y)
  | .makeFunc (.func f) a c => (fpa f).bind fun p => (ros R a.toList).bind fun a => (ros R c.toList).map fun c => .mkf p a c
  | .makeSlice t l c => (P.underlying t).bind fun d => match d with
    | .slice e => (P.info? e).bind fun i => (zer P e).bind fun z => (R l).bind fun l => (R c).bind fun c => match Nat.beq z.length i.size with
      | true => some (.mks i.bytes z l c)
      | false => none
    | _ => none
  | .slice t x lo hi mx => (P.underlying t).bind fun d => match d with
    | .slice e => (szo P e).bind fun s => (R x).bind fun x => (oR R lo).bind fun lo => (oR R hi).bind fun hi' => (oR R mx).bind fun mx' => match mx', hi' with
      | some _, none => none
      | _, _ => some (.slc s x lo hi' mx')
    | _ => none
  | .fieldAddr t x f => (P.underlying t).bind fun d => match d with
    | .struct fs => (fs[f]?).bind fun f => (szo P f.type).bind fun s => (R x).bind fun y => match s with
      | 0 => none
      | _ => some (.u (.fad f.offset) y)
    | _ => none
  | .indexAddr t x i => (P.underlying t).bind fun d => match d with
    | .slice e => (szo P e).bind fun s => (R x).bind fun x => (R i).map fun i => .b (.idx s) x i
    | .array m e => (szo P e).bind fun s => (R x).bind fun x => (R i).map fun i => .b (.ida m s) x i
    | _ => none
  | .index t x i => (P.underlying t).bind fun d => match d with
    | .string => (R x).bind fun x => (R i).map fun i => .b .idxs x i
    | _ => none
  | .field t x f => (P.underlying t).bind fun d => match d with
    | .struct fs => (fs[f]?).bind fun f => (P.underlying f.type).bind fun df => (szo P f.type).bind fun s => (R x).map fun y => .u (match isAggD df with | true => .fldn f.offset s | false => .fld f.offset) y
    | _ => none
  | .extract x i => (R x).map fun y => .u (.ext i) y
  | .typeAssert x _ t ok => match ok with
    | true => (P.underlying t).bind fun d => (R x).bind fun y => match d with
      | .interface _ => none
      | _ => (P.info? t).bind fun i => i.zero.bind fun z => (cv z).map fun z => .u (.tya t z) y
    | false => none
  | .call c => match c.callee with
    | .builtin b => cBuiltin P R c.args.toList c.argTypes b
    | _ => none
  | .makeMap t r => match r with
    | none => (mapN P t).map .mkm
    | some _ => none
  | .lookup t m k ok => match ok with
    | true => (mapN P t).bind fun nk => (R m).bind fun m => (R k).map fun k => .lup nk m k
    | false => none
  | .mapUpdate t m k v => (mapN P t).bind fun nk => (R m).bind fun m => (R k).bind fun k => (R v).map fun v => .mup nk m k v
  | _ => none
end

/-! ### regions -/
def fndK (nm : List Nat) : Option Tmp → Kd × Option Nat
  | none => (.n, none)
  | some t => match fnd t nm with
    | some i => (.w i, none)
    | none => (.p, some t)
def isNoneC : Callee → Bool | .builtin .recover => true | _ => false
/-- an operation -/
def cIOp (P : Program) (R : Operand → Option Opd) (k : Kd) (op : Go.Op) : Option IOp :=
  match op with
  | .call c => match c.callee with
    | .value (.func f) => (fpa f).bind fun p => (ros R c.args.toList).map (.call k p)
    | .value f => (R f).bind fun f => (ros R c.args.toList).map (.callv k f)
    | .builtin .recover => some (.rcv k)
    | .builtin b => (cBuiltin P R c.args.toList c.argTypes b).map (.o k)
    | _ => none
  | .defer c => match c.callee with
    | .value f => (R f).bind fun f => (ros R c.args.toList).map (.dfr k f)
    | _ => none
  | .panic x => (R x).map .pan
  | op => (compOp P R op).map (.o k)
def cGuard (ops : List Oper) (R : Operand → Option Opd) (k : Kd) (g : Option (Nat × Bool)) (o : IOp) : Option IOp :=
  match g with
  | none => some o
  | some (j, b) => (ops[j]?).bind fun o' => o'.dst.bind fun t => (R (.tmp t)).map fun x => .g x b k o
/-- the operations of a region, in their order; the slots that are named so far, the last one first; gives the names at its end -/
def cOps (P : Program) (nm : List Nat) (all : List Oper) : List Oper → List Nat → Option (List IOp × List Nat)
  | [], ls => some ([], ls)
  | o :: r, ls =>
    let kd := fndK nm o.dst
    (cIOp P (ro ls nm) kd.1 o.op).bind fun x => (cGuard all (ro ls nm) kd.1 o.guard x).bind fun x =>
      (cOps P nm all r (match kd.2 with | some t => t :: ls | none => ls)).map fun (xs, ls) => (x :: xs, ls)
end Go.X
