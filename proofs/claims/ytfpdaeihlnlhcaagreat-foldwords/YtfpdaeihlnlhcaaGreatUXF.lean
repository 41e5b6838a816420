/- An executable reading of the model, its soundness over any program, and what it reads of this program. -/
import Derived.Test.YtfpdaeihlnlhcaaGreatUXC
set_option linter.unusedSectionVars false
set_option linter.unusedVariables false
set_option linter.unusedSimpArgs false
set_option linter.constructorNameAsVariable false
namespace Go.X
variable [Sym]
variable {P : Program} {E : Env} {w : World}

/-! ### values, looked at -/
theorem asI_i {v : AV} {k : IntKind} {n : Int} (h : asI v = .i k n) : v = .i k n := by cases v <;> simp_all [asI]
theorem asP_p {v : AV} {id : Pa} {o : Nat} (h : asP v = .p id o) : v = .p id o := by cases v <;> simp_all [asP]
theorem asS_sl {v : AV} {id : Pa} {o l : Nat} {c : Cap} (h : asS v = .sl id o l c) : v = .sl id o l c := by cases v <;> simp_all [asS]
theorem asS_sn {v : AV} (h : asS v = .sn) : v = .sn := by cases v <;> simp_all [asS]
theorem asB_b {v : AV} {b : Bool} (h : asB v = .b b) : v = .b b := by cases v <;> simp_all [asB]
theorem asAg_l {v : AV} {l : List AV} (h : asAg v = .l l) : v = .ag l := by cases v <;> simp_all [asAg]
theorem asTu_l {v : AV} {l : List AV} (h : asTu v = .l l) : v = .tu l := by cases v <;> simp_all [asTu]
theorem asF_fn {v : AV} {g : Pa} {a c : List AV} (h : asF v = .fn g a c) : v = .fn g a c := by cases v <;> simp_all [asF]
theorem asF_yl {v : AV} {id : Pa} (h : asF v = .yl id) : v = .yl id := by cases v <;> simp_all [asF]
theorem asStr_s {v : AV} {l : List UInt8} (h : asStr v = some l) : v = .s l := by cases v <;> simp_all [asStr]

/-! ### numbers -/
theorem toU_eq (k : IntKind) (n : Int) : toU k n = (BitVec.ofInt k.bits n).toNat := by
  simp only [toU, BitVec.toNat_ofInt]; congr 1
theorem and_toU (k : IntKind) (a b : Int) : (BitVec.ofInt k.bits a &&& BitVec.ofInt k.bits b).toNat = Nat.land (toU k a) (toU k b) := by
  rw [BitVec.toNat_and, toU_eq, toU_eq]; rfl
theorem or_toU (k : IntKind) (a b : Int) : (BitVec.ofInt k.bits a ||| BitVec.ofInt k.bits b).toNat = Nat.lor (toU k a) (toU k b) := by
  rw [BitVec.toNat_or, toU_eq, toU_eq]; rfl
theorem xor_toU (k : IntKind) (a b : Int) : (BitVec.ofInt k.bits a ^^^ BitVec.ofInt k.bits b).toNat = Nat.xor (toU k a) (toU k b) := by
  rw [BitVec.toNat_xor, toU_eq, toU_eq]; rfl
theorem shN_eq (k : IntKind) (b : Nat) : shN k b = min b k.bits := by
  unfold shN; rw [ifB_eq]
  by_cases h : b ≤ k.bits
  · rw [if_pos (by simpa [Nat.ble_eq] using h), Nat.min_eq_left h]
  · rw [if_neg (by simpa [Nat.ble_eq] using h), Nat.min_eq_right (by omega)]

theorem okI_some {k : IntKind} {n : Int} {v : AV} (h : okI k n = some v) : v = .i k n := by
  simp [okI] at h; exact h.symm
theorem okB_some {b : Bool} {v : AV} (h : okB b = some v) : v = .b b := by simp [okB] at h; exact h.symm

/-- an operation of two, on whole numbers -/
theorem arV_sound {o : I2} {op : BinOp} {t : TypeId} (hop : ∀ (k : IntKind) (a b : Int) (v : AV), o k a b = some v → (∃ r, v = .i k r ∧ (binOp op t (.int k a) (.int k b)).run P w = .ok (.int k r) w) ∨ (∃ r, v = .b r ∧ (binOp op t (.int k a) (.int k b)).run P w = .ok (.bool r) w))
    {x y v : AV} (h : arV o x y = some v) : (binOp op t (den E x) (den E y)).run P w = .ok (den E v) w ∧ ∀ S, Sc S v := by
  unfold arV at h
  cases hx : asI x with
  | no => rw [hx] at h; cases h
  | i k a =>
    rw [hx] at h
    cases hy : asI y with
    | no => rw [hy] at h; cases h
    | i k' b =>
      rw [hy] at h
      change ifB (ikEq k k') (o k a b) none = some v at h
      rw [ifB_eq] at h
      split at h
      · rename_i hk
        have hk := (ikEq_iff k k').1 hk
        subst hk
        rw [asI_i hx, asI_i hy]
        rcases hop k a b v h with ⟨r, rfl, hr⟩ | ⟨r, rfl, hr⟩ <;> exact ⟨by simpa [den] using hr, fun S => by simp [Sc]⟩
      · cases h
theorem ar_i {o : IntKind → Int → Int → Option AV} {f : IntKind → Int → Int → Int} {op : BinOp} {t : TypeId} (ho : ∀ k a b v, o k a b = some v → v = .i k (f k a b) ∧ (binOp op t (.int k a) (.int k b)).run P w = .ok (.int k (f k a b)) w)
    {x y v : AV} (h : arV o x y = some v) : (binOp op t (den E x) (den E y)).run P w = .ok (den E v) w ∧ ∀ S, Sc S v :=
  arV_sound (fun k a b v h => .inl ⟨f k a b, ho k a b v h⟩) h
theorem ar_b {o : IntKind → Int → Int → Option AV} {f : Int → Int → Bool} {op : BinOp} {t : TypeId} (ho : ∀ k a b, o k a b = okB (f a b) ∧ (binOp op t (.int k a) (.int k b)).run P w = .ok (.bool (f a b)) w)
    {x y v : AV} (h : arV o x y = some v) : (binOp op t (den E x) (den E y)).run P w = .ok (den E v) w ∧ ∀ S, Sc S v :=
  arV_sound (fun k a b v h => .inr ⟨f a b, by rw [(ho k a b).1] at h; exact okB_some h, (ho k a b).2⟩) h

theorem quo_sound {f : IntKind → Int → Int → Int} {o : I2} (ho : o = fun k a b => ifB (ieq b (.ofNat 0)) none (okI k (f k a b))) {op : BinOp} {t : TypeId}
    (hr : ∀ k a b, b ≠ 0 → (binOp op t (.int k a) (.int k b)).run P w = .ok (.int k (f k a b)) w) {x y v : AV} (h : arV o x y = some v) :
    (binOp op t (den E x) (den E y)).run P w = .ok (den E v) w ∧ ∀ S, Sc S v := by
  subst ho
  refine ar_i (f := f) (fun k a b v h => ?_) h
  rw [ifB_eq, ieq_eq] at h
  split at h
  · cases h
  · rename_i hb
    have : b ≠ 0 := fun e => hb (by subst e; rfl)
    exact ⟨okI_some h, hr k a b this⟩

theorem shV_sound {o : IntKind → Int → Option Nat → Option AV} {op : BinOp} {t : TypeId}
    (hn : ∀ k a, o k a none = none) (ho : ∀ k a b v k', o k a (some b) = some v → ∃ r, v = .i k r ∧ (binOp op t (.int k a) (.int k' (Int.ofNat b))).run P w = .ok (.int k r) w)
    {x y v : AV} (h : shV o x y = some v) : (binOp op t (den E x) (den E y)).run P w = .ok (den E v) w ∧ ∀ S, Sc S v := by
  unfold shV at h
  cases hx : asI x with
  | no => rw [hx] at h; cases h
  | i k a =>
    rw [hx] at h
    cases hy : asI y with
    | no => rw [hy] at h; cases h
    | i k' b =>
      rw [hy] at h
      change o k a (nnO b) = some v at h
      cases b with
      | negSucc b => change o k a none = some v at h; rw [hn] at h; cases h
      | ofNat b =>
        obtain ⟨r, rfl, hr⟩ := ho k a b v k' h
        rw [asI_i hx, asI_i hy]
        exact ⟨by simpa [den] using hr, fun S => by simp [Sc]⟩

theorem bits_and (t : TypeId) (k : IntKind) (a b : Int) : (binOp .and t (.int k a) (.int k b)).run P w = .ok (.int k (k.wrap (Int.ofNat (Nat.land (toU k a) (toU k b))))) w := by
  rw [← and_toU]; simp [binOp, Op.intBits]
theorem bits_or (t : TypeId) (k : IntKind) (a b : Int) : (binOp .or t (.int k a) (.int k b)).run P w = .ok (.int k (k.wrap (Int.ofNat (Nat.lor (toU k a) (toU k b))))) w := by
  rw [← or_toU]; simp [binOp, Op.intBits]
theorem bits_xor (t : TypeId) (k : IntKind) (a b : Int) : (binOp .xor t (.int k a) (.int k b)).run P w = .ok (.int k (k.wrap (Int.ofNat (Nat.xor (toU k a) (toU k b))))) w := by
  rw [← xor_toU]; simp [binOp, Op.intBits]

/-- the operations on whole numbers -/
theorem int_sound {t : TypeId} {op : BinOp} {o : B2} (hc : cBin op = some o) {x y v : AV} (h : b2 o x y = some v) :
    (binOp op t (den E x) (den E y)).run P w = .ok (den E v) w ∧ ∀ S, Sc S v := by
  cases op <;> simp only [cBin, Option.some.injEq, reduceCtorEq] at hc <;> subst hc
  · exact ar_i (f := fun k a b => k.wrap (a + b)) (fun k a b v h => ⟨by simpa [aAdd] using okI_some h, by simp [binOp, Op.intArith]⟩) h
  · exact ar_i (f := fun k a b => k.wrap (a - b)) (fun k a b v h => ⟨by have := okI_some h; rw [wrapF_eq] at this; exact this, by simp [binOp, Op.intArith]⟩) h
  · exact ar_i (f := fun k a b => k.wrap (a * b)) (fun k a b v h => ⟨by simpa [aMul] using okI_some h, by simp [binOp, Op.intArith]⟩) h
  · exact quo_sound (f := fun k a b => k.wrap (a.tdiv b)) (by funext k a b; simp [aQuo]) (fun k a b hb => by simp [binOp, Op.intDiv, hb]) h
  · exact quo_sound (f := fun k a b => a.tmod b) (by funext k a b; simp [aRem]) (fun k a b hb => by simp [binOp, Op.intDiv, hb]) h
  · exact ar_i (f := fun k a b => k.wrap (Int.ofNat (Nat.land (toU k a) (toU k b)))) (fun k a b v h => ⟨by simpa [aAnd] using okI_some h, bits_and t k a b⟩) h
  · exact ar_i (f := fun k a b => k.wrap (Int.ofNat (Nat.lor (toU k a) (toU k b)))) (fun k a b v h => ⟨by simpa [aOr] using okI_some h, bits_or t k a b⟩) h
  · exact ar_i (f := fun k a b => k.wrap (Int.ofNat (Nat.xor (toU k a) (toU k b)))) (fun k a b v h => ⟨by simpa [aXor] using okI_some h, bits_xor t k a b⟩) h
  · refine shV_sound (fun _ _ => rfl) (fun k a b v k' h => ⟨_, okI_some h, ?_⟩) h
    simp [binOp, Op.shift, shN_eq]; intro h; omega
  · refine shV_sound (fun _ _ => rfl) (fun k a b v k' h => ⟨_, okI_some h, ?_⟩) h
    simp [binOp, Op.shift, shN_eq]; intro h; omega
  · exact ar_b (f := fun a b => a == b) (fun k a b => ⟨by simp [aEq, ieq_eq], by simp [binOp, Op.intCmp]⟩) h
  · exact ar_b (f := fun a b => a != b) (fun k a b => ⟨by simp [aNe, ieq_eq, bne], by simp [binOp, Op.intCmp]⟩) h
  · exact ar_b (f := fun a b => decide (a < b)) (fun k a b => ⟨by simp [aLt, ile_eq]; congr 1; rw [Bool.eq_iff_iff]; simp, by simp [binOp, Op.intCmp]⟩) h
  · exact ar_b (f := fun a b => decide (a ≤ b)) (fun k a b => ⟨by simp [aLe, ile_eq], by simp [binOp, Op.intCmp]⟩) h
  · exact ar_b (f := fun a b => decide (a > b)) (fun k a b => ⟨by simp [aGt, ile_eq]; congr 1; rw [Bool.eq_iff_iff]; simp, by simp [binOp, Op.intCmp]⟩) h
  · exact ar_b (f := fun a b => decide (a ≥ b)) (fun k a b => ⟨by simp [aGe, ile_eq], by simp [binOp, Op.intCmp]⟩) h

theorem eqIn_bool {t : TypeId} (ht : P.underlying t = some .bool) (d : Nat) (a b : Bool) : (Op.equalIn (d + 1) t (.bool a) (.bool b)).run P w = .ok (a == b) w := by
  simp [Op.equalIn, run_underlying ht]
/-- of one bool by another -/
theorem bool_sound {t : TypeId} {op : BinOp} {o : Bool → Bool} (ht : P.underlying t = some .bool) (hop : op = .eql ∧ o = idB ∨ op = .neq ∧ o = bnot) {x y v : AV} (h : beV o x y = some v) :
    (binOp op t (den E x) (den E y)).run P w = .ok (den E v) w ∧ ∀ S, Sc S v := by
  unfold beV at h
  cases hx : asB x with
  | no => rw [hx] at h; cases h
  | b a =>
    rw [hx] at h
    cases hy : asB y with
    | no => rw [hy] at h; cases h
    | b b =>
      rw [hy] at h
      have hv := okB_some h
      subst hv
      rw [asB_b hx, asB_b hy]
      have hq : (Op.equal t (.bool a) (.bool b)).run P w = .ok (a == b) w := eqIn_bool ht 9999 a b
      refine ⟨?_, fun S => by simp [Sc]⟩
      rcases hop with ⟨rfl, rfl⟩ | ⟨rfl, rfl⟩ <;> simp [den, binOp, hq, idB, eqbB_eq]

/-- the types whose values are held against nil -/
def NilT : TypeDesc → Nat → Prop
  | .pointer _, 0 => True
  | .slice _, 1 => True
  | .func _ _ _, 2 => True
  | .interface _, 3 => True
  | _, _ => False
theorem eqIn_nil {t : TypeId} {x y : AV} {td : TypeDesc} {n : Nat} {b : Bool} (d : Nat) (ht : P.underlying t = some td) (hn : NilT td n)
    (h : (asN x = .nil n ∧ asN y = .nil n ∧ b = true) ∨ (asN x = .nil n ∧ asN y = .some n ∧ b = false) ∨ (asN x = .some n ∧ asN y = .nil n ∧ b = false)) :
    (Op.equalIn (d + 1) t (den E x) (den E y)).run P w = .ok b w := by
  have hd : ∀ id o l c, ∃ k, den E (.sl id o l c) = .slice (some ⟨E.blk id, o, none⟩) l k := by intro id o l c; cases c <;> exact ⟨_, rfl⟩
  unfold NilT at hn
  split at hn
  · rcases h with ⟨h1, h2, rfl⟩ | ⟨h1, h2, rfl⟩ | ⟨h1, h2, rfl⟩ <;> cases x <;> simp [asN] at h1 <;> cases y <;> simp [asN] at h2 <;> simp [den, Op.equalIn, run_underlying ht]
  · rcases h with ⟨h1, h2, rfl⟩ | ⟨h1, h2, rfl⟩ | ⟨h1, h2, rfl⟩ <;> cases x <;> simp [asN] at h1 <;> cases y <;> simp [asN] at h2
    · simp [den, Op.equalIn, run_underlying ht]
    · rename_i id o l c; obtain ⟨k, hk⟩ := hd id o l c; rw [hk]; simp [den, Op.equalIn, run_underlying ht]
    · rename_i id o l c; obtain ⟨k, hk⟩ := hd id o l c; rw [hk]; simp [den, Op.equalIn, run_underlying ht]
  · rcases h with ⟨h1, h2, rfl⟩ | ⟨h1, h2, rfl⟩ | ⟨h1, h2, rfl⟩ <;> cases x <;> simp [asN] at h1 <;> cases y <;> simp [asN] at h2 <;> simp [den, Op.equalIn, run_underlying ht]
  · rcases h with ⟨h1, h2, rfl⟩ | ⟨h1, h2, rfl⟩ | ⟨h1, h2, rfl⟩ <;> cases x <;> simp [asN] at h1 <;> cases y <;> simp [asN] at h2 <;> simp [den, Op.equalIn, run_underlying ht]
  · exact hn.elim

/-- against nil -/
theorem nil_sound {t : TypeId} {op : BinOp} {o : Bool → Bool} {td : TypeDesc} {n : Nat} (ht : P.underlying t = some td) (hn : NilT td n)
    (hop : op = .eql ∧ o = idB ∨ op = .neq ∧ o = bnot) {x y v : AV} (h : neV o n x y = some v) :
    (binOp op t (den E x) (den E y)).run P w = .ok (den E v) w ∧ ∀ S, Sc S v := by
  have key : ∃ b, v = .b (o b) ∧ ((asN x = .nil n ∧ asN y = .nil n ∧ b = true) ∨ (asN x = .nil n ∧ asN y = .some n ∧ b = false) ∨ (asN x = .some n ∧ asN y = .nil n ∧ b = false)) := by
    unfold neV at h
    cases hx : asN x with
    | no => rw [hx] at h; cases h
    | nil a =>
      rw [hx] at h
      simp only [ifB_eq] at h
      split at h
      · rename_i ha
        have ha := Nat.eq_of_beq_eq_true ha
        subst ha
        cases hy : asN y with
        | no => rw [hy] at h; cases h
        | nil b =>
          rw [hy] at h
          simp only [ifB_eq] at h
          split at h
          · rename_i hb; have hb := Nat.eq_of_beq_eq_true hb; subst hb; exact ⟨true, okB_some h, .inl ⟨rfl, rfl, rfl⟩⟩
          · cases h
        | some b =>
          rw [hy] at h
          simp only [ifB_eq] at h
          split at h
          · rename_i hb; have hb := Nat.eq_of_beq_eq_true hb; subst hb; exact ⟨false, okB_some h, .inr (.inl ⟨rfl, rfl, rfl⟩)⟩
          · cases h
      · cases h
    | some a =>
      rw [hx] at h
      simp only [ifB_eq] at h
      split at h
      · rename_i ha
        have ha := Nat.eq_of_beq_eq_true ha
        subst ha
        cases hy : asN y with
        | no => rw [hy] at h; cases h
        | nil b =>
          rw [hy] at h
          simp only [ifB_eq] at h
          split at h
          · rename_i hb; have hb := Nat.eq_of_beq_eq_true hb; subst hb; exact ⟨false, okB_some h, .inr (.inr ⟨rfl, rfl, rfl⟩)⟩
          · cases h
        | some b => rw [hy] at h; cases h
      · cases h
  obtain ⟨b, rfl, hb⟩ := key
  have hq : (Op.equal t (den E x) (den E y)).run P w = .ok b w := eqIn_nil 9999 ht hn hb
  refine ⟨?_, fun S => by simp [Sc]⟩
  have hni : ∀ v, (asN v = .nil n ∨ asN v = .some n) → (∃ p, den E v = .pointer p) ∨ (∃ a l c, den E v = .slice a l c) ∨ den E v = .nilFunc ∨ (∃ f a c, den E v = .func f a c) ∨ den E v = .nilIface ∨ ∃ t u, den E v = .iface t u := by
    intro v hv
    have h7 : n ≠ 7 := by
      intro e; subst e
      unfold NilT at hn
      split at hn <;> first | exact hn.elim | simp_all
    cases v with
    | oq k => simp [asN] at hv; exact absurd hv.symm h7
    | sl id o l c => cases c <;> simp [den]
    | _ => simp [asN] at hv <;> simp [den]
  have hx : asN x = .nil n ∨ asN x = .some n := by rcases hb with h | h | h <;> simp [h.1]
  have hy : asN y = .nil n ∨ asN y = .some n := by rcases hb with h | h | h <;> simp [h.2.1]
  have hx := hni x hx
  have hy := hni y hy
  generalize den E x = X at *
  generalize den E y = Y at *
  rcases hop with ⟨rfl, rfl⟩ | ⟨rfl, rfl⟩ <;>
    (rcases hx with ⟨_, rfl⟩ | ⟨_, _, _, rfl⟩ | rfl | ⟨_, _, _, rfl⟩ | rfl | ⟨_, _, rfl⟩ <;> rcases hy with ⟨_, rfl⟩ | ⟨_, _, _, rfl⟩ | rfl | ⟨_, _, _, rfl⟩ | rfl | ⟨_, _, rfl⟩ <;> simp [den, binOp, hq, idB])
end Go.X

namespace Go.X
variable [Sym]
variable {P : Program} {E : Env} {w : World}

theorem szo_some {t s : Nat} (h : szo P t = some s) : ∃ i, P.info? t = some i ∧ i.size = s := by
  unfold szo at h
  cases hi : P.info? t with
  | none => rw [hi] at h; cases h
  | some i => rw [hi] at h; exact ⟨i, rfl, by simpa using h⟩
theorem run_sizeOf' {t s : Nat} (h : szo P t = some s) (w : World) : (sizeOf t).run P w = .ok s w := by
  obtain ⟨i, hi, rfl⟩ := szo_some h
  simp [sizeOf, typeInfo, hi]

theorem eqGuard_ok {op : BinOp} {t : TypeId} {x y : Operand} {a b : Value} (h1 : (isC x || isC y) = true ∨ ¬ (a = .nilIface ∧ b = .nilIface)) (h2 : ∀ c d, ¬ (a = .agg c ∧ b = .agg d)) :
    (eqGuard op t x y a b).run P w = .ok () w := by
  unfold eqGuard
  cases op <;> first | rfl | skip
  all_goals
    simp only [Bool.not_true, Bool.false_eq_true, if_false]
    split
    · rcases h1 with h1 | h1
      · clear h2
        cases x <;> cases y <;> first | rfl | exact Bool.noConfusion h1
      · exact absurd ⟨rfl, rfl⟩ h1
    · exact absurd ⟨rfl, rfl⟩ (h2 _ _)
    · rfl
theorem den_agg {v : AV} {c : Array Value} (h : den E v = .agg c) : ∃ l, v = .ag l := by
  cases v with
  | sl id off len c => cases c <;> simp [den] at h
  | ag l => exact ⟨_, rfl⟩
  | oq k => exact absurd h (Sym.one k c)
  | x y => cases y <;> simp [den, denX] at h
  | em id off l s => obtain ⟨a, c', he⟩ := den_em E id off l s; rw [he] at h; cases h
  | _ => simp [den] at h
theorem den_nilIface {v : AV} (h : den E v = .nilIface) : v = .iz := by
  cases v with
  | sl id off len c => cases c <;> simp [den] at h
  | iz => rfl
  | oq k => exact absurd h (Sym.nn k)
  | x y => cases y <;> simp [den, denX] at h
  | em id off l s => obtain ⟨a, c', he⟩ := den_em E id off l s; rw [he] at h; cases h
  | _ => simp [den] at h

theorem Addr.add_blk (b o n : Nat) : (⟨b, o, none⟩ : Addr).add n = ⟨b, o + n, none⟩ := by
  unfold Addr.add; split
  · rename_i h; subst h; rfl
  · rfl

theorem nnO_some {a : Int} {n : Nat} (h : nnO a = some n) : a = (n : Int) := by
  cases a with
  | ofNat m => simp [nnO] at h; subst h; rfl
  | negSucc m => simp [nnO] at h

/-- the address of an element -/
theorem idx_sound {t e sz : Nat} (ht : P.underlying t = some (.slice e)) (hs : szo P e = some sz) {x y v : AV} (h : idxV sz x y = some v) :
    (Instr.indexAt t (den E x) (den E y)).run P w = .ok (den E v) w ∧ ∀ S, Sc S x → Sc S v := by
  unfold idxV at h
  cases hx : asS x with
  | no => rw [hx] at h; cases h
  | sn => rw [hx] at h; cases h
  | sl id off len c =>
    rw [hx] at h
    change idxI sz id off len (asI y) = some v at h
    cases hy : asI y with
    | no => rw [hy] at h; cases h
    | i k b =>
      rw [hy] at h
      change idxN sz id off len (nnO b) = some v at h
      cases hb : nnO b with
      | none => rw [hb] at h; cases h
      | some i =>
        rw [hb] at h
        change ifB (Nat.ble (Nat.succ i) len) (forceN _ _) none = some v at h
        rw [ifB_eq] at h
        split at h
        · rename_i hi
          have hi := Nat.le_of_ble_eq_true hi
          rw [forceN_eq] at h
          have hv : v = .p id (off + i * sz) := (Option.some.inj h).symm
          subst hv
          rw [asS_sl hx, asI_i hy, nnO_some hb]
          refine ⟨?_, fun S hS => by simpa [Sc] using hS⟩
          obtain ⟨cap, hcap⟩ : ∃ k, den E (.sl id off len c) = .slice (some ⟨E.blk id, off, none⟩) len k := by cases c <;> exact ⟨_, rfl⟩
          rw [hcap]
          have hi' : (0 : Int) ≤ (i : Int) ∧ (i : Int) < (len : Int) := by omega
          simp [Instr.indexAt, asIntOf, den, run_underlying ht, run_sizeOf' hs, Addr.add_blk, hi']
          omega
        · cases h

/-- .. of an array behind a pointer -/
theorem ida_sound {t e m sz : Nat} (ht : P.underlying t = some (.array m e)) (hs : szo P e = some sz) {x y v : AV} (h : idaV m sz x y = some v) :
    (Instr.indexAt t (den E x) (den E y)).run P w = .ok (den E v) w ∧ ∀ S, Sc S x → Sc S v := by
  unfold idaV at h
  cases hx : asP x with
  | no => rw [hx] at h; cases h
  | p id off =>
    rw [hx] at h
    change idxI sz id off m (asI y) = some v at h
    cases hy : asI y with
    | no => rw [hy] at h; cases h
    | i k b =>
      rw [hy] at h
      change idxN sz id off m (nnO b) = some v at h
      cases hb : nnO b with
      | none => rw [hb] at h; cases h
      | some i =>
        rw [hb] at h
        change ifB (Nat.ble (Nat.succ i) m) (forceN _ _) none = some v at h
        rw [ifB_eq] at h
        split at h
        · rename_i hi
          have hi := Nat.le_of_ble_eq_true hi
          rw [forceN_eq] at h
          have hv : v = .p id (off + i * sz) := (Option.some.inj h).symm
          subst hv
          rw [asP_p hx, asI_i hy, nnO_some hb]
          refine ⟨?_, fun S hS => by simpa [Sc] using hS⟩
          have hi' : (0 : Int) ≤ (i : Int) ∧ (i : Int) < (m : Int) := by omega
          simp [Instr.indexAt, asIntOf, den, run_underlying ht, run_sizeOf' hs, Addr.add_blk, Instr.sureAddr, hi']
          omega
        · cases h

theorem idxs_sound {t : Nat} (ht : P.underlying t = some .string) {x y v : AV} (h : idxsV x y = some v) :
    (Instr.index t (den E x) (den E y)).run P w = .ok (den E v) w ∧ ∀ S, Sc S v := by
  unfold idxsV at h
  cases hx : asStr x with
  | none => rw [hx] at h; cases h
  | some l =>
    rw [hx] at h
    cases hy : asI y with
    | no => rw [hy] at h; cases h
    | i k b =>
      rw [hy] at h
      change idxsN l (nnO b) = some v at h
      cases hb : nnO b with
      | none => rw [hb] at h; cases h
      | some i =>
        rw [hb] at h
        change nthB i l = some v at h
        rw [nthB_eq] at h
        cases hl : l[i]? with
        | none => rw [hl] at h; cases h
        | some c =>
          rw [hl] at h
          have hv : v = .i .u8 (.ofNat c.toNat) := (Option.some.inj h).symm
          subst hv
          rw [asStr_s hx, asI_i hy, nnO_some hb]
          refine ⟨?_, fun S => by simp [Sc]⟩
          have hg : (⟨l.toArray⟩ : ByteArray)[i]? = some c := by
            rw [getElem?_def] at hl ⊢
            split at hl
            · rename_i hlt
              rw [dif_pos (by simpa [ByteArray.size] using hlt)]
              simpa [ByteArray.getElem_eq_getElem_data] using hl
            · cases hl
          simp [Instr.index, asIntOf, den, run_underlying ht, hg]
end Go.X

namespace Go.X
variable [Sym]
variable {P : Program} {E : Env} {w : World}

theorem wrap_congr (k : IntKind) (a b : Int) (h : a % (2 ^ k.bits : Int) = b % (2 ^ k.bits : Int)) : k.wrap a = k.wrap b := by
  simp only [IntKind.wrap, h]
theorem i1_some {o : IntKind → Int → Option AV} {x v : AV} (h : i1 o x = some v) : ∃ k n, x = .i k n ∧ o k n = some v := by
  unfold i1 at h
  cases hx : asI x with
  | no => rw [hx] at h; cases h
  | i k n => rw [hx] at h; exact ⟨k, n, asI_i hx, h⟩

theorem com_eq (k : IntKind) (n : Int) : k.wrap ((BitVec.ofInt k.bits (if k.signed then -1 else k.max) ^^^ BitVec.ofInt k.bits n).toNat : Int) = k.wrap (-1 - n) := by
  have h1 : BitVec.ofInt k.bits (if k.signed then -1 else k.max) = BitVec.allOnes k.bits := by
    cases k <;> decide
  rw [h1, BitVec.allOnes_xor, BitVec.toNat_not, BitVec.toNat_ofInt]
  apply wrap_congr
  have hp : (0 : Int) < 2 ^ k.bits := by cases k <;> decide
  have hp' : ((2 ^ k.bits : Nat) : Int) = 2 ^ k.bits := by simp
  have hm : 0 ≤ n % (2 ^ k.bits : Int) := Int.emod_nonneg _ (by omega)
  have hl : n % (2 ^ k.bits : Int) < 2 ^ k.bits := Int.emod_lt_of_pos _ hp
  have e : ((2 ^ k.bits - 1 - (n % ((2 ^ k.bits : Nat) : Int)).toNat : Nat) : Int) = 2 ^ k.bits - 1 - n % (2 ^ k.bits : Int) := by
    rw [hp']
    have : ((n % (2 ^ k.bits : Int)).toNat : Int) = n % (2 ^ k.bits : Int) := Int.toNat_of_nonneg hm
    omega
  rw [e]
  have := Int.emod_add_mul_ediv n (2 ^ k.bits)
  have e2 : (2 : Int) ^ k.bits - 1 - n % (2 ^ k.bits : Int) = (-1 - n) + 2 ^ k.bits * (1 + n / 2 ^ k.bits) := by
    rw [Int.mul_add]; omega
  rw [e2, Int.add_mul_emod_self_left]

theorem un_sound {op : UnOp} {o : B1} (ho : (op = .neg ∧ o = .neg) ∨ (op = .not ∧ o = .not) ∨ (op = .xor ∧ o = .com)) {x v : AV} (h : b1 o x = some v) :
    (Op.unary op (den E x)).run P w = .ok (den E v) w ∧ ∀ S, Sc S v := by
  rcases ho with ⟨rfl, rfl⟩ | ⟨rfl, rfl⟩ | ⟨rfl, rfl⟩
  · obtain ⟨k, n, rfl, hk⟩ := i1_some (o := fun k n => okI k (wrapF k (Int.sub (.ofNat 0) n))) h
    have hv := okI_some hk; subst hv
    refine ⟨?_, fun S => by simp [Sc]⟩
    simp [Op.unary, den, Op.intArith]
    show k.wrap (-n) = k.wrap (Int.sub (Int.ofNat 0) n)
    congr 1
    show -n = (0 : Int) - n
    omega
  · change notV x = some v at h
    unfold notV at h
    cases hx : asB x with
    | no => rw [hx] at h; cases h
    | b b =>
      rw [hx] at h
      have hv := okB_some h; subst hv
      rw [asB_b hx]
      exact ⟨by simp [Op.unary, den], fun S => by simp [Sc]⟩
  · obtain ⟨k, n, rfl, hk⟩ := i1_some (o := fun k n => okI k (wrapF k (Int.sub (.negSucc 0) n))) h
    have hv := okI_some hk; subst hv
    refine ⟨?_, fun S => by simp [Sc]⟩
    simp only [Op.unary, den, Op.intBits]
    have := com_eq k n
    rw [show (Pure.pure (Value.int k (k.wrap ((BitVec.ofInt k.bits (if k.signed then -1 else k.max) ^^^ BitVec.ofInt k.bits n).toNat : Int))) : Sem Value) = pure (.int k (k.wrap (-1 - n))) from by rw [this]]
    simp; rfl

theorem cvt_sound {s d : Nat} {k : IntKind} {ds : TypeDesc} (hs : P.underlying s = some ds) (hd : P.underlying d = some (.int k)) {x v : AV} (h : i1 (cvtI k) x = some v) :
    (convert s d (den E x)).run P w = .ok (den E v) w ∧ ∀ S, Sc S v := by
  obtain ⟨k', n, rfl, hk⟩ := i1_some h
  have hv := okI_some hk; subst hv
  refine ⟨?_, fun S => by simp [Sc]⟩
  have := run_convert_int (P := P) (w := w) s d k' n (by simp [hs]) 
  simp [convert, run_underlying hs, run_underlying hd, den, Conv.intToInt]

theorem mkif_sound {t : Nat} {d : TypeDesc} (ht : P.underlying t = some d) (hd : ∀ m, d ≠ .interface m) (x : AV) :
    (Instr.makeInterface t (den E x)).run P w = .ok (den E (.ic t x)) w := by
  simp only [Instr.makeInterface, Sem.run_bind, run_underlying ht, Result.andThen]
  cases d <;> first | exact absurd rfl (hd _) | simp [den]

theorem fad_sound {t : Nat} {fs : Array Field} {f : Nat} {fd : Field} {s : Nat} (ht : P.underlying t = some (.struct fs)) (hf : fs[f]? = some fd) (hs : szo P fd.type = some s) (h0 : s ≠ 0) {x v : AV} (h : fadV fd.offset x = some v) :
    (Instr.fieldAt t (den E x) f).run P w = .ok (den E v) w ∧ ∀ S, Sc S x → Sc S v := by
  unfold fadV at h
  cases hx : asP x with
  | no => rw [hx] at h; cases h
  | p id o =>
    rw [hx] at h
    change forceN _ _ = some v at h
    rw [forceN_eq] at h
    have hv : v = .p id (o + fd.offset) := (Option.some.inj h).symm
    subst hv
    rw [asP_p hx]
    refine ⟨?_, fun S hS => by simpa [Sc] using hS⟩
    simp [Instr.fieldAt, run_underlying ht, hf, den, Instr.sureAddr, fieldPlace, run_sizeOf' hs, h0, Addr.add_blk]

theorem isAggD_run {t : Nat} {d : TypeDesc} (ht : P.underlying t = some d) : (isAgg t).run P w = .ok (isAggD d) w := by
  simp only [isAgg, Sem.run_bind, run_underlying ht, Result.andThen]
  cases d <;> simp [isAggD]

theorem denL_get (l : List AV) (i : Nat) : (denL E l).toArray[i]? = (l[i]?).map (den E) := by rw [denL_eq]; simp
theorem denL_length (l : List AV) : (denL E l).length = l.length := by rw [denL_eq]; simp
theorem denL_append (a b : List AV) : denL E (a ++ b) = denL E a ++ denL E b := by simp [denL_eq]
theorem ScL_get {S : Pa → Prop} {l : List AV} {i : Nat} {v : AV} (h : ScL S l) (hv : l[i]? = some v) : Sc S v := (ScL_iff S l).1 h v (List.mem_of_getElem? hv)
theorem ScL_take {S : Pa → Prop} {l : List AV} (i : Nat) (h : ScL S l) : ScL S (l.take i) := (ScL_iff _ _).2 fun v hv => (ScL_iff _ _).1 h v (List.mem_of_mem_take hv)
theorem ScL_drop {S : Pa → Prop} {l : List AV} (i : Nat) (h : ScL S l) : ScL S (l.drop i) := (ScL_iff _ _).2 fun v hv => (ScL_iff _ _).1 h v (List.mem_of_mem_drop hv)
theorem ScL_app {S : Pa → Prop} {a b : List AV} (ha : ScL S a) (hb : ScL S b) : ScL S (a ++ b) := (ScL_iff _ _).2 fun v hv => by
  rcases List.mem_append.1 hv with h | h
  · exact (ScL_iff _ _).1 ha v h
  · exact (ScL_iff _ _).1 hb v h

theorem fld_sound {t : Nat} {fs : Array Field} {f : Nat} {fd : Field} {s : Nat} {df : TypeDesc} (ht : P.underlying t = some (.struct fs)) (hf : fs[f]? = some fd) (hdf : P.underlying fd.type = some df)
    (hs : szo P fd.type = some s) {x v : AV} (h : b1 (match isAggD df with | true => .fldn fd.offset s | false => .fld fd.offset) x = some v) :
    (Instr.field t (den E x) f).run P w = .ok (den E v) w ∧ ∀ S, Sc S x → Sc S v := by
  cases hagg : isAggD df with
  | true =>
    rw [hagg] at h
    change fldnV fd.offset s x = some v at h
    unfold fldnV at h
    cases hx : asAg x with
    | no => rw [hx] at h; cases h
    | l l =>
      rw [hx] at h
      change cutK none s fd.offset l someAg = some v at h
      rw [cutK_eq] at h
      split at h
      · rename_i hle
        have hv : v = .ag ((l.drop fd.offset).take s) := (Option.some.inj h).symm
        subst hv
        rw [asAg_l hx]
        refine ⟨?_, fun S hS => by simp only [Sc] at hS ⊢; exact ScL_take _ (ScL_drop _ hS)⟩
        simp [Instr.field, run_underlying ht, hf, den, asAgg, part, isAggD_run hdf, hagg, run_sizeOf' hs, denL_eq]
      · cases h
  | false =>
    rw [hagg] at h
    change fldV fd.offset x = some v at h
    unfold fldV at h
    cases hx : asAg x with
    | no => rw [hx] at h; cases h
    | l l =>
      rw [hx] at h
      change nthO fd.offset l = some v at h
      rw [nthO_eq] at h
      rw [asAg_l hx]
      refine ⟨?_, fun S hS => by simp only [Sc] at hS; exact ScL_get hS h⟩
      simp [Instr.field, run_underlying ht, hf, den, asAgg, part, isAggD_run hdf, hagg, denL_eq, h]

theorem len_sound {t ty e : Nat} (ht : P.underlying t = some (.slice e)) {x v : AV} (h : lenV x = some v) :
    (Builtin.len_ #[t] ty #[den E x]).run P w = .ok (den E v) w ∧ ∀ S, Sc S v := by
  unfold lenV at h
  cases hx : asS x with
  | no => rw [hx] at h; cases h
  | sn =>
    rw [hx] at h
    have hv : v = .i .i64 (.ofNat 0) := (Option.some.inj h).symm
    subst hv; rw [asS_sn hx]
    exact ⟨by simp [Builtin.len_, run_underlying ht, den, goInt], fun S => by simp [Sc]⟩
  | sl id o l c =>
    rw [hx] at h
    have hv : v = .i .i64 l := (Option.some.inj h).symm
    subst hv; rw [asS_sl hx]
    cases c <;> exact ⟨by simp [Builtin.len_, run_underlying ht, den, goInt], fun S => by simp [Sc]⟩
theorem lens_sound {t ty : Nat} (ht : P.underlying t = some .string) {x v : AV} (h : lensV x = some v) :
    (Builtin.len_ #[t] ty #[den E x]).run P w = .ok (den E v) w ∧ ∀ S, Sc S v := by
  unfold lensV at h
  cases hx : asStr x with
  | none => rw [hx] at h; cases h
  | some l =>
    rw [hx] at h
    have hv : v = .i .i64 (.ofNat (lenB l)) := (Option.some.inj h).symm
    subst hv; rw [asStr_s hx]
    refine ⟨?_, fun S => by simp [Sc]⟩
    rw [lenB_eq]
    simp only [Builtin.len_, den]
    simp [run_underlying ht]
    rfl
theorem tya_sound {t xt : Nat} {d : TypeDesc} {i : TypeInfo} {z : Value} {za : AV} (ht : P.underlying t = some d) (hd : ∀ m, d ≠ .interface m) (hi : P.info? t = some i) (hz : i.zero = some z) (hza : den E za = z) (hzs : ∀ S, Sc S za)
    {x v : AV} (h : tyaV t za x = some v) : (Instr.typeAssert (den E x) xt t true).run P w = .ok (den E v) w ∧ ∀ S, Sc S x → Sc S v := by
  subst hza
  unfold tyaV at h
  cases x <;> simp only [asC, reduceCtorEq] at h
  · rename_i t' u
    rw [ifB_eq] at h
    split at h
    · rename_i he
      have he := Nat.eq_of_beq_eq_true he
      subst he
      have hv := (Option.some.inj h).symm
      subst hv
      refine ⟨?_, fun S hS => by simp [Sc, ScL] at hS ⊢; exact hS⟩
      simp only [Instr.typeAssert, Sem.run_bind, run_underlying ht, Result.andThen, den, denL]
      cases d <;> first | exact absurd rfl (hd _) | simp
    · rename_i he
      have hne : t' ≠ t := fun e => he (by subst e; simp [Nat.beq_refl])
      have hv := (Option.some.inj h).symm
      subst hv
      refine ⟨?_, fun S hS => by simp [Sc, ScL]; exact hzs S⟩
      simp only [Instr.typeAssert, Sem.run_bind, run_underlying ht, Result.andThen, den, denL]
      cases d <;> first | exact absurd rfl (hd _) | simp [hne, zeroValue, typeInfo, hi, hz]
  · have hv := (Option.some.inj h).symm
    subst hv
    refine ⟨?_, fun S hS => by simp [Sc, ScL]; exact hzs S⟩
    simp only [Instr.typeAssert, Sem.run_bind, run_underlying ht, Result.andThen, den, denL]
    cases d <;> first | exact absurd rfl (hd _) | simp [zeroValue, typeInfo, hi, hz]

theorem ext_sound {i : Nat} {x v : AV} (h : extV i x = some v) : (Instr.extract (den E x) i).run P w = .ok (den E v) w ∧ ∀ S, Sc S x → Sc S v := by
  unfold extV at h
  cases hx : asTu x with
  | no => rw [hx] at h; cases h
  | l l =>
    rw [hx] at h
    change nthO i l = some v at h
    rw [nthO_eq] at h
    rw [asTu_l hx]
    refine ⟨?_, fun S hS => by simp only [Sc] at hS; exact ScL_get hS h⟩
    simp [Instr.extract, den, denL_eq, h]
end Go.X

namespace Go.X
variable [Sym]
variable {P : Program} {K : Loop → List Nat → List U → Code → Code → Prop} {E : Env} {w w' : World} {h : HT} {n : Pa}

theorem In.up (hw : WRel K E w h n) {p : Pa} (hp : In h n p) : Up n p := ⟨hp.1, hw.dom p hp⟩
theorem BRel.frame {p : Pa} {b : Blk} (hb : BRel K E w p b) (he : w'.heap[E.blk p]? = w.heap[E.blk p]?) : BRel K E w' p b := by
  cases b with
  | c l => obtain ⟨arr, el, h1, h2⟩ := hb; exact ⟨arr, el, he.trans h1, h2⟩
  | lp ps a b fr => obtain ⟨r, nm, h1, h2⟩ := hb; exact ⟨r, nm, he.trans h1, h2⟩
  | df => exact he.trans hb
  | mp nk es => obtain ⟨A, c, h1, h2⟩ := hb; exact ⟨A, c, he.trans h1, h2⟩
  | cz m z l => obtain ⟨arr, el, h1, h2⟩ := hb; exact ⟨arr, el, he.trans h1, h2⟩
theorem BRel.there {p : Pa} {b : Blk} (hb : BRel K E w p b) : E.blk p < w.heap.size := by
  have : ∃ o, w.heap[E.blk p]? = some o := by
    cases b with
    | c l => obtain ⟨arr, el, h1, h2⟩ := hb; exact ⟨_, h1⟩
    | lp ps a b fr => obtain ⟨r, nm, h1, h2⟩ := hb; exact ⟨_, h1⟩
    | df => exact ⟨_, hb⟩
    | mp nk es => obtain ⟨A, c, h1, h2⟩ := hb; exact ⟨_, h1⟩
    | cz m z l => obtain ⟨arr, el, h1, h2⟩ := hb; exact ⟨_, h1⟩
  obtain ⟨o, ho⟩ := this
  exact (Array.getElem?_eq_some_iff.1 ho).1
/-- the loops' records do not hang on where blocks lie that they do not name -/
theorem BRel.env {S : Pa → Prop} {E' : Env} {p : Pa} {b : Blk} (hb : BRel K E w p b) (hs : BSc S b) (he : ∀ q, S q → E'.blk q = E.blk q ∧ E'.sz q = E.sz q) (hp : E'.blk p = E.blk p ∧ E'.sz p = E.sz p) : BRel K E' w p b := by
  cases b with
  | c l =>
    obtain ⟨arr, el, h1, h2, h3, h4⟩ := hb
    refine ⟨arr, el, hp.1 ▸ h1, h2.trans hp.2.symm, h3, fun i v hv => ?_⟩
    rw [h4 i v hv, den_congr he v (ScL_get hs hv)]
  | cz m z l =>
    obtain ⟨arr, el, h1, h2, h3, h4⟩ := hb
    refine ⟨arr, el, hp.1 ▸ h1, h2.trans hp.2.symm, h3, fun i v hv => ?_⟩
    rw [h4 i v hv, den_congr he v (ScL_get hs hv)]
  | lp ps a b fr =>
    obtain ⟨r, nm, h1, h2, h3, h4, h5, h6⟩ := hb
    refine ⟨r, nm, hp.1 ▸ h1, h2, h3, h4, h5, fun i t hi => ⟨(h6 i t hi).1, ?_⟩⟩
    rw [(h6 i t hi).2]
    by_cases hl : i < fr.length
    · have : fr.getD i .und = fr[i] := by simp [hl]
      rw [this, den_congr he _ (ScL_get (l := fr) (i := i) hs (by simp [hl]))]
    · have : fr.getD i .und = .und := by simp; rw [List.getElem?_eq_none (by omega)]; rfl
      rw [this]; simp [den]
  | df => show w.heap[E'.blk p]? = _; rw [hp.1]; exact hb
  | mp nk es => obtain ⟨A, c, h1, h2⟩ := hb; exact ⟨A, c, hp.1 ▸ h1, h2⟩
theorem BSc.mono {S S' : Pa → Prop} (hm : ∀ p, S p → S' p) {b : Blk} (hb : BSc S b) : BSc S' b := by
  cases b with
  | c l => exact ScL.mono hm l hb
  | lp ps a b fr => exact ScL.mono hm fr hb
  | df => trivial
  | mp nk es => trivial
  | cz m z l => exact ScL.mono hm _ hb

theorem WRel.frame (hw : WRel K E w h n) (he : ∀ p, In h n p → w'.heap[E.blk p]? = w.heap[E.blk p]?) (ha : Sym.has → w'.heap[Sym.ab]? = w.heap[Sym.ab]?) : WRel K E w' h n where
  dom := hw.dom
  blk := fun p b hl hb => ⟨(hw.blk p b hl hb).1.frame (he p ⟨hl, by rw [hb]; simp⟩), (hw.blk p b hl hb).2⟩
  inj := hw.inj
  arg := fun hh => ⟨by rw [ha hh]; exact (hw.arg hh).1, (hw.arg hh).2⟩

theorem WRel.arg_lt (hw : WRel K E w h n) (hh : Sym.has) : Sym.ab < w.heap.size := by
  obtain ⟨⟨el, z, h1⟩, _⟩ := hw.arg hh
  exact (Array.getElem?_eq_some_iff.1 h1).1

theorem In.set {b : T Blk} {q p : Pa} (hq : q.length = n.length) (hp : In (T.set b q h) n p) : p = q ∨ In h n p := by
  by_cases e : p = q
  · exact .inl e
  · refine .inr ⟨hp.1, ?_⟩
    have := hp.2
    rwa [T.get_set_ne b q p h (hq.trans hp.1.symm) (fun e' => e e'.symm)] at this

theorem WRel.del {q : Pa} (hw : WRel K E w h n) (hq : q.length = n.length) : WRel K E w (T.set .e q h) n := by
  have hin : ∀ p, In (T.set .e q h) n p → In h n p := fun p hp => by
    rcases In.set hq hp with rfl | h1
    · exact absurd (T.get_del_same p h) hp.2
    · exact h1
  refine ⟨fun p hp => hw.dom p (hin p hp), fun p b hl hb => ?_, fun p p' hp hp' => hw.inj p p' (hin p hp) (hin p' hp'), fun hh => ⟨(hw.arg hh).1, fun p hp => (hw.arg hh).2 p (hin p hp)⟩⟩
  have hne : q ≠ p := fun e => by subst e; rw [T.get_del_same] at hb; cases hb
  rw [T.get_set_ne _ q p h (hq.trans hl.symm) hne] at hb
  exact hw.blk p b hl hb
theorem Step.del {q : Pa} (hq : q.length = n.length) : Step E w h n E w (T.set .e q h) n where
  len := rfl
  le := Nat.le_refl _
  env := fun _ _ _ => ⟨rfl, rfl⟩
  os := rfl
  tape := rfl
  output := rfl
  size := Nat.le_refl _
  keep := fun _ _ _ => rfl
  own := fun p hp => by
    rcases In.set hq hp with rfl | h1
    · exact absurd (T.get_del_same p h) hp.2
    · exact .inr ⟨p, h1, rfl⟩

/-- the world with a block of its own turned -/
theorem WRel.put {b : Blk} {q : Pa} (hw : WRel K E w h n) (hq : Up n q) (hne : ∀ p, In h n p → p ≠ q → E.blk p ≠ E.blk q) (hb : BRel K E w q b) (hs : BSc (Up n) b) (ha : Sym.has → E.blk q ≠ Sym.ab) : WRel K E w (T.set (.v b) q h) n := by
  have hin : ∀ p, In (T.set (.v b) q h) n p → p = q ∨ In h n p := fun p hp => In.set hq.1 hp
  refine ⟨fun p hp => ?_, fun p c hl hc => ?_, fun p p' hp hp' e => ?_, fun hh => ⟨(hw.arg hh).1, fun p hp => ?_⟩⟩
  rotate_right
  · rcases hin p hp with rfl | h1
    · exact ha hh
    · exact (hw.arg hh).2 p h1
  · rcases hin p hp with rfl | h1
    · exact hq.2
    · exact hw.dom p h1
  · by_cases e : p = q
    · subst e
      rw [T.get_set_same] at hc
      have := Option.some.inj hc; subst this
      exact ⟨hb, hs⟩
    · rw [T.get_set_ne _ q p h (hq.1.trans hl.symm) (fun e' => e e'.symm)] at hc
      exact hw.blk p c hl hc
  · by_cases e1 : p = q
    · by_cases e2 : p' = q
      · exact e1.trans e2.symm
      · exact absurd (e.symm.trans (by rw [e1])) (hne p' ((hin p' hp').resolve_left e2) e2)
    · by_cases e2 : p' = q
      · exact absurd (e.trans (by rw [e2])) (hne p ((hin p hp).resolve_left e1) e1)
      · exact hw.inj p p' ((hin p hp).resolve_left e1) ((hin p' hp').resolve_left e2) e

def Env.put (E : Env) (q : Pa) (b s : Nat) : Env := ⟨fun p => if p = q then b else E.blk p, fun p => if p = q then s else E.sz p⟩
theorem Env.put_ne (E : Env) {p q : Pa} (b s : Nat) (hp : p ≠ q) : (E.put q b s).blk p = E.blk p ∧ (E.put q b s).sz p = E.sz p := by simp [Env.put, hp]
theorem Env.put_eq (E : Env) (q : Pa) (b s : Nat) : (E.put q b s).blk q = b ∧ (E.put q b s).sz q = s := by simp [Env.put]
theorem Up.ne {n p : Pa} (hp : Up n p) : p ≠ n := fun e => by subst e; exact Nat.lt_irrefl _ hp.2

/-- the next name is given to a block that has none -/
theorem WRel.name {n' : Pa} (hw : WRel K E w h n) (hi : inc n = some n') (b s : Nat) : WRel K (E.put n b s) w h n' := by
  obtain ⟨hv, hl⟩ := inc_spec n n' hi
  have hin : ∀ p, In h n' p → In h n p := fun p hp => ⟨hp.1.trans hl, hp.2⟩
  have hnn : ∀ p, In h n p → p ≠ n := fun p hp => (In.up hw hp).ne
  refine ⟨fun p hp => by have := hw.dom p (hin p hp); omega, fun p c hlp hc => ?_, fun p p' hp hp' e => ?_, fun hh => ⟨(hw.arg hh).1, fun p hp => by rw [(E.put_ne b s (hnn p (hin p hp))).1]; exact (hw.arg hh).2 p (hin p hp)⟩⟩
  · have hlp' := hlp.trans hl
    have hpn : p ≠ n := hnn p ⟨hlp', by rw [hc]; simp⟩
    have h1 := hw.blk p c hlp' hc
    exact ⟨h1.1.env h1.2 (fun q hq => E.put_ne b s hq.ne) (E.put_ne b s hpn), BSc.mono (fun q hq => ⟨hq.1.trans hl.symm, by have := hq.2; omega⟩) h1.2⟩
  · rw [(E.put_ne b s (hnn p (hin p hp))).1, (E.put_ne b s (hnn p' (hin p' hp'))).1] at e
    exact hw.inj p p' (hin p hp) (hin p' hp') e

theorem up_inc {n n' p : Pa} (hi : inc n = some n') (hp : Up n p) : Up n' p := by
  obtain ⟨hv, hl⟩ := inc_spec n n' hi
  exact ⟨hp.1.trans hl.symm, by have := hp.2; omega⟩
theorem up_self {n n' : Pa} (hi : inc n = some n') : Up n' n := by
  obtain ⟨hv, hl⟩ := inc_spec n n' hi
  exact ⟨hl.symm, by omega⟩

/-- and laid there -/
theorem WRel.adopt {n' : Pa} {b : Blk} {k s : Nat} (hw : WRel K E w h n) (hi : inc n = some n') (hne : ∀ p, In h n p → E.blk p ≠ k) (hb : BRel K (E.put n k s) w n b) (hs : BSc (Up n') b) (ha : Sym.has → k ≠ Sym.ab) :
    WRel K (E.put n k s) w (T.set (.v b) n h) n' := by
  have h1 := hw.name hi k s
  obtain ⟨hv, hl⟩ := inc_spec n n' hi
  refine h1.put (up_self hi) (fun p hp hpn => ?_) hb hs (fun hh => by rw [(E.put_eq n k s).1]; exact ha hh)
  rw [(E.put_ne k s hpn).1, (E.put_eq n k s).1]
  exact hne p ⟨hp.1.trans hl, hp.2⟩

/-- a new block of the world is named -/
theorem step_new {n' : Pa} {b : Blk} {k s : Nat} (hi : inc n = some n') (hos : w'.os = w.os) (ht : w'.tape = w.tape) (ho : w'.output = w.output) (hsz : w.heap.size ≤ w'.heap.size)
    (hkeep : ∀ i, i < w.heap.size → (∀ p, In h n p → E.blk p ≠ i) → w'.heap[i]? = w.heap[i]?) (hk : w.heap.size ≤ k ∨ ∃ q, In h n q ∧ E.blk q = k) : Step E w h n (E.put n k s) w' (T.set (.v b) n h) n' := by
  obtain ⟨hv, hl⟩ := inc_spec n n' hi
  refine ⟨hl, by omega, fun p hp hn => E.put_ne k s (fun e => by subst e; omega), hos, ht, ho, hsz, hkeep, fun p hp => ?_⟩
  by_cases e : p = n
  · subst e; rw [(E.put_eq p k s).1]; exact hk
  · rw [(E.put_ne k s e).1]
    have hp' : In (T.set (.v b) n h) n p := ⟨hp.1.trans hl, hp.2⟩
    rcases In.set rfl hp' with rfl | h1
    · exact absurd rfl e
    · exact .inr ⟨p, h1, rfl⟩

theorem step_put {b : Blk} {q : Pa} (hq : In h n q) (hos : w'.os = w.os) (ht : w'.tape = w.tape) (ho : w'.output = w.output) (hsz : w.heap.size ≤ w'.heap.size)
    (hkeep : ∀ i, i ≠ E.blk q → w'.heap[i]? = w.heap[i]?) : Step E w h n E w' (T.set (.v b) q h) n where
  len := rfl
  le := Nat.le_refl _
  env := fun _ _ _ => ⟨rfl, rfl⟩
  os := hos
  tape := ht
  output := ho
  size := hsz
  keep := fun i _ hno => hkeep i (fun e => hno q hq e.symm)
  own := fun p hp => by
    rcases In.set hq.1 hp with rfl | h1
    · exact .inr ⟨p, hq, rfl⟩
    · exact .inr ⟨p, h1, rfl⟩

/-! ### reading -/
theorem blkC_some {β : Type} {k : List AV → Option β} {o : Option Blk} {v : β} (hb : blkC none k o = some v) : ∃ l, o = some (.c l) ∧ k l = some v := by
  cases o with
  | none => cases hb
  | some b =>
    cases b with
    | c l => exact ⟨l, rfl, hb⟩
    | lp ps a b fr => cases hb
    | df => cases hb
    | mp nk es => cases hb
    | cz m z l => cases hb
theorem cell_of {p : Pa} {l : List AV} {i : Nat} {v : AV} (hw : WRel K E w h n) (hp : p.length = n.length) (hb : h.get p = some (.c l)) (hv : l[i]? = some v) :
    w.cell? ⟨E.blk p, i, none⟩ = some (den E v) ∧ Sc (Up n) v := by
  obtain ⟨⟨arr, el, h1, h2, h3, h4⟩, h5⟩ := hw.blk p _ hp hb
  exact ⟨by simp [World.cell?, h1, h4 i v hv], ScL_get h5 hv⟩

/-- a cell of a row, be it compact -/
theorem cellZ_of {p : Pa} {off : Nat} {v : AV} (hw : WRel K E w h n) (hp : p.length = n.length) (hv : ldC off (h.get p) = some v) :
    w.cell? ⟨E.blk p, off, none⟩ = some (den E v) ∧ Sc (Up n) v := by
  cases hb : h.get p with
  | none => rw [hb] at hv; cases hv
  | some b =>
    rw [hb] at hv
    cases b with
    | c l =>
      have hv' : nthO off l = some v := hv
      rw [nthO_eq] at hv'
      exact cell_of hw hp hb hv'
    | lp ps a b fr => cases hv
    | df => cases hv
    | mp nk es => cases hv
    | cz m z l =>
      have hv' : ifB (Nat.ble m off) (nthO (Nat.sub off m) l) none = some v := hv
      rw [ifB_eq] at hv'
      split at hv'
      · rename_i hm
        have hm := Nat.le_of_ble_eq_true hm
        rw [nthO_eq] at hv'
        obtain ⟨⟨arr, el, h1, h2, h3, h4⟩, h5⟩ := hw.blk p _ hp hb
        have hg : (List.replicate m z ++ l)[off]? = some v := by
          rw [List.getElem?_append_right (by simpa using hm)]
          simpa using hv'
        exact ⟨by simp [World.cell?, h1, h4 off v hg], ScL_get h5 hg⟩
      · cases hv'

theorem orV_ok {o : Option AV} {v : AV} {h h' : HT} {n n' : Pa} (he : orV o h n = .ok v h' n') : o = some v ∧ h' = h ∧ n' = n := by
  cases o with
  | none => cases he
  | some x => cases he; exact ⟨rfl, rfl, rfl⟩

theorem ld_sound {t : Nat} {d : TypeDesc} (ht : P.underlying t = some d) (hd : isAggD d = false) {x v : AV} {h' : HT} {n' : Pa} (hw : WRel K E w h n) (hx : Sc (Up n) x) (he : ldV x h n = .ok v h' n') :
    (Instr.loadAt t (den E x)).run P w = .ok (den E v) w ∧ Sc (Up n) v ∧ h' = h ∧ n' = n := by
  unfold ldV at he
  cases hp : asP x with
  | no => rw [hp] at he; cases he
  | p id off =>
    rw [hp] at he
    obtain ⟨hv, rfl, rfl⟩ := orV_ok he
    rw [asP_p hp] at hx ⊢
    simp only [Sc] at hx
    obtain ⟨hc, hs⟩ := cellZ_of hw hx.1 hv
    refine ⟨?_, hs, rfl, rfl⟩
    simp [Instr.loadAt, den, Instr.sureAddr, loadVar, isAggD_run ht, hd, hc]

theorem ldn_sound {t s : Nat} {d : TypeDesc} (ht : P.underlying t = some d) (hd : isAggD d = true) (hsz : szo P t = some s) {x v : AV} {h' : HT} {n' : Pa} (hw : WRel K E w h n) (hx : Sc (Up n) x) (he : ldnV s x h n = .ok v h' n') :
    (Instr.loadAt t (den E x)).run P w = .ok (den E v) w ∧ Sc (Up n) v ∧ h' = h ∧ n' = n := by
  unfold ldnV at he
  cases hp : asP x with
  | no => rw [hp] at he; cases he
  | p id off =>
    rw [hp] at he
    obtain ⟨hv, rfl, rfl⟩ := orV_ok he
    obtain ⟨l, hl, hn⟩ := blkC_some hv
    rw [cutK_eq] at hn
    split at hn
    · rename_i hle
      have hv' : v = .ag ((l.drop off).take s) := (Option.some.inj hn).symm
      subst hv'
      rw [asP_p hp] at hx ⊢
      simp only [Sc] at hx
      have hbs := (hw.blk id _ hx.1 hl).2
      refine ⟨?_, by simp only [Sc]; exact ScL_take _ (ScL_drop _ hbs), rfl, rfl⟩
      have hlen : ((l.drop off).take s).length = s := by simp; omega
      have hc : ∀ j v, (denL E ((l.drop off).take s))[j]? = some v → w.cell? ((⟨E.blk id, off, none⟩ : Addr).add j) = some v := by
        intro j u hu
        rw [denL_eq, List.getElem?_map] at hu
        cases hj : ((l.drop off).take s)[j]? with
        | none => rw [hj] at hu; cases hu
        | some y =>
          rw [hj] at hu
          have hu' := Option.some.inj hu
          subst hu'
          rw [List.getElem?_take] at hj
          split at hj
          · rw [List.getElem?_drop] at hj
            rw [Addr.add_blk]
            exact (cell_of hw hx.1 hl hj).1
          · cases hj
      have hr := run_loadCells_list (P := P) w ⟨E.blk id, off, none⟩ (denL E ((l.drop off).take s)) hc
      rw [denL_length, hlen] at hr
      simp [Instr.loadAt, den, Instr.sureAddr, loadVar, isAggD_run ht, hd, run_sizeOf' hsz, hr]
    · cases hn
end Go.X

namespace Go.X
variable [Sym]
variable {P : Program} {K : Loop → List Nat → List U → Code → Code → Prop} {E E' : Env} {w w' : World} {h h' h1 h2 h3 : HT} {n n' : Pa}

/-! ### a compact row is the row that it says -/
def xpB : Blk → Blk
  | .cz m z l => .c (List.replicate m z ++ l)
  | b => b
def HEq2 (n : Pa) (h h' : HT) : Prop := ∀ p, p.length = n.length → (h.get p).map xpB = (h'.get p).map xpB
theorem xp_rel {p : Pa} {b : Blk} : BRel K E w p (xpB b) ↔ BRel K E w p b := by cases b <;> exact Iff.rfl
theorem xp_sc {S : Pa → Prop} {b : Blk} : BSc S (xpB b) ↔ BSc S b := by cases b <;> exact Iff.rfl
theorem HEq2.symm (e : HEq2 n h h') : HEq2 n h' h := fun p hp => (e p hp).symm
theorem HEq2.refl : HEq2 n h h := fun _ _ => rfl
theorem HEq2.some (e : HEq2 n h h') {p : Pa} {b : Blk} (hp : p.length = n.length) (hb : h'.get p = some b) : ∃ b', h.get p = some b' ∧ xpB b' = xpB b := by
  have := e p hp
  rw [hb] at this
  cases hg : h.get p with
  | none => rw [hg] at this; cases this
  | some b' => rw [hg] at this; exact ⟨b', rfl, Option.some.inj this⟩
theorem HEq2.in (e : HEq2 n h h') {p : Pa} : In h' n p → In h n p := fun hp => by
  refine ⟨hp.1, fun hn => ?_⟩
  have := e p hp.1
  rw [hn] at this
  cases hg : h'.get p with
  | none => exact hp.2 hg
  | some b => rw [hg] at this; cases this
theorem WRel.heq (hw : WRel K E w h n) (e : HEq2 n h h') : WRel K E w h' n where
  dom := fun p hp => hw.dom p (e.in hp)
  blk := fun p b hl hb => by
    obtain ⟨b', hb', hx⟩ := e.some hl hb
    have h1 := hw.blk p b' hl hb'
    exact ⟨xp_rel.1 (hx ▸ xp_rel.2 h1.1), xp_sc.1 (hx ▸ xp_sc.2 h1.2)⟩
  inj := fun p q hp hq => hw.inj p q (e.in hp) (e.in hq)
  arg := fun hh => ⟨(hw.arg hh).1, fun p hp => (hw.arg hh).2 p (e.in hp)⟩
theorem Step.heq (s : Step E w h n E' w' h1 n') (e : HEq2 n h h2) (e' : HEq2 n' h1 h3) : Step E w h2 n E' w' h3 n' where
  len := s.len
  le := s.le
  env := s.env
  os := s.os
  tape := s.tape
  output := s.output
  size := s.size
  keep := fun b hb hno => s.keep b hb fun p hp => hno p (e.symm.in hp)
  own := fun p hp => by
    rcases s.own p (e'.in hp) with h | ⟨q, hq, he⟩
    · exact .inl h
    · exact .inr ⟨q, e.symm.in hq, he⟩
theorem HEq2.set {b b' : Blk} {q : Pa} (e : HEq2 n h h') (hq : q.length = n.length) (hb : xpB b = xpB b') : HEq2 n (T.set (.v b) q h) (T.set (.v b') q h') := fun p hp => by
  by_cases hpq : q = p
  · subst hpq; rw [T.get_set_same, T.get_set_same]; simp [hb]
  · rw [T.get_set_ne _ _ _ _ (hq.trans hp.symm) hpq, T.get_set_ne _ _ _ _ (hq.trans hp.symm) hpq]; exact e p hp
theorem HEq2.del {q : Pa} (e : HEq2 n h h') (hq : q.length = n.length) : HEq2 n (T.set .e q h) (T.set .e q h') := fun p hp => by
  by_cases hpq : q = p
  · subst hpq; rw [T.get_del_same, T.get_del_same]
  · rw [T.get_set_ne _ _ _ _ (hq.trans hp.symm) hpq, T.get_set_ne _ _ _ _ (hq.trans hp.symm) hpq]; exact e p hp
theorem HEq2.len {m : Pa} (e : HEq2 n h h') (hl : m.length = n.length) : HEq2 m h h' := fun p hp => e p (hp.trans hl)
/-- the row written out -/
theorem heq_out {q : Pa} {m : Nat} {z : AV} {l : List AV} (hb : h.get q = some (.cz m z l)) (hq : q.length = n.length) : HEq2 n h (T.set (.v (.c (List.replicate m z ++ l))) q h) := fun p hp => by
  by_cases hpq : q = p
  · subst hpq; rw [T.get_set_same, hb]; rfl
  · rw [T.get_set_ne _ _ _ _ (hq.trans hp.symm) hpq]
theorem heq_twice {q : Pa} {m : Nat} {z : AV} {l : List AV} {b : Blk} (hq : q.length = n.length) (hb : xpB b = .c (List.replicate m z ++ l)) (c : Blk) : HEq2 n (T.set (.v (.c (List.replicate m z ++ l))) q (T.set (.v c) q h)) (T.set (.v b) q h) := fun p hp => by
  by_cases hpq : q = p
  · subst hpq; rw [T.get_set_same, T.get_set_same, Option.map_some, Option.map_some, hb]; rfl
  · rw [T.get_set_ne _ _ _ _ (hq.trans hp.symm) hpq, T.get_set_ne _ _ _ _ (hq.trans hp.symm) hpq, T.get_set_ne _ _ _ _ (hq.trans hp.symm) hpq]
theorem blkZ_or {k : List AV → OR} {kz : Nat → AV → List AV → OR} {o : Option Blk} {no : Nat} {v : AV} {h' : HT} {n' : Pa} (hb : blkZ (.no no) k kz o = .ok v h' n') : (∃ l, o = some (.c l) ∧ k l = .ok v h' n') ∨ ∃ m z l, o = some (.cz m z l) ∧ kz m z l = .ok v h' n' := by
  cases o with
  | none => cases hb
  | some b =>
    cases b with
    | c l => exact .inl ⟨l, rfl, hb⟩
    | lp ps a b fr => cases hb
    | df => cases hb
    | mp nk es => cases hb
    | cz m z l => exact .inr ⟨m, z, l, rfl, hb⟩
end Go.X

namespace Go.X
variable [Sym]
variable {P : Program} {K : Loop → List Nat → List U → Code → Code → Prop} {E : Env} {w w' : World} {h : HT} {n : Pa}

theorem oneC_cell {v : AV} (hv : oneC v = true) : (den E v).oneCell' = true := by
  cases v with
  | sl id off len c => cases c <;> rfl
  | und => cases hv
  | ag l => cases hv
  | tu l => cases hv
  | oq k => cases hv
  | x y => cases y <;> rfl
  | em id off l s => obtain ⟨a, c, he⟩ := den_em E id off l s; rw [he]; rfl
  | _ => rfl
theorem den_cells (v : AV) : (den E v).cells = (denL E (cells v)).toArray := by
  cases v with
  | sl id off len c => cases c <;> rfl
  | oq k =>
    have h1 := Sym.one k
    show (Sym.val k).cells = (denL E [.oq k]).toArray
    simp only [denL, den]
    revert h1
    cases Sym.val k <;> first | (intro h; rfl) | (intro h; exact absurd rfl (h _))
  | x y => cases y <;> rfl
  | em id off l s =>
    show (den E (.em id off l s)).cells = (denL E [.em id off l s]).toArray
    obtain ⟨a, c, he⟩ := den_em E id off l s
    simp only [denL, he]
    rfl
  | _ => rfl
theorem Sc_cells {S : Pa → Prop} {v : AV} (hv : Sc S v) : ScL S (cells v) := by
  cases v <;> first | exact hv | exact ⟨hv, trivial⟩

theorem lay_rel {l vs : List AV} {A : List Value} {off : Nat} (hr : ∀ (i : Nat) (v : AV), l[i]? = some v → A[i]? = some (den E v)) (h1 : off + vs.length ≤ l.length) (h2 : l.length ≤ A.length) :
    ∀ (i : Nat) (v : AV), (l.take off ++ vs ++ l.drop (off + vs.length))[i]? = some v → (A.take off ++ denL E vs ++ A.drop (off + vs.length))[i]? = some (den E v) := by
  intro i v hv
  have hl1 : (l.take off).length = off := by simp; omega
  have hl2 : (A.take off).length = off := by simp; omega
  have hl3 : (denL E vs).length = vs.length := denL_length vs
  by_cases hi : i < off
  · rw [List.append_assoc, List.getElem?_append_left (by omega), List.getElem?_take, if_pos hi] at hv
    rw [List.append_assoc, List.getElem?_append_left (by omega), List.getElem?_take, if_pos hi]
    exact hr i v hv
  · by_cases hi2 : i < off + vs.length
    · rw [List.getElem?_append_left (by simp; omega), List.getElem?_append_right (by omega), hl1] at hv
      rw [List.getElem?_append_left (by simp [hl3]; omega), List.getElem?_append_right (by omega), hl2, denL_eq, List.getElem?_map, hv]
      rfl
    · have e1 : (l.take off ++ vs).length = off + vs.length := by simp; omega
      have e2 : (A.take off ++ denL E vs).length = off + vs.length := by simp [hl3]; omega
      rw [List.getElem?_append_right (by omega), e1, List.getElem?_drop] at hv
      rw [List.getElem?_append_right (by omega), e2, List.getElem?_drop]
      exact hr _ v hv

/-- a block of the heap's is turned -/
theorem WRel.turn {b : Blk} {q : Pa} (hw : WRel K E w h n) (hq : In h n q) (hf : ∀ p, In h n p → p ≠ q → w'.heap[E.blk p]? = w.heap[E.blk p]?) (hb : BRel K E w' q b) (hs : BSc (Up n) b) (ha : Sym.has → w'.heap[Sym.ab]? = w.heap[Sym.ab]?) : WRel K E w' (T.set (.v b) q h) n := by
  have hin : ∀ p, In (T.set (.v b) q h) n p → In h n p := fun p hp => by
    rcases In.set hq.1 hp with rfl | h1
    · exact hq
    · exact h1
  refine ⟨fun p hp => hw.dom p (hin p hp), fun p c hl hc => ?_, fun p p' hp hp' e => hw.inj p p' (hin p hp) (hin p' hp') e, fun hh => ⟨by rw [ha hh]; exact (hw.arg hh).1, fun p hp => (hw.arg hh).2 p (hin p hp)⟩⟩
  by_cases e : p = q
  · subst e
    rw [T.get_set_same] at hc
    have := Option.some.inj hc; subst this
    exact ⟨hb, hs⟩
  · rw [T.get_set_ne _ q p h (hq.1.trans hl.symm) (fun e' => e e'.symm)] at hc
    have h1 := hw.blk p c hl hc
    exact ⟨h1.1.frame (hf p ⟨hl, by rw [hc]; simp⟩ e), h1.2⟩

theorem stC_sound0 {id : Pa} {off : Nat} {v r : AV} {vs : List AV} {h' : HT} {n' : Pa} (hw : WRel K E w h n) (hid : Up n id) (hvs : ScL (Up n) vs) (hnz : ∀ m z l, h.get id ≠ some (.cz m z l)) (he : stC id off v vs h n = .ok r h' n') :
    ∃ w', (storeCells ⟨E.blk id, off, none⟩ (denL E vs)).run P w = .ok () w' ∧ r = v ∧ n' = n ∧ WRel K E w' h' n ∧ Step E w h n E w' h' n := by
  unfold stC at he
  cases hb : h.get id with
  | none => rw [hb] at he; cases he
  | some b =>
    rw [hb] at he
    cases b with
    | lp ps a b fr => cases he
    | df => cases he
    | mp nk es => cases he
    | cz m z l => exact absurd hb (hnz m z l)
    | c l =>
      change setK _ vs off l (stH id v h n) = _ at he
      rw [setK_eq] at he
      split at he
      · rename_i hc
        obtain ⟨hle, hone⟩ := hc
        unfold stH at he
        rw [T.setK_eq] at he
        cases he
        obtain ⟨⟨arr, el, h1, h2, h3, h4⟩, h5⟩ := hw.blk id _ hid.1 hb
        have hone' : ∀ u ∈ denL E vs, u.oneCell' = true := by
          intro u hu
          rw [denL_eq, List.mem_map] at hu
          obtain ⟨x, hx, rfl⟩ := hu
          exact oneC_cell (hone x hx)
        have hst := run_storeCells_at P (E.blk id) off el (denL E vs) 0 arr w h1 (by rw [denL_length]; omega) hone'
        rw [Nat.add_zero, denL_length] at hst
        refine ⟨_, hst, rfl, rfl, ?_, ?_⟩
        · have hin : In h n id := ⟨hid.1, by rw [hb]; simp⟩
          refine hw.turn hin (fun p hp hpn => setRow_other w _ _ _ fun e => hpn (hw.inj p id hp hin e)) ⟨_, el, setRow_heap w _ _ _ _ _ h1, ?_, ?_, ?_⟩ ?_ (fun hh => setRow_other w _ _ _ fun e => (hw.arg hh).2 id hin e.symm)
          · rw [← h2]; simp [denL_length]; omega
          · simp [denL_length]; omega
          · intro i x hx
            have := lay_rel (A := arr.toList) (off := off) (vs := vs) (fun i v hv => by simpa using h4 i v hv) hle (by simpa using h3) i x hx
            simpa using this
          · exact ScL_app (ScL_app (ScL_take _ h5) hvs) (ScL_drop _ h5)
        · exact step_put ⟨hid.1, by rw [hb]; simp⟩ rfl rfl rfl (by simp) fun i hi => setRow_other w _ _ _ hi
      · cases he
theorem stC_sound {id : Pa} {off : Nat} {v r : AV} {vs : List AV} {h' : HT} {n' : Pa} (hw : WRel K E w h n) (hid : Up n id) (hvs : ScL (Up n) vs) (he : stC id off v vs h n = .ok r h' n') :
    ∃ w', (storeCells ⟨E.blk id, off, none⟩ (denL E vs)).run P w = .ok () w' ∧ r = v ∧ n' = n ∧ WRel K E w' h' n ∧ Step E w h n E w' h' n := by
  have he0 := he
  unfold stC at he
  rcases blkZ_or he with ⟨l, hb, _⟩ | ⟨m, z, l, hb, hk⟩
  · exact stC_sound0 hw hid hvs (fun m z l e => by rw [hb] at e; cases e) he0
  · rw [ifB_eq] at hk
    split at hk
    case isFalse => cases hk
    rename_i hm
    have hm := Nat.le_of_ble_eq_true hm
    rw [setK_eq] at hk
    split at hk
    case isFalse => cases hk
    rename_i hc
    obtain ⟨hle, hone⟩ := hc
    unfold stZ at hk
    rw [T.setK_eq] at hk
    cases hk
    simp only [Nat.sub_eq] at hle
    have e1 := heq_out hb hid.1
    have hx : stC id off v vs (T.set (.v (.c (List.replicate m z ++ l))) id h) n = .ok v (T.set (.v (.c (List.replicate m z ++ (l.take (Nat.sub off m) ++ vs ++ l.drop (Nat.sub off m + vs.length))))) id (T.set (.v (.c (List.replicate m z ++ l))) id h)) n := by
      unfold stC
      rw [T.get_set_same]
      show setK _ vs off (List.replicate m z ++ l) (stH id v _ n) = _
      rw [setK_eq, if_pos ⟨by simp; omega, hone⟩]
      unfold stH
      rw [T.setK_eq]
      have e2 : (List.replicate m z).length = m := by simp
      have e3 : (List.replicate m z ++ l).take off ++ vs ++ (List.replicate m z ++ l).drop (off + vs.length) = List.replicate m z ++ (l.take (Nat.sub off m) ++ vs ++ l.drop (Nat.sub off m + vs.length)) := by
        rw [List.take_append, List.drop_append, e2, List.take_of_length_le (by simp; omega), List.drop_eq_nil_of_le (by simp; omega)]
        simp only [List.append_assoc, List.nil_append, Nat.sub_eq]
        rw [show off + vs.length - m = off - m + vs.length by omega]
      rw [e3]
    obtain ⟨w', q1, _, _, q2, q3⟩ := stC_sound0 (P := P) (hw.heq e1) hid hvs (fun m z l e => by rw [T.get_set_same] at e; cases e) hx
    have e3 := heq_twice (n := n) (h := h) (q := id) (m := m) (z := z) (l := l.take (Nat.sub off m) ++ vs ++ l.drop (Nat.sub off m + vs.length)) (b := .cz m z (l.take (Nat.sub off m) ++ vs ++ l.drop (Nat.sub off m + vs.length))) hid.1 rfl (.c (List.replicate m z ++ l))
    exact ⟨w', q1, rfl, rfl, q2.heq e3, q3.heq e1.symm e3⟩
end Go.X
