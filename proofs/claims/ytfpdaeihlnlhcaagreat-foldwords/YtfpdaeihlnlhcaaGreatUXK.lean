/- An executable reading of the model, its soundness over any program, and what it reads of this program. -/
import Derived.Test.YtfpdaeihlnlhcaaGreatUXF
import Derived.Laws.MakeOwn
set_option linter.unusedSectionVars false
set_option linter.unusedVariables false
set_option linter.unusedSimpArgs false
set_option linter.constructorNameAsVariable false
namespace Go.X

/-! ### numbers of a kind -/
theorem wrap_i8' (n : Int) : IntKind.i8.wrap n = (n + 128) % 256 - 128 := by
  simp only [IntKind.wrap, IntKind.bits, IntKind.signed, Bool.true_and]
  split <;> simp_all <;> omega
theorem wrap_i16' (n : Int) : IntKind.i16.wrap n = (n + 32768) % 65536 - 32768 := by
  simp only [IntKind.wrap, IntKind.bits, IntKind.signed, Bool.true_and]
  split <;> simp_all <;> omega
theorem wrap_i32' (n : Int) : IntKind.i32.wrap n = (n + 2147483648) % 4294967296 - 2147483648 := by
  simp only [IntKind.wrap, IntKind.bits, IntKind.signed, Bool.true_and]
  split <;> simp_all <;> omega
theorem wrap_i64' (n : Int) : IntKind.i64.wrap n = (n + 9223372036854775808) % 18446744073709551616 - 9223372036854775808 := by
  simp only [IntKind.wrap, IntKind.bits, IntKind.signed, Bool.true_and]
  split <;> simp_all <;> omega
theorem wrap_u8' (n : Int) : IntKind.u8.wrap n = n % 256 := by simp [IntKind.wrap, IntKind.bits, IntKind.signed]
theorem wrap_u16' (n : Int) : IntKind.u16.wrap n = n % 65536 := by simp [IntKind.wrap, IntKind.bits, IntKind.signed]
theorem wrap_u32' (n : Int) : IntKind.u32.wrap n = n % 4294967296 := by simp [IntKind.wrap, IntKind.bits, IntKind.signed]
theorem wrap_u64' (n : Int) : IntKind.u64.wrap n = n % 18446744073709551616 := by simp [IntKind.wrap, IntKind.bits, IntKind.signed]
theorem wrap_wrap (k k1 : IntKind) (n : Int) (h : k.bits ≤ k1.bits) : k.wrap (k1.wrap n) = k.wrap n := by
  cases k <;> cases k1 <;> first
  | exact absurd h (by decide)
  | (simp only [wrap_i8', wrap_i16', wrap_i32', wrap_i64', wrap_u8', wrap_u16', wrap_u32', wrap_u64']; omega)
theorem wrap_idem (k : IntKind) (n : Int) : k.wrap (k.wrap n) = k.wrap n := wrap_wrap k k n (Nat.le_refl _)
theorem fdiv_pow (a : Int) (s : Nat) : Int.fdiv a (.ofNat (Nat.pow 2 s)) = a / (2 ^ s : Nat) := by
  show Int.fdiv a ((2 ^ s : Nat) : Int) = _
  rw [Int.fdiv_eq_ediv_of_nonneg]
  exact Int.natCast_nonneg _
theorem ediv_mid {a lo hi : Int} {m : Nat} (hm : 1 ≤ m) (h1 : lo ≤ a) (h2 : a ≤ hi) (hl : lo ≤ 0) (hh : 0 ≤ hi) : lo ≤ a / (m : Int) ∧ a / (m : Int) ≤ hi := by
  have hm' : (0 : Int) < m := by omega
  constructor
  · rw [Int.le_ediv_iff_mul_le hm']
    have h3 : lo * (m : Int) ≤ lo * 1 := Int.mul_le_mul_of_nonpos_left hl (by omega)
    omega
  · by_cases ha : 0 ≤ a
    · exact Int.le_trans (Int.ediv_le_self _ ha) h2
    · have : a / (m : Int) < 0 := Int.ediv_neg_of_neg_of_pos (by omega) hm'
      omega
theorem wrap_fix (k : IntKind) (n : Int) : k.wrap n = n ↔ k.min ≤ n ∧ n ≤ k.max := by
  cases k <;> simp only [wrap_i8', wrap_i16', wrap_i32', wrap_i64', wrap_u8', wrap_u16', wrap_u32', wrap_u64', IntKind.min, IntKind.max, IntKind.signed, IntKind.bits] <;> simp <;> omega
theorem wrap_sr (k : IntKind) (a : Int) (s : Nat) (h : k.wrap a = a) : k.wrap (Int.fdiv a (.ofNat (Nat.pow 2 s))) = Int.fdiv a (.ofNat (Nat.pow 2 s)) := by
  rw [wrap_fix] at h ⊢
  rw [fdiv_pow]
  refine ediv_mid (Nat.one_le_two_pow) h.1 h.2 ?_ ?_ <;> cases k <;> decide

theorem isKK_some {k k' : IntKind} {o : Option IntKind} (h : isKK k o = some k') : o = some k ∧ k = k' := by
  cases o with
  | none => cases h
  | some j =>
    simp only [isKK, ifB_eq] at h
    split at h
    · rename_i hk; cases h; rw [(ikEq_iff j k).1 hk]; exact ⟨rfl, rfl⟩
    · cases h
theorem tmod_mid {lo hi a b : Int} (hl : lo ≤ 0) (hh : 0 ≤ hi) (h1 : lo ≤ a) (h2 : a ≤ hi) : lo ≤ a.tmod b ∧ a.tmod b ≤ hi := by
  have hn : (a.tmod b).natAbs ≤ a.natAbs := by rw [Int.natAbs_tmod]; exact Nat.mod_le _ _
  rcases Int.le_total 0 a with h | h
  · have := Int.tmod_nonneg b h
    omega
  · have h3 : 0 ≤ (-a).tmod b := Int.tmod_nonneg b (by omega)
    rw [Int.neg_tmod] at h3
    omega
theorem wrap_rem (k : IntKind) (a b : Int) (h : k.wrap a = a) : k.wrap (a.tmod b) = a.tmod b := by
  rw [wrap_fix] at h ⊢
  refine tmod_mid ?_ ?_ h.1 h.2 <;> cases k <;> decide
theorem qD_fits (c : Nat) : IntKind.u64.wrap (qD c).1 = (qD c).1 ∧ IntKind.u64.wrap (qD c).2 = (qD c).2 := by
  unfold qD
  split <;> decide
theorem isKO_some {k : IntKind} {o : Option IntKind} (h : isKO k o = true) : o = some k := by
  cases o with
  | none => cases h
  | some k' => rw [(ikEq_iff k' k).1 h]
theorem word_fits {x : Nat} (h : x ≤ 18446744073709551615) : IntKind.u64.wrap (x : Int) = x := wrap_u64_small _ (by omega) (by omega)
variable [Sym]
variable {P : Program} {E : Env} {w : World}
theorem mb_le {r : Nat} {b : Bool} {i : Nat} (h : r ≤ 3) : (if mbP (Sym.wv i) r b then Sym.wv i else (if b then r else r + 4)) ≤ 18446744073709551615 := by
  have := Sym.wlt i
  split
  · exact this
  · split <;> omega
theorem tk_ok : ∀ (t : Tm) (k : IntKind), tkO t = some k → k.wrap (tmv t) = tmv t
  | .lit _, k, h => by cases h
  | .v i, k, h => by cases h; exact word_fits (Sym.wlt i)
  | .md m r i, k, h => by
    simp only [tkO, ifB_eq] at h
    split at h
    · rename_i hr
      have hr := Nat.le_of_ble_eq_true hr
      cases h
      refine word_fits ?_
      have := Sym.wlt i
      split <;> omega
    · cases h
  | .mb r b i, k, h => by
    simp only [tkO, ifB_eq] at h
    split at h
    · rename_i hr
      cases h
      exact word_fits (mb_le (Nat.le_of_ble_eq_true hr))
    · cases h
  | .o .rem k' a b, k, h => by
    obtain ⟨h1, rfl⟩ := isKK_some (h : isKK k' (tkO a) = some k)
    exact wrap_rem k' _ _ (tk_ok a k' h1)
  | .o .shr k' a b, k, h => wrap_sr k _ _ (tk_ok a k h)
  | .o .add k' a b, k, h => by cases h; exact wrap_idem _ _
  | .o .sub k' a b, k, h => by cases h; exact wrap_idem _ _
  | .o .mul k' a b, k, h => by cases h; exact wrap_idem _ _
  | .o .and k' a b, k, h => by cases h; exact wrap_idem _ _
  | .o .or k' a b, k, h => by cases h; exact wrap_idem _ _
  | .o .xor k' a b, k, h => by cases h; exact wrap_idem _ _
  | .o .quo k' a b, k, h => by cases h; exact wrap_idem _ _
  | .o .shl k' a b, k, h => by cases h; exact wrap_idem _ _
  | .cn sg s a, k, h => by
    cases h
    show IntKind.u64.wrap (cnF sg s (tmv a)) = cnF sg s (tmv a)
    unfold cnF
    rw [ifB_eq]
    split
    · exact wrap_idem _ _
    · exact wrap_sr .u64 _ s (wrap_idem _ _)
  | .qx q, k, h => by
    cases h
    show IntKind.u64.wrap (if qB q (Sym.wv 5) (Sym.wv 6) = true then (Sym.wv 5 : Int) else (qD q.c).1) = _
    simp only [tmv]
    split
    · exact word_fits (Sym.wlt 5)
    · exact (qD_fits q.c).1
  | .qy q, k, h => by
    cases h
    show IntKind.u64.wrap (if qB q (Sym.wv 5) (Sym.wv 6) = true then (Sym.wv 6 : Int) else (qD q.c).2) = _
    simp only [tmv]
    split
    · exact word_fits (Sym.wlt 6)
    · exact (qD_fits q.c).2
  | .rg lo hi i, k, h => by
    cases h
    simp only [tmv]
    split
    · exact word_fits (Sym.wlt i)
    · exact wrap_idem _ _
  | .fb op a b, k, h => by
    cases h
    simp only [tmv]
    refine word_fits ?_
    unfold fbF
    split <;> omega
  | .quo k' a n, k, h => by cases h; exact wrap_idem _ _
  | .rem _ _, k, h => by cases h
  | .sl k' a s, k, h => by cases h; exact wrap_idem _ _
  | .sr a s, k, h => wrap_sr k _ s (tk_ok a k h)
  | .cv k' a, k, h => by cases h; exact wrap_idem _ _

theorem mkCv_eq (k : IntKind) : ∀ t : Tm, tmv (mkCv k t) = k.wrap (tmv t)
  | .lit n => rfl
  | .cv k1 a => by
    simp only [mkCv, ifB_eq]
    split
    · rename_i h
      have := (ikEq_iff k1 k).1 h
      subst this
      exact (wrap_idem _ _).symm
    · split
      · rename_i h
        rw [mkCv_eq k a]
        exact (wrap_wrap k k1 _ (Nat.le_of_ble_eq_true h)).symm
      · rfl
  | .v i => by
    simp only [mkCv, ifB_eq]
    split
    · rename_i h; exact (tk_ok _ k (isKO_some h)).symm
    · rfl
  | .md m r i => by
    simp only [mkCv, ifB_eq]
    split
    · rename_i h; exact (tk_ok _ k (isKO_some h)).symm
    · rfl
  | .mb r b i => by
    simp only [mkCv, ifB_eq]
    split
    · rename_i h; exact (tk_ok _ k (isKO_some h)).symm
    · rfl
  | .o op k' a b => by
    simp only [mkCv, ifB_eq]
    split
    · rename_i h; exact (tk_ok _ k (isKO_some h)).symm
    · rfl
  | .quo k' a n => by
    simp only [mkCv, ifB_eq]
    split
    · rename_i h; exact (tk_ok _ k (isKO_some h)).symm
    · rfl
  | .rem a n => by
    simp only [mkCv, ifB_eq]
    split
    · rename_i h; exact (tk_ok _ k (isKO_some h)).symm
    · rfl
  | .sl k' a s => by
    simp only [mkCv, ifB_eq]
    split
    · rename_i h; exact (tk_ok _ k (isKO_some h)).symm
    · rfl
  | .sr a s => by
    simp only [mkCv, ifB_eq]
    split
    · rename_i h; exact (tk_ok _ k (isKO_some h)).symm
    · rfl
  | .cn sg s a => by
    simp only [mkCv, ifB_eq]
    split
    · rename_i h; exact (tk_ok _ k (isKO_some h)).symm
    · rfl
  | .qx q => by
    simp only [mkCv, ifB_eq]
    split
    · rename_i h; exact (tk_ok _ k (isKO_some h)).symm
    · rfl
  | .qy q => by
    simp only [mkCv, ifB_eq]
    split
    · rename_i h; exact (tk_ok _ k (isKO_some h)).symm
    · rfl
  | .rg lo hi i => by
    simp only [mkCv, ifB_eq]
    split
    · rename_i h; exact (tk_ok _ k (isKO_some h)).symm
    · rfl
  | .fb op a b => by
    simp only [mkCv, ifB_eq]
    split
    · rename_i h; exact (tk_ok _ k (isKO_some h)).symm
    · rfl

/-! ### values -/
/-- a number, known or not -/
def NumV (v : AV) (k : IntKind) (t : Tm) : Prop := (∃ n, v = .i k n ∧ t = .lit n) ∨ v = .x (.w k t)
theorem NumV.den {v : AV} {k : IntKind} {t : Tm} (h : NumV v k t) : Go.X.den E v = .int k (tmv t) := by
  rcases h with ⟨n, rfl, rfl⟩ | rfl <;> simp [Go.X.den, tmv, denX]
theorem NumV.sc {v : AV} {k : IntKind} {t : Tm} (h : NumV v k t) (S : Pa → Prop) : Sc S v := by
  rcases h with ⟨n, rfl, rfl⟩ | rfl <;> simp [Sc, XOk]
theorem mkW_num {k : IntKind} {t : Tm} {v : AV} (h : mkW k t = some v) : NumV v k t := by
  cases t <;> simp only [mkW, forceI_eq, Option.some.injEq] at h <;> subst h
  case lit n => exact .inl ⟨n, rfl, rfl⟩
  all_goals exact .inr rfl
theorem asT_num {v : AV} {k : IntKind} {t : Tm} (h : asT v = some (k, t)) : NumV v k t := by
  cases v <;> simp only [asT, reduceCtorEq] at h
  · cases h; exact .inl ⟨_, rfl, rfl⟩
  · rename_i x
    cases x <;> simp only [asT, reduceCtorEq] at h
    cases h; exact .inr rfl
theorem arT_some {o : IntKind → Tm → Tm → Option AV} {p q : Option (IntKind × Tm)} {v : AV} (h : arT o p q = some v) : ∃ k a b, p = some (k, a) ∧ q = some (k, b) ∧ o k a b = some v := by
  match p, q, h with
  | some (k, a), some (k', b), h =>
    simp only [arT, ifB_eq] at h
    split at h
    · rename_i hk
      rw [← (ikEq_iff k k').1 hk] 
      exact ⟨k, a, b, rfl, rfl, h⟩
    · cases h
  | none, _, h => cases h
  | some (k, a), none, h => cases h
theorem shT_some {o : IntKind → Tm → Option Nat → Option AV} {p q : Option (IntKind × Tm)} {v : AV} (h : shT o p q = some v) : ∃ k a k' b, p = some (k, a) ∧ q = some (k', b) ∧ o k a (litP b) = some v := by
  match p, q, h with
  | some (k, a), some (k', b), h => exact ⟨k, a, k', b, rfl, rfl, h⟩
  | none, _, h => cases h
  | some (k, a), none, h => cases h
theorem litP_some {t : Tm} {n : Nat} (h : litP t = some n) : t = .lit (.ofNat n) := by
  cases t <;> simp only [litP, reduceCtorEq] at h
  rename_i m
  cases m <;> simp only [litP, reduceCtorEq, Option.some.injEq] at h
  rw [h]
theorem toEq_eq {a b : TO} (h : toEq a b = true) : a = b := by cases a <;> cases b <;> first | rfl | cases h
theorem qcEq_eq {q p : QC} (h : qcEq q p = true) : q = p := by
  unfold qcEq at h
  simp only [ifB_eq] at h
  split at h
  · split at h
    · split at h
      · split at h
        · rename_i h1 h2 h3 h4
          rw [eqbB_eq] at h2 h4
          cases q; cases p
          simp only [QC.mk.injEq]
          exact ⟨Nat.eq_of_beq_eq_true h1, eq_of_beq h2, Nat.eq_of_beq_eq_true h3, eq_of_beq h4, Nat.eq_of_beq_eq_true h⟩
        · cases h
      · cases h
    · cases h
  · cases h
theorem tmEq_eq : ∀ {a b : Tm}, tmEq a b = true → a = b := by
  intro a
  induction a with
  | lit n => intro b h; cases b <;> simp only [tmEq, reduceCtorEq, Bool.false_eq_true] at h; rw [ieq_eq] at h; rw [eq_of_beq h]
  | v i => intro b h; cases b <;> simp only [tmEq, Bool.false_eq_true] at h; rw [Nat.eq_of_beq_eq_true h]
  | md m r i =>
    intro b h; cases b <;> simp only [tmEq, Bool.false_eq_true, ifB_eq] at h
    split at h
    · split at h
      · rename_i h1 h2; rw [Nat.eq_of_beq_eq_true h1, Nat.eq_of_beq_eq_true h2, Nat.eq_of_beq_eq_true h]
      · cases h
    · cases h
  | mb r c i =>
    intro b h; cases b <;> simp only [tmEq, Bool.false_eq_true, ifB_eq] at h
    split at h
    · split at h
      · rename_i h1 h2; rw [eqbB_eq] at h2; rw [Nat.eq_of_beq_eq_true h1, eq_of_beq h2, Nat.eq_of_beq_eq_true h]
      · cases h
    · cases h
  | o p k a1 a2 ih1 ih2 =>
    intro b h; cases b <;> simp only [tmEq, Bool.false_eq_true, ifB_eq] at h
    split at h
    · split at h
      · split at h
        · rename_i h1 h2 h3; rw [toEq_eq h1, (ikEq_iff _ _).1 h2, ih1 h3, ih2 h]
        · cases h
      · cases h
    · cases h
  | quo k a n ih =>
    intro b h; cases b <;> simp only [tmEq, Bool.false_eq_true, ifB_eq] at h
    split at h
    · split at h
      · rename_i h1 h2; rw [(ikEq_iff _ _).1 h1, Nat.eq_of_beq_eq_true h2, ih h]
      · cases h
    · cases h
  | rem a n ih =>
    intro b h; cases b <;> simp only [tmEq, Bool.false_eq_true, ifB_eq] at h
    split at h
    · rename_i h1; rw [Nat.eq_of_beq_eq_true h1, ih h]
    · cases h
  | sl k a n ih =>
    intro b h; cases b <;> simp only [tmEq, Bool.false_eq_true, ifB_eq] at h
    split at h
    · split at h
      · rename_i h1 h2; rw [(ikEq_iff _ _).1 h1, Nat.eq_of_beq_eq_true h2, ih h]
      · cases h
    · cases h
  | sr a n ih =>
    intro b h; cases b <;> simp only [tmEq, Bool.false_eq_true, ifB_eq] at h
    split at h
    · rename_i h1; rw [Nat.eq_of_beq_eq_true h1, ih h]
    · cases h
  | cv k a ih =>
    intro b h; cases b <;> simp only [tmEq, Bool.false_eq_true, ifB_eq] at h
    split at h
    · rename_i h1; rw [(ikEq_iff _ _).1 h1, ih h]
    · cases h
  | cn sg s a ih =>
    intro b h; cases b <;> simp only [tmEq, Bool.false_eq_true, ifB_eq] at h
    split at h
    · split at h
      · rename_i h1 h2; rw [eqbB_eq] at h1; rw [eq_of_beq h1, Nat.eq_of_beq_eq_true h2, ih h]
      · cases h
    · cases h
  | qx q => intro b h; cases b <;> simp only [tmEq, Bool.false_eq_true] at h; rw [qcEq_eq h]
  | qy q => intro b h; cases b <;> simp only [tmEq, Bool.false_eq_true] at h; rw [qcEq_eq h]
  | rg lo hi i =>
    intro b h; cases b <;> simp only [tmEq, Bool.false_eq_true, ifB_eq] at h
    split at h
    · split at h
      · rename_i h1 h2; rw [ieq_eq] at h1 h2; rw [eq_of_beq h1, eq_of_beq h2, Nat.eq_of_beq_eq_true h]
      · cases h
    · cases h
  | fb op a1 a2 ih1 ih2 =>
    intro b h; cases b <;> simp only [tmEq, Bool.false_eq_true, ifB_eq] at h
    split at h
    · split at h
      · rename_i h1 h2; rw [Nat.eq_of_beq_eq_true h1, ih1 h2, ih2 h]
      · cases h
    · cases h
theorem clEq_eq : ∀ {a b : List (IntKind × Tm)}, clEq a b = true → a = b
  | [], [], _ => rfl
  | [], _ :: _, h => by cases h
  | _ :: _, [], h => by cases h
  | (k, t) :: l, (k', t') :: l', h => by
    simp only [clEq, ifB_eq] at h
    split at h
    · split at h
      · rename_i h1 h2; rw [(ikEq_iff _ _).1 h1, tmEq_eq h2, clEq_eq h]
      · cases h
    · cases h
theorem xvEq_eq {a b : XV} (h : xvEq a b = true) : a = b := by
  cases a <;> cases b <;> simp only [xvEq, Bool.false_eq_true, ifB_eq] at h
  · split at h
    · rename_i h1; rw [(ikEq_iff _ _).1 h1, tmEq_eq h]
    · cases h
  · rw [clEq_eq h]
  · rfl
  · split at h
    · rename_i h1; rw [Nat.eq_of_beq_eq_true h1, clEq_eq h]
    · cases h
theorem xEq_sound {x : XV} {v : AV} (h : xEq x v = true) : AV.x x = v := by
  unfold xEq at h
  cases v <;> simp only [asX] at h
  case x y => rw [xvEq_eq h]
  all_goals cases h

/-! ### what is known of words -/
theorem md_rem {m r i : Nat} (h : r + 1 ≤ m) : (tmv (.md m r i)).tmod (m : Int) = (r : Int) := by
  simp only [tmv]
  have : ∀ x : Nat, ((x : Int).tmod (m : Int)) = ((x % m : Nat) : Int) := fun x => by
    rw [Int.tmod_eq_emod_of_nonneg (Int.natCast_nonneg _)]; simp
  rw [this]
  split
  · rename_i hx; rw [hx]
  · rw [Nat.mod_eq_of_lt (by omega)]
theorem mb_rem {r i : Nat} {b : Bool} (h : r ≤ 3) : (tmv (.mb r b i)).tmod (4 : Nat) = (r : Int) := by
  simp only [tmv]
  have : ∀ x : Nat, ((x : Int).tmod ((4 : Nat) : Int)) = ((x % 4 : Nat) : Int) := fun x => by
    rw [Int.tmod_eq_emod_of_nonneg (Int.natCast_nonneg _)]; simp
  rw [this]
  split
  · rename_i hx; rw [hx.1]
  · split <;> omega
theorem mb_even0 {r : Nat} {b : Bool} (h : r ≤ 3) : decide ((IntKind.wrap .i64 ((IntKind.wrap .i64 ((if b then r else r + 4 : Nat) : Int)).tdiv (4 : Nat))).tmod (2 : Nat) = 0) = b := by
  match r, h with
  | 0, _ => cases b <;> decide
  | 1, _ => cases b <;> decide
  | 2, _ => cases b <;> decide
  | 3, _ => cases b <;> decide
theorem mb_even {r i : Nat} {b : Bool} (h : r ≤ 3) : decide (tmv (.rem (.quo .i64 (.cv .i64 (.mb r b i)) 4) 2) = 0) = b := by
  simp only [tmv]
  split
  · rename_i hx; exact hx.2
  · exact mb_even0 h
theorem tRem_eq {a : Tm} {n : Nat} : tmv (tRem a n) = (tmv a).tmod (n : Int) := by
  cases a <;> simp only [tRem, ifB_eq] <;> (try rfl)
  · split
    · rename_i h1
      split
      · rename_i h2
        have := Nat.eq_of_beq_eq_true h1
        subst this
        exact (md_rem (Nat.le_of_ble_eq_true h2)).symm
      · rfl
    · rfl
  · split
    · rename_i h1
      split
      · rename_i h2
        have := Nat.eq_of_beq_eq_true h1
        subst this
        exact (mb_rem (Nat.le_of_ble_eq_true h2)).symm
      · rfl
    · rfl
theorem tAnd_eq {k : IntKind} {a b : Tm} : tmv (tAnd k a b) = tmv (.o .and k a b) := by
  unfold tAnd
  split
  · rename_i r i
    simp only [ifB_eq]
    split
    · rename_i hr
      have hr := Nat.le_of_ble_eq_true hr
      split
      · rename_i hk
        have := (ikEq_iff _ _).1 hk
        subst this
        have hx : ∃ x : Nat, tmv (.md 2 r i) = (x : Int) ∧ x % 2 = r ∧ x ≤ 18446744073709551615 := by
          simp only [tmv]
          refine ⟨_, rfl, ?_, ?_⟩
          · split
            · rename_i h; exact h
            · omega
          · have := Sym.wlt i; split <;> omega
        obtain ⟨x, h1, h2, h3⟩ := hx
        show ((r : Nat) : Int) = IntKind.u64.wrap (.ofNat (Nat.land (toU .u64 (tmv (.md 2 r i))) (toU .u64 (Int.ofNat 1))))
        rw [h1]
        have e1 : toU .u64 (x : Int) = x := by
          simp only [toU, IntKind.bits]
          show ((x : Int) % (2 ^ 64 : Nat)).toNat = x
          omega
        have e2 : toU .u64 (Int.ofNat 1) = 1 := by decide
        rw [e1, e2, show Nat.land x 1 = x &&& 1 from rfl, Nat.and_one_is_mod, h2]
        exact (word_fits (by omega)).symm
      · rfl
    · rfl
  · rfl
theorem ord1_eq {a : Tm} {x : Bool} (h : ord1 a = some x) : tmv a = IntKind.wrap .i64 (Sym.wv (if x then 1 else 0) : Int) := by
  unfold ord1 at h
  split at h <;> first | (cases h; rfl) | cases h
theorem ord0_eq {a : Tm} {x : Bool} (h : ord0 a = some x) : tmv a = (Sym.wv (if x then 1 else 0) : Int) := by
  unfold ord0 at h
  split at h <;> first | (cases h; rfl) | cases h
theorem ord_ne : (Sym.wv 0 : Int) ≠ (Sym.wv 1 : Int) := fun e => by
  have := Sym.ord
  rw [e] at this
  exact Int.lt_irrefl _ this
/-! ### words cut to a kind -/
theorem cn_fits (sg : Bool) (s : Nat) (a : Int) : 0 ≤ cnF sg s a ∧ cnF sg s a ≤ 18446744073709551615 := by
  have h : IntKind.u64.wrap (cnF sg s a) = cnF sg s a := by
    unfold cnF
    rw [ifB_eq]
    split
    · exact wrap_idem _ _
    · exact wrap_sr .u64 _ s (wrap_idem _ _)
  have := (wrap_fix .u64 _).1 h
  have h0 : IntKind.u64.min = 0 := by decide
  have h1 : IntKind.u64.max = 18446744073709551615 := by decide
  rw [h0, h1] at this
  exact this
theorem cnF_u (s : Nat) (a : Int) : cnF false s a = (a * ((2 ^ s : Nat) : Int)) % 18446744073709551616 / ((2 ^ s : Nat) : Int) := by
  unfold cnF
  rw [ifB_eq, if_neg (by decide), fdiv_pow, wrap_u64']; rfl
theorem cnF_s (s : Nat) (a : Int) : cnF true s a = ((a * ((2 ^ s : Nat) : Int) + 9223372036854775808) % 18446744073709551616 - 9223372036854775808) / ((2 ^ s : Nat) : Int) % 18446744073709551616 := by
  unfold cnF
  rw [ifB_eq, if_pos rfl, fdiv_pow, wrap_wrap .i64 .u64 _ (by decide), wrap_u64', wrap_i64']; rfl
theorem ite_dec {b : Bool} {A B : Prop} [Decidable A] [Decidable B] (h : (if b = true then decide A else decide B) = true) : if b = true then A else B := by cases b <;> simpa using h
theorem ite_lt {b : Bool} {x y u v : Int} (h : if b = true then x < y else u < v) : (if b = true then x else u) < (if b = true then y else v) := by cases b <;> simpa using h
theorem cn_zero (sg : Bool) (v : Int) (h : IntKind.u64.wrap v = v) : cnF sg 0 v = v := by
  rw [wrap_u64'] at h
  cases sg
  · rw [cnF_u]; simp; omega
  · rw [cnF_s]; simp; omega
theorem isCx_val {t : Tm} {q : QC} (h : isCx t = some q) : tmv t = cnF q.sg q.s (tmv (.qx q)) := by
  unfold isCx at h
  split at h
  · rename_i p
    rw [ifB_eq] at h
    split at h
    · rename_i h0
      cases h
      rw [Nat.eq_of_beq_eq_true h0]
      exact (cn_zero _ _ (tk_ok (.qx q) .u64 rfl)).symm
    · cases h
  · rename_i sg s p
    simp only [ifB_eq] at h
    split at h
    · split at h
      · rename_i h1 h2
        cases h
        rw [eqbB_eq] at h1
        rw [eq_of_beq h1, Nat.eq_of_beq_eq_true h2]; rfl
      · cases h
    · cases h
  · cases h
theorem isCy_val {t : Tm} {q : QC} (h : isCy t = some q) : tmv t = cnF q.sg' q.s' (tmv (.qy q)) := by
  unfold isCy at h
  split at h
  · rename_i p
    rw [ifB_eq] at h
    split at h
    · rename_i h0
      cases h
      rw [Nat.eq_of_beq_eq_true h0]
      exact (cn_zero _ _ (tk_ok (.qy q) .u64 rfl)).symm
    · cases h
  · rename_i sg s p
    simp only [ifB_eq] at h
    split at h
    · split at h
      · rename_i h1 h2
        cases h
        rw [eqbB_eq] at h1
        rw [eq_of_beq h1, Nat.eq_of_beq_eq_true h2]; rfl
      · cases h
    · cases h
  · cases h
theorem q_holds {q : QC} (h : qOk q = true) : qP q.c q.sg (cnF q.sg q.s (tmv (.qx q))) (cnF q.sg' q.s' (tmv (.qy q))) = true := by
  simp only [tmv]
  by_cases hq : qB q (Sym.wv 5) (Sym.wv 6) = true
  · rw [if_pos hq, if_pos hq]; exact hq
  · rw [if_neg hq, if_neg hq]; exact h
theorem unCv_val {a b : Tm} (h : unCv a = some b) : tmv a = IntKind.wrap .i64 (tmv b) := by
  unfold unCv at h
  split at h
  · cases h; rfl
  · cases h
theorem orO_some {p q : Option Bool} {x : Bool} (h : orO p q = some x) : p = some x ∨ q = some x := by
  cases p with
  | none => exact .inr h
  | some b => exact .inl h
theorem bindO_some {o : Option Tm} {f : Tm → Option QC} {q : QC} (h : bindO o f = some q) : ∃ a, o = some a ∧ f a = some q := by
  cases o with
  | none => cases h
  | some a => exact ⟨a, rfl, h⟩
theorem qEq2_ok {a b : Tm} {x : Bool} (h : qEq2 (isCx a) (isCy b) = some x) : (tmv a == tmv b) = x := by
  cases ha : isCx a with
  | none => rw [ha] at h; cases h
  | some q =>
    cases hb : isCy b with
    | none => rw [ha, hb] at h; cases h
    | some p =>
      rw [ha, hb] at h
      simp only [qEq2, ifB_eq] at h
      split at h
      · rename_i hqp
        have := qcEq_eq hqp
        subst this
        split at h
        · rename_i hok
          have hP := q_holds hok
          rw [isCx_val ha, isCy_val hb]
          split at h <;> first | cases h | skip
          · rename_i hc
            rw [hc] at hP
            simp only [qP, ifB_eq] at hP
            rw [beq_eq_false_iff_ne]
            intro e
            split at hP <;> simp only [decide_eq_true_eq] at hP <;> rw [e] at hP <;> omega
          · rename_i hc
            rw [hc] at hP
            simpa [qP] using hP
          · rename_i hc
            rw [hc] at hP
            simp only [qP, ifB_eq] at hP
            rw [beq_eq_false_iff_ne]
            intro e
            split at hP <;> simp only [decide_eq_true_eq] at hP <;> rw [e] at hP <;> omega
        · cases h
      · cases h
theorem qEq0_ok {a b : Tm} {x : Bool} (h : qEq0 (isCy a) b = some x) : (tmv a == tmv b) = x := by
  cases ha : isCy a with
  | none => rw [ha] at h; cases h
  | some q =>
    rw [ha] at h
    unfold qEq0 at h
    split at h
    · rename_i q' n hq
      cases hq
      rw [ifB_eq] at h
      split at h
      · rename_i hok
        have hP := q_holds hok
        rw [isCy_val ha]
        show (cnF q.sg' q.s' (tmv (.qy q)) == (n : Int)) = x
        split at h <;> first | cases h | skip
        · rename_i hc
          rw [hc] at hP
          have : cnF q.sg' q.s' (tmv (.qy q)) = 0 := by simpa [qP] using hP
          rw [this]
          rw [Bool.eq_iff_iff]
          simp
          omega
        · rename_i hc
          rw [hc] at hP
          have : cnF q.sg' q.s' (tmv (.qy q)) = 18446744073709551615 := by simpa [qP] using hP
          rw [this]
          rw [Bool.eq_iff_iff]
          simp
          omega
        · rename_i hc
          rw [hc] at hP
          simp only [ifB_eq] at h
          split at h
          · rename_i hn
            have hn := Nat.eq_of_beq_eq_true hn
            subst hn
            cases h
            have : cnF q.sg' q.s' (tmv (.qy q)) ≠ 0 := by simp [qP] at hP; exact hP.1
            rw [beq_eq_false_iff_ne]; exact this
          · split at h
            · rename_i hsg
              split at h
              · rename_i hn
                have hn := Nat.eq_of_beq_eq_true hn
                subst hn
                cases h
                rw [hsg] at hP
                have : cnF q.sg' q.s' (tmv (.qy q)) ≠ 18446744073709551615 := by simp [qP, bnot_eq] at hP; exact hP.2
                rw [beq_eq_false_iff_ne]; exact this
              · cases h
            · cases h
      · cases h
    · cases h
theorem qEqM_ok {a b : Tm} {x : Bool} (h : qEqM (unCv a) b = some x) : (tmv a == tmv b) = x := by
  unfold qEqM at h
  split at h
  · rename_i a' hu
    rw [unCv_val hu]
    split at h
    · rename_i q ha
      simp only [ifB_eq] at h
      split at h
      · rename_i hok
        have hP := q_holds hok
        have hf := cn_fits q.sg' q.s' (tmv (.qy q))
        rw [isCy_val ha]
        split at h
        · rename_i hsg
          split at h <;> first | cases h | skip
          · rename_i hc
            rw [hc] at hP
            have : cnF q.sg' q.s' (tmv (.qy q)) = 18446744073709551615 := by simpa [qP] using hP
            rw [this]; rfl
          · rename_i hc
            rw [hc, hsg] at hP
            have : cnF q.sg' q.s' (tmv (.qy q)) ≠ 18446744073709551615 := by simp [qP, bnot_eq] at hP; exact hP.2
            rw [beq_eq_false_iff_ne, wrap_i64']
            show _ ≠ (-1 : Int)
            omega
        · cases h
      · cases h
    · cases h
  · cases h
theorem ile_iff (a b : Int) : ile a b = true ↔ a ≤ b := by rw [ile_eq]; simp
theorem rgOf_val {o : Option Tm} {lo hi : Int} (h : rgOf o = some (lo, hi)) : ∃ i, o = some (.rg lo hi i) ∧ lo ≤ IntKind.wrap .i64 (tmv (.rg lo hi i)) ∧ IntKind.wrap .i64 (tmv (.rg lo hi i)) ≤ hi := by
  unfold rgOf at h
  split at h
  · rename_i l u i
    simp only [ifB_eq] at h
    split at h
    · split at h
      · split at h
        · rename_i h1 h2 h3
          cases h
          rw [ile_iff] at h1 h2 h3
          refine ⟨i, rfl, ?_⟩
          simp only [tmv]
          split
          · rename_i hh; exact hh
          · have h2' : (-9223372036854775808 : Int) ≤ lo := h2
            have h3' : hi ≤ (9223372036854775807 : Int) := h3
            rw [wrap_i64', wrap_u64']
            omega
        · cases h
      · cases h
    · cases h
  · cases h
theorem litI_val {a : Tm} {n : Int} (h : litI a = some n) : tmv a = n := by
  unfold litI at h
  split at h
  · cases h; rfl
  · cases h
theorem rgEq_ok {a b : Tm} {x : Bool} (h : rgEq (rgOf (unCv a)) (litI b) = some x) : (tmv a == tmv b) = x := by
  unfold rgEq at h
  split at h
  · rename_i lo hi n h1 h2
    obtain ⟨i, hu, k1, k2⟩ := rgOf_val h1
    rw [unCv_val hu, litI_val h2]
    simp only [ifB_eq] at h
    split at h
    · rename_i h3
      rw [ile_iff] at h3
      split at h
      · cases h
      · rename_i h4
        rw [ile_iff] at h4
        cases h
        rw [beq_eq_false_iff_ne]; omega
    · rename_i h3
      rw [ile_iff] at h3
      cases h
      rw [beq_eq_false_iff_ne]; omega
  · cases h
theorem tEqQ_ok {a b : Tm} {x : Bool} (h : tEqQ a b = some x) : (tmv a == tmv b) = x := by
  rcases orO_some h with h | h
  · exact qEq2_ok h
  rcases orO_some h with h | h
  · exact qEq0_ok h
  rcases orO_some h with h | h
  · exact qEqM_ok h
  · exact rgEq_ok h
/-- what a pair's class says of which is less -/
theorem qLt_cls {q : QC} (hok : qOk q = true) : (q.c = 1 → (if q.sg = true then IntKind.wrap .i64 (cnF q.sg q.s (tmv (.qx q))) < IntKind.wrap .i64 (cnF q.sg' q.s' (tmv (.qy q))) else cnF q.sg q.s (tmv (.qx q)) < cnF q.sg' q.s' (tmv (.qy q)))) ∧
    (q.c = 2 → cnF q.sg q.s (tmv (.qx q)) = cnF q.sg' q.s' (tmv (.qy q))) ∧
    (q.c = 3 → (if q.sg = true then IntKind.wrap .i64 (cnF q.sg' q.s' (tmv (.qy q))) < IntKind.wrap .i64 (cnF q.sg q.s (tmv (.qx q))) else cnF q.sg' q.s' (tmv (.qy q)) < cnF q.sg q.s (tmv (.qx q)))) := by
  have hP := q_holds hok
  refine ⟨fun hc => ?_, fun hc => ?_, fun hc => ?_⟩ <;> rw [hc] at hP <;> simp only [qP, ifB_eq] at hP
  · exact ite_dec hP
  · simpa using hP
  · exact ite_dec hP
theorem qLtXY_ok {sg : Bool} {o p : Option QC} {x : Bool} (h : qLtXY sg o p = some x) {u v : Int} (hu : ∀ q, o = some q → u = (if sg = true then IntKind.wrap .i64 (cnF q.sg q.s (tmv (.qx q))) else cnF q.sg q.s (tmv (.qx q))))
    (hv : ∀ q, p = some q → v = (if sg = true then IntKind.wrap .i64 (cnF q.sg' q.s' (tmv (.qy q))) else cnF q.sg' q.s' (tmv (.qy q)))) : decide (u < v) = x := by
  unfold qLtXY at h
  split at h
  · rename_i q p'
    have h1 := hu q rfl
    have h2 := hv p' rfl
    simp only [ifB_eq] at h
    split at h
    · rename_i hqp
      have := qcEq_eq hqp
      subst this
      split at h
      · rename_i hok
        obtain ⟨c1, c2, c3⟩ := qLt_cls hok
        split at h
        · rename_i hsg
          rw [eqbB_eq] at hsg
          have hsg := eq_of_beq hsg
          rw [← hsg] at h1 h2
          split at h <;> first | cases h | skip
          · rename_i hc
            have := c1 hc
            rw [h1, h2]; exact decide_eq_true (ite_lt this)
          · rename_i hc
            rw [h1, h2, c2 hc]; simp
          · rename_i hc
            have := c3 hc
            rw [h1, h2]; exact decide_eq_false (Int.not_lt.2 (Int.le_of_lt (ite_lt this)))
        · cases h
      · cases h
    · cases h
  · cases h
theorem qLtYX_ok {sg : Bool} {o p : Option QC} {x : Bool} (h : qLtYX sg o p = some x) {u v : Int} (hu : ∀ q, o = some q → u = (if sg = true then IntKind.wrap .i64 (cnF q.sg' q.s' (tmv (.qy q))) else cnF q.sg' q.s' (tmv (.qy q))))
    (hv : ∀ q, p = some q → v = (if sg = true then IntKind.wrap .i64 (cnF q.sg q.s (tmv (.qx q))) else cnF q.sg q.s (tmv (.qx q)))) : decide (u < v) = x := by
  unfold qLtYX at h
  split at h
  · rename_i q p'
    have h1 := hu q rfl
    have h2 := hv p' rfl
    simp only [ifB_eq] at h
    split at h
    · rename_i hqp
      have := qcEq_eq hqp
      subst this
      split at h
      · rename_i hok
        obtain ⟨c1, c2, c3⟩ := qLt_cls hok
        split at h
        · rename_i hsg
          rw [eqbB_eq] at hsg
          have hsg := eq_of_beq hsg
          rw [← hsg] at h1 h2
          split at h <;> first | cases h | skip
          · rename_i hc
            have := c1 hc
            rw [h1, h2]; exact decide_eq_false (Int.not_lt.2 (Int.le_of_lt (ite_lt this)))
          · rename_i hc
            rw [h1, h2, c2 hc]; simp
          · rename_i hc
            have := c3 hc
            rw [h1, h2]; exact decide_eq_true (ite_lt this)
        · cases h
      · cases h
    · cases h
  · cases h
theorem qLt63_ok {a b : Tm} {x : Bool} (h : qLt63 a (isCy b) = some x) : decide (tmv a < tmv b) = x := by
  unfold qLt63 at h
  split at h
  · rename_i q hb
    rw [ifB_eq] at h
    split at h
    · rename_i hok
      have hP := q_holds hok
      rw [isCy_val hb]
      show decide ((63 : Int) < _) = x
      split at h <;> first | cases h | skip
      · rename_i hc
        rw [hc] at hP
        have : cnF q.sg' q.s' (tmv (.qy q)) ≤ 63 := by simpa [qP] using hP
        simp; omega
      · rename_i hc
        rw [hc] at hP
        have : 63 < cnF q.sg' q.s' (tmv (.qy q)) := by simpa [qP] using hP
        simpa using this
    · cases h
  · cases h
theorem rgLtL_ok {a b : Tm} {x : Bool} (h : rgLtL (rgOf (unCv a)) (litI b) = some x) : decide (tmv a < tmv b) = x := by
  unfold rgLtL at h
  split at h
  · rename_i lo hi n h1 h2
    obtain ⟨i, hu, k1, k2⟩ := rgOf_val h1
    rw [unCv_val hu, litI_val h2]
    simp only [ifB_eq] at h
    split at h
    · split at h
      · rename_i h3 h4
        rw [ile_iff] at h3 h4
        cases h; simp; omega
      · cases h
    · rename_i h3
      rw [ile_iff] at h3
      cases h; simp; omega
  · cases h
theorem rgLtR_ok {a b : Tm} {x : Bool} (h : rgLtR (litI a) (rgOf (unCv b)) = some x) : decide (tmv a < tmv b) = x := by
  unfold rgLtR at h
  split at h
  · rename_i n lo hi h2 h1
    obtain ⟨i, hu, k1, k2⟩ := rgOf_val h1
    rw [unCv_val hu, litI_val h2]
    simp only [ifB_eq] at h
    split at h
    · split at h
      · rename_i h3 h4
        rw [ile_iff] at h3 h4
        cases h; simp; omega
      · cases h
    · rename_i h3
      rw [ile_iff] at h3
      cases h; simp; omega
  · cases h
theorem tLtQ_ok {a b : Tm} {x : Bool} (h : tLtQ a b = some x) : decide (tmv a < tmv b) = x := by
  have cvx : ∀ {t : Tm} {q : QC}, bindO (unCv t) isCx = some q → tmv t = IntKind.wrap .i64 (cnF q.sg q.s (tmv (.qx q))) := fun hq => by
    obtain ⟨a, h1, h2⟩ := bindO_some hq
    rw [unCv_val h1, isCx_val h2]
  have cvy : ∀ {t : Tm} {q : QC}, bindO (unCv t) isCy = some q → tmv t = IntKind.wrap .i64 (cnF q.sg' q.s' (tmv (.qy q))) := fun hq => by
    obtain ⟨a, h1, h2⟩ := bindO_some hq
    rw [unCv_val h1, isCy_val h2]
  rcases orO_some h with h | h
  · exact qLtXY_ok h (fun q hq => by simpa using isCx_val hq) (fun q hq => by simpa using isCy_val hq)
  rcases orO_some h with h | h
  · exact qLtXY_ok h (fun q hq => by simpa using cvx hq) (fun q hq => by simpa using cvy hq)
  rcases orO_some h with h | h
  · exact qLtYX_ok h (fun q hq => by simpa using isCy_val hq) (fun q hq => by simpa using isCx_val hq)
  rcases orO_some h with h | h
  · exact qLtYX_ok h (fun q hq => by simpa using cvy hq) (fun q hq => by simpa using cvx hq)
  rcases orO_some h with h | h
  · exact qLt63_ok h
  rcases orO_some h with h | h
  · exact rgLtL_ok h
  · exact rgLtR_ok h
theorem tEq_ok {a b : Tm} {x : Bool} (h : tEq a b = some x) : (tmv a == tmv b) = x := by
  unfold tEq at h
  rw [ifB_eq] at h
  split at h
  · rename_i hq
    cases h
    rw [tmEq_eq hq]; exact beq_self_eq_true _
  · unfold tEqS at h
    split at h
    · rename_i r b i hq
      rw [ifB_eq] at h
      split at h
      · rename_i hr
        cases h
        have := mb_even (i := i) (b := x) (Nat.le_of_ble_eq_true hr)
        exact this
      · cases h
    · split at h
      · rename_i x1 x2 h1 h2
        cases h
        rw [ord1_eq h1, ord1_eq h2, eqbB_eq]
        have := Sym.ord
        cases x1 <;> cases x2 <;> simp <;> omega
      · split at h
        · rename_i x1 x2 h1 h2
          cases h
          rw [ord0_eq h1, ord0_eq h2, eqbB_eq]
          have := ord_ne
          cases x1 <;> cases x2 <;> simp <;> omega
        · exact tEqQ_ok h
theorem tLt_ok {a b : Tm} {x : Bool} (h : tLt a b = some x) : decide (tmv a < tmv b) = x := by
  unfold tLt at h
  rw [ifB_eq] at h
  split at h
  · rename_i hq
    cases h
    rw [tmEq_eq hq]; simp
  · have := Sym.ord
    split at h
    · rename_i h1 h2
      cases h
      rw [ord1_eq h1, ord1_eq h2]
      simpa using this
    · rename_i h1 h2
      cases h
      rw [ord1_eq h1, ord1_eq h2]
      simp; omega
    · exact tLtQ_ok h
theorem bO_some {o : Option Bool} {v : AV} (h : bO o = some v) : ∃ b, o = some b ∧ v = .b b := by
  cases o with
  | none => cases h
  | some b => exact ⟨b, rfl, (Option.some.inj h).symm⟩
theorem bNO_some {o : Option Bool} {v : AV} (h : bNO o = some v) : ∃ b, o = some b ∧ v = .b (!b) := by
  cases o with
  | none => cases h
  | some b => exact ⟨b, rfl, by rw [← bnot_eq]; exact (Option.some.inj h).symm⟩

/-! ### a word that is one of a kind already -/
theorem okS_s {s : Nat} (h : okS s = true) : s = 56 ∨ s = 48 ∨ s = 32 := by
  unfold okS at h
  simp only [ifB_eq] at h
  split at h
  · rename_i h1; exact .inl (Nat.eq_of_beq_eq_true h1)
  · split at h
    · rename_i h1; exact .inr (.inl (Nat.eq_of_beq_eq_true h1))
    · exact .inr (.inr (Nat.eq_of_beq_eq_true h))
/-- unsigned: the word is small -/
theorem cn_u {s : Nat} (hs : s = 56 ∨ s = 48 ∨ s = 32) (v : Int) : cnF false s v = v ↔ 0 ≤ v ∧ v < 2 ^ (64 - s) := by
  rw [cnF_u]
  rcases hs with rfl | rfl | rfl <;> simp <;> omega
/-- signed: its upper bits are all alike -/
theorem cn_s {s : Nat} (hs : s = 56 ∨ s = 48 ∨ s = 32) (v : Int) : cnF true s v = v ↔ (0 ≤ v ∧ v < 2 ^ (63 - s)) ∨ (18446744073709551616 - 2 ^ (63 - s) ≤ v ∧ v < 18446744073709551616) := by
  rw [cnF_s]
  rcases hs with rfl | rfl | rfl <;> simp <;> omega
theorem cn_idem {sg : Bool} {s : Nat} (hs : s = 56 ∨ s = 48 ∨ s = 32) (v : Int) : cnF sg s (cnF sg s v) = cnF sg s v := by
  cases sg
  · rw [cn_u hs]
    rw [cnF_u]
    rcases hs with rfl | rfl | rfl <;> simp <;> omega
  · rw [cn_s hs, cnF_s]
    rcases hs with rfl | rfl | rfl <;> simp <;> omega
theorem isCn_ok {sg : Bool} {s : Nat} (hs : s = 56 ∨ s = 48 ∨ s = 32) {t : Tm} (h : isCn sg s t = true) : cnF sg s (tmv t) = tmv t ∧ 0 ≤ tmv t ∧ tmv t ≤ 18446744073709551615 := by
  unfold isCn at h
  split at h
  · rename_i sg' s' a
    rw [ifB_eq] at h
    split at h
    · rename_i h1
      rw [eqbB_eq] at h1
      have h1 := eq_of_beq h1
      have h2 := Nat.eq_of_beq_eq_true h
      subst h1 h2
      exact ⟨cn_idem hs _, cn_fits _ _ _⟩
    · cases h
  · cases h
/-- the bits from the m-th on -/
theorem hi_and {m M x y : Nat} (hx : x / 2 ^ m = 0 ∨ x / 2 ^ m = M) (hy : y / 2 ^ m = 0 ∨ y / 2 ^ m = M) : (x &&& y) / 2 ^ m = 0 ∨ (x &&& y) / 2 ^ m = M := by
  rw [← Nat.shiftRight_eq_div_pow] at hx hy ⊢
  rw [Nat.shiftRight_and_distrib]
  rcases hx with h | h <;> rcases hy with h' | h' <;> simp [h, h']
theorem hi_or {m M x y : Nat} (hx : x / 2 ^ m = 0 ∨ x / 2 ^ m = M) (hy : y / 2 ^ m = 0 ∨ y / 2 ^ m = M) : (x ||| y) / 2 ^ m = 0 ∨ (x ||| y) / 2 ^ m = M := by
  rw [← Nat.shiftRight_eq_div_pow] at hx hy ⊢
  rw [Nat.shiftRight_or_distrib]
  rcases hx with h | h <;> rcases hy with h' | h' <;> simp [h, h']
theorem hi_xor {m M x y : Nat} (hx : x / 2 ^ m = 0 ∨ x / 2 ^ m = M) (hy : y / 2 ^ m = 0 ∨ y / 2 ^ m = M) : (x ^^^ y) / 2 ^ m = 0 ∨ (x ^^^ y) / 2 ^ m = M := by
  rw [← Nat.shiftRight_eq_div_pow] at hx hy ⊢
  rw [Nat.shiftRight_xor_distrib]
  rcases hx with h | h <;> rcases hy with h' | h' <;> simp [h, h']
/-- of words as numbers from 0 on -/
theorem cn_n {sg : Bool} {s : Nat} (hs : s = 56 ∨ s = 48 ∨ s = 32) {x : Nat} (hx : x < 2 ^ 64) : cnF sg s (x : Int) = x ↔ x / 2 ^ (if sg = true then 63 - s else 64 - s) = 0 ∨ (sg = true ∧ x / 2 ^ (63 - s) = 2 ^ (s + 1) - 1) := by
  cases sg
  · rw [cn_u hs]
    rcases hs with rfl | rfl | rfl <;> simp <;> omega
  · rw [cn_s hs]
    rcases hs with rfl | rfl | rfl <;> simp <;> omega
theorem cn_bits {sg : Bool} {s : Nat} (hs : s = 56 ∨ s = 48 ∨ s = 32) {x y : Nat} (hx : x < 2 ^ 64) (hy : y < 2 ^ 64) (h1 : cnF sg s (x : Int) = x) (h2 : cnF sg s (y : Int) = y) :
    (cnF sg s ((x &&& y : Nat) : Int) = (x &&& y : Nat)) ∧ (cnF sg s ((x ||| y : Nat) : Int) = (x ||| y : Nat)) ∧ (cnF sg s ((x ^^^ y : Nat) : Int) = (x ^^^ y : Nat)) := by
  have g1 : x &&& y < 2 ^ 64 := Nat.and_lt_two_pow _ hy
  have g2 : x ||| y < 2 ^ 64 := Nat.or_lt_two_pow hx hy
  have g3 : x ^^^ y < 2 ^ 64 := Nat.xor_lt_two_pow hx hy
  rw [cn_n hs hx] at h1
  rw [cn_n hs hy] at h2
  rw [cn_n hs g1, cn_n hs g2, cn_n hs g3]
  cases sg
  · simp only [Bool.false_eq_true, if_false, false_and, or_false] at h1 h2 ⊢
    have a := hi_and (M := 0) (.inl h1) (.inl h2)
    have b := hi_or (M := 0) (.inl h1) (.inl h2)
    have c := hi_xor (M := 0) (.inl h1) (.inl h2)
    exact ⟨a.elim id id, b.elim id id, c.elim id id⟩
  · simp only [if_true, true_and] at h1 h2 ⊢
    exact ⟨hi_and h1 h2, hi_or h1 h2, hi_xor h1 h2⟩
theorem toU_u64 {a : Int} (h0 : 0 ≤ a) (h1 : a ≤ 18446744073709551615) : toU .u64 a = a.toNat := by
  simp only [toU, IntKind.bits]
  show (a % (2 ^ 64 : Nat)).toNat = a.toNat
  omega
theorem cn_shr {s : Nat} (hs : s = 56 ∨ s = 48 ∨ s = 32) {v : Int} (h : cnF true s v = v) (m : Nat) : cnF true s (IntKind.u64.wrap (Int.fdiv (IntKind.i64.wrap v) (.ofNat (Nat.pow 2 m)))) = IntKind.u64.wrap (Int.fdiv (IntKind.i64.wrap v) (.ofNat (Nat.pow 2 m))) := by
  rw [cn_s hs] at h ⊢
  rw [fdiv_pow]
  generalize hp : 2 ^ m = p
  have hp1 : 1 ≤ p := by rw [← hp]; exact Nat.one_le_two_pow
  have hw : -(2 ^ (63 - s) : Int) ≤ IntKind.i64.wrap v ∧ IntKind.i64.wrap v ≤ 2 ^ (63 - s) - 1 := by
    rw [wrap_i64']
    rcases hs with rfl | rfl | rfl <;> simp at h ⊢ <;> omega
  have := ediv_mid (m := p) hp1 hw.1 hw.2 (by rcases hs with rfl | rfl | rfl <;> decide) (by rcases hs with rfl | rfl | rfl <;> decide)
  rw [wrap_u64']
  rcases hs with rfl | rfl | rfl <;> simp at this ⊢ <;> omega
theorem tdiv_mid {a b : Int} (ha : 0 ≤ a) (hb : 0 ≤ b) : 0 ≤ a.tdiv b ∧ a.tdiv b ≤ a := by
  have h1 : 0 ≤ a.tdiv b := Int.tdiv_nonneg ha hb
  have hn : (a.tdiv b).natAbs ≤ a.natAbs := by rw [Int.natAbs_tdiv]; exact Nat.div_le_self _ _
  omega
theorem bits_le (k : IntKind) : k.bits ≤ 64 := by cases k <;> decide
theorem isCnT_ok {sg : Bool} {s : Nat} (hs : s = 56 ∨ s = 48 ∨ s = 32) {t : Tm} (h : isCnT sg s t = true) : cnF sg s (tmv t) = tmv t := by
  have bits : ∀ {a b : Tm}, isCn sg s a = true → isCn sg s b = true → ∃ x y : Nat, tmv a = x ∧ tmv b = y ∧ x < 2 ^ 64 ∧ y < 2 ^ 64 ∧ toU .u64 (tmv a) = x ∧ toU .u64 (tmv b) = y ∧ cnF sg s (x : Int) = x ∧ cnF sg s (y : Int) = y := by
    intro a b ha hb
    obtain ⟨a1, a2, a3⟩ := isCn_ok hs ha
    obtain ⟨b1, b2, b3⟩ := isCn_ok hs hb
    refine ⟨(tmv a).toNat, (tmv b).toNat, by omega, by omega, by omega, by omega, toU_u64 a2 a3, toU_u64 b2 b3, ?_, ?_⟩
    · rw [Int.toNat_of_nonneg a2]; exact a1
    · rw [Int.toNat_of_nonneg b2]; exact b1
  unfold isCnT at h
  split at h
  · rename_i sg' s' a
    exact (isCn_ok hs (t := .cn sg' s' a) h).1
  · rename_i a b
    rw [ifB_eq] at h
    split at h
    · rename_i ha
      obtain ⟨x, y, e1, e2, hx, hy, e3, e4, c1, c2⟩ := bits ha h
      show cnF sg s (IntKind.u64.wrap (.ofNat (Nat.land (toU .u64 (tmv a)) (toU .u64 (tmv b))))) = IntKind.u64.wrap (.ofNat (Nat.land (toU .u64 (tmv a)) (toU .u64 (tmv b))))
      rw [e3, e4, show IntKind.u64.wrap (.ofNat (Nat.land x y)) = ((x &&& y : Nat) : Int) from word_fits (by have := Nat.and_lt_two_pow (n := 64) x hy; show x &&& y ≤ _; omega)]
      exact (cn_bits hs hx hy c1 c2).1
    · cases h
  · rename_i a b
    rw [ifB_eq] at h
    split at h
    · rename_i ha
      obtain ⟨x, y, e1, e2, hx, hy, e3, e4, c1, c2⟩ := bits ha h
      show cnF sg s (IntKind.u64.wrap (.ofNat (Nat.lor (toU .u64 (tmv a)) (toU .u64 (tmv b))))) = IntKind.u64.wrap (.ofNat (Nat.lor (toU .u64 (tmv a)) (toU .u64 (tmv b))))
      rw [e3, e4, show IntKind.u64.wrap (.ofNat (Nat.lor x y)) = ((x ||| y : Nat) : Int) from word_fits (by have := Nat.or_lt_two_pow (n := 64) hx hy; show x ||| y ≤ _; omega)]
      exact (cn_bits hs hx hy c1 c2).2.1
    · cases h
  · rename_i a b
    rw [ifB_eq] at h
    split at h
    · rename_i ha
      obtain ⟨x, y, e1, e2, hx, hy, e3, e4, c1, c2⟩ := bits ha h
      show cnF sg s (IntKind.u64.wrap (.ofNat (Nat.xor (toU .u64 (tmv a)) (toU .u64 (tmv b))))) = IntKind.u64.wrap (.ofNat (Nat.xor (toU .u64 (tmv a)) (toU .u64 (tmv b))))
      rw [e3, e4, show IntKind.u64.wrap (.ofNat (Nat.xor x y)) = ((x ^^^ y : Nat) : Int) from word_fits (by have := Nat.xor_lt_two_pow (n := 64) hx hy; show x ^^^ y ≤ _; omega)]
      exact (cn_bits hs hx hy c1 c2).2.2
    · cases h
  · rename_i a b
    rw [ifB_eq] at h
    split at h
    · cases h
    · rename_i hsg
      have hsg : sg = false := by simpa using hsg
      subst hsg
      rw [ifB_eq] at h
      split at h
      case isFalse => cases h
      rename_i hbk
      have h2 : 0 ≤ tmv b := by
        have := (wrap_fix .u64 _).1 (tk_ok b .u64 (isKO_some hbk))
        have h0 : IntKind.u64.min = 0 := by decide
        rw [h0] at this
        exact this.1
      obtain ⟨a1, a2, a3⟩ := isCn_ok hs h
      rw [cn_u hs] at a1 ⊢
      show 0 ≤ IntKind.u64.wrap ((tmv a).tdiv (tmv b)) ∧ IntKind.u64.wrap ((tmv a).tdiv (tmv b)) < _
      have hb : 0 ≤ tmv b ∨ tmv b < 0 := by omega
      rw [wrap_u64']
      obtain ⟨c1, c2⟩ := tdiv_mid (a := tmv a) (b := tmv b) a1.1 h2
      have hp : (2 : Int) ^ (64 - s) ≤ 18446744073709551616 := by rcases hs with rfl | rfl | rfl <;> decide
      have := a1.2
      omega
  · rename_i a b
    rw [ifB_eq] at h
    split at h
    · cases h
    · rename_i hsg
      have hsg : sg = false := by simpa using hsg
      subst hsg
      obtain ⟨a1, a2, a3⟩ := isCn_ok hs h
      rw [cn_u hs] at a1 ⊢
      show 0 ≤ (tmv a).tmod (tmv b) ∧ (tmv a).tmod (tmv b) < _
      have := tmod_mid (lo := 0) (hi := 2 ^ (64 - s) - 1) (a := tmv a) (b := tmv b) (Int.le_refl _) (by have := a1.1; omega) a1.1 (by have := a1.2; omega)
      omega
  · rename_i a b
    rw [ifB_eq] at h
    split at h
    · cases h
    · rename_i hsg
      have hsg : sg = false := by simpa using hsg
      subst hsg
      obtain ⟨a1, a2, a3⟩ := isCn_ok hs h
      rw [cn_u hs] at a1 ⊢
      show 0 ≤ Int.fdiv (tmv a) (.ofNat (Nat.pow 2 _)) ∧ Int.fdiv (tmv a) (.ofNat (Nat.pow 2 _)) < _
      rw [fdiv_pow]
      have := ediv_mid (lo := 0) (hi := 2 ^ (64 - s) - 1) (a := tmv a) (m := 2 ^ (shN .u64 (tmv b).toNat)) Nat.one_le_two_pow a1.1 (by have := a1.2; omega) (Int.le_refl _) (by have := a1.1; have := a1.2; omega)
      omega
  · rename_i a b
    rw [ifB_eq] at h
    split at h
    · rename_i hsg
      have hsg : sg = true := hsg
      subst hsg
      obtain ⟨a1, a2, a3⟩ := isCn_ok hs h
      exact cn_shr hs a1 _
    · cases h
  · rename_i a b
    rw [ifB_eq] at h
    split at h
    · rename_i hsg
      have hsg : sg = true := hsg
      subst hsg
      obtain ⟨a1, a2, a3⟩ := isCn_ok hs h
      exact cn_shr hs a1 _
    · cases h
  · cases h
theorem bit1_val {sg : Bool} {s : Nat} {t : Tm} {r : Nat} (h : bit1 sg s t = some r) : cnF sg s (tmv t) = r := by
  unfold bit1 at h
  split at h
  · rename_i r' i
    rw [ifB_eq] at h
    split at h
    · rename_i hr
      have hr := Nat.le_of_ble_eq_true hr
      cases h
      have hx : ∃ x : Nat, tmv (.md 2 r i) = (x : Int) ∧ x % 2 = r := by
        simp only [tmv]
        refine ⟨_, rfl, ?_⟩
        split
        · rename_i h; exact h
        · omega
      obtain ⟨x, h1, h2⟩ := hx
      rw [h1, cnF_u]
      simp; omega
    · cases h
  · cases h
theorem fb1_val {sg : Bool} {s : Nat} {t : Tm} (h : fb1 sg s t = true) : cnF sg s (tmv t) = tmv t := by
  unfold fb1 at h
  split at h
  · rename_i op a b
    have h := Nat.le_of_ble_eq_true h
    have hv : fbR op (tmv a).toNat (tmv b).toNat ≤ 1 := by
      unfold fbR
      dsimp only
      split <;> first | omega | (split <;> omega)
    simp only [tmv]
    have hf : fbF op (tmv a).toNat (tmv b).toNat ≤ 1 := by unfold fbF; split <;> omega
    generalize fbF op (tmv a).toNat (tmv b).toNat = f at hf
    rw [cnF_u]
    simp; omega
  · cases h
theorem mkCn_eq (sg : Bool) (s : Nat) (t : Tm) : tmv (mkCn sg s t) = cnF sg s (tmv t) := by
  unfold mkCn
  split
  · rename_i r hb
    exact (bit1_val hb).symm
  · simp only [ifB_eq]
    split
    · rename_i hf; exact (fb1_val hf).symm
    split
    · rename_i hs
      split
      · rename_i ht; exact (isCnT_ok (okS_s hs) ht).symm
      · rfl
    · rfl
theorem srX_val {a t : Tm} {s : Nat} (h : srX a s = some t) : tmv t = Int.fdiv (tmv a) (.ofNat (Nat.pow 2 s)) := by
  unfold srX at h
  split at h
  · rw [ifB_eq] at h
    split at h
    · rename_i hs
      cases h
      rw [mkCn_eq, ← Nat.eq_of_beq_eq_true hs]
      rfl
    · cases h
  · cases h
theorem mkCvX_eq (k : IntKind) (t : Tm) : tmv (mkCvX k t) = k.wrap (tmv t) := by
  unfold mkCvX
  split
  · rename_i r hr
    unfold cvX at hr
    split at hr
    · rw [ifB_eq] at hr
      split at hr
      · rename_i hs
        cases hr
        rw [mkCn_eq, Nat.eq_of_beq_eq_true hs]
        rfl
      · cases hr
    · cases hr
  · exact mkCv_eq k t
theorem nzC_ok {b : Tm} (h : nzC (isCy b) = true) : tmv b ≠ 0 ∧ (0 ≤ tmv b ∧ tmv b ≤ 18446744073709551615) := by
  cases hb : isCy b with
  | none => rw [hb] at h; cases h
  | some q =>
    rw [hb] at h
    simp only [nzC, ifB_eq] at h
    split at h
    · rename_i hok
      have hP := q_holds hok
      rw [isCy_val hb]
      refine ⟨?_, cn_fits _ _ _⟩
      split at h
      · rename_i h6
        rw [Nat.eq_of_beq_eq_true h6] at hP
        simp only [qP, Bool.and_eq_true, decide_eq_true_eq] at hP
        exact hP.1
      · rw [Nat.eq_of_beq_eq_true h] at hP
        simp only [qP, decide_eq_true_eq] at hP
        omega
    · cases h
theorem nzd_ok {b : Tm} (h : nzd b = true) : tmv b ≠ 0 := by
  unfold nzd at h
  rw [ifB_eq] at h
  split at h
  · rename_i h1; exact (nzC_ok h1).1
  · split at h
    · rename_i a ha
      have := nzC_ok h
      rw [unCv_val ha, wrap_i64']
      omega
    · cases h
theorem shC_val {b : Tm} {x : Bool} (h : shC (isCy b) = some x) : 0 ≤ tmv b ∧ if x = true then 63 < tmv b else tmv b ≤ 63 := by
  cases hb : isCy b with
  | none => rw [hb] at h; cases h
  | some q =>
    rw [hb] at h
    simp only [shC, ifB_eq] at h
    split at h
    · rename_i hok
      have hP := q_holds hok
      rw [isCy_val hb]
      refine ⟨(cn_fits _ _ _).1, ?_⟩
      split at h <;> first | cases h | skip
      · rename_i hc
        rw [hc] at hP
        simpa [qP] using hP
      · rename_i hc
        rw [hc] at hP
        simpa [qP] using hP
    · cases h
theorem orA_some {p q : Option AV} {v : AV} (h : orA p q = some v) : p = some v ∨ q = some v := by
  cases p with
  | none => exact .inr h
  | some b => exact .inl h
theorem shU_some {o : IntKind → Tm → Tm → Option AV} {p q : Option (IntKind × Tm)} {v : AV} (h : shU o p q = some v) : ∃ k a k' b, p = some (k, a) ∧ q = some (k', b) ∧ o k a b = some v := by
  match p, q, h with
  | some (k, a), some (k', b), h => exact ⟨k, a, k', b, rfl, rfl, h⟩
  | none, _, h => cases h
  | some (k, a), none, h => cases h
/-! ### operations -/
/-- an operation of two on whole numbers -/
theorem x2_num {t : TypeId} {op : BinOp} {o : B2} (hc : cBin op = some o) {x y v : AV} (h : x2 o x y = some v) :
    (∃ k a, NumV x k a) ∧ (binOp op t (den E x) (den E y)).run P w = .ok (den E v) w ∧ ∀ S, Sc S v := by
  have ar : ∀ {f : IntKind → Tm → Tm → Option AV}, (∀ k a b u, f k a b = some u → (∃ r, NumV u k r ∧ (binOp op t (.int k (tmv a)) (.int k (tmv b))).run P w = .ok (.int k (tmv r)) w) ∨ ∃ r, u = .b r ∧ (binOp op t (.int k (tmv a)) (.int k (tmv b))).run P w = .ok (.bool r) w) →
      arT f (asT x) (asT y) = some v → (∃ k a, NumV x k a) ∧ (binOp op t (den E x) (den E y)).run P w = .ok (den E v) w ∧ ∀ S, Sc S v := by
    intro f hf h
    obtain ⟨k, a, b, h1, h2, h3⟩ := arT_some h
    have n1 := asT_num h1
    have n2 := asT_num h2
    refine ⟨⟨k, a, n1⟩, ?_⟩
    rw [n1.den, n2.den]
    rcases hf k a b v h3 with ⟨r, h4, h5⟩ | ⟨r, rfl, h5⟩
    · rw [h4.den]; exact ⟨h5, h4.sc⟩
    · exact ⟨by simpa [den] using h5, fun S => by simp [Sc]⟩
  have sh : ∀ {f : IntKind → Tm → Option Nat → Option AV}, (∀ k a, f k a none = none) → (∀ k k' a b u, f k a (some b) = some u → ∃ r, NumV u k r ∧ (binOp op t (.int k (tmv a)) (.int k' (Int.ofNat b))).run P w = .ok (.int k (tmv r)) w) →
      shT f (asT x) (asT y) = some v → (∃ k a, NumV x k a) ∧ (binOp op t (den E x) (den E y)).run P w = .ok (den E v) w ∧ ∀ S, Sc S v := by
    intro f hn hf h
    obtain ⟨k, a, k', b, h1, h2, h3⟩ := shT_some h
    have n1 := asT_num h1
    have n2 := asT_num h2
    cases hb : litP b with
    | none => rw [hb, hn] at h3; cases h3
    | some m =>
      rw [hb] at h3
      obtain ⟨r, h4, h5⟩ := hf k k' a m v h3
      refine ⟨⟨k, a, n1⟩, ?_⟩
      rw [n1.den, n2.den, h4.den, litP_some hb]
      exact ⟨h5, h4.sc⟩
  have shx : ∀ {f : IntKind → Tm → Tm → Option AV}, (∀ k k' a b u, f k a b = some u → ∃ r, NumV u k r ∧ (binOp op t (.int k (tmv a)) (.int k' (tmv b))).run P w = .ok (.int k (tmv r)) w) →
      shU f (asT x) (asT y) = some v → (∃ k a, NumV x k a) ∧ (binOp op t (den E x) (den E y)).run P w = .ok (den E v) w ∧ ∀ S, Sc S v := by
    intro f hf h
    obtain ⟨k, a, k', b, h1, h2, h3⟩ := shU_some h
    have n1 := asT_num h1
    have n2 := asT_num h2
    obtain ⟨r, h4, h5⟩ := hf k k' a b v h3
    refine ⟨⟨k, a, n1⟩, ?_⟩
    rw [n1.den, n2.den, h4.den]
    exact ⟨h5, h4.sc⟩
  cases op <;> simp only [cBin, Option.some.injEq, reduceCtorEq] at hc <;> subst hc
  · exact ar (fun k a b u hu => .inl ⟨_, mkW_num hu, by simp [binOp, Op.intArith, tmv]⟩) h
  · exact ar (fun k a b u hu => .inl ⟨_, mkW_num hu, by simp [binOp, Op.intArith, tmv]⟩) h
  · exact ar (fun k a b u hu => .inl ⟨_, mkW_num hu, by simp [binOp, Op.intArith, tmv]⟩) h
  · refine ar (fun k a b u hu => .inl ?_) h
    rcases orA_some hu with hu | hu
    rotate_left
    · rw [ifB_eq] at hu
      split at hu
      · rename_i hz
        have hz := nzd_ok hz
        refine ⟨_, mkW_num hu, ?_⟩
        simp [binOp, Op.intDiv, tmv, hz]
      · cases hu
    cases hb : litP b with
    | none => rw [hb] at hu; cases hu
    | some m =>
      rw [hb] at hu
      cases m with
      | zero => cases hu
      | succ m =>
        change mkW k (.quo k a (m + 1)) = some u at hu
        refine ⟨_, mkW_num hu, ?_⟩
        rw [litP_some hb]
        have : ((m + 1 : Nat) : Int) ≠ 0 := by omega
        show (binOp .quo t (.int k (tmv a)) (.int k ((m + 1 : Nat) : Int))).run P w = _
        simp [binOp, Op.intDiv, tmv]; omega
  · refine ar (fun k a b u hu => .inl ?_) h
    rcases orA_some hu with hu | hu
    rotate_left
    · rw [ifB_eq] at hu
      split at hu
      · rename_i hz
        have hz := nzd_ok hz
        refine ⟨_, mkW_num hu, ?_⟩
        simp [binOp, Op.intDiv, tmv, hz]
      · cases hu
    cases hb : litP b with
    | none => rw [hb] at hu; cases hu
    | some m =>
      rw [hb] at hu
      cases m with
      | zero => cases hu
      | succ m =>
        change mkW k (tRem a (m + 1)) = some u at hu
        refine ⟨_, mkW_num hu, ?_⟩
        rw [litP_some hb, tRem_eq]
        show (binOp .rem t (.int k (tmv a)) (.int k ((m + 1 : Nat) : Int))).run P w = _
        simp [binOp, Op.intDiv]; omega
  · refine ar (fun k a b u hu => .inl ⟨_, mkW_num hu, ?_⟩) h
    rw [tAnd_eq]; exact bits_and t k _ _
  · exact ar (fun k a b u hu => .inl ⟨_, mkW_num hu, bits_or t k _ _⟩) h
  · exact ar (fun k a b u hu => .inl ⟨_, mkW_num hu, bits_xor t k _ _⟩) h
  · rcases orA_some h with h | h
    rotate_left
    · refine shx (fun k k' a b u hu => ?_) h
      unfold sl2 at hu
      have hrun : ∀ (n : Nat), (binOp .shl t (.int k (tmv a)) (.int k' (n : Int))).run P w = .ok (.int k (k.wrap (tmv a * .ofNat (Nat.pow 2 (shN k n))))) w := fun n => by
        simp [binOp, Op.shift, shN_eq]; intro h; omega
      split at hu
      · rename_i hb
        obtain ⟨b0, b1⟩ := shC_val hb
        refine ⟨_, mkW_num hu, ?_⟩
        have := hrun (tmv b).toNat
        rw [Int.toNat_of_nonneg b0] at this
        exact this
      · rename_i hb
        obtain ⟨b0, b1⟩ := shC_val hb
        simp only [if_true] at b1
        refine ⟨_, mkW_num hu, ?_⟩
        have := hrun (tmv b).toNat
        rw [Int.toNat_of_nonneg b0] at this
        rw [this]
        have hk : shN k (tmv b).toNat = k.bits := by
          rw [shN_eq]
          have := bits_le k
          omega
        rw [hk]
        congr 2
        show k.wrap (tmv a * ((2 ^ k.bits : Nat) : Int)) = 0
        cases k <;> simp only [wrap_i8', wrap_i16', wrap_i32', wrap_i64', wrap_u8', wrap_u16', wrap_u32', wrap_u64', IntKind.bits] <;> simp <;> omega
      · cases hu
    refine sh (fun _ _ => rfl) (fun k k' a b u hu => ?_) h
    simp only [slT] at hu
    have hrun : (binOp .shl t (.int k (tmv a)) (.int k' (Int.ofNat b))).run P w = .ok (.int k (k.wrap (tmv a * .ofNat (Nat.pow 2 (shN k b))))) w := by
      simp [binOp, Op.shift, shN_eq]; intro h; omega
    split at hu
    · rename_i hs
      refine ⟨_, mkW_num hu, ?_⟩
      rw [hrun, hs, mkCv_eq]; simp
    · rename_i s hs
      refine ⟨_, mkW_num hu, ?_⟩
      rw [hrun, hs]; rfl
  · rcases orA_some h with h | h
    rotate_left
    · refine shx (fun k k' a b u hu => ?_) h
      unfold sr2 at hu
      have hrun : ∀ (n : Nat), (binOp .shr t (.int k (tmv a)) (.int k' (n : Int))).run P w = .ok (.int k (Int.fdiv (tmv a) (.ofNat (Nat.pow 2 (shN k n))))) w := fun n => by
        simp [binOp, Op.shift, shN_eq]; intro h; omega
      split at hu
      · rename_i hb
        obtain ⟨b0, b1⟩ := shC_val hb
        refine ⟨_, mkW_num hu, ?_⟩
        have := hrun (tmv b).toNat
        rw [Int.toNat_of_nonneg b0] at this
        exact this
      · rename_i hb
        obtain ⟨b0, b1⟩ := shC_val hb
        simp only [if_true] at b1
        rw [ifB_eq] at hu
        split at hu
        case isFalse => cases hu
        rename_i hk0
        have hwr := tk_ok _ _ (isKO_some hk0)
        have := hrun (tmv b).toNat
        rw [Int.toNat_of_nonneg b0] at this
        rw [this]
        have hk : shN k (tmv b).toNat = k.bits := by
          rw [shN_eq]
          have := bits_le k
          omega
        rw [hk, fdiv_pow]
        split at hu
        · refine ⟨_, mkW_num hu, ?_⟩
          rw [wrap_u64'] at hwr
          have e : tmv a / ((2 ^ IntKind.u64.bits : Nat) : Int) = 0 := by
            show tmv a / 18446744073709551616 = 0
            omega
          rw [e]; rfl
        · refine ⟨_, mkW_num hu, ?_⟩
          rw [wrap_i64'] at hwr
          have e : tmv a / ((2 ^ IntKind.i64.bits : Nat) : Int) = Int.fdiv (tmv a) (.ofNat (Nat.pow 2 63)) := by
            rw [fdiv_pow]
            show tmv a / 18446744073709551616 = tmv a / 9223372036854775808
            omega
          rw [e]; rfl
        · cases hu
      · cases hu
    refine sh (fun _ _ => rfl) (fun k k' a b u hu => ?_) h
    simp only [srT] at hu
    have hrun : (binOp .shr t (.int k (tmv a)) (.int k' (Int.ofNat b))).run P w = .ok (.int k (Int.fdiv (tmv a) (.ofNat (Nat.pow 2 (shN k b))))) w := by
      simp [binOp, Op.shift, shN_eq]; intro h; omega
    split at hu
    · rename_i hs
      refine ⟨_, mkW_num hu, ?_⟩
      rw [hrun, hs, fdiv_pow]; simp
    · rename_i s hs
      split at hu
      · rename_i t' ht'
        refine ⟨_, mkW_num hu, ?_⟩
        rw [hrun, hs, srX_val ht']
      · refine ⟨_, mkW_num hu, ?_⟩
        rw [hrun, hs]; rfl
  · refine ar (fun k a b u hu => .inr ?_) h
    obtain ⟨r, h1, h2⟩ := bO_some hu
    exact ⟨r, h2, by simp [binOp, Op.intCmp]; rw [← tEq_ok h1]⟩
  · refine ar (fun k a b u hu => .inr ?_) h
    obtain ⟨r, h1, h2⟩ := bNO_some hu
    exact ⟨_, h2, by simp [binOp, Op.intCmp]; rw [← tEq_ok h1]; rfl⟩
  · refine ar (fun k a b u hu => .inr ?_) h
    obtain ⟨r, h1, h2⟩ := bO_some hu
    exact ⟨r, h2, by simp [binOp, Op.intCmp]; exact tLt_ok h1⟩
  · refine ar (fun k a b u hu => .inr ?_) h
    obtain ⟨r, h1, h2⟩ := bNO_some hu
    have h3 := tLt_ok h1
    subst h3
    refine ⟨_, h2, ?_⟩
    simp [binOp, Op.intCmp]
    try (rw [Bool.eq_iff_iff]; simp)
  · refine ar (fun k a b u hu => .inr ?_) h
    obtain ⟨r, h1, h2⟩ := bO_some hu
    exact ⟨r, h2, by simp [binOp, Op.intCmp]; exact tLt_ok h1⟩
  · refine ar (fun k a b u hu => .inr ?_) h
    obtain ⟨r, h1, h2⟩ := bNO_some hu
    have h3 := tLt_ok h1
    subst h3
    refine ⟨_, h2, ?_⟩
    simp [binOp, Op.intCmp]
    try (rw [Bool.eq_iff_iff]; simp)
end Go.X

namespace Go.X
variable [Sym]
variable {P : Program} {K : Loop → List Nat → List U → Code → Code → Prop} {E : Env} {w w' : World} {h : HT} {n : Pa}

theorem cv0_sound {v : Value} {x : AV} (hv : cv0 v = some x) : (∀ E, den E x = v) ∧ ∀ S, Sc S x := by
  unfold cv0 at hv
  split at hv <;> first | cases hv | skip
  all_goals exact ⟨fun E => by simp [den], fun S => by simp [Sc]⟩
theorem cvs_sound : ∀ {l : List Value} {r : List AV}, cvs l = some r → (∀ E, denL E r = l) ∧ ∀ S, ScL S r
  | [], r, hr => by cases hr; exact ⟨fun E => by simp [denL], fun S => by simp [ScL]⟩
  | v :: l, r, hr => by
    simp only [cvs] at hr
    cases hv : cv0 v with
    | none => rw [hv] at hr; cases hr
    | some x =>
      rw [hv] at hr
      cases hl : cvs l with
      | none => rw [hl] at hr; cases hr
      | some y =>
        rw [hl] at hr
        cases hr
        have h1 := cv0_sound hv
        have h2 := cvs_sound hl
        exact ⟨fun E => by simp [denL, h1.1 E, h2.1 E], fun S => ⟨h1.2 S, h2.2 S⟩⟩
theorem cv_sound {v : Value} {x : AV} (hv : cv v = some x) : (∀ E, den E x = v) ∧ ∀ S, Sc S x := by
  unfold cv at hv
  split at hv
  · rename_i cs
    cases hl : cvs cs.toList with
    | none => rw [hl] at hv; cases hv
    | some y =>
      rw [hl] at hv
      cases hv
      have h2 := cvs_sound hl
      exact ⟨fun E => by simp [den, h2.1 E], fun S => by simp only [Sc]; exact h2.2 S⟩
  · exact cv0_sound hv
theorem zer_some {t : Nat} {z : List AV} (hz : zer P t = some z) : ∃ i v, P.info? t = some i ∧ i.zero = some v ∧ (∀ E, denL E z = v.cells.toList) ∧ ∀ S, ScL S z := by
  unfold zer at hz
  cases hi : P.info? t with
  | none => rw [hi] at hz; cases hz
  | some i =>
    rw [hi] at hz
    simp only [Option.bind_some] at hz
    cases hv : i.zero with
    | none => rw [hv] at hz; cases hz
    | some v => rw [hv] at hz; exact ⟨i, v, rfl, hv, cvs_sound hz⟩

/-- a new block, named -/
theorem new_sound {c : List AV} {k : Pa → AV} {v : AV} {h' : HT} {n' : Pa} {arr : Array Value} {el : TypeId} (hw : WRel K E w h n) (he : newK c k h n = .ok v h' n')
    (hh : w'.heap[w.heap.size]? = some (.cells arr el (0, 0))) (hold : ∀ b, b < w.heap.size → w'.heap[b]? = w.heap[b]?) (hos : w'.os = w.os) (ht : w'.tape = w.tape) (ho : w'.output = w.output) (hsz : w.heap.size ≤ w'.heap.size)
    (hlen : c.length ≤ arr.size) (hc : ∀ (i : Nat) (v : AV), c[i]? = some v → arr[i]? = some (den E v)) (hs : ScL (Up n) c) :
    v = k n ∧ inc n = some n' ∧ WRel K (E.put n w.heap.size arr.size) w' h' n' ∧ Step E w h n (E.put n w.heap.size arr.size) w' h' n' := by
  unfold newK at he
  rw [incK_eq] at he
  cases hi : inc n with
  | none => rw [hi] at he; cases he
  | some m =>
    rw [hi] at he
    simp only [T.setK_eq] at he
    cases he
    have hw1 : WRel K E w' h n := hw.frame (fun p hp => by
      cases hb : h.get p with
      | none => exact absurd hb hp.2
      | some b => exact hold _ (hw.blk p b hp.1 hb).1.there) (fun hh => hold _ (hw.arg_lt hh))
    refine ⟨rfl, rfl, hw1.adopt hi (fun p hp e => ?_) ⟨arr, el, ?_, (E.put_eq n _ _).2.symm, hlen, fun i v hv => ?_⟩ (ScL.mono (fun p hp => up_inc hi hp) c hs) (fun hh e => by have := hw.arg_lt hh; omega), step_new hi hos ht ho hsz (fun i hi' _ => hold i hi') (.inl (Nat.le_refl _))⟩
    · cases hb : h.get p with
      | none => exact absurd hb hp.2
      | some b => have := (hw.blk p b hp.1 hb).1.there; omega
    · rw [(E.put_eq n _ _).1]; exact hh
    · rw [hc i v hv, den_congr (S := Up n) (fun q hq => E.put_ne _ _ hq.ne) v (ScL_get hs hv)]

theorem new_alloc {c : List AV} {k : Pa → AV} {v : AV} {h' : HT} {n' : Pa} {el : TypeId} (hw : WRel K E w h n) (he : newK c k h n = .ok v h' n') (hs : ScL (Up n) c) :
    v = k n ∧ inc n = some n' ∧ WRel K (E.put n w.heap.size c.length) (w.alloc (.cells (denL E c).toArray el)) h' n' ∧ Step E w h n (E.put n w.heap.size c.length) (w.alloc (.cells (denL E c).toArray el)) h' n' := by
  have := new_sound (arr := (denL E c).toArray) (el := el) (w' := w.alloc (.cells (denL E c).toArray el)) hw he (heap_alloc_new w _) (fun b hb => heap_alloc_old w _ b hb) rfl rfl rfl (by simp) (by simp [denL_length]) (fun i v hv => by rw [denL_get, hv]; rfl) hs
  simpa [denL_length] using this

theorem alloc_sound {e : Nat} {z : List AV} (hz : zer P e = some z) {v : AV} {h' : HT} {n' : Pa} (hw : WRel K E w h n) (he : newK z mkP h n = .ok v h' n') :
    ∃ E' w', (Instr.alloc e true (.tuple #[])).run P w = .ok (den E' v) w' ∧ Sc (Up n') v ∧ WRel K E' w' h' n' ∧ Step E w h n E' w' h' n' := by
  obtain ⟨i, zv, hi, hzv, hd, hs⟩ := zer_some hz
  obtain ⟨rfl, hinc, h1, h2⟩ := new_alloc (el := e) hw he (hs _)
  refine ⟨_, _, ?_, by simp only [mkP, Sc]; exact up_self hinc, h1, h2⟩
  have hc : zv.cells = (denL E z).toArray := by rw [hd E]
  simp [Instr.alloc, zeroValue, typeInfo, hi, hzv, newVar, newRow, mkP, den, (E.put_eq n _ _).1, hc]

theorem box_sound {e : Nat} {x v : AV} {h' : HT} {n' : Pa} (hw : WRel K E w h n) (hx : Sc (Up n) x) (he : newK (cells x) mkP h n = .ok v h' n') :
    ∃ E' w', (Instr.box e (den E x)).run P w = .ok (den E' v) w' ∧ Sc (Up n') v ∧ WRel K E' w' h' n' ∧ Step E w h n E' w' h' n' := by
  obtain ⟨rfl, hinc, h1, h2⟩ := new_alloc (el := e) hw he (Sc_cells hx)
  refine ⟨_, _, ?_, by simp only [mkP, Sc]; exact up_self hinc, h1, h2⟩
  simp [Instr.box, newVar, newRow, mkP, den, (E.put_eq n _ _).1, den_cells]

/-! ### parts laid into a row -/
theorem foldl_get (off : Nat) : ∀ (vs : List Value) (s : Nat) (cs : Array Value) (i : Nat), off + s + vs.length ≤ cs.size →
    ((vs.zipIdx s).foldl (fun cs (p : Value × Nat) => cs.setIfInBounds (off + p.2) p.1) cs)[i]? = if off + s ≤ i ∧ i < off + s + vs.length then vs[i - (off + s)]? else cs[i]?
  | [], s, cs, i, _ => by simp; omega
  | v :: vs, s, cs, i, hl => by
    simp only [List.length_cons] at hl
    rw [List.zipIdx_cons, List.foldl_cons, foldl_get off vs (s + 1) _ i (by simp; omega)]
    by_cases h1 : off + (s + 1) ≤ i ∧ i < off + (s + 1) + vs.length
    · rw [if_pos h1, if_pos (by simp only [List.length_cons]; omega)]
      have : i - (off + s) = (i - (off + (s + 1))) + 1 := by omega
      rw [this, List.getElem?_cons_succ]
    · rw [if_neg h1]
      by_cases h2 : i = off + s
      · subst h2
        rw [if_pos (by simp only [List.length_cons]; omega)]
        have : off + s < cs.size := by omega
        simp [Array.getElem?_setIfInBounds, this]
      · rw [if_neg (by simp only [List.length_cons]; omega), Array.getElem?_setIfInBounds, if_neg (fun e => h2 e.symm)]
theorem foldl_size (off : Nat) : ∀ (vs : List Value) (s : Nat) (cs : Array Value), ((vs.zipIdx s).foldl (fun cs (p : Value × Nat) => cs.setIfInBounds (off + p.2) p.1) cs).size = cs.size
  | [], s, cs => rfl
  | v :: vs, s, cs => by rw [List.zipIdx_cons, List.foldl_cons, foldl_size off vs]; simp

/-- cells of a row, as they are looked at -/
def ARel (E : Env) (l : List AV) (A : Array Value) : Prop := l.length = A.size ∧ ∀ (i : Nat) (v : AV), l[i]? = some v → A[i]? = some (den E v)
theorem ARel.of (l : List AV) : ARel E l (denL E l).toArray := ⟨by simp [denL_length], fun i v hv => by rw [denL_get, hv]; rfl⟩
theorem ARel.lay {l : List AV} {A : Array Value} {x : AV} {off : Nat} (hr : ARel E l A) (hle : off + (cells x).length ≤ l.length) :
    ARel E (l.take off ++ cells x ++ l.drop (off + (cells x).length)) ((den E x).cells.zipIdx.foldl (fun cs (p : Value × Nat) => cs.setIfInBounds (off + p.2) p.1) A) := by
  have hcs : (den E x).cells = (denL E (cells x)).toArray := den_cells x
  have e : (den E x).cells.zipIdx.foldl (fun cs (p : Value × Nat) => cs.setIfInBounds (off + p.2) p.1) A = ((denL E (cells x)).zipIdx 0).foldl (fun cs (p : Value × Nat) => cs.setIfInBounds (off + p.2) p.1) A := by
    rw [hcs, ← Array.foldl_toList]; simp
  rw [e]
  have hsz := hr.1
  refine ⟨by rw [foldl_size]; simp; omega, fun i v hv => ?_⟩
  rw [foldl_get off _ 0 A i (by rw [denL_length]; omega)]
  have h1 := lay_rel (E := E) (l := l) (A := A.toList) (off := off) (vs := cells x) (fun i v hv => by simpa using hr.2 i v hv) hle (by simp; omega) i v hv
  rw [← h1]
  have hl1 : (A.toList.take off).length = off := by rw [List.length_take, Array.length_toList]; omega
  have hl2 : (denL E (cells x)).length = (cells x).length := denL_length _
  by_cases hi : i < off
  · rw [if_neg (by omega), List.append_assoc, List.getElem?_append_left (by omega), List.getElem?_take, if_pos hi]; simp
  · by_cases hi2 : i < off + (cells x).length
    · rw [if_pos (by omega), List.getElem?_append_left (by rw [List.length_append]; omega), List.getElem?_append_right (by omega), hl1]; simp
    · rw [if_neg (by omega), List.getElem?_append_right (by rw [List.length_append]; omega), List.length_append, hl1, hl2, List.getElem?_drop]
      have : off + (cells x).length + (i - (off + (cells x).length)) = i := by omega
      rw [this]; simp

/-- the parts, as they are looked at -/
inductive Parts (E : Env) (place : Nat → Option (Nat × Nat)) : List (Nat × Nat × AV) → List (Nat × Value) → Prop
  | nil : Parts E place [] []
  | cons {j o s : Nat} {x : AV} {l : List (Nat × Nat × AV)} {L : List (Nat × Value)} (hp : place j = some (o, s)) (hr : Parts E place l L) : Parts E place ((o, s, x) :: l) ((j, den E x) :: L)

theorem fill_sound {place : Nat → Option (Nat × Nat)} {ps : List (Nat × Nat × AV)} {L : List (Nat × Value)} (hp : Parts E place ps L) : ∀ {l : List AV} {A : Array Value} {no : OR} {k : List AV → OR} {r : OR},
    ARel E l A → fillK no ps l k = r → r = no ∨ ∃ l' A', r = k l' ∧ Instr.fill place A L = some A' ∧ ARel E l' A' ∧ l'.length = l.length ∧ ∀ S, ScL S l → (∀ p ∈ ps, Sc S p.2.2) → ScL S l' := by
  induction hp with
  | nil => intro l A no k r hr he; exact .inr ⟨l, A, he.symm, rfl, hr, rfl, fun S h1 _ => h1⟩
  | cons hpl hrest ih =>
    rename_i j o s x ps L
    intro l A no k r hr he
    change ifB (isLen s (cells x)) (setK no (cells x) o l fun l => fillK no ps l k) no = r at he
    rw [ifB_eq, isLen_eq] at he
    split at he
    · rename_i hs
      have hs := of_decide_eq_true hs
      rw [setK_eq] at he
      split at he
      · rename_i hc
        have hlay := hr.lay (x := x) hc.1
        rcases ih hlay he with h1 | ⟨l', A', h1, h2, h3, h4, h5⟩
        · exact .inl h1
        · refine .inr ⟨l', A', h1, ?_, h3, ?_, fun S hS hps => h5 S (ScL_app (ScL_app (ScL_take _ hS) (Sc_cells (hps (o, s, x) List.mem_cons_self))) (ScL_drop _ hS)) (fun p hp => hps p (by simp [hp]))⟩
          · rw [Instr.fill, hpl]
            have c1 : ((den E x).cells.size ≠ s || decide (o + (den E x).cells.size > A.size)) = false := by
              have hsz := hr.1
              simp only [den_cells, List.size_toArray, denL_length, hs]
              simp; omega
            simp only [c1]
            exact h2
          · rw [h4]; have := hc.1; simp; omega
      · exact .inl he.symm
    · exact .inl he.symm
end Go.X

namespace Go.X
variable [Sym]
variable {P : Program} {K : Loop → List Nat → List U → Code → Code → Prop} {E : Env} {w w' : World} {h : HT} {n : Pa}

theorem parts_of {R : Operand → Option Opd} {place : Nat → Option (Nat × Nat)} {a : Act} {l : List AV} {f : Fr} (hR : ∀ x y, R x = some y → a.eval x = den E (ev y l f) ∧ Sc (Up n) (ev y l f)) :
    ∀ {ps : List (Nat × Operand)} {q : List (Nat × Nat × Opd)}, psG R place ps = some q → Parts E place (evp q l f) (ps.map fun (j, x) => (j, a.eval x)) ∧ ∀ p ∈ evp q l f, Sc (Up n) p.2.2
  | [], q, hq => by cases hq; exact ⟨.nil, fun p hp => by cases hp⟩
  | (j, x) :: ps, q, hq => by
    simp only [psG] at hq
    cases hp : place j with
    | none => rw [hp] at hq; cases hq
    | some p =>
      rw [hp] at hq
      cases hx : R x with
      | none => rw [hx] at hq; cases hq
      | some y =>
        rw [hx] at hq
        cases hr : psG R place ps with
        | none => rw [hr] at hq; cases hq
        | some r =>
          rw [hr] at hq
          cases hq
          have h1 := parts_of hR hr
          have h2 := hR x y hx
          refine ⟨?_, fun u hu => ?_⟩
          · have := Parts.cons (E := E) (x := ev y l f) (j := j) (o := p.1) (s := p.2) hp h1.1
            rw [← h2.1] at this
            exact this
          · rcases List.mem_cons.1 hu with rfl | hu
            · exact h2.2
            · exact h1.2 u hu

theorem build_sound {R : Operand → Option Opd} {a : Act} {l : List AV} {f : Fr} (hR : ∀ x y, R x = some y → a.eval x = den E (ev y l f) ∧ Sc (Up n) (ev y l f)) {t : Nat} {ps : Array (Nat × Operand)} {z : List AV} {q : List (Nat × Nat × Opd)} {d : TypeDesc}
    (hd : P.underlying t = some d) (hz : zer P t = some z)
    (hc : (∃ fs places, d = .struct fs ∧ fs.toList.mapM (fun f => (P.info? f.type).map fun i => (f.offset, i.size)) = some places ∧ psG R (places.toArray[·]?) ps.toList = some q) ∨ (∃ m e s, d = .array m e ∧ szo P e = some s ∧ psG R (fun i => some (i * s, s)) ps.toList = some q))
    {v : AV} {h' : HT} {n' : Pa} (he : fillK (.no 40) (evp q l f) z (fun c => .ok (.ag c) h n) = .ok v h' n') :
    (Instr.build t (ps.map fun (i, x) => (i, a.eval x))).run P w = .ok (den E v) w ∧ Sc (Up n) v ∧ h' = h ∧ n' = n := by
  obtain ⟨i, zv, hi, hzv, hde, hsc⟩ := zer_some hz
  have hzA : ARel E z zv.cells := by
    have := ARel.of (E := E) z
    rwa [hde E, Array.toArray_toList] at this
  have key : ∀ place, psG R place ps.toList = some q → (∀ A', Instr.fill place zv.cells (ps.toList.map fun (j, x) => (j, a.eval x)) = some A' → P.built t (ps.map fun (i, x) => (i, a.eval x)).toList = some A') →
      (Instr.build t (ps.map fun (i, x) => (i, a.eval x))).run P w = .ok (den E v) w ∧ Sc (Up n) v ∧ h' = h ∧ n' = n := by
    intro place hq hb
    have hp := parts_of hR hq
    rcases fill_sound hp.1 hzA he with h1 | ⟨l', A', h1, h2, h3, h4, h5⟩
    · cases h1
    · cases h1
      refine ⟨?_, by simp only [Sc]; exact h5 _ (hsc _) hp.2, rfl, rfl⟩
      rw [run_build w t _ A' (hb A' h2)]
      have : A' = (denL E l').toArray := by
        apply Array.ext'
        apply List.ext_getElem?
        intro j
        simp only [Array.getElem?_toList, denL_eq, List.getElem?_map]
        cases hj : l'[j]? with
        | none =>
          have := h3.1
          rw [Array.getElem?_eq_none (by have := List.getElem?_eq_none_iff.1 hj; omega)]; rfl
        | some y => rw [h3.2 j y hj]; rfl
      rw [this]; simp [den]
  rcases hc with ⟨fs, places, rfl, hpl, hq⟩ | ⟨m, e, s, rfl, hs, hq⟩
  · refine key _ hq fun A' hA => ?_
    simp only [Program.built, hi, hd, hzv, hpl]
    rw [Array.toList_map]; exact hA
  · obtain ⟨ie, hie, rfl⟩ := szo_some hs
    refine key _ hq fun A' hA => ?_
    simp only [Program.built, hi, hd, hzv, hie]
    rw [Array.toList_map]; exact hA

/-- zeros in a row -/
theorem rep_get {z : List AV} (h0 : 0 < z.length) : ∀ (n i : Nat), i < n * z.length → (rep z n)[i]? = z[i % z.length]?
  | 0, i, hi => by omega
  | n + 1, i, hi => by
    rw [rep_eq, List.replicate_succ, List.flatten_cons, ← rep_eq]
    rw [Nat.add_mul, Nat.one_mul] at hi
    by_cases h1 : i < z.length
    · rw [List.getElem?_append_left h1, Nat.mod_eq_of_lt h1]
    · rw [List.getElem?_append_right (by omega), rep_get h0 n _ (by omega)]
      congr 1
      have : i = (i - z.length) + z.length := by omega
      conv => rhs; rw [this, Nat.add_mod_right]
theorem rep_len (z : List AV) (n : Nat) : (rep z n).length = n * z.length := by rw [rep_eq]; simp
theorem rep_sc {S : Pa → Prop} {z : List AV} (hz : ScL S z) (n : Nat) : ScL S (rep z n) := by
  rw [ScL_iff] at hz ⊢
  intro v hv
  rw [rep_eq] at hv
  obtain ⟨l, hl, hvl⟩ := List.mem_flatten.1 hv
  rw [List.mem_replicate] at hl
  exact hz v (hl.2 ▸ hvl)
theorem ARel_rep {z : List AV} {zv : Array Value} (hz : denL E z = zv.toList) (n m : Nat) (hm : m = n * z.length) : ARel E (rep z n) ((Array.range m).map fun i => zv[i % zv.size]!) := by
  subst hm
  have hsz : zv.size = z.length := by rw [← Array.length_toList, ← hz, denL_length]
  refine ⟨by simp [rep_len], fun i v hv => ?_⟩
  have hlt : i < (rep z n).length := (List.getElem?_eq_some_iff.1 hv).1
  rw [rep_len] at hlt
  have h0 : 0 < z.length := by
    rcases Nat.eq_zero_or_pos z.length with h | h
    · rw [h] at hlt; omega
    · exact h
  rw [rep_get h0 n i hlt] at hv
  have hm : i % zv.size < zv.size := Nat.mod_lt _ (by omega)
  have h1 : zv.toList[i % zv.size]? = some (den E v) := by rw [← hz, denL_eq, List.getElem?_map, hsz, hv]; rfl
  have h2 : zv[i % zv.size]! = den E v := by
    rw [Array.getElem?_toList] at h1
    rw [getElem!_pos zv (i % zv.size) hm]
    rw [Array.getElem?_eq_getElem hm] at h1
    exact Option.some.inj h1
  rw [Array.getElem?_map, Array.getElem?_eq_getElem (by simpa using hlt)]
  simp [h2]
end Go.X

namespace Go.X
variable [Sym]
variable {P : Program} {K : Loop → List Nat → List U → Code → Code → Prop} {E : Env} {w w' : World} {h : HT} {n : Pa}

theorem bsl_sound {R : Operand → Option Opd} {a : Act} {l : List AV} {f : Fr} (hR : ∀ x y, R x = some y → a.eval x = den E (ev y l f) ∧ Sc (Up n) (ev y l f)) {t len e s : Nat} {ps : Array (Nat × Operand)} {z : List AV} {q : List (Nat × Nat × Opd)}
    (hd : P.underlying t = some (.slice e)) (hs : szo P e = some s) (hz : zer P e = some z) (hq : psG R (fun i => some (i * s, s)) ps.toList = some q) (hlen : len * s ≤ 16777216) (hzl : z.length = s)
    {v : AV} {h' : HT} {n' : Pa} (hw : WRel K E w h n) (he : fillK (.no 41) (evp q l f) (rep z len) (fun c => newK c (fun id => .sl id 0 len (.ex len)) h n) = .ok v h' n') :
    ∃ E' w', (Instr.buildSlice t len (ps.map fun (i, x) => (i, a.eval x))).run P w = .ok (den E' v) w' ∧ Sc (Up n') v ∧ WRel K E' w' h' n' ∧ Step E w h n E' w' h' n' := by
  obtain ⟨i, zv, hi, hzv, hde, hsc⟩ := zer_some hz
  have hp := parts_of hR hq
  have hA : ARel E (rep z len) ((Array.range (len * s)).map fun i => (if len * s = 0 then #[] else zv.cells)[i % (if len * s = 0 then (#[] : Array Value) else zv.cells).size]!) := by
    by_cases h0 : len * s = 0
    · simp only [h0, if_true]
      have : rep z len = [] := List.eq_nil_of_length_eq_zero (by rw [rep_len, hzl]; exact h0)
      rw [this]
      exact ⟨by simp, fun i v hv => by cases hv⟩
    · simp only [h0, if_false]
      exact ARel_rep (hde E) len _ (by rw [hzl])
  rcases fill_sound hp.1 hA he with h1 | ⟨l', A', h1, h2, h3, h4, h5⟩
  · cases h1
  · have hl' : ScL (Up n) l' := h5 _ (rep_sc (hsc _) len) hp.2
    obtain ⟨rfl, hinc, hW, hS⟩ := new_sound (el := e) (w' := w.alloc (.cells A' e)) hw h1.symm (heap_alloc_new w _) (fun b hb => heap_alloc_old w _ b hb) rfl rfl rfl (by simp) (by rw [h3.1]; exact Nat.le_refl _) h3.2 hl'
    refine ⟨_, _, ?_, by simp only [Sc]; exact up_self hinc, hW, hS⟩
    have hne : ¬ (len * s > 2 ^ 24) := by simp; omega
    have h2' : Instr.fill (fun i => some (i * s, s)) ((Array.range (len * s)).map fun i => (if len * s = 0 then #[] else zv.cells)[i % (if len * s = 0 then (#[] : Array Value) else zv.cells).size]!) (ps.map fun (i, x) => (i, a.eval x)).toList = some A' := by
      rw [Array.toList_map]; exact h2
    by_cases h0 : len * s = 0
    · simp only [h0, if_true] at h2'
      simp [Instr.buildSlice, run_underlying hd, run_sizeOf' hs, h0, newRow, den, (E.put_eq n _ _).1]
      simp at h2'
      rw [h2']; simp
    · simp only [h0, if_false] at h2'
      have hle : ¬ (16777216 < len * s) := by omega
      simp [Instr.buildSlice, run_underlying hd, run_sizeOf' hs, h0, hle, zeroValue, typeInfo, hi, hzv, newRow, den, (E.put_eq n _ _).1]
      simp at h2'
      rw [h2']; simp

theorem asNat_some {x : AV} {m : Nat} (hx : asNat x = some m) : x = .i .i64 (m : Int) := by
  unfold asNat at hx
  cases hi : asI x with
  | no => rw [hi] at hx; cases hx
  | i k b =>
    rw [hi] at hx
    change natI k b = some m at hx
    unfold natI at hx
    rw [ifB_eq] at hx
    split at hx
    · rename_i hk
      rw [asI_i hi, (isI64_iff k).1 hk, nnO_some hx]
    · cases hx

theorem rep_one (z : AV) : ∀ n, rep [z] n = List.replicate n z
  | 0 => rfl
  | n + 1 => by show [z] ++ rep [z] n = _; rw [rep_one z n]; rfl
/-- a new row, written out -/
theorem mkL_out {z : List AV} {c l : Nat} {v : AV} {h' : HT} {n' : Pa} (he : mkL z c l h n = .ok v h' n') : ∃ hx, newK (rep z c) (fun id => .sl id 0 l (.ex c)) h n = .ok v hx n' ∧ HEq2 n' hx h' := by
  unfold mkL at he
  rw [ifB_eq] at he
  split at he
  · rename_i hc
    rw [ifB_eq] at hc
    split at hc
    case isFalse => cases hc
    rw [isLen_eq] at hc
    have hl : z.length = 1 := by simpa using hc
    match z, hl with
    | [z0], _ =>
      unfold newK
      rw [incK_eq] at he ⊢
      cases hi : inc n with
      | none => rw [hi] at he; cases he
      | some m =>
        rw [hi] at he
        simp only [T.setK_eq] at he ⊢
        cases he
        obtain ⟨hv, hln⟩ := inc_spec n _ hi
        exact ⟨_, rfl, HEq2.set HEq2.refl hln.symm (by simp [xpB, rep_one, hd])⟩
  · exact ⟨h', he, HEq2.refl⟩

theorem mks_sound {t e : Nat} {i : TypeInfo} {z : List AV} (hd : P.underlying t = some (.slice e)) (hi : P.info? e = some i) (hz : zer P e = some z) (hzl : z.length = i.size)
    {x c v : AV} {h' : HT} {n' : Pa} (hw : WRel K E w h n) (he : mksV i.bytes z x c h n = .ok v h' n') :
    ∃ E' w', (Instr.makeSlice t (den E x) (den E c)).run P w = .ok (den E' v) w' ∧ Sc (Up n') v ∧ WRel K E' w' h' n' ∧ Step E w h n E' w' h' n' := by
  obtain ⟨i', zv, hi', hzv, hde, hsc⟩ := zer_some hz
  rw [hi] at hi'; cases hi'
  unfold mksV at he
  cases hc : asNat c with
  | none => rw [hc] at he; cases hx : asNat x <;> rw [hx] at he <;> cases he
  | some cn =>
    cases hx : asNat x with
    | none => rw [hc, hx] at he; cases he
    | some xn =>
      rw [hc, hx] at he
      change mksN i.bytes z xn cn h n = _ at he
      unfold mksN at he
      simp only [ifB_eq] at he
      split at he
      · rename_i h1
        split at he
        · rename_i h2
          split at he
          · rename_i h3
            have h1 := Nat.le_of_ble_eq_true h1
            have h2 : i.bytes * cn ≤ 281474976710656 := Nat.le_of_ble_eq_true h2
            have h3 := Nat.le_of_ble_eq_true h3
            have hA : ARel E (rep z cn) (madeCells zv.cells (cn * i.size)) := ARel_rep (hde E) cn _ (by rw [hzl])
            obtain ⟨hx, he, hq⟩ := mkL_out he
            obtain ⟨rfl, hinc, hW, hS⟩ := new_sound (el := e) (w' := w.alloc (.cells (madeCells zv.cells (cn * i.size)) e)) hw he (heap_alloc_new w _) (fun b hb => heap_alloc_old w _ b hb) rfl rfl rfl (by simp) (by rw [hA.1]; exact Nat.le_refl _) hA.2 (rep_sc (hsc _) cn)
            refine ⟨_, _, ?_, by simp only [Sc]; exact up_self hinc, hW.heq hq, hS.heq HEq2.refl hq⟩
            have hb : (i.bytes : Int) * (cn : Int) ≤ 281474976710656 := by rw [← Int.natCast_mul]; omega
            have := run_make (P := P) w t e i zv hd hi hzv .i64 .i64 (xn : Int) (cn : Int) (by omega) (by omega) hb (by omega)
            rw [asNat_some ‹asNat x = some xn›, asNat_some hc]
            simp only [den, (E.put_eq n _ _).1]
            simpa using this
          · cases he
        · cases he
      · cases he
end Go.X

namespace Go.X
variable [Sym]
variable {P : Program} {K : Loop → List Nat → List U → Code → Code → Prop} {E : Env} {w w' : World} {h : HT} {n : Pa}

theorem bnd_some {d : Nat} {o : Option Opd} {l : List AV} {f : Fr} {m : Nat} (hb : bnd d o l f = some m) : (o = none ∧ m = d) ∨ ∃ x k, o = some x ∧ ev x l f = .i k (m : Int) := by
  unfold bnd at hb
  cases o with
  | none => exact .inl ⟨rfl, (Option.some.inj hb).symm⟩
  | some x =>
    refine .inr ⟨x, ?_⟩
    cases hi : asI (ev x l f) with
    | no => simp only [hi] at hb; cases hb
    | i k b => simp only [hi] at hb; exact ⟨k, rfl, by rw [asI_i hi, nnO_some hb]⟩
theorem run_sliceBound {k : IntKind} {m y : Nat} {code : BoundsCode} (hle : m ≤ y) : (Instr.sliceBound (.int k (m : Int)) y code).run P w = .ok m w := by
  have : (0 : Int) ≤ (m : Int) ∧ (m : Int) ≤ (y : Int) := by omega
  simp [Instr.sliceBound, asIntOf, this]

/-- the bounds of a slice expression -/
theorem run_bounds {len cap l hh m : Nat} {lo hi mx : Option Value} (hmx : (mx = none ∧ m = cap) ∨ ∃ k, mx = some (.int k (m : Int)) ∧ m ≤ cap ∧ hi ≠ none) (hhi : (hi = none ∧ hh = len) ∨ ∃ k, hi = some (.int k (hh : Int)))
    (hlo : (lo = none ∧ l = 0) ∨ ∃ k, lo = some (.int k (l : Int))) (h1 : l ≤ hh) (h2 : hh ≤ m) :
    (Instr.sliceBounds true len cap lo hi mx).run P w = .ok (l, hh, m) w := by
  rcases hmx with ⟨rfl, rfl⟩ | ⟨km, rfl, hmc, hne⟩ <;> rcases hhi with ⟨rfl, rfl⟩ | ⟨kh, rfl⟩ <;> rcases hlo with ⟨rfl, rfl⟩ | ⟨kl, rfl⟩
  · simp [Instr.sliceBounds]
  · simp [Instr.sliceBounds, run_sliceBound h1]
  · simp [Instr.sliceBounds, run_sliceBound h2]
  · simp [Instr.sliceBounds, run_sliceBound h2, run_sliceBound h1]
  · exact absurd rfl hne
  · exact absurd rfl hne
  · simp [Instr.sliceBounds, run_sliceBound h2, run_sliceBound hmc]
  · simp [Instr.sliceBounds, run_sliceBound h2, run_sliceBound h1, run_sliceBound hmc]

theorem slcE_some {sz : Nat} {id : Pa} {off l hh m : Nat} {v : AV} (hv : slcE sz id off l hh m = some v) :
    l ≤ hh ∧ hh ≤ m ∧ den E v = .slice (some (if m = l then ⟨E.blk id, off, none⟩ else (⟨E.blk id, off, none⟩ : Addr).add (l * sz))) (hh - l) (m - l) ∧ (∀ S, S id → Sc S v) := by
  unfold slcE at hv
  simp only [ifB_eq, forceN_eq] at hv
  split at hv
  · rename_i h1
    split at hv
    · rename_i h2
      have h1 := Nat.le_of_ble_eq_true h1
      have h2 := Nat.le_of_ble_eq_true h2
      refine ⟨h1, h2, ?_⟩
      split at hv
      · rename_i h3
        have h3 : m = l := Nat.eq_of_beq_eq_true h3
        have := Option.some.inj hv; subst this
        exact ⟨by simp [den, h3], fun S hS => by simpa [Sc] using hS⟩
      · rename_i h3
        have h3 : m ≠ l := fun e => h3 (by subst e; simp [Nat.beq_refl])
        have := Option.some.inj hv; subst this
        exact ⟨by simp [den, h3, Addr.add_blk], fun S hS => by simpa [Sc] using hS⟩
    · cases hv
  · cases hv

theorem slice_run {t e sz len cap l hh m : Nat} (ht : P.underlying t = some (.slice e)) (hs : szo P e = some sz) {lo hi mx : Option Value} {ad : Option Addr}
    (hb : (Instr.sliceBounds true len cap lo hi mx).run P w = .ok (l, hh, m) w) :
    (Instr.sliceAt t (.slice ad len cap) lo hi mx).run P w = .ok (.slice (if m = l then ad else ad.map (·.add (l * sz))) (hh - l) (m - l)) w := by
  simp [Instr.sliceAt, run_underlying ht, Instr.slice, hb, run_sizeOf' hs]

omit [Sym] in
theorem addr_add (b o n : Nat) : (⟨b, o, none⟩ : Addr).add n = ⟨b, o + n, none⟩ := by
  unfold Addr.add; split
  · rename_i h; subst h; rfl
  · rfl
theorem atLeast_iff : ∀ (n : Nat) (l : List AV), atLeast n l = true ↔ n ≤ l.length
  | 0, l => by show true = true ↔ _; simp
  | n + 1, [] => by show false = true ↔ _; simp
  | n + 1, x :: l => by show atLeast n l = true ↔ _; rw [atLeast_iff n l]; simp

/-- the values of the bounds -/
theorem bnd_val {R : Operand → Option Opd} {a : Act} {l : List AV} {f : Fr} (hR : ∀ x y, R x = some y → a.eval x = den E (ev y l f) ∧ Sc (Up n) (ev y l f)) {o : Option Operand} {o' : Option Opd} (ho : oR R o = some o') {d m : Nat} (hb : bnd d o' l f = some m) :
    (o.map a.eval = none ∧ o' = none ∧ m = d) ∨ ∃ k, o.map a.eval = some (.int k (m : Int)) ∧ o' ≠ none := by
  cases o with
  | none =>
    cases ho
    rcases bnd_some hb with ⟨_, rfl⟩ | ⟨x, k, hx, _⟩
    · exact .inl ⟨rfl, rfl, rfl⟩
    · cases hx
  | some x =>
    cases hx : R x with
    | none => simp [oR, hx] at ho
    | some y =>
      simp [oR, hx] at ho
      subst ho
      rcases bnd_some hb with ⟨h1, _⟩ | ⟨x', k, hx', hv⟩
      · cases h1
      · cases hx'
        refine .inr ⟨k, ?_, by simp⟩
        rw [Option.map_some, (hR x y hx).1, hv]; simp [den]

theorem slc_sound {R : Operand → Option Opd} {a : Act} {l : List AV} {f : Fr} (hR : ∀ x y, R x = some y → a.eval x = den E (ev y l f) ∧ Sc (Up n) (ev y l f)) {t e sz : Nat} (ht : P.underlying t = some (.slice e)) (hs : szo P e = some sz)
    {lo hi mx : Option Operand} {lo' hi' mx' : Option Opd} (hlo : oR R lo = some lo') (hhi : oR R hi = some hi') (hmx : oR R mx = some mx') (hmh : mx' ≠ none → hi' ≠ none)
    {x v : AV} {h' : HT} {n' : Pa} (hw : WRel K E w h n) (hx : Sc (Up n) x) (he : slcV sz lo' hi' mx' l f x h n = .ok v h' n') :
    (Instr.sliceAt t (den E x) (lo.map a.eval) (hi.map a.eval) (mx.map a.eval)).run P w = .ok (den E v) w ∧ Sc (Up n) v ∧ h' = h ∧ n' = n := by
  unfold slcV at he
  obtain ⟨hv, rfl, rfl⟩ := orV_ok he
  cases hl : bnd 0 lo' l f with
  | none => simp only [hl] at hv; cases hv
  | some lv =>
    simp only [hl] at hv
    cases hh : bnd (lenOf x) hi' l f with
    | none => simp only [hh] at hv; cases hv
    | some hv' =>
      simp only [hh] at hv
      have vlo := bnd_val hR hlo hl
      have vhi := bnd_val hR hhi hh
      have hlo' : (lo.map a.eval = none ∧ lv = 0) ∨ ∃ k, lo.map a.eval = some (.int k (lv : Int)) := by
        rcases vlo with ⟨h1, _, h2⟩ | ⟨k, h1, _⟩
        · exact .inl ⟨h1, h2⟩
        · exact .inr ⟨k, h1⟩
      have hhi' : (hi.map a.eval = none ∧ hv' = lenOf x) ∨ ∃ k, hi.map a.eval = some (.int k (hv' : Int)) := by
        rcases vhi with ⟨h1, _, h2⟩ | ⟨k, h1, _⟩
        · exact .inl ⟨h1, h2⟩
        · exact .inr ⟨k, h1⟩
      have hhn : mx' ≠ none → hi.map a.eval ≠ none := fun hm => by
        rcases vhi with ⟨_, h2, _⟩ | ⟨k, h1, _⟩
        · exact absurd h2 (hmh hm)
        · rw [h1]; simp
      have vmx : ∀ m, mx' = none ∨ bnd 0 mx' l f = some m → (mx' = none ∧ mx.map a.eval = none) ∨ ∃ k, mx' ≠ none ∧ mx.map a.eval = some (.int k (m : Int)) := by
        intro m hm
        cases hmx0 : mx' with
        | none =>
          refine .inl ⟨rfl, ?_⟩
          cases mx with
          | none => rfl
          | some y => rw [hmx0] at hmx; simp [oR] at hmx
        | some y =>
          rw [hmx0] at hm hmx
          rcases hm with hm | hm
          · cases hm
          · rcases bnd_val hR hmx hm with ⟨_, h1, _⟩ | ⟨k, h1, _⟩
            · cases h1
            · exact .inr ⟨k, by simp, h1⟩
      unfold slcN at hv
      cases hxs : asS x with
      | no => rw [hxs] at hv; cases hv
      | sn =>
        rw [hxs] at hv
        have hxe := asS_sn hxs
        subst hxe
        simp only [ifB_eq] at hv
        split at hv
        · rename_i h1
          split at hv
          · rename_i h2
            have h1 : lv = 0 := Nat.eq_of_beq_eq_true h1
            have h2 : hv' = 0 := Nat.eq_of_beq_eq_true h2
            subst h1 h2
            cases hm : bnd 0 mx' l f with
            | none => simp only [hm] at hv; cases hv
            | some m =>
              simp only [hm] at hv
              split at hv
              · rename_i h3
                have h3 : m = 0 := Nat.eq_of_beq_eq_true h3
                subst h3
                have := Option.some.inj hv; subst this
                refine ⟨?_, by simp [Sc], rfl, rfl⟩
                have hmx1 : (mx.map a.eval = none ∧ (0 : Nat) = 0) ∨ ∃ k, mx.map a.eval = some (.int k ((0 : Nat) : Int)) ∧ 0 ≤ 0 ∧ hi.map a.eval ≠ none := by
                  rcases vmx 0 (.inr hm) with ⟨_, h1⟩ | ⟨k, h1, h2⟩
                  · exact .inl ⟨h1, rfl⟩
                  · exact .inr ⟨k, h2, Nat.le_refl _, hhn h1⟩
                have hb := run_bounds (P := P) (w := w) (len := 0) (cap := 0) (l := 0) (hh := 0) (m := 0) hmx1 (by simpa [lenOf, asS] using hhi') hlo' (Nat.le_refl _) (Nat.le_refl _)
                simp only [den]
                rw [slice_run ht hs hb]; simp
              · cases hv
          · cases hv
        · cases hv
      | sl id off len cap =>
        rw [hxs] at hv
        have hxe := asS_sl hxs
        subst hxe
        have hid : Up n' id := by simpa [Sc] using hx
        have hlen : lenOf (.sl id off len cap) = len := rfl
        rw [hlen] at hhi'
        cases cap with
        | ex c =>
          cases hmx0 : mx' with
          | none =>
            simp only [hmx0] at hv
            obtain ⟨h1, h2, h3, h4⟩ := slcE_some (E := E) hv
            refine ⟨?_, h4 _ hid, rfl, rfl⟩
            have hmx1 : (mx.map a.eval = none ∧ c = c) ∨ ∃ k, mx.map a.eval = some (.int k (c : Int)) ∧ c ≤ c ∧ hi.map a.eval ≠ none := by
              rcases vmx c (.inl hmx0) with ⟨_, h1⟩ | ⟨k, h1, h2⟩
              · exact .inl ⟨h1, rfl⟩
              · exact absurd hmx0 h1
            have hb := run_bounds (P := P) (w := w) (len := len) (cap := c) (l := lv) (hh := hv') (m := c) hmx1 hhi' hlo' h1 h2
            simp only [den]
            rw [slice_run ht hs hb, h3]
            split <;> simp
          | some y =>
            simp only [hmx0] at hv
            unfold slcM at hv
            cases hm : bnd 0 (some y) l f with
            | none => rw [hm] at hv; cases hv
            | some m =>
              rw [hm] at hv
              simp only [ifB_eq] at hv
              split at hv
              · rename_i hmc
                have hmc := Nat.le_of_ble_eq_true hmc
                obtain ⟨h1, h2, h3, h4⟩ := slcE_some (E := E) hv
                refine ⟨?_, h4 _ hid, rfl, rfl⟩
                have hmx1 : (mx.map a.eval = none ∧ m = c) ∨ ∃ k, mx.map a.eval = some (.int k (m : Int)) ∧ m ≤ c ∧ hi.map a.eval ≠ none := by
                  rcases vmx m (.inr (by rw [hmx0]; exact hm)) with ⟨h1, _⟩ | ⟨k, h1, h2⟩
                  · rw [hmx0] at h1; cases h1
                  · exact .inr ⟨k, h2, hmc, hhn h1⟩
                have hb := run_bounds (P := P) (w := w) (len := len) (cap := c) (l := lv) (hh := hv') (m := m) hmx1 hhi' hlo' h1 h2
                simp only [den]
                rw [slice_run ht hs hb, h3]
                split <;> simp
              · cases hv
        | re sz' =>
          obtain ⟨cs, hcs, hu⟩ := blkC_some hv
          clear hv
          have hv := hu
          clear hu
          unfold slcH at hv
          simp only [ifB_eq] at hv
          split at hv
          · rename_i hsz
            have hsz : sz = sz' := Nat.eq_of_beq_eq_true hsz
            subst hsz
            split at hv
            · rename_i h0
              have h0 := Nat.le_of_ble_eq_true h0
              split at hv
              · rename_i hal
                have hal : off + len * sz ≤ cs.length := (atLeast_iff _ _).1 hal
                obtain ⟨⟨arr, el, k1, k2, k3, k4⟩, k5⟩ := hw.blk id _ hid.1 hcs
                have hcap : len ≤ (E.sz id - off) / sz := (Nat.le_div_iff_mul_le (by omega)).2 (by omega)
                cases hmx0 : mx' with
                | none =>
                  simp only [hmx0] at hv
                  unfold slcR at hv
                  simp only [ifB_eq, forceN_eq] at hv
                  have hmx1 : (mx.map a.eval = none ∧ (E.sz id - off) / sz = (E.sz id - off) / sz) ∨ ∃ k, mx.map a.eval = some (.int k (((E.sz id - off) / sz : Nat) : Int)) ∧ (E.sz id - off) / sz ≤ (E.sz id - off) / sz ∧ hi.map a.eval ≠ none := by
                    rcases vmx 0 (.inl hmx0) with ⟨_, h1⟩ | ⟨k, h1, h2⟩
                    · exact .inl ⟨h1, rfl⟩
                    · exact absurd hmx0 h1
                  split at hv
                  · rename_i h1
                    have h1 : off + hv' * sz ≤ cs.length := (atLeast_iff _ _).1 h1
                    have h1 : hv' ≤ (E.sz id - off) / sz := (Nat.le_div_iff_mul_le (by omega)).2 (by omega)
                    split at hv
                    · rename_i h2
                      have h2 : lv + 1 ≤ hv' := Nat.le_of_ble_eq_true h2
                      have := Option.some.inj hv; subst this
                      refine ⟨?_, by simpa [Sc] using hid, rfl, rfl⟩
                      have hb := run_bounds (P := P) (w := w) (len := len) (l := lv) (hh := hv') hmx1 hhi' hlo' (by omega) (by omega)
                      simp only [den]
                      rw [slice_run ht hs hb, if_neg (by omega)]
                      simp only [Option.map_some, Addr.add_blk]
                      congr 2
                      show (E.sz id - off) / sz - lv = (E.sz id - (off + lv * sz)) / sz
                      rw [Nat.sub_add_eq, Nat.mul_comm lv sz, Nat.sub_mul_div]
                    · split at hv
                      · rename_i h3
                        have h3 : hv' = 0 := Nat.eq_of_beq_eq_true h3
                        split at hv
                        · rename_i h4
                          have h4 : lv = 0 := Nat.eq_of_beq_eq_true h4
                          have := Option.some.inj hv; subst this
                          refine ⟨?_, by simpa [Sc] using hid, rfl, rfl⟩
                          subst h3 h4
                          have hb := run_bounds (P := P) (w := w) (len := len) (l := 0) (hh := 0) hmx1 hhi' hlo' (by omega) (by omega)
                          simp only [den]
                          rw [slice_run ht hs hb]
                          split <;> simp [addr_add]
                        · cases hv
                      · split at hv
                        · rename_i h6
                          have h6 : lv = hv' := Nat.eq_of_beq_eq_true h6
                          have := Option.some.inj hv; subst this
                          refine ⟨?_, by simpa [Sc] using hid, rfl, rfl⟩
                          have hb := run_bounds (P := P) (w := w) (len := len) (l := lv) (hh := hv') hmx1 hhi' hlo' (by omega) (by omega)
                          simp only [den]
                          rw [slice_run ht hs hb]
                          subst h6
                          split
                          · rename_i e; rw [e]; simp
                          · simp [addr_add]
                        · cases hv
                  · cases hv
                | some y =>
                  simp only [hmx0] at hv
                  unfold slcM at hv
                  cases hm : bnd 0 (some y) l f with
                  | none => rw [hm] at hv; cases hv
                  | some m =>
                    rw [hm] at hv
                    simp only [ifB_eq] at hv
                    split at hv
                    · rename_i hmc
                      have hmc := Nat.le_of_ble_eq_true hmc
                      obtain ⟨h1, h2, h3, h4⟩ := slcE_some (E := E) hv
                      refine ⟨?_, h4 _ hid, rfl, rfl⟩
                      have hmx1 : (mx.map a.eval = none ∧ m = (E.sz id - off) / sz) ∨ ∃ k, mx.map a.eval = some (.int k (m : Int)) ∧ m ≤ (E.sz id - off) / sz ∧ hi.map a.eval ≠ none := by
                        rcases vmx m (.inr (by rw [hmx0]; exact hm)) with ⟨h1, _⟩ | ⟨k, h1, h2⟩
                        · rw [hmx0] at h1; cases h1
                        · exact .inr ⟨k, h2, by omega, hhn h1⟩
                      have hb := run_bounds (P := P) (w := w) (len := len) (l := lv) (hh := hv') (m := m) hmx1 hhi' hlo' h1 h2
                      simp only [den]
                      rw [slice_run ht hs hb, h3]
                      split <;> simp
                    · cases hv
              · cases hv
            · cases hv
          · cases hv
end Go.X
