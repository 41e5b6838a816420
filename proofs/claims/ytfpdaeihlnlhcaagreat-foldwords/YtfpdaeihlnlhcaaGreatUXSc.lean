/- An executable reading of the model, its soundness over any program, and what it reads of this program. -/
import Derived.Test.YtfpdaeihlnlhcaaGreatUXV
import Derived.Orders
set_option linter.unusedSectionVars false
set_option linter.unusedVariables false
set_option linter.unusedSimpArgs false
set_option linter.constructorNameAsVariable false
namespace Go.X
variable [Sym]
variable {P : Program} {S : Pa → Prop} {h h' : HT} {n n' : Pa} {l : List AV} {f : Fr}

/-! ### what a value names -/
def opC : Op → List AV
  | .u (.tya _ z) _ => [z]
  | .new z => z
  | .bld z _ => z
  | .bsl z _ _ => z
  | .mks _ z _ _ => z
  | _ => []
def opds : Op → List Opd
  | .u _ x => [x]
  | .b _ x y => [x, y]
  | .pick c x y => [c, x, y]
  | .ld a => [a]
  | .ldn _ a => [a]
  | .box x => [x]
  | .bld _ ps => ps.map (·.2.2)
  | .bsl _ _ ps => ps.map (·.2.2)
  | .mkf _ a c => a ++ c
  | .slc _ x _ _ _ => [x]
  | _ => []
theorem okI_sc {k : IntKind} {m : Int} {v : AV} (h : okI k m = some v) : Sc S v := by rw [okI_some h]; simp [Sc]
theorem okB_sc {b : Bool} {v : AV} (h : okB b = some v) : Sc S v := by rw [okB_some h]; simp [Sc]
theorem nthO_sc {i : Nat} {l : List AV} {v : AV} (hl : ScL S l) (h : nthO i l = some v) : Sc S v := by rw [nthO_eq] at h; exact ScL_get hl h
theorem ldC_sc {S : Pa → Prop} {off : Nat} {o : Option Blk} {v : AV} (h : ldC off o = some v) (hl : ∀ b, o = some b → BSc S b) : Sc S v := by
  cases o with
  | none => cases h
  | some b =>
    cases b with
    | c l => exact nthO_sc (hl _ rfl) (h : nthO off l = some v)
    | lp ps a b fr => cases h
    | df => cases h
    | mp nk es => cases h
    | cz m z l =>
      have h1 : ifB (Nat.ble m off) (nthO (Nat.sub off m) l) none = some v := h
      rw [ifB_eq] at h1
      split at h1
      · have h2 : ScL S (List.replicate m z ++ l) := hl _ rfl
        exact nthO_sc ((ScL_iff _ _).2 fun u hu => (ScL_iff _ _).1 h2 u (List.mem_append_right _ hu)) h1
      · cases h1
theorem cut_sc {m off : Nat} {l : List AV} {v : AV} (hl : ScL S l) (h : cutK none m off l someAg = some v) : Sc S v := by
  rw [cutK_eq] at h
  split at h
  · have := Option.some.inj h
    subst this
    simp only [Sc]
    exact ScL_take _ (ScL_drop _ hl)
  · cases h
theorem b1_sc {o : B1} {x : Opd} {v : AV} (he : b1 o (ev x l f) = some v) (hx : Sc S (ev x l f)) (hC : ScL S (opC (.u o x))) : Sc S v := by
  generalize ev x l f = u at he hx
  have hi1 : ∀ {g : IntKind → Int → Option AV}, (∀ k m v, g k m = some v → Sc S v) → i1 g u = some v → Sc S v := fun hg h => by
    obtain ⟨k, m, _, h2⟩ := i1_some h
    exact hg _ _ _ h2
  cases o with
  | mv => have : u = v := Option.some.inj he; exact this ▸ hx
  | nck =>
    change nckV u = some v at he
    unfold nckV at he
    cases hq : asN u with
    | nil m =>
      rw [hq] at he
      simp only [ifB_eq] at he
      split at he
      · exact Option.some.inj he ▸ hx
      · cases he
    | some m => rw [hq] at he; exact Option.some.inj he ▸ hx
    | no => rw [hq] at he; exact Option.some.inj he ▸ hx
  | neg => exact hi1 (fun _ _ _ h => okI_sc h) he
  | com => exact hi1 (fun _ _ _ h => okI_sc h) he
  | cvt k => exact hi1 (fun _ _ _ h => okI_sc h) he
  | not =>
    change notV u = some v at he
    unfold notV at he
    cases hq : asB u with
    | no => rw [hq] at he; cases he
    | b b => rw [hq] at he; exact okB_sc he
  | mkif t => have : .ic t u = v := Option.some.inj he; rw [← this]; simpa [Sc] using hx
  | fad off =>
    change fadV off u = some v at he
    unfold fadV at he
    cases hq : asP u with
    | no => rw [hq] at he; cases he
    | p id o =>
      rw [hq] at he
      simp only [forceN_eq] at he
      have := Option.some.inj he
      rw [asP_p hq] at hx
      rw [← this]
      simpa [Sc] using hx
  | fld off =>
    change fldV off u = some v at he
    unfold fldV at he
    cases hq : asAg u with
    | no => rw [hq] at he; cases he
    | l c => rw [hq] at he; rw [asAg_l hq] at hx; exact nthO_sc (by simpa [Sc] using hx) he
  | fldn off m =>
    change fldnV off m u = some v at he
    unfold fldnV at he
    cases hq : asAg u with
    | no => rw [hq] at he; cases he
    | l c => rw [hq] at he; rw [asAg_l hq] at hx; exact cut_sc (by simpa [Sc] using hx) he
  | len =>
    change lenV u = some v at he
    unfold lenV at he
    cases hq : asS u with
    | no => rw [hq] at he; cases he
    | sl id o m c => rw [hq] at he; rw [← Option.some.inj he]; simp [Sc]
    | sn => rw [hq] at he; rw [← Option.some.inj he]; simp [Sc]
  | lens =>
    change lensV u = some v at he
    unfold lensV at he
    cases hq : asStr u with
    | none => rw [hq] at he; cases he
    | some c => rw [hq] at he; rw [← Option.some.inj he]; simp [Sc]
  | ext i =>
    change extV i u = some v at he
    unfold extV at he
    cases hq : asTu u with
    | no => rw [hq] at he; cases he
    | l c => rw [hq] at he; rw [asTu_l hq] at hx; exact nthO_sc (by simpa [Sc] using hx) he
  | tya t z =>
    change tyaV t z u = some v at he
    have hz : Sc S z := hC.1
    unfold tyaV at he
    cases hq : asC u with
    | no => rw [hq] at he; cases he
    | iz => rw [hq] at he; rw [← Option.some.inj he]; simp [Sc, ScL, hz]
    | ic t' v' =>
      rw [hq] at he
      simp only [ifB_eq] at he
      have hu : u = .ic t' v' := by revert hq; cases u <;> simp [asC]
      rw [hu] at hx
      have hx' : Sc S v' := by simpa [Sc] using hx
      split at he <;> (rw [← Option.some.inj he]; simp [Sc, ScL, hz, hx'])
theorem arV_sc {o : I2} {x y v : AV} (ho : ∀ k a b v, o k a b = some v → Sc S v) (he : arV o x y = some v) : Sc S v := by
  unfold arV at he
  cases hx : asI x with
  | no => rw [hx] at he; cases he
  | i k a =>
    rw [hx] at he
    cases hy : asI y with
    | no => rw [hy] at he; cases he
    | i k' b =>
      rw [hy] at he
      simp only [viV, ifB_eq] at he
      split at he
      · exact ho _ _ _ _ he
      · cases he
theorem shV_sc {o : IntKind → Int → Option Nat → Option AV} {x y v : AV} (ho : ∀ k a b v, o k a b = some v → Sc S v) (he : shV o x y = some v) : Sc S v := by
  unfold shV at he
  cases hx : asI x with
  | no => rw [hx] at he; cases he
  | i k a =>
    rw [hx] at he
    cases hy : asI y with
    | no => rw [hy] at he; cases he
    | i k' b => rw [hy] at he; exact ho _ _ _ _ he
theorem beV_sc {o : Bool → Bool} {x y v : AV} (he : beV o x y = some v) : Sc S v := by
  unfold beV at he
  cases hx : asB x with
  | no => rw [hx] at he; cases he
  | b a =>
    rw [hx] at he
    cases hy : asB y with
    | no => rw [hy] at he; cases he
    | b b => rw [hy] at he; exact okB_sc he
theorem neV_sc {o : Bool → Bool} {t : Nat} {x y v : AV} (he : neV o t x y = some v) : Sc S v := by
  unfold neV at he
  cases hx : asN x with
  | no => rw [hx] at he; cases he
  | nil a =>
    rw [hx] at he
    simp only [ifB_eq] at he
    split at he
    · cases hy : asN y with
      | no => rw [hy] at he; cases he
      | nil b => rw [hy] at he; simp only [ifB_eq] at he; split at he <;> first | exact okB_sc he | cases he
      | some b => rw [hy] at he; simp only [ifB_eq] at he; split at he <;> first | exact okB_sc he | cases he
    · cases he
  | some a =>
    rw [hx] at he
    simp only [ifB_eq] at he
    split at he
    · cases hy : asN y with
      | no => rw [hy] at he; cases he
      | nil b => rw [hy] at he; simp only [ifB_eq] at he; split at he <;> first | exact okB_sc he | cases he
      | some b => rw [hy] at he; cases he
    · cases he
theorem b2_sc {o : B2} {x y v : AV} (he : b2 o x y = some v) (hx : Sc S x) : Sc S v := by
  have hq : ∀ {g : IntKind → Int → Int → Int} {k a b v}, (ifB (ieq b (.ofNat 0)) none (okI k (g k a b)) : Option AV) = some v → Sc S v := fun h => by
    rw [ifB_eq] at h
    split at h
    · cases h
    · exact okI_sc h
  have hs1 : ∀ k a b v, shlN k a b = some v → Sc S v := fun k a b v h => by cases b with | none => cases h | some b => exact okI_sc h
  have hs2 : ∀ k a b v, shrN k a b = some v → Sc S v := fun k a b v h => by cases b with | none => cases h | some b => exact okI_sc h
  cases o with
  | add => exact arV_sc (fun _ _ _ _ h => okI_sc h) he
  | sub => exact arV_sc (fun _ _ _ _ h => okI_sc h) he
  | mul => exact arV_sc (fun _ _ _ _ h => okI_sc h) he
  | quo => exact arV_sc (fun _ _ _ _ h => hq (g := fun k a b => wrapF k (Int.tdiv a b)) h) he
  | rem => exact arV_sc (fun _ _ _ _ h => hq (g := fun k a b => Int.tmod a b) h) he
  | and => exact arV_sc (fun _ _ _ _ h => okI_sc h) he
  | or => exact arV_sc (fun _ _ _ _ h => okI_sc h) he
  | xor => exact arV_sc (fun _ _ _ _ h => okI_sc h) he
  | shl => exact shV_sc hs1 he
  | shr => exact shV_sc hs2 he
  | eq => exact arV_sc (fun _ _ _ _ h => okB_sc h) he
  | ne => exact arV_sc (fun _ _ _ _ h => okB_sc h) he
  | lt => exact arV_sc (fun _ _ _ _ h => okB_sc h) he
  | le => exact arV_sc (fun _ _ _ _ h => okB_sc h) he
  | gt => exact arV_sc (fun _ _ _ _ h => okB_sc h) he
  | ge => exact arV_sc (fun _ _ _ _ h => okB_sc h) he
  | eqb => exact beV_sc he
  | neb => exact beV_sc he
  | eqn t => exact neV_sc he
  | nen t => exact neV_sc he
  | idx sz =>
    change idxV sz x y = some v at he
    unfold idxV at he
    cases hq : asS x with
    | no => rw [hq] at he; cases he
    | sn => rw [hq] at he; cases he
    | sl id off len c =>
      rw [hq] at he
      rw [asS_sl hq] at hx
      cases hy : asI y with
      | no => rw [hy] at he; cases he
      | i k m =>
        rw [hy] at he
        change idxN sz id off len (nnO m) = some v at he
        cases hm : nnO m with
        | none => rw [hm] at he; cases he
        | some i =>
          rw [hm] at he
          simp only [idxN, ifB_eq, forceN_eq] at he
          split at he
          · rw [← Option.some.inj he]; simpa [Sc] using hx
          · cases he
  | ida m' sz =>
    change idaV m' sz x y = some v at he
    unfold idaV at he
    cases hq : asP x with
    | no => rw [hq] at he; cases he
    | p id off =>
      rw [hq] at he
      rw [asP_p hq] at hx
      cases hy : asI y with
      | no => rw [hy] at he; cases he
      | i k m =>
        rw [hy] at he
        change idxN sz id off m' (nnO m) = some v at he
        cases hm : nnO m with
        | none => rw [hm] at he; cases he
        | some i =>
          rw [hm] at he
          simp only [idxN, ifB_eq, forceN_eq] at he
          split at he
          · rw [← Option.some.inj he]; simpa [Sc] using hx
          · cases he
  | idxs =>
    change idxsV x y = some v at he
    unfold idxsV at he
    cases hq : asStr x with
    | none => rw [hq] at he; cases he
    | some s =>
      rw [hq] at he
      cases hy : asI y with
      | no => rw [hy] at he; cases he
      | i k m =>
        rw [hy] at he
        change idxsN s (nnO m) = some v at he
        cases hm : nnO m with
        | none => rw [hm] at he; cases he
        | some i =>
          rw [hm] at he
          change nthB i s = some v at he
          rw [nthB_eq] at he
          cases hs : s[i]? with
          | none => rw [hs] at he; cases he
          | some b => rw [hs] at he; rw [← Option.some.inj he]; simp [Sc]

/-! ### kinds of operations -/
def pureOp : Op → Bool
  | .u _ _ | .b _ _ _ | .pick _ _ _ | .bld _ _ | .mkf _ _ _ => true
  | _ => false
def readOp : Op → Bool
  | .ld _ | .ldn _ _ | .slc _ _ _ _ _ => true
  | _ => false
def newOp : Op → Bool
  | .new _ | .box _ | .bsl _ _ _ | .mks _ _ _ _ => true
  | _ => false
theorem isQop_iff (o : Op) : isQop o = true ↔ pureOp o = true ∨ readOp o = true ∨ newOp o = true := by cases o <;> simp [isQop, pureOp, readOp, newOp]
theorem fillK_ok0 : ∀ {ps : List (Nat × Nat × AV)} {c : List AV} {m : Nat} {k : List AV → OR} {v : AV} {h' : HT} {n' : Pa}, fillK (.no m) ps c k = .ok v h' n' → ∃ c', k c' = .ok v h' n' ∧ ∀ k2 : List AV → OR, fillK (.no m) ps c k2 = k2 c'
  | [], c, m, k, v, h', n', he => ⟨c, he, fun _ => rfl⟩
  | p :: ps, c, m, k, v, h', n', he => by
    change ifB (isLen p.2.1 (cells p.2.2)) (setK (.no m) (cells p.2.2) p.1 c fun l => fillK (.no m) ps l k) (.no m) = _ at he
    rw [ifB_eq] at he
    split at he
    · rename_i hl
      rw [setK_eq] at he
      split at he
      · rename_i h2
        obtain ⟨c', h4, h5⟩ := fillK_ok0 he
        refine ⟨c', h4, fun k2 => ?_⟩
        change ifB (isLen p.2.1 (cells p.2.2)) (setK (.no m) (cells p.2.2) p.1 c fun l => fillK (.no m) ps l k2) (.no m) = _
        rw [hl, ifB_true, setK_eq, if_pos h2, h5]
      · cases he
    · cases he
theorem fillK_ok : ∀ {ps : List (Nat × Nat × AV)} {c : List AV} {m : Nat} {k : List AV → OR} {v : AV} {h' : HT} {n' : Pa}, fillK (.no m) ps c k = .ok v h' n' → ScL S c → (∀ p ∈ ps, Sc S p.2.2) → ∃ c', ScL S c' ∧ k c' = .ok v h' n' ∧ ∀ k2 : List AV → OR, fillK (.no m) ps c k2 = k2 c'
  | [], c, m, k, v, h', n', he, hc, _ => ⟨c, hc, he, fun _ => rfl⟩
  | p :: ps, c, m, k, v, h', n', he, hc, hp => by
    change ifB (isLen p.2.1 (cells p.2.2)) (setK (.no m) (cells p.2.2) p.1 c fun l => fillK (.no m) ps l k) (.no m) = _ at he
    rw [ifB_eq] at he
    split at he
    · rename_i hl
      rw [setK_eq] at he
      split at he
      · rename_i h2
        have hsc : ScL S (c.take p.1 ++ cells p.2.2 ++ c.drop (p.1 + (cells p.2.2).length)) := ScL_app (ScL_app (ScL_take _ hc) (Sc_cells (hp p (by simp)))) (ScL_drop _ hc)
        obtain ⟨c', h3, h4, h5⟩ := fillK_ok he hsc fun q hq => hp q (by simp [hq])
        refine ⟨c', h3, h4, fun k2 => ?_⟩
        change ifB (isLen p.2.1 (cells p.2.2)) (setK (.no m) (cells p.2.2) p.1 c fun l => fillK (.no m) ps l k2) (.no m) = _
        rw [hl, ifB_true, setK_eq, if_pos h2, h5]
      · cases he
    · cases he
theorem evp_sc {ps : List (Nat × Nat × Opd)} (hO : ∀ x ∈ ps.map (·.2.2), Sc S (ev x l f)) : ∀ p ∈ evp ps l f, Sc S p.2.2 := by
  induction ps with
  | nil => intro p hp; cases hp
  | cons q ps ih =>
    intro p hp
    rcases List.mem_cons.1 (hp : p ∈ (q.1, q.2.1, ev q.2.2 l f) :: evp ps l f) with rfl | hp
    · exact hO _ (by simp)
    · exact ih (fun x hx => hO x (List.mem_cons_of_mem _ hx)) p hp
theorem evs_sc {xs : List Opd} (hO : ∀ x ∈ xs, Sc S (ev x l f)) : ScL S (evs xs l f) := by
  rw [evs_eq, ScL_iff]
  intro v hv
  obtain ⟨x, hx, rfl⟩ := List.mem_map.1 hv
  exact hO x hx

/-- an operation that does not look at the heap -/
theorem pure_ok0 {o : Op} {v : AV} (hp : pureOp o = true) (he : sop0 o l f h n = .ok v h' n') : h' = h ∧ n' = n ∧ (∀ h2 n2, sop0 o l f h2 n2 = .ok v h2 n2) ∧ ∀ S, ScL S (opC o) → (∀ x ∈ opds o, Sc S (ev x l f)) → Sc S v := by
  cases o <;> simp only [pureOp, reduceCtorEq] at hp
  case u o x =>
    obtain ⟨hb, e1, e2⟩ := orV_ok (o := b1 o (ev x l f)) he
    exact ⟨e1, e2, fun h2 n2 => by show orV (b1 o (ev x l f)) h2 n2 = _; rw [hb]; rfl, fun S hC hO => b1_sc hb (hO x (by simp [opds])) hC⟩
  case b o x y =>
    obtain ⟨hb, e1, e2⟩ := orV_ok (o := b2 o (ev x l f) (ev y l f)) he
    exact ⟨e1, e2, fun h2 n2 => by show orV (b2 o (ev x l f) (ev y l f)) h2 n2 = _; rw [hb]; rfl, fun S hC hO => b2_sc hb (hO x (by simp [opds]))⟩
  case pick c x y =>
    change pickB (ev x l f) (ev y l f) (asB (ev c l f)) h n = _ at he
    cases hb : asB (ev c l f) with
    | no => rw [hb] at he; cases he
    | b b =>
      rw [hb] at he
      have he' : OR.ok (ifB b (ev x l f) (ev y l f)) h n = .ok v h' n' := he
      cases he'
      refine ⟨rfl, rfl, fun h2 n2 => by show pickB (ev x l f) (ev y l f) (asB (ev c l f)) h2 n2 = _; rw [hb]; rfl, fun S hC hO => ?_⟩
      cases b
      · exact hO y (by simp [opds])
      · exact hO x (by simp [opds])
  case bld z ps =>
    have he' : fillK (.no 40) (evp ps l f) z (fun c => .ok (.ag c) h n) = .ok v h' n' := he
    obtain ⟨c', e1, e2⟩ := fillK_ok0 he'
    · cases e1
      refine ⟨rfl, rfl, fun h2 n2 => e2 _, fun S hC hO => ?_⟩
      obtain ⟨c2, s2, e3, _⟩ := fillK_ok (S := S) he' hC (evp_sc hO)
      cases e3
      simpa [Sc] using s2
  case mkf g a c =>
    have he' : OR.ok (.fn g (evs a l f) (evs c l f)) h n = .ok v h' n' := he
    cases he'
    exact ⟨rfl, rfl, fun _ _ => rfl, fun S hC hO => by simp only [Sc]; exact ⟨evs_sc fun x hx => hO x (by simp [opds, hx]), evs_sc fun x hx => hO x (by simp [opds, hx])⟩⟩

/-- an operation that looks at the heap and leaves it -/
theorem read_ok0 {o : Op} {v : AV} (hp : readOp o = true) (he : sop0 o l f h n = .ok v h' n') : h' = h ∧ n' = n ∧ (∀ n2, sop0 o l f h n2 = .ok v h n2) ∧ ∀ S : Pa → Prop, (∀ p b, S p → h.get p = some b → BSc S b) → (∀ x ∈ opds o, Sc S (ev x l f)) → Sc S v := by
  cases o <;> simp only [readOp, reduceCtorEq] at hp
  case ld a =>
    change ldV (ev a l f) h n = _ at he
    have hs : ∀ h2 n2, sop0 (.ld a) l f h2 n2 = ldV (ev a l f) h2 n2 := fun _ _ => rfl
    unfold ldV at he
    cases hq : asP (ev a l f) with
    | no => rw [hq] at he; cases he
    | p id off =>
      rw [hq] at he
      obtain ⟨hb, e1, e2⟩ := orV_ok (o := ldC off (h.get id)) he
      refine ⟨e1, e2, fun n2 => by rw [hs]; unfold ldV; rw [hq]; show orV (ldC off (h.get id)) h n2 = _; rw [hb]; rfl, fun S hH hO => ?_⟩
      have hx := hO a (by simp [opds])
      rw [asP_p hq] at hx
      have hid : S id := by simpa [Sc] using hx
      exact ldC_sc hb (fun b hg => hH id b hid hg)
  case ldn m a =>
    change ldnV m (ev a l f) h n = _ at he
    have hs : ∀ h2 n2, sop0 (.ldn m a) l f h2 n2 = ldnV m (ev a l f) h2 n2 := fun _ _ => rfl
    unfold ldnV at he
    cases hq : asP (ev a l f) with
    | no => rw [hq] at he; cases he
    | p id off =>
      rw [hq] at he
      obtain ⟨hb, e1, e2⟩ := orV_ok (o := ldnC off m (h.get id)) he
      refine ⟨e1, e2, fun n2 => by rw [hs]; unfold ldnV; rw [hq]; show orV (ldnC off m (h.get id)) h n2 = _; rw [hb]; rfl, fun S hH hO => ?_⟩
      have hx := hO a (by simp [opds])
      rw [asP_p hq] at hx
      have hid : S id := by simpa [Sc] using hx
      obtain ⟨c, hg, hk⟩ := blkC_some hb
      exact cut_sc (hH id _ hid hg) hk
  case slc sz x lo hi mx =>
    have hs : ∀ h2 n2, sop0 (.slc sz x lo hi mx) l f h2 n2 = slcV sz lo hi mx l f (ev x l f) h2 n2 := fun _ _ => rfl
    change slcV sz lo hi mx l f (ev x l f) h n = _ at he
    unfold slcV at he
    cases ha : bnd 0 lo l f with
    | none => rw [ha] at he; cases he
    | some a =>
      cases hb : bnd (lenOf (ev x l f)) hi l f with
      | none => rw [ha, hb] at he; cases he
      | some b =>
        rw [ha, hb] at he
        obtain ⟨hv, e1, e2⟩ := orV_ok (o := slcN sz h a b mx (bnd 0 mx l f) (ev x l f)) he
        refine ⟨e1, e2, fun n2 => by rw [hs]; unfold slcV; rw [ha, hb]; show orV (slcN sz h a b mx (bnd 0 mx l f) (ev x l f)) h n2 = _; rw [hv]; rfl, fun S hH hO => ?_⟩
        have hx := hO x (by simp [opds])
        have hE : ∀ {id off m v}, S id → slcE sz id off a b m = some v → Sc S v := fun hid h => (slcE_some (E := ⟨fun _ => 0, fun _ => 0⟩) h).2.2.2 S hid
        have hM : ∀ {id off c m v}, S id → slcM sz id off a b c m = some v → Sc S v := fun {id off c m v} hid h => by
          cases m with
          | none => cases h
          | some m =>
            simp only [slcM, ifB_eq] at h
            split at h
            · exact hE hid h
            · cases h
        unfold slcN at hv
        cases hq : asS (ev x l f) with
        | no => rw [hq] at hv; cases hv
        | sn =>
          rw [hq] at hv
          simp only [ifB_eq] at hv
          split at hv
          · split at hv
            · cases hm : bnd 0 mx l f with
              | none => rw [hm] at hv; cases hv
              | some m =>
                rw [hm] at hv
                simp only [ifB_eq] at hv
                split at hv
                · rw [← Option.some.inj hv]; simp [Sc]
                · cases hv
            · cases hv
          · cases hv
        | sl id off len cap =>
          rw [hq] at hv
          rw [asS_sl hq] at hx
          have hid : S id := by simpa [Sc] using hx
          cases cap with
          | ex c =>
            cases mx with
            | none => exact hE hid hv
            | some y => exact hM hid hv
          | re sz' =>
            obtain ⟨cs, hg, hk⟩ := blkC_some (k := slcH sz a b mx (bnd 0 mx l f) id off len sz') hv
            simp only [slcH, ifB_eq] at hk
            split at hk
            · split at hk
              · split at hk
                · cases mx with
                  | some y => exact hM hid hk
                  | none =>
                    have hk' : slcR sz id off len a b (atLeast (Nat.add off (Nat.mul b sz)) cs) = some v := hk
                    simp only [slcR, ifB_eq, forceN_eq] at hk'
                    split at hk'
                    · split at hk'
                      · rw [← Option.some.inj hk']; simpa [Sc] using hid
                      · split at hk'
                        · split at hk'
                          · rw [← Option.some.inj hk']; simpa [Sc] using hid
                          · cases hk'
                        · split at hk'
                          · rw [← Option.some.inj hk']; simpa [Sc] using hid
                          · cases hk'
                    · cases hk'
                · cases hk
              · cases hk
            · cases hk

/-- an operation that lays a block -/
theorem new_ok0 {o : Op} {v : AV} (hp : newOp o = true) (he : sop0 o l f h n = .ok v h' n') : ∃ c : Blk, v = v ∧ inc n = some n' ∧ h' = T.set (.v c) n h ∧ (∀ S, S n → Sc S v) ∧ (∀ S, ScL S (opC o) → (∀ x ∈ opds o, Sc S (ev x l f)) → BSc S c) ∧
    ∀ h2, sop0 o l f h2 n = .ok v (T.set (.v c) n h2) n' := by
  have key : ∀ {c : List AV} {k : Pa → AV} {h h' : HT}, newK c k h n = .ok v h' n' → v = k n ∧ inc n = some n' ∧ h' = T.set (.v (.c c)) n h ∧ ∀ h2, newK c k h2 n = .ok v (T.set (.v (.c c)) n h2) n' := by
    intro c k h h' he
    unfold newK at he
    rw [incK_eq] at he
    cases hi : inc n with
    | none => rw [hi] at he; cases he
    | some m =>
      rw [hi] at he
      simp only [T.setK_eq] at he
      cases he
      exact ⟨rfl, rfl, rfl, fun h2 => by unfold newK; rw [incK_eq, hi]; simp only [T.setK_eq]⟩
  cases o <;> simp only [newOp, reduceCtorEq] at hp
  case new z =>
    obtain ⟨rfl, e2, e3, e4⟩ := key (k := mkP) he
    exact ⟨.c z, rfl, e2, e3, fun S hS => by simpa [mkP, Sc] using hS, fun S hC _ => hC, e4⟩
  case box x =>
    obtain ⟨rfl, e2, e3, e4⟩ := key (k := mkP) he
    exact ⟨.c _, rfl, e2, e3, fun S hS => by simpa [mkP, Sc] using hS, fun S _ hO => Sc_cells (hO x (by simp [opds])), e4⟩
  case bsl z m ps =>
    have he' : fillK (.no 41) (evp ps l f) z (fun c => newK c (fun id => .sl id 0 m (.ex m)) h n) = .ok v h' n' := he
    obtain ⟨c', e1, e2⟩ := fillK_ok0 he'
    obtain ⟨rfl, e3, e4, e5⟩ := key e1
    refine ⟨.c c', rfl, e3, e4, fun S hS => by simpa [Sc] using hS, fun S hC hO => ?_, fun h2 => ?_⟩
    · obtain ⟨c2, s2, e6, e7⟩ := fillK_ok (S := S) he' hC (evp_sc hO)
      have : c2 = c' := by
        have h1 := e2 (fun c => .ok (.ag c) h n)
        have h2 := e7 (fun c => .ok (.ag c) h n)
        rw [h1] at h2
        cases h2
        rfl
      exact this ▸ s2
    · show fillK (.no 41) (evp ps l f) z (fun c => newK c (fun id => .sl id 0 m (.ex m)) h2 n) = _
      rw [e2]; exact e5 h2
  case mks by_ z x c =>
    have hs : ∀ h2, sop0 (.mks by_ z x c) l f h2 n = mksV by_ z (ev x l f) (ev c l f) h2 n := fun _ => rfl
    change mksV by_ z (ev x l f) (ev c l f) h n = _ at he
    unfold mksV at he
    cases hl : asNat (ev x l f) with
    | none => rw [hl] at he; cases he
    | some m =>
      cases hc : asNat (ev c l f) with
      | none => rw [hl, hc] at he; cases he
      | some q =>
        rw [hl, hc] at he
        change mksN by_ z m q h n = _ at he
        have hs' : ∀ h2, sop0 (.mks by_ z x c) l f h2 n = mksN by_ z m q h2 n := fun h2 => by rw [hs]; unfold mksV; rw [hl, hc]
        cases h1 : Nat.ble m q with
        | false => simp only [mksN, h1, ifB_false] at he; cases he
        | true =>
          cases h2 : Nat.ble (Nat.mul by_ q) 281474976710656 with
          | false => simp only [mksN, h1, h2, ifB_true, ifB_false] at he; cases he
          | true =>
            cases h3 : Nat.ble q 9223372036854775807 with
            | false => simp only [mksN, h1, h2, h3, ifB_true, ifB_false] at he; cases he
            | true =>
              simp only [mksN, h1, h2, h3, ifB_true] at he
              unfold mkL at he
              cases hb : ifB (Nat.ble 64 q) (isLen 1 z) false with
              | false =>
                rw [hb] at he
                have he1 : newK (rep z q) (fun id => .sl id 0 m (.ex q)) h n = .ok v h' n' := he
                obtain ⟨rfl, e3, e4, e5⟩ := key he1
                exact ⟨.c (rep z q), rfl, e3, e4, fun S hS => by simpa [Sc] using hS, fun S hC _ => rep_sc hC q, fun h4 => by rw [hs']; simp only [mksN, h1, h2, h3, ifB_true]; unfold mkL; rw [hb]; exact e5 h4⟩
              | true =>
                rw [hb] at he
                have he' : incK (OR.no 9) n (fun n' => T.setK (.v (.cz q (hd z) [])) n h fun h => OR.ok (.sl n 0 m (.ex q)) h n') = .ok v h' n' := he
                have hl1 : isLen 1 z = true := by
                  rw [ifB_eq] at hb
                  split at hb
                  · exact hb
                  · cases hb
                rw [incK_eq] at he'
                cases hi : inc n with
                | none => rw [hi] at he'; cases he'
                | some k =>
                  rw [hi] at he'
                  simp only [T.setK_eq] at he'
                  cases he'
                  refine ⟨.cz q (hd z) [], rfl, rfl, rfl, fun S hS => by simpa [Sc] using hS, fun S hC _ => ?_, fun h4 => ?_⟩
                  · show ScL S (List.replicate q (hd z) ++ [])
                    rw [isLen_eq] at hl1
                    have hl : z.length = 1 := by simpa using hl1
                    match z, hl, hC with
                    | [z0], _, hC =>
                      rw [List.append_nil]
                      exact (ScL_iff _ _).2 fun u hu => by rw [(List.mem_replicate.1 hu).2]; exact hC.1
                  · rw [hs']; simp only [mksN, h1, h2, h3, ifB_true]; unfold mkL; rw [hb]
                    show incK (OR.no 9) n (fun n' => T.setK (.v (.cz q (hd z) [])) n h4 fun h => OR.ok (.sl n 0 m (.ex q)) h n') = _
                    rw [incK_eq, hi]; simp only [T.setK_eq]

theorem sop_false {o : Op} (hx : isXop o l f = false) (h : HT) (n : Pa) : sop o l f h n = sopE o l f h n := by rw [sop_eq]; unfold sopS; rw [hx]; rfl
theorem sop_true {o : Op} (hx : isXop o l f = true) (h : HT) (n : Pa) : sop o l f h n = orV (sxO o l f) h n := by rw [sop_eq]; unfold sopS; rw [hx]; rfl
theorem sxO_opds {o : Op} {v : AV} (h : sxO o l f = some v) (hO : ∀ x ∈ opds o, Sc S (ev x l f)) : Sc S v := by
  refine sxO_sc h ?_
  cases o <;> first | trivial | exact hO _ (by simp [opds])
/-- an operation that does not look at the heap -/
theorem pure_ok {o : Op} {v : AV} (hp : pureOp o = true) (he : sop o l f h n = .ok v h' n') : h' = h ∧ n' = n ∧ (∀ h2 n2, sop o l f h2 n2 = .ok v h2 n2) ∧ ∀ S, ScL S (opC o) → (∀ x ∈ opds o, Sc S (ev x l f)) → Sc S v := by
  cases hx : isXop o l f with
  | false =>
    have hE : ∀ h n, sopE o l f h n = sop0 o l f h n := fun h n => by cases o <;> first | rfl | cases hp
    rw [sop_false hx, hE] at he
    obtain ⟨e1, e2, e3, e4⟩ := pure_ok0 hp he
    exact ⟨e1, e2, fun h2 n2 => by rw [sop_false hx, hE]; exact e3 h2 n2, e4⟩
  | true =>
    rw [sop_true hx] at he
    obtain ⟨hv, e1, e2⟩ := orV_ok he
    exact ⟨e1, e2, fun h2 n2 => by rw [sop_true hx, hv]; rfl, fun S _ hO => sxO_opds hv hO⟩
/-- an operation that looks at the heap and leaves it -/
theorem read_ok {o : Op} {v : AV} (hp : readOp o = true) (he : sop o l f h n = .ok v h' n') : h' = h ∧ n' = n ∧ (∀ n2, sop o l f h n2 = .ok v h n2) ∧ ∀ S : Pa → Prop, (∀ p b, S p → h.get p = some b → BSc S b) → (∀ x ∈ opds o, Sc S (ev x l f)) → Sc S v := by
  cases hx : isXop o l f with
  | false =>
    have hE : ∀ h n, sopE o l f h n = sop0 o l f h n := fun h n => by cases o <;> first | rfl | cases hp
    rw [sop_false hx, hE] at he
    obtain ⟨e1, e2, e3, e4⟩ := read_ok0 hp he
    exact ⟨e1, e2, fun n2 => by rw [sop_false hx, hE]; exact e3 n2, e4⟩
  | true =>
    rw [sop_true hx] at he
    obtain ⟨hv, e1, e2⟩ := orV_ok he
    exact ⟨e1, e2, fun n2 => by rw [sop_true hx, hv]; rfl, fun S _ hO => sxO_opds hv hO⟩
/-- an operation that lays a block -/
theorem new_ok {o : Op} {v : AV} (hp : newOp o = true) (he : sop o l f h n = .ok v h' n') : ∃ c : Blk, v = v ∧ inc n = some n' ∧ h' = T.set (.v c) n h ∧ (∀ S, S n → Sc S v) ∧ (∀ S, ScL S (opC o) → (∀ x ∈ opds o, Sc S (ev x l f)) → BSc S c) ∧
    ∀ h2, sop o l f h2 n = .ok v (T.set (.v c) n h2) n' := by
  have hx : isXop o l f = false := by cases o <;> first | rfl | cases hp
  have hE : ∀ h n, sopE o l f h n = sop0 o l f h n := fun h n => by cases o <;> first | rfl | cases hp
  rw [sop_false hx, hE] at he
  obtain ⟨c, e1, e2, e3, e4, e5, e6⟩ := new_ok0 hp he
  exact ⟨c, e1, e2, e3, e4, e5, fun h2 => by rw [sop_false hx, hE]; exact e6 h2⟩
end Go.X

namespace Go.X
variable [Sym]
variable {P : Program} {R : Operand → Option Opd}

theorem ros_mem : ∀ {xs : List Operand} {ys : List Opd}, ros R xs = some ys → ∀ y ∈ ys, ∃ x, R x = some y
  | [], ys, h, y, hy => by cases h; cases hy
  | x :: xs, ys, h, y, hy => by
    simp only [ros] at h
    cases hx : R x with
    | none => rw [hx] at h; cases h
    | some z =>
      rw [hx] at h
      cases hr : ros R xs with
      | none => rw [hr] at h; cases h
      | some r =>
        rw [hr] at h
        cases h
        rcases List.mem_cons.1 hy with rfl | hy
        · exact ⟨x, hx⟩
        · exact ros_mem hr y hy
theorem psG_mem {place : Nat → Option (Nat × Nat)} : ∀ {ps : List (Nat × Operand)} {q : List (Nat × Nat × Opd)}, psG R place ps = some q → ∀ y ∈ q.map (·.2.2), ∃ x, R x = some y
  | [], q, h, y, hy => by cases h; cases hy
  | (j, x) :: ps, q, h, y, hy => by
    simp only [psG] at h
    obtain ⟨p, _, h⟩ := bind_some h
    obtain ⟨z, hz, h⟩ := bind_some h
    obtain ⟨r, hr, h⟩ := bind_some h
    cases h
    rcases List.mem_cons.1 hy with rfl | hy
    · exact ⟨x, hz⟩
    · exact psG_mem hr y hy
theorem zer_sc {t : Nat} {z : List AV} (h : zer P t = some z) (S : Pa → Prop) : ScL S z := by
  obtain ⟨_, _, _, _, _, h⟩ := zer_some h
  exact h S

theorem builtin_parts {b : Builtin} {args : List Operand} {ats : Array TypeId} {o : Op} (hc : cBuiltin P R args ats b = some o) (hq : isQop o = true) : (∀ S, ScL S (opC o)) ∧ ∀ y ∈ opds o, ∃ x, R x = some y := by
  cases b <;> simp only [cBuiltin, reduceCtorEq] at hc
  case len =>
    split at hc
    · obtain ⟨d, hd, hc⟩ := bind_some hc
      obtain ⟨y, hy, hc⟩ := bind_some hc
      split at hc
      · cases hc; exact ⟨fun S => trivial, fun z hz => by simp only [opds, List.mem_singleton] at hz; subst hz; exact ⟨_, hy⟩⟩
      · cases hc; exact ⟨fun S => trivial, fun z hz => by simp only [opds, List.mem_singleton] at hz; subst hz; exact ⟨_, hy⟩⟩
      · cases hc
    · cases hc
  case append =>
    split at hc
    · split at hc
      · obtain ⟨d, hd, hc⟩ := bind_some hc
        obtain ⟨y, hy, hc⟩ := bind_some hc
        obtain ⟨y2, hy2, hc⟩ := bind_some hc
        split at hc
        · obtain ⟨i, hi, hc⟩ := bind_some hc
          obtain ⟨z, hz, hc⟩ := bind_some hc
          split at hc
          · split at hc
            · cases hc; cases hq
            · cases hc
          · cases hc
        · cases hc
      · cases hc
    · cases hc
  case copy =>
    split at hc
    · obtain ⟨td, hd, hc⟩ := bind_some hc
      obtain ⟨y, hy, hc⟩ := bind_some hc
      obtain ⟨y2, hy2, hc⟩ := bind_some hc
      split at hc
      · obtain ⟨z, hz, hc⟩ := bind_some hc
        cases hc; cases hq
      · cases hc
    · cases hc
  case clear =>
    split at hc
    · obtain ⟨td, hd, hc⟩ := bind_some hc
      obtain ⟨y, hy, hc⟩ := bind_some hc
      split at hc
      · obtain ⟨z, hz, hc⟩ := bind_some hc
        cases hc; cases hq
      · cases hc
    · cases hc
  case delete =>
    split at hc
    · obtain ⟨nk, hn, hc⟩ := bind_some hc
      obtain ⟨m', hm', hc⟩ := bind_some hc
      obtain ⟨k', hk', rfl⟩ := map_some hc
      cases hq
    · cases hc

theorem compOp_parts {op : Go.Op} {o : Op} (hc : compOp P R op = some o) (hq : isQop o = true) : (∀ S, ScL S (opC o)) ∧ ∀ y ∈ opds o, ∃ x, R x = some y := by
  have one : ∀ {x : Operand} {y : Opd}, R x = some y → ∀ z ∈ [y], ∃ x, R x = some z := fun h z hz => by simp only [List.mem_singleton] at hz; subst hz; exact ⟨_, h⟩
  have two : ∀ {x1 x2 : Operand} {y1 y2 : Opd}, R x1 = some y1 → R x2 = some y2 → ∀ z ∈ [y1, y2], ∃ x, R x = some z := fun h1 h2 z hz => by
    rcases List.mem_cons.1 hz with rfl | hz
    · exact ⟨_, h1⟩
    · simp only [List.mem_singleton] at hz; subst hz; exact ⟨_, h2⟩
  cases op <;> simp only [compOp, reduceCtorEq] at hc
  case move x => obtain ⟨y, hy, rfl⟩ := map_some hc; exact ⟨fun S => trivial, one hy⟩
  case assign x => obtain ⟨y, hy, rfl⟩ := map_some hc; exact ⟨fun S => trivial, one hy⟩
  case pick c x y =>
    obtain ⟨c', hc', hc⟩ := bind_some hc
    obtain ⟨x', hx', hc⟩ := bind_some hc
    obtain ⟨y', hy', hc⟩ := bind_some hc
    cases hc
    refine ⟨fun S => trivial, fun z hz => ?_⟩
    rcases List.mem_cons.1 (hz : z ∈ [c', x', y']) with rfl | hz
    · exact ⟨_, hc'⟩
    · exact two hx' hy' z hz
  case alloc e => obtain ⟨z, hz, rfl⟩ := map_some hc; exact ⟨fun S => zer_sc hz S, fun z hz => by cases hz⟩
  case box e x => obtain ⟨y, hy, rfl⟩ := map_some hc; exact ⟨fun S => trivial, one hy⟩
  case build t ps =>
    obtain ⟨d, hd, hc⟩ := bind_some hc
    obtain ⟨z, hz, hc⟩ := bind_some hc
    split at hc
    · obtain ⟨places, hpl, hc⟩ := bind_some hc
      obtain ⟨q, hq', rfl⟩ := map_some hc
      exact ⟨fun S => zer_sc hz S, psG_mem hq'⟩
    · obtain ⟨sz, hsz, hc⟩ := bind_some hc
      obtain ⟨q, hq', rfl⟩ := map_some hc
      exact ⟨fun S => zer_sc hz S, psG_mem hq'⟩
    · cases hc
  case buildSlice t len ps =>
    obtain ⟨d, hd, hc⟩ := bind_some hc
    split at hc
    · obtain ⟨sz, hsz, hc⟩ := bind_some hc
      obtain ⟨z, hz, hc⟩ := bind_some hc
      obtain ⟨q, hq', hc⟩ := bind_some hc
      split at hc
      · split at hc
        · cases hc
          exact ⟨fun S => rep_sc (zer_sc hz S) len, psG_mem hq'⟩
        · cases hc
      · cases hc
    · cases hc
  case load t x =>
    obtain ⟨d, hd, hc⟩ := bind_some hc
    obtain ⟨sz, hsz, hc⟩ := bind_some hc
    obtain ⟨y, hy, rfl⟩ := map_some hc
    cases isAggD d
    · exact ⟨fun S => trivial, one hy⟩
    · exact ⟨fun S => trivial, one hy⟩
  case store t x y =>
    obtain ⟨sz, hsz, hc⟩ := bind_some hc
    obtain ⟨x', hx', hc⟩ := bind_some hc
    obtain ⟨y', hy', rfl⟩ := map_some hc
    cases hq
  case nilCheck x => obtain ⟨y, hy, rfl⟩ := map_some hc; exact ⟨fun S => trivial, one hy⟩
  case binOp op t x y t2 =>
    obtain ⟨x', hx', hc⟩ := bind_some hc
    obtain ⟨y', hy', hc⟩ := bind_some hc
    obtain ⟨d, hd, hc⟩ := bind_some hc
    obtain ⟨o', ho, rfl⟩ := map_some hc
    exact ⟨fun S => trivial, two hx' hy'⟩
  case unOp op t x =>
    obtain ⟨x', hx', hc⟩ := bind_some hc
    split at hc
    · cases hc; exact ⟨fun S => trivial, one hx'⟩
    · cases hc; exact ⟨fun S => trivial, one hx'⟩
    · cases hc; exact ⟨fun S => trivial, one hx'⟩
    · cases hc
  case convert s d x =>
    obtain ⟨ds, hs, hc⟩ := bind_some hc
    obtain ⟨dd, hd, hc⟩ := bind_some hc
    obtain ⟨x', hx', hc⟩ := bind_some hc
    split at hc
    · cases hc; exact ⟨fun S => trivial, one hx'⟩
    · cases hc
  case makeInterface t x =>
    obtain ⟨d, hd, hc⟩ := bind_some hc
    obtain ⟨x', hx', hc⟩ := bind_some hc
    split at hc
    · cases hc
    · cases hc; exact ⟨fun S => trivial, one hx'⟩
  case makeFunc fn first cap =>
    cases fn with
    | func g =>
      simp only [compOp] at hc
      obtain ⟨p, hp, hc⟩ := bind_some hc
      obtain ⟨fs, hfs, hc⟩ := bind_some hc
      obtain ⟨cs, hcs, rfl⟩ := map_some hc
      refine ⟨fun S => trivial, fun z hz => ?_⟩
      rcases List.mem_append.1 (hz : z ∈ fs ++ cs) with h | h
      · exact ros_mem hfs z h
      · exact ros_mem hcs z h
    | _ => simp [compOp] at hc
  case makeSlice t x c =>
    obtain ⟨d, hd, hc⟩ := bind_some hc
    split at hc
    · obtain ⟨i, hi, hc⟩ := bind_some hc
      obtain ⟨z, hz, hc⟩ := bind_some hc
      obtain ⟨x', hx', hc⟩ := bind_some hc
      obtain ⟨c', hc', hc⟩ := bind_some hc
      split at hc
      · cases hc
        exact ⟨fun S => zer_sc hz S, fun z hz => by cases hz⟩
      · cases hc
    · cases hc
  case slice t x lo hi mx =>
    obtain ⟨d, hd, hc⟩ := bind_some hc
    split at hc
    · obtain ⟨sz, hsz, hc⟩ := bind_some hc
      obtain ⟨x', hx', hc⟩ := bind_some hc
      obtain ⟨lo', hlo, hc⟩ := bind_some hc
      obtain ⟨hi', hhi, hc⟩ := bind_some hc
      obtain ⟨mx', hmx, hc⟩ := bind_some hc
      split at hc
      · cases hc
      · cases hc; exact ⟨fun S => trivial, one hx'⟩
    · cases hc
  case fieldAddr t x fi =>
    obtain ⟨d, hd, hc⟩ := bind_some hc
    split at hc
    · obtain ⟨fd, hfd, hc⟩ := bind_some hc
      obtain ⟨sz, hsz, hc⟩ := bind_some hc
      obtain ⟨x', hx', hc⟩ := bind_some hc
      split at hc
      · cases hc
      · cases hc; exact ⟨fun S => trivial, one hx'⟩
    · cases hc
  case field t x fi =>
    obtain ⟨d, hd, hc⟩ := bind_some hc
    split at hc
    · obtain ⟨fd, hfd, hc⟩ := bind_some hc
      obtain ⟨df, hdf, hc⟩ := bind_some hc
      obtain ⟨sz, hsz, hc⟩ := bind_some hc
      obtain ⟨x', hx', rfl⟩ := map_some hc
      refine ⟨fun S => ?_, one hx'⟩
      cases isAggD df <;> trivial
    · cases hc
  case indexAddr t x i =>
    obtain ⟨d, hd, hc⟩ := bind_some hc
    split at hc
    · obtain ⟨sz, hsz, hc⟩ := bind_some hc
      obtain ⟨x', hx', hc⟩ := bind_some hc
      obtain ⟨i', hi', rfl⟩ := map_some hc
      exact ⟨fun S => trivial, two hx' hi'⟩
    · obtain ⟨sz, hsz, hc⟩ := bind_some hc
      obtain ⟨x', hx', hc⟩ := bind_some hc
      obtain ⟨i', hi', rfl⟩ := map_some hc
      exact ⟨fun S => trivial, two hx' hi'⟩
    · cases hc
  case index t x i =>
    obtain ⟨d, hd, hc⟩ := bind_some hc
    split at hc
    · obtain ⟨x', hx', hc⟩ := bind_some hc
      obtain ⟨i', hi', rfl⟩ := map_some hc
      exact ⟨fun S => trivial, two hx' hi'⟩
    · cases hc
  case makeMap t r =>
    split at hc
    · obtain ⟨nk, hn, rfl⟩ := map_some hc
      cases hq
    · cases hc
  case lookup t m k ok =>
    split at hc
    · obtain ⟨nk, hn, hc⟩ := bind_some hc
      obtain ⟨m', hm', hc⟩ := bind_some hc
      obtain ⟨k', hk', rfl⟩ := map_some hc
      cases hq
    · cases hc
  case mapUpdate t m k u =>
    obtain ⟨nk, hn, hc⟩ := bind_some hc
    obtain ⟨m', hm', hc⟩ := bind_some hc
    obtain ⟨k', hk', hc⟩ := bind_some hc
    obtain ⟨u', hu', rfl⟩ := map_some hc
    cases hq
  case extract x i => obtain ⟨y, hy, rfl⟩ := map_some hc; exact ⟨fun S => trivial, one hy⟩
  case typeAssert x xt t ok =>
    split at hc
    · obtain ⟨d, hd, hc⟩ := bind_some hc
      obtain ⟨x', hx', hc⟩ := bind_some hc
      split at hc
      · cases hc
      · obtain ⟨i, hi, hc⟩ := bind_some hc
        obtain ⟨z, hz, hc⟩ := bind_some hc
        obtain ⟨za, hza, rfl⟩ := map_some hc
        obtain ⟨q1, q2⟩ := cv_sound hza
        exact ⟨fun S => ⟨q2 S, trivial⟩, one hx'⟩
    · cases hc
  case call c =>
    split at hc
    · exact builtin_parts hc hq
    · cases hc
end Go.X

namespace Go.X
variable [Sym]

/-! ### orders -/
/-- what may come, when D has been -/
inductive Sched (ops : Array Oper) : List Nat → List Nat → Prop
  | nil {D : List Nat} (h : ∀ i, i < ops.size → i ∈ D) : Sched ops D []
  | cons {D s : List Nat} {i : Nat} {o : Oper} (ho : ops[i]? = some o) (hi : i ∉ D) (ha : ∀ e ∈ o.after, Region.binds .any e = true → e.on ∈ D) (hs : Sched ops (i :: D) s) : Sched ops D (i :: s)

theorem ready_some {ops : Array Oper} (hlt : ∀ (i : Nat) (o : Oper), ops[i]? = some o → ∀ e ∈ o.after, Region.binds .any e = true → e.on < i) {listed : Array Bool} (hsz : listed.size = ops.size) :
    ∀ (i : Nat), i < ops.size → listed.getD i true = false → ∃ j, j ∈ Region.ready .any ops listed := by
  intro i
  induction i using Nat.strongRecOn with
  | _ i ih =>
    intro hi hu
    have ho : ops[i]? = some ops[i] := by simp [hi]
    by_cases hall : ∀ e ∈ ops[i].after, Region.binds .any e = true → listed.getD e.on false = true
    · exact ⟨i, mem_ready.2 ⟨hu, ops[i], ho, hall⟩⟩
    · have hex : ∃ e, e ∈ ops[i].after ∧ Region.binds .any e = true ∧ ¬ listed.getD e.on false = true := Classical.byContradiction fun hno => hall fun e he hb => Classical.byContradiction fun h => hno ⟨e, he, hb, h⟩
      obtain ⟨e, he, hb, hn⟩ := hex
      have h1 := hlt i _ ho e he hb
      refine ih e.on h1 (by omega) ?_
      have h2 : e.on < listed.size := by omega
      simp only [Array.getD_eq_getD_getElem?, Array.getElem?_eq_getElem h2, Option.getD_some] at hn ⊢
      simpa using hn

theorem lin_sched {ops : Array Oper} (hlt : ∀ (i : Nat) (o : Oper), ops[i]? = some o → ∀ e ∈ o.after, Region.binds .any e = true → e.on < i) :
    ∀ (fuel t : Nat) (listed : Array Bool) (D : List Nat), listed.size = ops.size → (∀ i, i < ops.size → (listed.getD i true = true ↔ i ∈ D)) → (∀ i ∈ D, i < ops.size) → ((List.range ops.size).filter fun i => !listed.getD i true).length ≤ fuel →
      Sched ops D (Region.linearise.go .any ops fuel t listed [])
  | 0, t, listed, D, hsz, hD, _, hf => by
    simp only [Region.linearise.go]
    refine .nil fun i hi => ?_
    by_cases h : listed.getD i true = true
    · exact (hD i hi).1 h
    · exfalso
      have : i ∈ (List.range ops.size).filter fun i => !listed.getD i true := List.mem_filter.2 ⟨List.mem_range.2 hi, by simpa using h⟩
      have h0 : ((List.range ops.size).filter fun i => !listed.getD i true) = [] := List.eq_nil_of_length_eq_zero (by omega)
      rw [h0] at this
      cases this
  | fuel + 1, t, listed, D, hsz, hD, hlt2, hf => by
    simp only [Region.linearise.go]
    show Sched ops D (match (Region.ready .any ops listed)[t % (Region.ready .any ops listed).length]? with
      | some i => Region.linearise.go .any ops fuel (t / (Region.ready .any ops listed).length) (listed.setIfInBounds i true) [i]
      | none => [].reverse)
    cases hr : (Region.ready .any ops listed)[t % (Region.ready .any ops listed).length]? with
    | none =>
      refine .nil fun i hi => ?_
      by_cases h : listed.getD i true = true
      · exact (hD i hi).1 h
      · exfalso
        obtain ⟨j, hj⟩ := ready_some hlt hsz i hi (by simpa using h)
        have hpos : 0 < (Region.ready .any ops listed).length := List.length_pos_of_mem hj
        have := List.getElem?_eq_none_iff.1 hr
        have h2 := Nat.mod_lt t hpos
        omega
    | some i =>
      simp only
      rw [linearise_go_acc]
      obtain ⟨hu, o, ho, hall⟩ := mem_ready.1 (List.mem_of_getElem? hr)
      have hi : i < ops.size := (Array.getElem?_eq_some_iff.1 ho).1
      have hget : ∀ k, (listed.setIfInBounds i true).getD k true = true ↔ k = i ∨ listed.getD k true = true := fun k => by
        by_cases e : i = k
        · subst e
          have h2 : i < listed.size := by omega
          simp [h2]
        · rw [getD_set_ne true e]
          constructor
          · exact .inr
          · rintro (h | h)
            · exact absurd h.symm e
            · exact h
      refine .cons ho (fun h => by rw [(hD i hi).2 h] at hu; cases hu) (fun e he hb => ?_) ?_
      · have h1 := hall e he hb
        have h2 := hlt i o ho e he hb
        refine (hD e.on (by omega)).1 ?_
        have h3 : e.on < listed.size := by omega
        simp only [Array.getD_eq_getD_getElem?, Array.getElem?_eq_getElem h3, Option.getD_some] at h1 ⊢
        exact h1
      · refine lin_sched hlt fuel _ _ (i :: D) (by simpa using hsz) (fun k hk => ?_) (fun k hk => ?_) ?_
        · rw [hget, List.mem_cons, hD k hk]
        · rcases List.mem_cons.1 hk with rfl | hk
          · exact hi
          · exact hlt2 k hk
        · have hle : (List.range ops.size).filter (fun k => !(listed.setIfInBounds i true).getD k true) = ((List.range ops.size).filter fun k => !listed.getD k true).filter (fun k => decide (k ≠ i)) := by
            rw [List.filter_filter]
            congr 1
            funext k
            have := hget k
            rw [Bool.eq_iff_iff]
            simp only [Bool.not_eq_true', Bool.and_eq_true, decide_eq_true_eq]
            rw [← Bool.not_eq_true, ← Bool.not_eq_true, this]
            constructor
            · intro h; exact ⟨fun e => h (.inl e), fun e => h (.inr e)⟩
            · rintro ⟨h1, h2⟩ (h | h)
              · exact h1 h
              · exact h2 h
          rw [hle]
          have hmem : i ∈ (List.range ops.size).filter fun k => !listed.getD k true := List.mem_filter.2 ⟨List.mem_range.2 hi, by simp only [hu]; rfl⟩
          have := (List.length_filter_lt_length_iff_exists (p := fun k => decide (k ≠ i))).2 ⟨i, hmem, by simp⟩
          omega
theorem sched_of {P : Program} (hm : P.follows .mixedOrders = true) {ops : Array Oper} (hlt : ∀ (i : Nat) (o : Oper), ops[i]? = some o → ∀ e ∈ o.after, Region.binds .any e = true → e.on < i) (t : Nat) :
    Sched ops [] (Region.schedule (P.follows .mixedOrders) ops t) := by
  rw [hm]
  simp only [Region.schedule, Bool.true_or, if_true, Region.linearise]
  refine lin_sched hlt _ _ _ _ (by simp) (fun i hi => ?_) (fun i hi => by cases hi) ?_
  · simp [hi]
  · exact Nat.le_trans (List.length_filter_le _ _) (by simp)

/-! ### equal values -/
theorem capEq_sound {a b : Cap} (h : capEq a b = true) : a = b := by
  cases a <;> cases b
  · have h' : Nat.beq _ _ = true := h; rw [Nat.eq_of_beq_eq_true h']
  · cases h
  · cases h
  · have h' : Nat.beq _ _ = true := h; rw [Nat.eq_of_beq_eq_true h']
theorem avEq0_sound {v u : AV} (h : avEq0 v u = true) : v = u := by
  have hn : ∀ {m u}, eqN m u = true → asN u = .nil m := fun {m u} h => by
    unfold eqN at h
    cases hq : asN u with
    | nil a => rw [hq] at h; have h' : Nat.beq m a = true := h; rw [Nat.eq_of_beq_eq_true h']
    | some a => rw [hq] at h; cases h
    | no => rw [hq] at h; cases h
  cases v with
  | x y => exact xEq_sound h
  | em id off l sz =>
    have h' : emEq id off l sz u = true := h
    unfold emEq at h'
    split at h'
    · rename_i id' off' l' sz' hq
      have hu : u = .em id' off' l' sz' := by
        cases u <;> simp only [asEm, reduceCtorEq, Option.some.injEq, Prod.mk.injEq] at hq
        obtain ⟨rfl, rfl, rfl, rfl⟩ := hq
        rfl
      simp only [ifB_eq] at h'
      split at h'
      · split at h'
        · split at h'
          · rename_i h1 h2 h3
            rw [hu, (paEq_iff _ _).1 h1, Nat.eq_of_beq_eq_true h2, Nat.eq_of_beq_eq_true h3, Nat.eq_of_beq_eq_true h']
          · cases h'
        · cases h'
      · cases h'
    · cases h'
  | b x =>
    have h' : eqB x u = true := h
    unfold eqB at h'
    cases hq : asB u with
    | no => rw [hq] at h'; cases h'
    | b y =>
      rw [hq] at h'
      have h2 : eqbB x y = true := h'
      rw [eqbB_eq] at h2
      rw [asB_b hq, show x = y by simpa using h2]
  | i k m =>
    have h' : eqI k m u = true := h
    unfold eqI at h'
    cases hq : asI u with
    | no => rw [hq] at h'; cases h'
    | i k2 m2 =>
      rw [hq] at h'
      simp only [ifB_eq] at h'
      split at h'
      · rename_i hk
        rw [asI_i hq, (ikEq_iff _ _).1 hk]
        rw [ieq_eq] at h'
        rw [show m = m2 by simpa using h']
      · cases h'
  | pn =>
    have := hn (show eqN 0 u = true from h)
    cases u <;> simp [asN] at this ⊢
  | sn =>
    have := hn (show eqN 1 u = true from h)
    cases u <;> simp [asN] at this ⊢
  | fz =>
    have := hn (show eqN 2 u = true from h)
    cases u <;> simp [asN] at this ⊢
  | iz =>
    have := hn (show eqN 3 u = true from h)
    cases u <;> simp [asN] at this ⊢
  | p id o =>
    have h' : eqP id o u = true := h
    unfold eqP at h'
    cases hq : asP u with
    | no => rw [hq] at h'; cases h'
    | p id2 o2 =>
      rw [hq] at h'
      simp only [ifB_eq] at h'
      split at h'
      · rename_i hk
        rw [asP_p hq, (paEq_iff _ _).1 hk, Nat.eq_of_beq_eq_true h']
      · cases h'
  | sl id o m c =>
    have h' : eqS id o m c u = true := h
    unfold eqS at h'
    cases hq : asS u with
    | no => rw [hq] at h'; cases h'
    | sn => rw [hq] at h'; cases h'
    | sl id2 o2 m2 c2 =>
      rw [hq] at h'
      simp only [ifB_eq] at h'
      split at h'
      · rename_i h1
        split at h'
        · rename_i h2
          split at h'
          · rename_i h3
            rw [asS_sl hq, (paEq_iff _ _).1 h1, Nat.eq_of_beq_eq_true h2, Nat.eq_of_beq_eq_true h3, capEq_sound h']
          · cases h'
        · cases h'
      · cases h'
  | _ => cases h
theorem avEqL_sound : ∀ {a b : List AV}, avEqL a b = true → a = b
  | [], [], _ => rfl
  | [], _ :: _, h => by cases h
  | _ :: _, [], h => by cases h
  | x :: a, y :: b, h => by
    have h' : ifB (avEq0 x y) (avEqL a b) false = true := h
    rw [ifB_eq] at h'
    split at h'
    · rename_i h1
      rw [avEq0_sound h1, avEqL_sound h']
    · cases h'
theorem avEq_sound {v u : AV} (h : avEq v u = true) : v = u := by
  unfold avEq at h
  cases hv : asAg v with
  | no => rw [hv] at h; exact avEq0_sound h
  | l a =>
    rw [hv] at h
    cases hu : asAg u with
    | no => rw [hu] at h; cases h
    | l b =>
      rw [hu] at h
      rw [asAg_l hv, asAg_l hu, avEqL_sound h]
theorem nthH_eq : ∀ (i : U) (l : List HT), nthH i l = l.getD i.nat .e
  | .z, [] => rfl
  | .z, _ :: _ => rfl
  | .s n, [] => rfl
  | .s n, _ :: l => by show nthH n l = _; rw [nthH_eq n l]; simp [U.nat]
theorem sameIn_sound {o : Op} {v : AV} {l : List AV} {f : Fr} {n : Pa} {hs : List HT} : ∀ {as : List U}, sameIn o v l f n hs as = true → ∀ i ∈ as, ∃ h' n', sop o l f (hs.getD i.nat .e) n = .ok v h' n'
  | [], _, i, hi => by cases hi
  | a :: as, h, i, hi => by
    have h' : ifB (orEq v (sop o l f (nthH a hs) n)) (sameIn o v l f n hs as) false = true := h
    rw [ifB_eq] at h'
    split at h'
    · rename_i h1
      rcases List.mem_cons.1 hi with rfl | hi
      · rw [nthH_eq] at h1
        cases hq : sop o l f (hs.getD i.nat .e) n with
        | no m => rw [hq] at h1; cases h1
        | ok u h2 n2 => rw [hq] at h1; exact ⟨h2, n2, by rw [avEq_sound (show avEq v u = true from h1)]⟩
      · exact sameIn_sound h' i hi
    · cases h'

/-! ### calls, whatever comes behind them -/
section
variable {ft : T Func} {ih : Ih} {h : HT} {n : Pa}
theorem finK_split {k : KV} {o : Option (List AV)} {res : Res} (he : finK k h n o = res) (hok : res.ok) : ∃ v, k v h n = res ∧ ∀ k2 : KV, finK k2 h n o = k2 v h n := by
  obtain ⟨vs, rfl, e⟩ := finK_ok he hok
  exact ⟨one vs, e, fun _ => rfl⟩
theorem endK_split {F : Func} {fr : Fr} {k : KV} {r : DR} {res : Res} (he : endK F fr k kpNo r = res) (hok : res.ok) : ∃ v h' n', k v h' n' = res ∧ ∀ k2 kp2 : KV, endK F fr k2 kp2 r = k2 v h' n' := by
  cases r with
  | no m => have he2 : Res.no m = res := he; subst he2; exact hok.elim
  | ok p h' n' =>
    cases p with
    | none =>
      obtain ⟨v, e1, e2⟩ := finK_split (he : finK k h' n' _ = res) hok
      exact ⟨v, h', n', e1, fun k2 _ => e2 k2⟩
    | some v => have he2 : Res.no 59 = res := he; subst he2; exact hok.elim
theorem callF_split {as : List AV} {k : KV} {F? : Option Func} {res : Res} (he : callF ft ih as k kpNo F? h n = res) (hok : res.ok) : ∃ v h' n', k v h' n' = res ∧ ∀ k2 kp2 : KV, callF ft ih as k2 kp2 F? h n = k2 v h' n' := by
  cases F? with
  | none => have he2 : Res.no 54 = res := he; subst he2; exact hok.elim
  | some F =>
    have hdef0 : ∀ k2 kp2 : KV, callF ft ih as k2 kp2 (some F) h n = @Bool.rec (fun _ => Res) (@Option.rec AV (fun _ => Res) (cfP F ft ih as k2 kp2 h n) (fun v => k2 v h n) (F.sp as)) (insK as k2 h n) F.ins := fun _ _ => rfl
    cases hins : F.ins with
    | true =>
      have hdi : ∀ k2 kp2 : KV, callF ft ih as k2 kp2 (some F) h n = insK as k2 h n := fun k2 kp2 => by rw [hdef0, hins]
      rw [hdi] at he
      unfold insK at he
      cases hr : insR as h n with
      | no m => rw [hr] at he; have he2 : Res.no m = res := he; subst he2; exact hok.elim
      | ok v h1 n1 =>
        rw [hr] at he
        exact ⟨v, h1, n1, he, fun k2 kp2 => by rw [hdi]; unfold insK; rw [hr]⟩
    | false =>
    cases hsp : F.sp as with
    | some v =>
      have hdi : ∀ k2 kp2 : KV, callF ft ih as k2 kp2 (some F) h n = k2 v h n := fun k2 kp2 => by rw [hdef0, hins, hsp]
      rw [hdi] at he
      exact ⟨v, h, n, he, fun k2 kp2 => hdi k2 kp2⟩
    | none =>
    have hdef : ∀ k2 kp2 : KV, callF ft ih as k2 kp2 (some F) h n = enterK (.no 53) F as fun fr => @Bool.rec (fun _ => Res → Res) (plainRes F k2 kp2) (dfrRes ft F k2 kp2) F.dfr (ih F.body fr [] h n) := fun _ _ => by rw [hdef0, hins, hsp]; rfl
    obtain ⟨hl, e1⟩ := enterK_ok ((hdef k kpNo).symm.trans he) hok
    have hdef2 : ∀ k2 kp2 : KV, callF ft ih as k2 kp2 (some F) h n = @Bool.rec (fun _ => Res → Res) (plainRes F k2 kp2) (dfrRes ft F k2 kp2) F.dfr (ih F.body (as ++ F.pad) [] h n) := fun k2 kp2 => by
      rw [hdef]; unfold enterK; rw [isLen_eq, appK_eq]; simp [hl]
    cases hd : F.dfr with
    | false =>
      rw [hd] at e1
      cases hr : ih F.body (as ++ F.pad) [] h n with
      | no m => rw [hr] at e1; have he2 : Res.no m = res := e1; subst he2; exact hok.elim
      | ex => rw [hr] at e1; have he2 : Res.no 51 = res := e1; subst he2; exact hok.elim
      | nm f ds h1 n1 =>
        rw [hr] at e1
        obtain ⟨rfl, e2⟩ := noDs_ok (e1 : noDs (.no 51) _ ds = res) hok
        obtain ⟨v, e3, e4⟩ := finK_split e2 hok
        exact ⟨v, h1, n1, e3, fun k2 kp2 => by rw [hdef2, hd, hr]; exact e4 k2⟩
      | rt f ds h1 n1 =>
        rw [hr] at e1
        obtain ⟨rfl, e2⟩ := noDs_ok (e1 : noDs (.no 51) _ ds = res) hok
        obtain ⟨v, e3, e4⟩ := finK_split e2 hok
        exact ⟨v, h1, n1, e3, fun k2 kp2 => by rw [hdef2, hd, hr]; exact e4 k2⟩
      | pc v f ds h1 n1 =>
        rw [hr] at e1
        obtain ⟨rfl, e2⟩ := noDs_ok (e1 : noDs (.no 51) _ ds = res) hok
        have he2 : Res.no 59 = res := e2; subst he2; exact hok.elim
    | true =>
      rw [hd] at e1
      cases hr : ih F.body (as ++ F.pad) [] h n with
      | no m => rw [hr] at e1; have he2 : Res.no m = res := e1; subst he2; exact hok.elim
      | ex => rw [hr] at e1; have he2 : Res.no 52 = res := e1; subst he2; exact hok.elim
      | nm f ds h1 n1 =>
        rw [hr] at e1
        obtain ⟨v, h', n', e3, e4⟩ := endK_split (e1 : endK F f k kpNo _ = res) hok
        exact ⟨v, h', n', e3, fun k2 kp2 => by rw [hdef2, hd, hr]; exact e4 k2 kp2⟩
      | rt f ds h1 n1 =>
        rw [hr] at e1
        obtain ⟨v, h', n', e3, e4⟩ := endK_split (e1 : endK F f k kpNo _ = res) hok
        exact ⟨v, h', n', e3, fun k2 kp2 => by rw [hdef2, hd, hr]; exact e4 k2 kp2⟩
      | pc v f ds h1 n1 =>
        rw [hr] at e1
        obtain ⟨v, h', n', e3, e4⟩ := endK_split (e1 : endK F f k kpNo _ = res) hok
        exact ⟨v, h', n', e3, fun k2 kp2 => by rw [hdef2, hd, hr]; exact e4 k2 kp2⟩
theorem parK_split {k : Fr → Res} {res : Res} (hok : res.ok) : ∀ {ps : List U} {as : List AV} {fr : Fr}, parK k ps as fr = res → ∃ fr', k fr' = res ∧ ∀ k2 : Fr → Res, parK k2 ps as fr = k2 fr'
  | [], [], fr, he => ⟨fr, he, fun _ => rfl⟩
  | [], _ :: _, fr, he => by have he2 : Res.no 72 = res := he; subst he2; exact hok.elim
  | _ :: _, [], fr, he => by have he2 : Res.no 72 = res := he; subst he2; exact hok.elim
  | i :: ps, v :: as, fr, he => by
    have he2 : setU v i fr (parK k ps as) = res := he
    rw [setU_eq] at he2
    obtain ⟨fr', e1, e2⟩ := parK_split hok he2
    refine ⟨fr', e1, fun k2 => ?_⟩
    show setU v i fr (parK k2 ps as) = _
    rw [setU_eq, e2]
theorem yldV_split {id : Pa} {as : List AV} {k : KV} {res : Res} (he : yldV ih id as k h n = res) (hok : res.ok) : ∃ v h' n', k v h' n' = res ∧ ∀ k2 : KV, yldV ih id as k2 h n = k2 v h' n' := by
  obtain ⟨ps, a, b, fr, hb, e1⟩ := blkL_ok he hok
  obtain ⟨fr', e2, e3⟩ := parK_split hok e1
  rw [T.setK_eq] at e2
  obtain ⟨f2, h2, n2, ea, e4⟩ := rndB_ok e2 hok
  obtain ⟨f3, h3, n3, eb, e5⟩ := rndE_ok e4 hok
  refine ⟨.b true, _, n3, e5, fun k2 => ?_⟩
  unfold yldV
  rw [hb]
  show parK _ ps as fr = _
  rw [(parK_split (k := fun fr' => T.setK .e id h fun h => rndB ih b (rndE (.lp ps a b fr) id k) (ih a fr' [] h n)) hok e1).choose_spec.2]
  have hfr : (parK_split (k := fun fr' => T.setK .e id h fun h => rndB ih b (rndE (.lp ps a b fr) id k) (ih a fr' [] h n)) hok e1).choose = fr' := by
    have h1 := (parK_split (k := fun fr' => T.setK .e id h fun h => rndB ih b (rndE (.lp ps a b fr) id k) (ih a fr' [] h n)) hok e1).choose_spec.2 (fun fr => .nm fr [] h n)
    rw [e3] at h1
    cases h1
    rfl
  rw [hfr, T.setK_eq, ea]
  show rndE (.lp ps a b fr) id k2 (ih b f2 [] h2 n2) = _
  rw [eb]
  show T.setK (.v (.lp ps a b fr)) id h3 (fun h => k2 (.b true) h n3) = _
  rw [T.setK_eq]
theorem callV_split {as : List AV} {k : KV} {v : VF} {res : Res} (he : callV ft ih as k kpNo h n v = res) (hok : res.ok) : ∃ u h' n', k u h' n' = res ∧ ∀ k2 kp2 : KV, callV ft ih as k2 kp2 h n v = k2 u h' n' := by
  cases v with
  | no => have he2 : Res.no 55 = res := he; subst he2; exact hok.elim
  | yl id =>
    obtain ⟨u, h', n', e1, e2⟩ := yldV_split (he : yldV ih id as k h n = res) hok
    exact ⟨u, h', n', e1, fun k2 _ => e2 k2⟩
  | fn g a c =>
    have hdef : ∀ k2 kp2 : KV, callV ft ih as k2 kp2 h n (.fn g a c) = callF ft ih (a ++ (as ++ c)) k2 kp2 (ft.get g) h n := fun k2 kp2 => by
      show appK as c (fun l => appK a l fun l => callF ft ih l k2 kp2 (ft.get g) h n) = _
      rw [appK_eq, appK_eq]
    rw [hdef] at he
    obtain ⟨u, h', n', e1, e2⟩ := callF_split he hok
    exact ⟨u, h', n', e1, fun k2 kp2 => by rw [hdef]; exact e2 k2 kp2⟩
end
end Go.X
