/- An executable reading of the model, its soundness over any program, and what it reads of this program. -/
import Derived.Test.YtfpdaeihlnlhcaaGreatUXSf
set_option linter.unusedSectionVars false
set_option linter.unusedVariables false
set_option linter.unusedSimpArgs false
set_option linter.constructorNameAsVariable false
namespace Go.X
variable [Sym]
variable {P : Program} {ft : T Func} {ih : Ih} {f : Fr} {nt : Nat} {nm : List Nat} {ops : Array Oper} {W : List (Nat × Nat)} {B ord : List Nat} {ds : List DOp} {S : Nat → Rec}
variable {cX : Nat → List Nat → Array Oper → Option DR3} {E E' E0 E1 E2 : Env} {w w' w0 w1 w2 : World} {h h' h0 h1 h2 : HT} {n n' n0 n1 n2 m m1 m2 : Pa} {K : Loop → List Nat → List U → Code → Code → Prop}

/-- a step within a step -/
theorem Step.transW (a : Step E0 w0 h0 n0 E1 w1 h1 m) (b : Step E1 w1 h1 m1 E2 w2 h2 m2) (hl1 : m1.length = n0.length) (hle1 : val n0 ≤ val m1) (hle2 : val m2 ≤ val m) : Step E0 w0 h0 n0 E2 w2 h2 m where
  len := a.len
  le := a.le
  env := fun q hq hn => by
    have e1 := a.env q hq hn
    have e2 := b.env q (hq.trans hl1.symm) (by omega)
    exact ⟨e2.1.trans e1.1, e2.2.trans e1.2⟩
  os := b.os.trans a.os
  tape := b.tape.trans a.tape
  output := b.output.trans a.output
  size := Nat.le_trans a.size b.size
  keep := fun k hk hno => by
    rw [b.keep k (Nat.lt_of_lt_of_le hk a.size) fun q hq e => ?_, a.keep k hk hno]
    rcases a.own q ⟨hq.1.trans (hl1.trans a.len.symm), hq.2⟩ with h1 | ⟨r, hr, e1⟩
    · omega
    · exact hno r hr (e1.trans e)
  own := fun q hq => by
    rcases b.own q ⟨hq.1.trans (a.len.trans (hl1.symm.trans b.len.symm)), hq.2⟩ with h1 | ⟨r, hr, e1⟩
    · exact .inl (Nat.le_trans a.size h1)
    · rcases a.own r ⟨hr.1.trans (hl1.trans a.len.symm), hr.2⟩ with h2 | ⟨t, ht, e2⟩
      · exact .inl (e1 ▸ h2)
      · exact .inr ⟨t, ht, e2.trans e1⟩

variable (H : Plan P ft ih f nt nm ops W B ord ds S) {dfs : Act} {D : List Nat} {a : Act} {p : Nat}
variable (I : Inv P cX f nt nm ops W B ord S E0 w0 dfs D E a w p)
theorem eff_unique {c i : Nat} (_ : ord[c]? = some i) : True := trivial
section
include H
theorem Plan.put_other {i j t u : Nat} {o o' : Oper} (ho : ops[i]? = some o) (ht : o.dst = some t) (ho' : ops[j]? = some o') (hu : o'.dst = some u) (hne : i ≠ j) : t ≠ u := fun e => by
  subst e
  have h1 := H.writer ho ht
  rw [H.writer ho' hu] at h1
  exact hne (Option.some.inj h1).symm
/-- the slots behind one operation -/
theorem slots_put (hold : ∀ t i, fnd t nm = some i → (∀ y, assocN t W = some y → y ∉ D) → a.tmps.getD t undef = den E' (nth i f))
    (hnew : ∀ c i o t v, ord[c]? = some i → i ∈ D → ops[i]? = some o → o.dst = some t → (S (c + 1)).l = v :: (S c).l → a.tmps.getD t undef = den E' v)
    (hnt : nt ≤ a.tmps.size ∧ a.tmps.size = dfs.tmps.size) {c i : Nat} {o : Oper} {v : AV} (hc : ord[c]? = some i) (ho : ops[i]? = some o) (hi : i ∉ D) (hv : (S (c + 1)).l = v :: (S c).l) :
    (∀ t s, fnd t nm = some s → (∀ y, assocN t W = some y → y ∉ i :: D) → (a.put o.dst (den E' v)).tmps.getD t undef = den E' (nth s f)) ∧
    (∀ c j o' t v', ord[c]? = some j → j ∈ i :: D → ops[j]? = some o' → o'.dst = some t → (S (c + 1)).l = v' :: (S c).l → (a.put o.dst (den E' v)).tmps.getD t undef = den E' v') ∧ (nt ≤ (a.put o.dst (den E' v)).tmps.size ∧ (a.put o.dst (den E' v)).tmps.size = dfs.tmps.size) := by
  refine ⟨fun t s hs hno => ?_, fun c' j o' t v' hc' hj ho' ht hv' => ?_, ?_⟩
  · have h1 := hold t s hs fun y hy hyD => hno y hy (List.mem_cons_of_mem _ hyD)
    cases hd : o.dst with
    | none => exact h1
    | some u =>
      have hne : u ≠ t := fun e => by
        subst e
        exact hno i (H.writer ho hd) (by simp)
      simp only [Act.put]
      rw [getD_set_ne' hne]; exact h1
  · rcases List.mem_cons.1 hj with rfl | hjD
    · rw [ho] at ho'
      cases ho'
      have := H.inj hc hc'
      subst this
      rw [hv] at hv'
      cases hv'
      rw [ht]
      simp only [Act.put]
      exact getD_set_eq (Nat.lt_of_lt_of_le (H.dstLt ho ht) hnt.1) _
    · have h1 := hnew c' j o' t v' hc' hjD ho' ht hv'
      have hne : i ≠ j := fun e => hi (e ▸ hjD)
      cases hd : o.dst with
      | none => exact h1
      | some u =>
        simp only [Act.put]
        rw [getD_set_ne' (H.put_other ho hd ho' ht hne)]; exact h1
  · cases o.dst with
    | none => exact hnt
    | some u => simpa [Act.put] using hnt
include I
theorem Inv.ge {c i : Nat} (hc : ord[c]? = some i) (hi : i ∉ D) : p ≤ c := Nat.le_of_not_lt fun h => hi (I.pre c i h hc)
/-- a block laid ahead of its time is none of the heap's -/
theorem Inv.pd_off {c i : Nat} {cs : Blk} (hpc : p ≤ c) (hc : ord[c]? = some i) (hi : i ∈ D) (hn : NewAt S c cs) : ∀ q, In (S p).h m q → m.length = (S p).n.length → E.blk q ≠ E.blk (S c).n :=
  fun q hq hl => (I.pd c i cs hpc hc hi hn).2.2.2.2 q (hq.len hl.symm)

/-- behind a value that lays no block -/
theorem Inv.still {c i : Nat} {o : Oper} {v : AV} (hc : ord[c]? = some i) (ho : ops[i]? = some o) (hi : i ∉ D) (hb : ∀ j, bit B i j = true → j ∈ D) (hv : (S (c + 1)).l = v :: (S c).l) (he : effAt ops.toList i = false) (hs : Still S c)
    (hm : m.length = (S p).n.length) (hm0 : val (S 0).n ≤ val m) (hmL : val m ≤ val (S ord.length).n) (wr : WRel (KLp P cX) E w' (S p).h (S p).n) (st : Step E w (S p).h m E w' (S p).h m) (sv : Sc (Up (S (c + 1)).n) v ∧ Sc (SD ord S D p) v) :
    Inv P cX f nt nm ops W B ord S E0 w0 dfs (i :: D) E (a.put o.dst (den E v)) w' p := by
  have hpc := I.ge H hc hi
  obtain ⟨s1, s2, s3⟩ := slots_put H I.old I.new I.ntl hc ho hi hv
  have l0 := H.len0 I.pL
  have hpd : ∀ c' j cs, p ≤ c' → ord[c']? = some j → j ∈ i :: D → NewAt S c' cs → j ∈ D := fun c' j cs h1 h2 h3 h4 => by
    rcases List.mem_cons.1 h3 with rfl | h3
    · have := H.inj hc h2
      subst this
      exact (h4.not_still hs).elim
    · exact h3
  refine ⟨I.pL, fun c' j h1 h2 => List.mem_cons_of_mem _ (I.pre c' j h1 h2), fun c' j h1 h2 h3 h4 => ?_, I.front, fun j hj k hk => ?_, s3, ?_, wr, ?_, s1, s2, fun c' j u h1 h2 h3 => ?_, fun c' j cs h1 h2 h3 h4 => ?_, fun c1 c2 i1 i2 cs1 cs2 a1 a2 a3 a4 a5 a6 a7 a8 e => ?_, I.ab⟩
  · rcases List.mem_cons.1 h4 with rfl | h4
    · rw [he] at h3; cases h3
    · exact I.post c' j h1 h2 h3 h4
  · rcases List.mem_cons.1 hj with rfl | hj
    · exact List.mem_cons_of_mem _ (hb k hk)
    · exact List.mem_cons_of_mem _ (I.clos j hj k hk)
  · rw [← I.df]; cases o.dst <;> rfl
  · exact I.st.transW st (hm.trans l0) hm0 hmL
  · rcases List.mem_cons.1 h2 with rfl | h2
    · have := H.inj hc h1
      subst this
      rw [hv] at h3
      cases h3
      exact ⟨sv.1, Sc.mono (fun q hq => SD.mono (fun k hk => List.mem_cons_of_mem _ hk) hq) _ sv.2⟩
    · obtain ⟨k1, k2⟩ := I.sc c' j u h1 h2 h3
      exact ⟨k1, Sc.mono (fun q hq => SD.mono (fun k hk => List.mem_cons_of_mem _ hk) hq) _ k2⟩
  · have hjD := hpd c' j cs h1 h2 h3 h4
    obtain ⟨k1, k2, k3, k4, k5⟩ := I.pd c' j cs h1 h2 hjD h4
    exact ⟨k1.frame (st.keep _ k1.there fun q hq => I.pd_off H h1 h2 hjD h4 q hq hm), k2, BSc.mono (fun q hq => SD.mono (fun k hk => List.mem_cons_of_mem _ hk) hq) k3, k4, k5⟩
  · exact I.pj c1 c2 i1 i2 cs1 cs2 a1 a2 (hpd c1 i1 cs1 a1 a2 a3 a4) a4 a5 a6 (hpd c2 i2 cs2 a5 a6 a7 a8) a8 e
end
end Go.X

namespace Go.X
variable [Sym]
variable {P : Program} {ft : T Func} {ih : Ih} {f : Fr} {nt : Nat} {nm : List Nat} {ops : Array Oper} {W : List (Nat × Nat)} {B ord : List Nat} {ds : List DOp} {S : Nat → Rec}
variable {cX : Nat → List Nat → Array Oper → Option DR3} {E E' E0 E1 E2 : Env} {w w' w0 w1 w2 : World} {h h' h0 h1 h2 : HT} {n n' n0 n1 n2 m m1 m2 : Pa} {K : Loop → List Nat → List U → Code → Code → Prop}
variable (H : Plan P ft ih f nt nm ops W B ord ds S) {dfs : Act} {D : List Nat} {a : Act} {p : Nat} (hf : ScL (Up (S 0).n) f)
variable (I : Inv P cX f nt nm ops W B ord S E0 w0 dfs D E a w p)
section
include H I
/-- what has been named is no block that is laid now -/
theorem Inv.sd_ne {c i : Nat} {cs : Blk} (hc : ord[c]? = some i) (hi : i ∉ D) (hn : NewAt S c cs) {q : Pa} (hq : SD ord S D p q) : q ≠ (S c).n := fun e => by
  have hpc := I.ge H hc hi
  have hcl := ord_lt hc
  rcases hq.2 with h | ⟨c', i', cs', h1, h2, h3, h4, h5⟩
  · have := (H.mono hpc (by omega)).2
    rw [e] at h; omega
  · refine H.new_ne (ord_lt h2) hcl h4 hn (fun e' => ?_) (h5.symm.trans e)
    subst e'
    rw [hc] at h2
    cases h2
    exact hi h3
include hf
theorem Inv.f_sd (s : U) : Sc (SD ord S D p) (nth s f) := (I.frame_sc H hf I.pL s).2

/-- behind a value that lays a block -/
theorem Inv.fresh {c i : Nat} {o : Oper} {v : AV} {cs : Blk} (hc : ord[c]? = some i) (ho : ops[i]? = some o) (hi : i ∉ D) (hb : ∀ j, bit B i j = true → j ∈ D) (hv : (S (c + 1)).l = v :: (S c).l) (he : effAt ops.toList i = false) (hn : NewAt S c cs)
    (wr : WRel (KLp P cX) E' w' (T.set (.v cs) (S c).n (S p).h) (S (c + 1)).n) (st : Step E w (S p).h (S c).n E' w' (T.set (.v cs) (S c).n (S p).h) (S (c + 1)).n)
    (sv : ∀ S' : Pa → Prop, S' (S c).n → Sc S' v) (scs : BSc (Up (S c).n) cs ∧ BSc (SD ord S D p) cs) :
    Inv P cX f nt nm ops W B ord S E0 w0 dfs (i :: D) E' (a.put o.dst (den E' v)) w' p := by
  have hpc := I.ge H hc hi
  have hcl := ord_lt hc
  have l0 := H.len0 I.pL
  have lc := H.len0 (Nat.le_of_lt hcl)
  have mpc := H.mono hpc (Nat.le_of_lt hcl)
  have mcL := H.mono (p := c + 1) (c := ord.length) (by omega) (Nat.le_refl _)
  have m0c := H.mono (Nat.zero_le c) (Nat.le_of_lt hcl)
  obtain ⟨hiv, hil⟩ := inc_spec _ _ hn.1
  -- where the names are as they were
  have ea : ∀ q, q.length = (S 0).n.length → q ≠ (S c).n → E'.blk q = E.blk q ∧ E'.sz q = E.sz q := fun q hl hne => st.env q (hl.trans lc.symm) fun h => hne (val_inj _ _ (hl.trans lc.symm) (by omega))
  have esd : ∀ q, SD ord S D p q → E'.blk q = E.blk q ∧ E'.sz q = E.sz q := fun q hq => ea q hq.1 (I.sd_ne H hc hi hn hq)
  have ein : ∀ q, In (S p).h (S p).n q → q ≠ (S c).n := fun q hq e => by
    have := I.wr.dom q hq
    have := mpc.2
    subst e; omega
  have ebin : ∀ q, In (S p).h (S p).n q → E'.blk q = E.blk q := fun q hq => (ea q (hq.1.trans l0) (ein q hq)).1
  have hinc : In (T.set (.v cs) (S c).n (S p).h) (S (c + 1)).n (S c).n := ⟨hil.symm, by rw [T.get_set_same]; simp⟩
  have hinq : ∀ q, In (S p).h (S p).n q → In (T.set (.v cs) (S c).n (S p).h) (S (c + 1)).n q := fun q hq => ⟨hq.1.trans (mpc.1.symm.trans hil.symm), by
    rw [T.get_set_ne _ _ _ _ (mpc.1.trans hq.1.symm) (fun e => ein q hq e.symm)]; exact hq.2⟩
  -- the new block is new
  have hge : w.heap.size ≤ E'.blk (S c).n := by
    rcases st.own _ hinc with h | ⟨q, hq, e⟩
    · exact h
    · have hq' : In (S p).h (S p).n q := hq.len mpc.1.symm
      exact absurd (wr.inj q _ (hinq q hq') hinc ((ebin q hq').trans e)) (ein q hq')
  have wr' : WRel (KLp P cX) E' w' (S p).h (S p).n := I.wr.sub wr (hil.trans mpc.1) fun q hq => T.get_set_ne _ _ _ _ (mpc.1.trans hq.1.symm) (fun e => ein q hq e.symm)
  have st' : Step E w (S p).h (S c).n E' w' (S p).h (S (c + 1)).n := ⟨st.len, st.le, st.env, st.os, st.tape, st.output, st.size, st.keep, fun q hq => by
    have hq' : In (S p).h (S p).n q := ⟨hq.1.trans (hil.trans mpc.1), hq.2⟩
    exact .inr ⟨q, ⟨hq'.1.trans mpc.1.symm, hq'.2⟩, (ebin q hq').symm⟩⟩
  have dv : ∀ u, Sc (SD ord S D p) u → den E' u = den E u := fun u hu => den_congr esd u hu
  obtain ⟨s1, s2, s3⟩ := slots_put H (E' := E') (v := v) (fun t s hs hno => by rw [I.old t s hs hno, dv _ (I.f_sd H hf s)])
    (fun c' j o' t u h1 h2 h3 h4 h5 => by rw [I.new c' j o' t u h1 h2 h3 h4 h5, dv _ (I.sc c' j u h1 h2 h5).2]) I.ntl hc ho hi hv
  have hD : ∀ k ∈ D, k ∈ i :: D := fun k hk => List.mem_cons_of_mem _ hk
  have hsd : ∀ q, SD ord S D p q → SD ord S (i :: D) p q := fun q hq => SD.mono hD hq
  have key : ∀ c' j cs', p ≤ c' → ord[c']? = some j → j ∈ D → NewAt S c' cs' → E'.blk (S c').n = E.blk (S c').n ∧ E.blk (S c').n < w.heap.size := fun c' j cs' k1 k2 k3 k4 =>
    ⟨(esd _ ⟨H.len0 (Nat.le_of_lt (ord_lt k2)), .inr ⟨c', j, cs', k1, k2, k3, k4, rfl⟩⟩).1, (I.pd c' j cs' k1 k2 k3 k4).1.there⟩
  refine ⟨I.pL, fun c' j k1 k2 => hD _ (I.pre c' j k1 k2), fun c' j k1 k2 k3 k4 => ?_, I.front, fun j hj k hk => ?_, s3, ?_, wr', ?_, s1, s2, fun c' j u k1 k2 k3 => ?_, fun c' j cs' k1 k2 k3 k4 => ?_, fun c1 c2 i1 i2 cs1 cs2 a1 a2 a3 a4 a5 a6 a7 a8 e => ?_, I.ab⟩
  · rcases List.mem_cons.1 k4 with rfl | k4
    · rw [he] at k3; cases k3
    · exact I.post c' j k1 k2 k3 k4
  · rcases List.mem_cons.1 hj with rfl | hj
    · exact hD _ (hb k hk)
    · exact hD _ (I.clos j hj k hk)
  · rw [← I.df]; cases o.dst <;> rfl
  · exact I.st.transW st' lc m0c.2 mcL.2
  · rcases List.mem_cons.1 k2 with rfl | k2
    · have := H.inj hc k1
      subst this
      rw [hv] at k3
      cases k3
      exact ⟨sv _ ⟨hil.symm, by omega⟩, sv _ ⟨lc, .inr ⟨c, j, cs, hpc, hc, by simp, hn, rfl⟩⟩⟩
    · obtain ⟨q1, q2⟩ := I.sc c' j u k1 k2 k3
      exact ⟨q1, Sc.mono hsd _ q2⟩
  · rcases List.mem_cons.1 k3 with rfl | k3
    · have := H.inj hc k2
      subst this
      have := hn.uniq k4
      subst this
      refine ⟨(wr.blk _ _ hinc.1 (T.get_set_same _ _ _)).1, scs.1, BSc.mono hsd scs.2, Nat.le_trans I.st.size hge, fun q hq e => ?_⟩
      have := I.wr.thereIn hq
      rw [ebin q hq] at e
      omega
    · obtain ⟨q1, q2, q3, q4, q5⟩ := I.pd c' j cs' k1 k2 k3 k4
      obtain ⟨e1, e2⟩ := key c' j cs' k1 k2 k3 k4
      have hsc : SD ord S D p (S c').n := ⟨H.len0 (Nat.le_of_lt (ord_lt k2)), .inr ⟨c', j, cs', k1, k2, k3, k4, rfl⟩⟩
      refine ⟨(q1.frame (st.keep _ e2 fun q hq => I.pd_off H k1 k2 k3 k4 q hq mpc.1)).env (S := SD ord S D p) q3 esd (esd _ hsc), q2, BSc.mono hsd q3, by rw [e1]; exact q4, fun q hq e => ?_⟩
      rw [ebin q hq, e1] at e
      exact q5 q hq e
  · rcases List.mem_cons.1 a3 with rfl | a3
    · have := H.inj hc a2
      subst this
      rcases List.mem_cons.1 a7 with rfl | a7
      · exact H.inj a2 a6
      · obtain ⟨e1, e2⟩ := key c2 i2 cs2 a5 a6 a7 a8
        rw [e1] at e; omega
    · obtain ⟨e1, e2⟩ := key c1 i1 cs1 a1 a2 a3 a4
      rcases List.mem_cons.1 a7 with rfl | a7
      · have := H.inj hc a6
        subst this
        rw [e1] at e; omega
      · obtain ⟨e3, _⟩ := key c2 i2 cs2 a5 a6 a7 a8
        rw [e1, e3] at e
        exact I.pj c1 c2 i1 i2 cs1 cs2 a1 a2 a3 a4 a5 a6 a7 a8 e
omit hf
/-- the blocks laid ahead of their time are taken into the heap -/
theorem Inv.merge {b : Nat} (hbL : b ≤ ord.length) (hall : ∀ c i, p ≤ c → c < b → ord[c]? = some i → i ∈ D ∧ effAt ops.toList i = false) : ∀ {c : Nat}, p ≤ c → c ≤ b →
    WRel (KLp P cX) E w (S c).h (S c).n ∧ Step E0 w0 (S 0).h (S 0).n E w (S c).h (S ord.length).n ∧
      ∀ q, In (S c).h (S c).n q → In (S p).h (S p).n q ∨ ∃ c' i cs, p ≤ c' ∧ c' < c ∧ ord[c']? = some i ∧ i ∈ D ∧ NewAt S c' cs ∧ q = (S c').n := by
  intro c
  induction c with
  | zero =>
    intro h1 h2
    have : p = 0 := by omega
    subst this
    exact ⟨I.wr, I.st, fun q hq => .inl hq⟩
  | succ c ih =>
    intro h1 h2
    by_cases hp : p = c + 1
    · subst hp
      exact ⟨I.wr, I.st, fun q hq => .inl hq⟩
    · obtain ⟨r1, r2, r3⟩ := ih (by omega) (by omega)
      obtain ⟨i, hc⟩ := H.get (c := c) (by omega)
      obtain ⟨hiD, hie⟩ := hall c i (by omega) (by omega) hc
      have hlift : ∀ q, In (S c).h (S c).n q → In (S p).h (S p).n q ∨ ∃ c' i cs, p ≤ c' ∧ c' < c + 1 ∧ ord[c']? = some i ∧ i ∈ D ∧ NewAt S c' cs ∧ q = (S c').n := fun q hq =>
        (r3 q hq).imp id fun ⟨c', i', cs', t1, t2, t3⟩ => ⟨c', i', cs', t1, by omega, t3⟩
      rcases H.kind hc hie with hs | ⟨cs, hn⟩
      · rw [hs.1, hs.2]
        exact ⟨r1, r2, hlift⟩
      · obtain ⟨k1, k2, k3, k4, k5⟩ := I.pd c i cs (by omega) hc hiD hn
        obtain ⟨hiv, hil⟩ := inc_spec _ _ hn.1
        have hup : Up (S (c + 1)).n (S c).n := ⟨hil.symm, by omega⟩
        have mpc := H.mono (p := p) (c := c) (by omega) (by omega)
        have hin : ∀ q, In (T.set (.v cs) (S c).n (S c).h) (S (c + 1)).n q → q = (S c).n ∨ In (S c).h (S c).n q := fun q hq => (In.set hil.symm hq).imp id fun h => h.len hil.symm
        rw [hn.2]
        refine ⟨(r1.mono hil (by omega)).put hup (fun q hq hne e => ?_) k1 ?_ (fun hh e => by have := I.ab hh; omega), ⟨r2.len, r2.le, r2.env, r2.os, r2.tape, r2.output, r2.size, r2.keep, fun q hq => ?_⟩, fun q hq => ?_⟩
        · have hq' : In (S c).h (S c).n q := hq.len hil.symm
          rcases r3 q hq' with h | ⟨c', i', cs', t1, t2, t3, t4, t5, rfl⟩
          · exact k5 q h e
          · have := I.pj c' c i' i cs' cs t1 t3 t4 t5 (by omega) hc hiD hn e
            omega
        · exact BSc.mono (fun q hq => ⟨hq.1.trans hil.symm, by have := hq.2; omega⟩) k2
        · have lL := H.len0 (Nat.le_refl ord.length)
          have l1 := H.len0 (c := c + 1) (by omega)
          rcases hin q ⟨hq.1.trans (lL.trans l1.symm), hq.2⟩ with rfl | h
          · exact .inl k4
          · exact r2.own q ⟨hq.1, h.2⟩
        · rcases hin q hq with rfl | h
          · exact .inr ⟨c, i, cs, by omega, by omega, hc, hiD, hn, rfl⟩
          · exact hlift q h
end
end Go.X

namespace Go.X
variable [Sym]
variable {P : Program} {ft : T Func} {ih : Ih} {f : Fr} {nt : Nat} {nm : List Nat} {ops : Array Oper} {W : List (Nat × Nat)} {B ord : List Nat} {ds : List DOp} {S : Nat → Rec}
variable {cX : Nat → List Nat → Array Oper → Option DR3} {E E' E0 E1 E2 : Env} {w w' w0 w1 w2 : World} {h h' h0 h1 h2 : HT} {n n' n0 n1 n2 m m1 m2 : Pa} {K : Loop → List Nat → List U → Code → Code → Prop}
variable (H : Plan P ft ih f nt nm ops W B ord ds S) {dfs : Act} {D : List Nat} {a : Act} {p : Nat} (hf : ScL (Up (S 0).n) f)
variable (I : Inv P cX f nt nm ops W B ord S E0 w0 dfs D E a w p)
section
include H I
/-- ahead of an effect all that stands ahead of it has been -/
theorem Inv.ahead {c i : Nat} (hc : ord[c]? = some i) (hi : i ∉ D) (hb : ∀ j, bit B i j = true → j ∈ D) (he : effAt ops.toList i = true) : ∀ c' j, p ≤ c' → c' < c → ord[c']? = some j → j ∈ D ∧ effAt ops.toList j = false := fun c' j h1 h2 h3 => by
  have hj : j ∈ D := hb j ((H.ordOk hc).2.2 he j (mem_preO.2 ⟨c', h2, h3⟩))
  refine ⟨hj, ?_⟩
  cases hjE : effAt ops.toList j with
  | false => rfl
  | true => exact absurd hj (I.post c' j h1 h3 hjE)
include hf
/-- behind an effect -/
theorem Inv.eff {c i : Nat} {o : Oper} {v : AV} (hc : ord[c]? = some i) (ho : ops[i]? = some o) (hi : i ∉ D) (hb : ∀ j, bit B i j = true → j ∈ D) (hv : (S (c + 1)).l = v :: (S c).l) (he : effAt ops.toList i = true)
    (wr : WRel (KLp P cX) E' w' (S (c + 1)).h (S (c + 1)).n) (st : Step E w (S c).h (S c).n E' w' (S (c + 1)).h (S (c + 1)).n) (sv : Sc (Up (S (c + 1)).n) v) :
    Inv P cX f nt nm ops W B ord S E0 w0 dfs (i :: D) E' (a.put o.dst (den E' v)) w' (c + 1) := by
  have hpc := I.ge H hc hi
  have hcl := ord_lt hc
  have hah := I.ahead H hc hi hb he
  obtain ⟨mw, ms, mi⟩ := I.merge H (Nat.le_of_lt hcl) (fun c' j h1 h2 h3 => hah c' j h1 h2 h3) hpc (Nat.le_refl c)
  have l0 := H.len0 I.pL
  have lc := H.len0 (Nat.le_of_lt hcl)
  have mpc := H.mono hpc (Nat.le_of_lt hcl)
  have mcc := H.num hcl
  have m0c := H.mono (Nat.zero_le c) (Nat.le_of_lt hcl)
  have mcL := H.mono (p := c + 1) (c := ord.length) (by omega) (Nat.le_refl _)
  have lc1 := H.len0 (c := c + 1) hcl
  have hD : ∀ k ∈ D, k ∈ i :: D := fun k hk => List.mem_cons_of_mem _ hk
  have esd : ∀ q, SD ord S D p q → E'.blk q = E.blk q ∧ E'.sz q = E.sz q := fun q hq => st.env q (hq.1.trans lc.symm) fun hh => by
    rcases hq.2 with h | ⟨c', i', cs', k1, k2, k3, k4, k5⟩
    · have := mpc.2; omega
    · have hlt := k4.lt
      have hcl' := ord_lt k2
      subst k5
      rcases Nat.lt_trichotomy c' c with h | h | h
      · have := (H.mono (p := c' + 1) (c := c) h (by omega)).2; omega
      · subst h
        rw [hc] at k2
        cases k2
        exact hi k3
      · have := (H.mono (p := c + 1) (c := c') h (by omega)).2; omega
  have hsd : ∀ q, SD ord S D p q → SD ord S (i :: D) (c + 1) q := fun q hq => ⟨hq.1, by
    rcases hq.2 with h | ⟨c', i', cs', k1, k2, k3, k4, k5⟩
    · have := mpc.2; have := mcc.2; exact .inl (by omega)
    · have hlt := k4.lt
      have hcl' := ord_lt k2
      rcases Nat.lt_or_ge c' (c + 1) with h | h
      · have := (H.mono (p := c' + 1) (c := c + 1) (by omega) (by omega)).2
        subst k5
        exact .inl (by omega)
      · exact .inr ⟨c', i', cs', h, k2, hD _ k3, k4, k5⟩⟩
  have dv : ∀ u, Sc (SD ord S D p) u → den E' u = den E u := fun u hu => den_congr esd u hu
  obtain ⟨s1, s2, s3⟩ := slots_put H (E' := E') (v := v) (fun t s hs hno => by rw [I.old t s hs hno, dv _ (I.f_sd H hf s)])
    (fun c' j o' t u h1 h2 h3 h4 h5 => by rw [I.new c' j o' t u h1 h2 h3 h4 h5, dv _ (I.sc c' j u h1 h2 h5).2]) I.ntl hc ho hi hv
  -- what has been laid ahead of its time
  have key : ∀ c' j cs', c + 1 ≤ c' → ord[c']? = some j → j ∈ i :: D → NewAt S c' cs' → j ∈ D ∧ E'.blk (S c').n = E.blk (S c').n ∧ E.blk (S c').n < w.heap.size ∧ ∀ q, In (S c).h (S c).n q → E.blk q ≠ E.blk (S c').n := fun c' j cs' k1 k2 k3 k4 => by
    have hjD : j ∈ D := by
      rcases List.mem_cons.1 k3 with rfl | k3
      · have := H.inj hc k2; omega
      · exact k3
    obtain ⟨q1, q2, q3, q4, q5⟩ := I.pd c' j cs' (by omega) k2 hjD k4
    refine ⟨hjD, (esd _ ⟨H.len0 (Nat.le_of_lt (ord_lt k2)), .inr ⟨c', j, cs', by omega, k2, hjD, k4, rfl⟩⟩).1, q1.there, fun q hq e => ?_⟩
    rcases mi q hq with h | ⟨c2, i2, cs2, t1, t2, t3, t4, t5, rfl⟩
    · exact q5 q h e
    · have := I.pj c2 c' i2 j cs2 cs' t1 t3 t4 t5 (by omega) k2 hjD k4 e
      omega
  refine ⟨hcl, fun c' j k1 k2 => ?_, fun c' j k1 k2 k3 k4 => ?_, .inr ⟨i, by omega, by simpa using hc, he⟩, fun j hj k hk => ?_, s3, ?_, wr, ?_, s1, s2, fun c' j u k1 k2 k3 => ?_, fun c' j cs' k1 k2 k3 k4 => ?_, fun c1 c2 i1 i2 cs1 cs2 a1 a2 a3 a4 a5 a6 a7 a8 e => ?_, I.ab⟩
  · rcases Nat.lt_or_ge c' p with h | h
    · exact hD _ (I.pre c' j h k2)
    · rcases Nat.lt_or_ge c' c with h' | h'
      · exact hD _ (hah c' j h h' k2).1
      · have : c' = c := by omega
        subst this
        rw [hc] at k2
        cases k2
        simp
  · rcases List.mem_cons.1 k4 with rfl | k4
    · have := H.inj hc k2; omega
    · exact I.post c' j (by omega) k2 k3 k4
  · rcases List.mem_cons.1 hj with rfl | hj
    · exact hD _ (hb k hk)
    · exact hD _ (I.clos j hj k hk)
  · rw [← I.df]; cases o.dst <;> rfl
  · exact ms.transW st lc m0c.2 mcL.2
  · rcases List.mem_cons.1 k2 with rfl | k2
    · have := H.inj hc k1
      subst this
      rw [hv] at k3
      cases k3
      exact ⟨sv, Sc.mono (fun q hq => ⟨hq.1.trans lc1, .inl hq.2⟩) _ sv⟩
    · obtain ⟨q1, q2⟩ := I.sc c' j u k1 k2 k3
      exact ⟨q1, Sc.mono hsd _ q2⟩
  · obtain ⟨hjD, e1, e2, e3⟩ := key c' j cs' k1 k2 k3 k4
    obtain ⟨q1, q2, q3, q4, q5⟩ := I.pd c' j cs' (by omega) k2 hjD k4
    have hsc : SD ord S D p (S c').n := ⟨H.len0 (Nat.le_of_lt (ord_lt k2)), .inr ⟨c', j, cs', by omega, k2, hjD, k4, rfl⟩⟩
    exact ⟨(q1.frame (st.keep _ e2 e3)).env (S := SD ord S D p) q3 esd (esd _ hsc), q2, BSc.mono hsd q3, by rw [e1]; exact q4, fun q hq => by rw [e1]; exact st.off e2 e3 q hq⟩
  · obtain ⟨h1, e1, _⟩ := key c1 i1 cs1 a1 a2 a3 a4
    obtain ⟨h2, e2, _⟩ := key c2 i2 cs2 a5 a6 a7 a8
    rw [e1, e2] at e
    exact I.pj c1 c2 i1 i2 cs1 cs2 (by omega) a2 h1 a4 (by omega) a6 h2 a8 e
end

/-! ### the heaps behind the effects -/
def cntO (ops : Array Oper) (ord : List Nat) (c : Nat) : Nat := ((ord.take c).filter (effAt ops.toList)).length
include H in
theorem Plan.cnt_succ {c i : Nat} (hc : ord[c]? = some i) : cntO ops ord (c + 1) = cntO ops ord c + if effAt ops.toList i = true then 1 else 0 := by
  unfold cntO
  rw [List.take_add_one, hc]
  simp only [Option.toList, List.filter_append, List.length_append]
  congr 1
  cases he : effAt ops.toList i <;> simp [he]
theorem cnt_mono {p c : Nat} (h : p ≤ c) : cntO ops ord p ≤ cntO ops ord c := by
  unfold cntO
  have : ord.take p = (ord.take c).take p := by rw [List.take_take, Nat.min_eq_left h]
  rw [this]
  exact (List.Sublist.filter _ (List.take_sublist _ _)).length_le
include H in
theorem Plan.snap {p : Nat} (hp : p = 0 ∨ ∃ i, 0 < p ∧ ord[p - 1]? = some i ∧ effAt ops.toList i = true) : ∀ {c : Nat}, p ≤ c → c ≤ ord.length → (S c).hs.getD (cntO ops ord c - cntO ops ord p) .e = (S p).h
  | c, h1, h2 => by
    induction c with
    | zero =>
      have : p = 0 := by omega
      subst this
      rw [H.hs0]; simp
    | succ c ihc =>
      obtain ⟨i, hc⟩ := H.get (c := c) (by omega)
      obtain ⟨o, d, v, k1, k2, k3, k4, k5⟩ := H.at_ hc
      obtain ⟨q1, q2⟩ := cDop_q k3
      rw [← effAt_eq k1] at q1
      by_cases hpc : p = c + 1
      · rw [hpc]
        rcases hp with h0 | ⟨j, h3, h4, h5⟩
        · omega
        · have hj : ord[c]? = some j := by rw [hpc] at h4; simpa using h4
          rw [hc] at hj
          cases hj
          rw [h5] at q1
          rw [k5.hs, q1]
          simp
      · have hi := ihc (by omega) (by omega)
        have hcm := cnt_mono (ops := ops) (ord := ord) (show p ≤ c by omega)
        rw [H.cnt_succ hc, k5.hs, q1]
        cases he : effAt ops.toList i with
        | false => simpa using hi
        | true =>
          simp only [Bool.not_true, Bool.false_eq_true, if_false, if_true]
          rw [show cntO ops ord c + 1 - cntO ops ord p = (cntO ops ord c - cntO ops ord p) + 1 by omega, List.getD_cons_succ]
          exact hi
section
include H I
/-- the heap that a value looks at is one of those in which it is the same -/
theorem Inv.snapU {c i : Nat} (hc : ord[c]? = some i) (hi : i ∉ D) (hb : ∀ j, bit B i j = true → j ∈ D) :
    toU' (cntO ops ord c - cntO ops ord p) ∈ upTo (cntE ops.toList (fun _ => true) (preO ord c) - cntE ops.toList (bit B i) (preO ord c)) := by
  have hpc := I.ge H hc hi
  apply upTo_mem
  have e1 : cntE ops.toList (fun _ => true) (preO ord c) = cntO ops ord c := by
    unfold cntE preO cntO
    rw [List.filter_reverse, List.length_reverse]
    simp
  have e2 : cntE ops.toList (bit B i) (preO ord c) ≤ cntO ops ord p := by
    unfold cntE preO cntO
    rw [List.filter_reverse, List.length_reverse]
    have hsplit : ord.take c = ord.take p ++ (ord.take c).drop p := by
      have h1 := (List.take_append_drop p (ord.take c)).symm
      rw [List.take_take, Nat.min_eq_left hpc] at h1
      exact h1
    rw [hsplit, List.filter_append, List.length_append]
    have h0 : ((ord.take c).drop p).filter (fun j => effAt ops.toList j && bit B i j) = [] := by
      rw [List.filter_eq_nil_iff]
      intro j hj hbad
      rw [Bool.and_eq_true] at hbad
      obtain ⟨q, hq⟩ := List.mem_iff_getElem?.1 hj
      rw [List.getElem?_drop] at hq
      have hqc : p + q < c := by
        by_cases h : p + q < c
        · exact h
        · rw [List.getElem?_take_eq_none (by omega)] at hq; cases hq
      rw [List.getElem?_take_of_lt hqc] at hq
      exact I.post (p + q) j (by omega) hq hbad.1 (hb j hbad.2)
    rw [h0]
    simp only [List.length_nil, Nat.add_zero]
    have hsub : (ord.take p).filter (fun j => effAt ops.toList j && bit B i j) = ((ord.take p).filter (effAt ops.toList)).filter (bit B i) := by
      rw [List.filter_filter]; congr 1; funext j; exact Bool.and_comm _ _
    rw [hsub]
    exact List.length_filter_le _ _
  omega
end
end Go.X

namespace Go.X
variable [Sym]
variable {P : Program} {ft : T Func} {ih : Ih} {f : Fr} {nt : Nat} {nm : List Nat} {ops : Array Oper} {W : List (Nat × Nat)} {B ord : List Nat} {ds : List DOp} {S : Nat → Rec}
variable {cX : Nat → List Nat → Array Oper → Option DR3} {E E' E0 E1 E2 : Env} {w w' w0 w1 w2 : World} {h h' h0 h1 h2 : HT} {n n' n0 n1 n2 m m1 m2 : Pa} {K : Loop → List Nat → List U → Code → Code → Prop}

/-! ### a call, whatever its operands are -/
section
variable {ro : Option Nat} {Q : Exit → Act → World → Prop} {R : Operand → Option Opd} {a : Act} {l : List AV} {o : Oper} {next : Act → World → Prop}
theorem call_core (hft : TabOk P cX ft) (hih : CodeOk P cX ih) (hR : ∀ x y, R x = some y → a.eval x = den E (ev y l f) ∧ Sc (Up n) (ev y l f)) (hw : WRel (KLp P cX) E w h n) {x : IOp} (hx : cIOp P R .n o.op = some x) {d : DOp} {v : AV}
    (hd : (∃ k g as, x = .call k g as ∧ ∀ k kp : KV, callF ft ih (evs as l f) k kp (ft.get g) h n = k v h' n') ∨ (∃ k g as, x = .callv k g as ∧ ∀ k kp : KV, callV ft ih (evs as l f) k kp h n (asF (ev g l f)) = k v h' n'))
    (hnext : ∀ E' w', WRel (KLp P cX) E' w' h' n' → Step E w h n E' w' h' n' → Sc (Up n') v → next (a.put o.dst (den E' v)) w') : o.wpIn (FW ro) 0 P a w next Q := by
  refine ⟨fun _ _ => trivial, ?_⟩
  have hinv := cIOp_inv hx
  have hok : (Res.nm [v] [] h' n').ok := trivial
  have kok : KOk P cX E w h n (fun v h n => Res.nm [v] [] h n) (Res.nm [v] [] h' n') (fun v w' => next (a.put o.dst v) w') := by
    intro E' w' h2 n2 u r1 r2 r3 r4
    cases r4
    exact hnext E' w' r1 r2 r3
  have kpok : KOk P cX E w h n (fun _ _ _ => Res.no 0) (Res.nm [v] [] h' n') (fun v w' => Q (.panic (pan v)) a w') := by
    intro E' w' h2 n2 u r1 r2 r3 r4
    cases r4
  rcases hd with ⟨k, p, as, rfl, he⟩ | ⟨k, g, as, rfl, he⟩
  · obtain ⟨_, c, g, hop, hcal, hp, has⟩ := hinv
    have hnd : ∀ c, o.op ≠ .defer c := fun c e => by rw [hop] at e; cases e
    rw [Oper.semAt_eq _ _ _ hnd]
    obtain ⟨k1, k2⟩ := ros_map hR has
    obtain ⟨hc, hF⟩ := callF_sound (R := fun
      | .returned v, w'' => next (a.put o.dst v) w''
      | .panicked chain, w'' => Q (.panic chain) a w''
      | .outgrown, _ => LetsOut Q) hft hih hw k2 (he _ _) hok kok kpok
    have hargs : c.args.map a.eval = (denL E (evs as l f)).toArray := Array.ext' (by rw [← k1]; exact Array.toList_map)
    have hrun : (execOp a.eval o).run P w = .ok (.enter (val p) (denL E (evs as l f)).toArray) w := by
      have hF' := hF.invoke ((denL E (evs as l f)).toArray) #[] w
      simp only [execOp, hop, resolve, hcal, Act.eval, Deferred.ofValue, Sem.run_bind, Sem.run_pure, Result.andThen, hargs, ← fpa_val hp]
      simpa using hF'
    rw [hrun]
    exact ⟨by simp [FW], callsIn_ro hc⟩
  · obtain ⟨_, c, g', hop, hcal, hg, has⟩ := hinv
    have hnd : ∀ c, o.op ≠ .defer c := fun c e => by rw [hop] at e; cases e
    rw [Oper.semAt_eq _ _ _ hnd]
    obtain ⟨k1, k2⟩ := ros_map hR has
    obtain ⟨g1, g2⟩ := hR g' g hg
    have hargs : c.args.map a.eval = (denL E (evs as l f)).toArray := Array.ext' (by rw [← k1]; exact Array.toList_map)
    have he' := he (fun v h n => Res.nm [v] [] h n) (fun _ _ _ => Res.no 0)
    cases hv : asF (ev g l f) with
    | no => rw [hv] at he'; cases he'
    | fn p fa fc =>
      rw [hv] at he'
      have hve := asF_fn hv
      have hsc : ScL (Up n) fa ∧ ScL (Up n) fc := by rw [hve] at g2; simpa [Sc] using g2
      have he2 : appK (evs as l f) fc (fun l' => appK fa l' fun l' => callF ft ih l' (fun v h n => Res.nm [v] [] h n) (fun _ _ _ => Res.no 0) (ft.get p) h n) = _ := he'
      rw [appK_eq, appK_eq] at he2
      obtain ⟨hc, hF⟩ := callF_sound (R := fun
        | .returned v, w'' => next (a.put o.dst v) w''
        | .panicked chain, w'' => Q (.panic chain) a w''
        | .outgrown, _ => LetsOut Q) hft hih hw (ScL_app hsc.1 (ScL_app k2 hsc.2)) he2 hok kok kpok
      obtain ⟨c1, c2⟩ := callV_run (E := E) (w := w) (args := evs as l f) hve hF
      have hrun : (execOp a.eval o).run P w = .ok (.enter (val p) (denL E (fa ++ (evs as l f ++ fc))).toArray) w := by
        simp only [execOp, hop, resolve, hcal, Sem.run_bind, hargs, g1, c1, Result.andThen, c2]
      rw [hrun]
      exact ⟨by simp [FW], callsIn_ro hc⟩
    | yl id =>
      rw [hv] at he'
      have hve := asF_yl hv
      have hu : Up n id := by rw [hve] at g2; simpa [Sc] using g2
      obtain ⟨fid, tmps, assign, body, hy, hround⟩ := yield_sound (ro := ro) (R := fun
        | .returned v, w'' => next (a.put o.dst v) w''
        | .panicked chain, w'' => Q (.panic chain) a w''
        | .outgrown, _ => LetsOut Q) hih hw k2 hu he' hok kok
      have hrun : (execOp a.eval o).run P w = .ok (.round (E.blk id) fid tmps assign body) w := by
        simp only [execOp, hop, resolve, hcal, Sem.run_bind, hargs, g1, hve, den, Deferred.ofValue, Sem.run_pure, Result.andThen, invoke]
        simpa using hy
      rw [hrun]
      exact ⟨by simp [FW], hround⟩
end

variable (H : Plan P ft ih f nt nm ops W B ord ds S) {dfs : Act} {D : List Nat} {a : Act} {p : Nat} (hf : ScL (Up (S 0).n) f)
variable {ro : Option Nat} {Q : Exit → Act → World → Prop}
section
include H hf
theorem run_op (hft : TabOk P cX ft) (hih : CodeOk P cX ih) (I : Inv P cX f nt nm ops W B ord S E0 w0 dfs D E a w p) {c i : Nat} {o : Oper} {v : AV} (hc : ord[c]? = some i) (ho : ops[i]? = some o) (hi : i ∉ D) (hb : ∀ j, bit B i j = true → j ∈ D) (hv : (S (c + 1)).l = v :: (S c).l)
    {x : IOp} {d : DOp} (hx : cIOp P (roI W B nm i (preO ord c)) .n o.op = some x) (hd : toD ops.toList B i (preO ord c) x = some d) (hq : isQ d = !effOp o.op) (hs : DStep ft ih f d (S c) (S (c + 1)) v)
    {next : Act → World → Prop} (hnext : ∀ E' a' w' p', Inv P cX f nt nm ops W B ord S E0 w0 dfs (i :: D) E' a' w' p' → next a' w') : o.wpIn (FW ro) 0 P a w next Q := by
  have hR := I.opd H hf hc hi hb
  have hR2 : ∀ x y, roI W B nm i (preO ord c) x = some y → a.eval x = den E (ev y (S c).l f) ∧ Sc (Up (S c).n) (ev y (S c).l f) := fun x y h => ⟨(hR x y h).1, (hR x y h).2.1⟩
  have hpc := I.ge H hc hi
  have hcl := ord_lt hc
  have mpc := H.mono hpc (Nat.le_of_lt hcl)
  have m0c := H.mono (Nat.zero_le c) (Nat.le_of_lt hcl)
  have mcL := H.mono (p := c) (c := ord.length) (by omega) (Nat.le_refl _)
  have heff : effAt ops.toList i = effOp o.op := effAt_eq ho
  -- effects
  have ofE : effOp o.op = true → WRel (KLp P cX) E w (S c).h (S c).n ∧ ∀ E' w', WRel (KLp P cX) E' w' (S (c + 1)).h (S (c + 1)).n → Step E w (S c).h (S c).n E' w' (S (c + 1)).h (S (c + 1)).n → Sc (Up (S (c + 1)).n) v → next (a.put o.dst (den E' v)) w' := fun he => by
    rw [he] at heff
    refine ⟨(I.merge H (Nat.le_of_lt hcl) (fun c' j h1 h2 h3 => I.ahead H hc hi hb heff c' j h1 h2 h3) hpc (Nat.le_refl c)).1, fun E' w' r1 r2 r3 => hnext _ _ _ _ (I.eff H hf hc ho hi hb hv heff r1 r2 r3)⟩
  cases x with
  | call k g as =>
    simp only [toD, Option.some.injEq] at hd
    subst hd
    have he : effOp o.op = true := by cases h : effOp o.op <;> rw [h] at hq <;> simp [isQ] at hq ⊢
    obtain ⟨mw, fin⟩ := ofE he
    exact call_core hft hih hR2 mw hx (d := .call g as) (.inl ⟨k, g, as, rfl, hs.1⟩) fin
  | callv k g as =>
    simp only [toD, Option.some.injEq] at hd
    subst hd
    have he : effOp o.op = true := by cases h : effOp o.op <;> rw [h] at hq <;> simp [isQ] at hq ⊢
    obtain ⟨mw, fin⟩ := ofE he
    exact call_core hft hih hR2 mw hx (d := .callv g as) (.inr ⟨k, g, as, rfl, hs.1⟩) fin
  | o kd op =>
    obtain ⟨_, hco⟩ := cIOp_inv hx
    have hnd : ∀ c, o.op ≠ .defer c := fun c e => by rw [e] at hco; cases hco
    refine ⟨fun _ _ => trivial, ?_⟩
    rw [Oper.semAt_eq _ _ _ hnd]
    simp only [toD] at hd
    split at hd
    · rename_i hqo
      simp only [Option.some.injEq] at hd
      subst hd
      have he : effOp o.op = false := by cases h : effOp o.op <;> rw [h] at hq <;> simp [isQ] at hq ⊢
      rw [he] at heff
      obtain ⟨hC, hO⟩ := compOp_parts hco hqo
      have hO1 : ∀ y ∈ opds op, Sc (Up (S c).n) (ev y (S c).l f) := fun y hy => let ⟨x, hx⟩ := hO y hy; (hR x y hx).2.1
      have hO2 : ∀ y ∈ opds op, Sc (SD ord S D p) (ev y (S c).l f) := fun y hy => let ⟨x, hx⟩ := hO y hy; (hR x y hx).2.2
      have wrc : WRel (KLp P cX) E w (S p).h (S c).n := I.wr.mono mpc.1 mpc.2
      -- a value that leaves the heap
      have ofQ : (S (c + 1)).h = (S c).h → (S (c + 1)).n = (S c).n → sop op (S c).l f (S p).h (S c).n = .ok v (S p).h (S c).n → Sc (SD ord S D p) v → o.uponIn (FW ro) 0 P a next Q ((execOp a.eval o).run P w) := fun eh en hsop hsd => by
        obtain ⟨E1, w1, nx, hrun, hnx, sv, wr1, st1⟩ := sop_sound hR2 hco wrc hsop
        have ea : ∀ q, q.length = (S c).n.length → E1.blk q = E.blk q ∧ E1.sz q = E.sz q := fun q hq => st1.env q hq (by omega)
        have dv : den E1 v = den E v := den_congr (S := Up (S c).n) (fun q hq => ea q hq.1) v sv
        have wr2 : WRel (KLp P cX) E w1 (S p).h (S c).n := wr1.env_all fun q hq => ⟨(ea q hq).1.symm, (ea q hq).2.symm⟩
        have st2 : Step E w (S p).h (S c).n E w1 (S p).h (S c).n := ⟨rfl, Nat.le_refl _, fun _ _ _ => ⟨rfl, rfl⟩, st1.os, st1.tape, st1.output, st1.size, st1.keep, fun q hq => .inr ⟨q, hq, rfl⟩⟩
        have J := I.still H hc ho hi hb hv heff ⟨eh, en⟩ mpc.1 m0c.2 mcL.2 (I.wr.sub wr2 mpc.1 fun _ _ => rfl) st2 ⟨by rw [en]; exact sv, hsd⟩
        have := hnext _ _ _ _ J
        rw [hrun]
        rcases hnx with rfl | ⟨rfl, hu⟩
        · show next (a.put o.dst (den E1 v)) w1
          rw [dv]; exact this
        · show next (a.put o.dst undef) w1
          rw [← hu, dv]; exact this
      rcases (isQop_iff op).1 hqo with hk | hk | hk
      · obtain ⟨eh, en, hall, hsc⟩ := pure_ok hk hs.1
        exact ofQ eh en (hall _ _) (hsc _ (hC _) hO2)
      · obtain ⟨eh, en, hall, _⟩ := read_ok hk hs.1
        have hsame := hs.2.1
        rw [hk] at hsame
        obtain ⟨h3, n3, e3⟩ := sameIn_sound hsame _ (I.snapU H hc hi hb)
        rw [toU'_nat, H.snap I.front hpc (Nat.le_of_lt hcl), en] at e3
        obtain ⟨q1, q2, _, q4⟩ := read_ok hk e3
        subst q1 q2
        refine ofQ eh en e3 (q4 _ (fun q b hq hg => ?_) hO2)
        have hbs := (I.wr.blk q b (hq.1.trans (H.len0 I.pL).symm) hg).2
        exact hbs.mono fun r hr => ⟨hr.1.trans (H.len0 I.pL), .inl hr.2⟩
      · obtain ⟨cs, _, e1, e2, hsv, hscs, hall⟩ := new_ok hk hs.1
        obtain ⟨E1, w1, nx, hrun, hnx, sv, wr1, st1⟩ := sop_sound hR2 hco wrc (hall (S p).h)
        have J := I.fresh H hf hc ho hi hb hv heff ⟨e1, e2⟩ wr1 st1 hsv ⟨hscs _ (hC _) hO1, hscs _ (hC _) hO2⟩
        have := hnext _ _ _ _ J
        rw [hrun]
        rcases hnx with rfl | ⟨rfl, hu⟩
        · exact this
        · show next (a.put o.dst undef) w1
          rw [← hu]; exact this
    · simp only [Option.some.injEq] at hd
      subst hd
      have he : effOp o.op = true := by cases h : effOp o.op <;> rw [h] at hq <;> simp [isQ] at hq ⊢
      obtain ⟨mw, fin⟩ := ofE he
      obtain ⟨E1, w1, nx, hrun, hnx, sv, wr1, st1⟩ := sop_sound hR2 hco mw hs.1
      have := fin E1 w1 wr1 st1 sv
      rw [hrun]
      rcases hnx with rfl | ⟨rfl, hu⟩
      · exact this
      · show next (a.put o.dst undef) w1
        rw [← hu]; exact this
  | dfr k g as => cases hd
  | pan x => cases hd
  | rcv k => cases hd
  | g x b k o => cases hd

theorem run_sound (hft : TabOk P cX ft) (hih : CodeOk P cX ih) (fin : ∀ E a w p D, Inv P cX f nt nm ops W B ord S E0 w0 dfs D E a w p → (∀ i, i < ops.size → i ∈ D) → Q .normal a w) {s D : List Nat} (hs : Sched ops D s) : ∀ {E : Env} {a : Act} {w : World} {p : Nat},
    Inv P cX f nt nm ops W B ord S E0 w0 dfs D E a w p → wpOpsIn (FW ro) 0 P ops Q s a w := by
  induction hs with
  | nil hall => intro E a w p I; exact fin E a w p _ I hall
  | @cons D s i o ho hi ha hs ih2 =>
    intro E a w p I
    simp only [wpOpsIn, ho]
    have hb : ∀ j, bit B i j = true → j ∈ D := fun j hj => by
      obtain ⟨e, he, hbe, h⟩ := H.bitE ho hj
      have h1 := ha e he hbe
      rcases h with rfl | h
      · exact h1
      · exact I.clos _ h1 j h
    obtain ⟨c, hc⟩ := H.pos (Array.getElem?_eq_some_iff.1 ho).1
    obtain ⟨o', d, v, k1, k2, k3, k4, k5⟩ := H.at_ hc
    rw [ho] at k1
    cases k1
    obtain ⟨x, d', g1, g2, g3, g4⟩ := cDop_inv k3
    have heff : effAt ops.toList i = effOp o.op := effAt_eq ho
    rcases g4 with ⟨hg, rfl⟩ | ⟨j, b, u, t, o2, hg, hj, ht, hw, hbj, hu, rfl⟩
    · have hwant : Region.wanted o (yielded ops a.tmps) = true := by simp [Region.wanted, hg]
      rw [if_pos hwant]
      exact run_op H hf hft hih I hc ho hi hb k4 g1 g2 g3 k5 fun E' a' w' p' J => ih2 J
    · have hsl := I.slot H (Nat.le_of_lt (ord_lt hc)) hw (hb j hbj) hu
      have hye := yielded_eq (all := ops) (a := a) (j := j) (t := t) (o := o2) (by simpa using hj) ht hsl.1
      have hwe : Region.wanted o (yielded ops a.tmps) = wanted b (asB (nth u (S c).l)) := wanted_eq hg hye
      rcases k5 with ⟨hwb, k5⟩ | ⟨hwb, rfl, eh, en, ehs⟩
      · rw [if_pos (by rw [hwe]; exact hwb)]
        exact run_op H hf hft hih I hc ho hi hb k4 g1 g2 g3 k5 fun E' a' w' p' J => ih2 J
      · rw [if_neg (by rw [hwe]; show ¬ wanted b (asB (ev (.l u) (S c).l f)) = true; rw [hwb]; simp)]
        refine ⟨fun _ _ => trivial, ?_⟩
        have hpc := I.ge H hc hi
        have hcl := ord_lt hc
        have mpc := H.mono hpc (Nat.le_of_lt hcl)
        have m0c := H.mono (Nat.zero_le c) (Nat.le_of_lt hcl)
        have mcL := H.mono (p := c) (c := ord.length) (by omega) (Nat.le_refl _)
        cases he : effAt ops.toList i with
        | false => exact ih2 (I.still H hc ho hi hb k4 he ⟨eh, en⟩ (m := (S c).n) mpc.1 m0c.2 mcL.2 I.wr (Step.refl _ _ _ _) ⟨by simp [Sc], by simp [Sc]⟩)
        | true =>
          have mw := I.merge H (Nat.le_of_lt hcl) (fun c' j h1 h2 h3 => I.ahead H hc hi hb he c' j h1 h2 h3) hpc (Nat.le_refl c)
          exact ih2 (I.eff H hf hc ho hi hb k4 he (by rw [eh, en]; exact mw.1) (by rw [eh, en]; exact Step.refl _ _ _ _) (by simp [Sc]))
end
end Go.X

namespace Go.X
variable [Sym]
variable {P : Program} {ft : T Func} {ih : Ih} {f : Fr} {nt : Nat} {nm : List Nat} {ops : Array Oper} {W : List (Nat × Nat)} {B ord : List Nat} {ds : List DOp} {S : Nat → Rec}
variable {cX : Nat → List Nat → Array Oper → Option DR3} {E E' E0 : Env} {w w' w0 : World} {l : List AV}

theorem outF_len : ∀ (out : List (U × U)) (f : Fr), (outF l out f).length = f.length
  | [], f => rfl
  | x :: out, f => by show (outF l out _).length = _; rw [outF_len out]; simp
theorem outF_sc {Sp : Pa → Prop} (hl : ScL Sp l) : ∀ (out : List (U × U)) (f : Fr), ScL Sp f → ScL Sp (outF l out f)
  | [], f, hf => hf
  | x :: out, f, hf => outF_sc hl out _ (sc_set hf _ (sc_nth hl x.2))
theorem fnd_of {nm : List Nat} (hn : nm.Nodup) {i t : Nat} (h : nm[i]? = some t) : ∃ s : U, fnd t nm = some s ∧ s.nat = i := by
  cases hs : fnd t nm with
  | none => exact absurd (List.mem_of_getElem? h) (fnd_none hs)
  | some s => exact ⟨s, rfl, (fnd_get hn hs h).symm⟩
theorem assocN_keys {t y : Nat} : ∀ {W : List (Nat × Nat)} {u : Nat}, assocN t W = none → (u, y) ∈ W → u ≠ t
  | [], _, _, h => by cases h
  | (x, j) :: W, u, hn, h => by
    simp only [assocN] at hn
    split at hn
    · cases hn
    · rename_i hb
      rcases List.mem_cons.1 h with h | h
      · cases h; intro e; subst e; simp at hb
      · exact assocN_keys hn h
/-- a slot that nothing is laid into -/
theorem outF_old {rev : List Nat} (hn : nm.Nodup) {i t : Nat} (hi : nm[i]? = some t) : ∀ {W : List (Nat × Nat)} {f : Fr}, assocN t W = none → (outF l (outsD nm rev W) f).getD i .und = f.getD i .und
  | [], f, _ => rfl
  | (x, j) :: W, f, h => by
    have hx : x ≠ t := assocN_keys (y := j) h (by simp)
    have h' : assocN t W = none := by
      simp only [assocN] at h
      split at h
      · cases h
      · exact h
    simp only [outsD]
    split
    · rename_i s p hs hp
      show (outF l (outsD nm rev W) (f.set s.nat (nth p l))).getD i .und = _
      rw [outF_old hn hi h']
      have hne : s.nat ≠ i := fun e => by
        have := fnd_some hs
        rw [e, hi] at this
        exact hx (Option.some.inj this).symm
      simp [List.getD_eq_getElem?_getD, List.getElem?_set_ne hne]
    · exact outF_old hn hi h'
/-- a slot that a value is laid into -/
theorem outF_new {rev : List Nat} (hn : nm.Nodup) {i t y : Nat} {u : U} (hi : nm[i]? = some t) (hu : fnd y rev = some u) : ∀ {W : List (Nat × Nat)} {f : Fr}, keysOk W = true → i < f.length → assocN t W = some y → (outF l (outsD nm rev W) f).getD i .und = nth u l
  | [], f, _, _, h => by cases h
  | (x, j) :: W, f, hk, hlt, h => by
    simp only [keysOk, Bool.and_eq_true] at hk
    obtain ⟨s, hs, hsi⟩ := fnd_of hn hi
    simp only [assocN] at h
    split at h
    · rename_i hb
      have hx := Nat.eq_of_beq_eq_true hb
      subst hx
      cases h
      have hno : assocN x W = none := by
        cases hq : assocN x W with
        | none => rfl
        | some z => have := hk.1; rw [hq] at this; cases this
      have e1 : outsD nm rev ((x, y) :: W) = (s, u) :: outsD nm rev W := by simp only [outsD, hs, hu]
      rw [e1]
      show (outF l (outsD nm rev W) (f.set s.nat (nth u l))).getD i .und = _
      rw [outF_old hn hi hno, hsi]
      simp [List.getD_eq_getElem?_getD, hlt]
    · simp only [outsD]
      split
      · rename_i s' p hs' hp
        show (outF l (outsD nm rev W) (f.set s'.nat (nth p l))).getD i .und = _
        exact outF_new hn hi hu hk.2 (by simpa using hlt) h
      · exact outF_new hn hi hu hk.2 hlt h
theorem tabD_some {rev : List Nat} {t : Nat} {u : U} : ∀ {W : List (Nat × Nat)}, assoc t (tabD rev W) = some u → ∃ y, (t, y) ∈ W ∧ fnd y rev = some u
  | [], h => by cases h
  | (x, j) :: W, h => by
    simp only [tabD] at h
    split at h
    · rename_i p hp
      simp only [assoc] at h
      split at h
      · rename_i hb
        cases h
        rw [← Nat.eq_of_beq_eq_true hb]
        exact ⟨j, by simp, hp⟩
      · obtain ⟨y, h1, h2⟩ := tabD_some h
        exact ⟨y, by simp [h1], h2⟩
    · obtain ⟨y, h1, h2⟩ := tabD_some h
      exact ⟨y, by simp [h1], h2⟩
theorem tabD_none {rev : List Nat} {t y : Nat} {u : U} (hu : fnd y rev = some u) : ∀ {W : List (Nat × Nat)}, (t, y) ∈ W → assoc t (tabD rev W) ≠ none
  | [], h => by cases h
  | (x, j) :: W, h => by
    simp only [tabD]
    rcases List.mem_cons.1 h with h | h
    · cases h
      rw [hu]
      simp [assoc, Nat.beq_refl]
    · split
      · simp only [assoc]
        split
        · simp
        · exact tabD_none hu h
      · exact tabD_none hu h

theorem d_ok (hm : P.follows .mixedOrders = true) (hft : TabOk P (cD P) ft) : DOk P (cD P) ft := by
  intro ih hih ro nt nm id ops o out L hcd hn Q k E a w f dfs h n res hr he hok hfin
  -- its parts
  unfold cD at hcd
  simp only at hcd
  split at hcd
  · rename_i hchk
    simp only [Bool.and_eq_true, List.all_eq_true, List.mem_range] at hchk
    obtain ⟨hdst, hbef, hkeys, hall⟩ := hchk
    obtain ⟨ds, hgo, hcd⟩ := map_some hcd
    simp only [Prod.mk.injEq] at hcd
    obtain ⟨rfl, rfl, rfl⟩ := hcd
    generalize hB : befs ops.toList [] = B at *
    generalize hord : ordGo B (List.range ops.toList.length) (List.filter (effAt ops.toList) (List.range ops.toList.length)) [] = ord at *
    generalize hW : wrs ops.toList 0 = W at *
    obtain ⟨S, s0, str, sfin⟩ := exDs_trace hok he
    have hlen : ops.toList.length = ops.size := by simp
    rw [hlen] at hgo hall
    have H : Plan P ft ih f nt nm ops W B ord o S := ⟨hdst, hbef, hW.symm, hkeys, fun i hi => hasN_iff.1 (hall i hi), hgo, str, by rw [s0], by rw [s0]⟩
    rw [H.len] at sfin
    have hS0h : (S 0).h = h := by rw [s0]
    have hS0n : (S 0).n = n := by rw [s0]
    have hf : ScL (Up (S 0).n) f := by rw [hS0n]; exact hr.sc
    refine wpIn_region_draw fun t => ?_
    have hsch := sched_of hm H.edges t
    generalize hw0 : ({ w with drawn := w.drawn + 1 } : World) = w0
    have hheap : w0.heap = w.heap := by rw [← hw0]
    have mL := H.mono (Nat.zero_le ord.length) (Nat.le_refl _)
    have I0 : Inv P (cD P) f nt nm ops W B ord S E w0 a [] E a w0 0 := by
      refine ⟨Nat.zero_le _, fun c i h => by omega, fun c i _ _ _ h => (by cases h), .inl rfl, fun i hi => (by cases hi), ⟨hr.nt, rfl⟩, rfl, ?_, ⟨mL.1, mL.2, fun _ _ _ => ⟨rfl, rfl⟩, rfl, rfl, rfl, Nat.le_refl _, fun _ _ _ => rfl, fun q hq => .inr ⟨q, hq.len mL.1.symm, rfl⟩⟩,
        fun t i hi _ => hr.fr.get hi, fun c i o t v _ hi => (by cases hi), fun c i v _ hi => (by cases hi), fun c i cs _ _ hi => (by cases hi), fun c c' i i' cs cs' _ _ hi => (by cases hi), fun hh => by rw [hheap]; exact hr.wr.arg_lt hh⟩
      rw [hS0h, hS0n]
      exact hr.wr.frame (fun p hp => by rw [hheap]) (fun hh => by rw [hheap])
    refine run_sound H hf hft hih ?_ hsch I0
    intro E' a' w' p D I hD
    have hDc : ∀ {c i : Nat}, ord[c]? = some i → i ∈ D := fun hc => hD _ (H.size hc)
    obtain ⟨mw, ms, _⟩ := I.merge H (Nat.le_refl ord.length) (fun c i h1 h2 h3 => ⟨hDc h3, by
      cases hE : effAt ops.toList i with
      | false => rfl
      | true => exact absurd (hDc h3) (I.post c i h1 h3 hE)⟩) I.pL (Nat.le_refl _)
    have st : Step E w h n E' w' (S ord.length).h (S ord.length).n := by
      have e1 := ms
      rw [hS0h, hS0n] at e1
      exact ⟨e1.len, e1.le, e1.env, by rw [e1.os, ← hw0], by rw [e1.tape, ← hw0], by rw [e1.output, ← hw0], by rw [← hheap]; exact e1.size, fun b hb hno => by rw [e1.keep b (by rw [hheap]; exact hb) hno, hheap], fun q hq => by rw [← hheap]; exact e1.own q hq⟩
    have hrev : preO ord ord.length = ord.reverse := by simp [preO]
    have slot : ∀ {t y u}, assocN t W = some y → fnd y ord.reverse = some u → a'.tmps.getD t undef = den E' (nth u (S ord.length).l) := fun {t y u} hy hu => by
      obtain ⟨o, ho, _⟩ := H.writes hy
      exact (I.slot H (Nat.le_refl _) hy (hD _ (Array.getElem?_eq_some_iff.1 ho).1) (by rw [hrev]; exact hu)).1
    have there : ∀ {t y}, assocN t W = some y → ∃ u, fnd y ord.reverse = some u := fun {t y} hy => by
      obtain ⟨o, ho, _⟩ := H.writes hy
      cases hu : fnd y ord.reverse with
      | some u => exact ⟨u, rfl⟩
      | none => exact absurd (List.mem_reverse.2 (H.all y (Array.getElem?_eq_some_iff.1 ho).1)) (fnd_none hu)
    have scl : ∀ {c}, c ≤ ord.length → ScL (Up (S c).n) (S c).l := by
      intro c
      induction c with
      | zero => intro _; rw [H.l0]; trivial
      | succ c ihc =>
        intro hc
        obtain ⟨i, hi⟩ := H.get (c := c) (by omega)
        obtain ⟨o, d, v, k1, k2, k3, k4, k5⟩ := H.at_ hi
        have mm := H.num (c := c) (by omega)
        rw [k4]
        exact ⟨(I.sc c i v hi (hDc hi) k4).1, ScL.mono (fun q hq => ⟨hq.1.trans mm.1.symm, Nat.lt_of_lt_of_le hq.2 mm.2⟩) _ (ihc (by omega))⟩
    have hfl : f.length = nm.length := hr.fr.1
    refine hfin E' a' w' (S ord.length).l (S ord.length).h (S ord.length).n ⟨I.ntl.1, ⟨by rw [outF_len]; exact hfl, fun i t hi => ?_⟩, outF_sc (scl (Nat.le_refl _)) _ _ (st.scl hr.sc), mw, ?_⟩ ?_ st sfin
    · obtain ⟨s, hs, hsi⟩ := fnd_of hn hi
      refine ⟨?_, ?_⟩
      · rw [I.ntl.2]; exact (hr.fr.2 i t hi).1
      · cases hy : assocN t W with
        | none =>
          rw [outF_old hn hi hy, ← hsi, ← nth_eq]
          exact I.old t s hs fun y h => (by rw [hy] at h; cases h)
        | some y =>
          obtain ⟨u, hu⟩ := there hy
          rw [outF_new hn hi hu hkeys (by rw [hfl]; exact (List.getElem?_eq_some_iff.1 hi).1) hy]
          exact slot hy hu
    · rw [I.df]; exact hr.ds.step st
    · intro x y hx
      cases x with
      | tmp t =>
        simp only [roD] at hx
        cases hq : assoc t (tabD ord.reverse W) with
        | some u =>
          rw [hq] at hx
          cases hx
          obtain ⟨y, h1, h2⟩ := tabD_some hq
          exact slot (assocN_mem hkeys h1) h2
        | none =>
          rw [hq] at hx
          simp only at hx
          cases hi : fnd t nm with
          | none => rw [hi] at hx; cases hx
          | some s =>
            rw [hi] at hx
            cases hx
            refine I.old t s hi fun y hy _ => ?_
            obtain ⟨u, hu⟩ := there hy
            exact tabD_none hu (assocN_some hy) hq
      | const v =>
        have hx' : Go.X.ro [] nm (.const v) = some y := hx
        exact (ro_other (fun t e => Operand.noConfusion e) hx' E' (fun _ => True) a' _ f).1
      | global g => cases hx
      | func g =>
        have hx' : Go.X.ro [] nm (.func g) = some y := hx
        exact (ro_other (fun t e => Operand.noConfusion e) hx' E' (fun _ => True) a' _ f).1
  · cases hcd
end Go.X
