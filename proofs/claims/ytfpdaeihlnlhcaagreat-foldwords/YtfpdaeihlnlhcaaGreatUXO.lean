/- An executable reading of the model, its soundness over any program, and what it reads of this program. -/
import Derived.Test.YtfpdaeihlnlhcaaGreatUXK
import Derived.CallsIn
set_option linter.unusedSectionVars false
set_option linter.unusedVariables false
set_option linter.unusedSimpArgs false
set_option linter.constructorNameAsVariable false
namespace Go.X
variable [Sym]
variable {P : Program} {K : Loop → List Nat → List U → Code → Code → Prop} {E : Env} {w w' : World} {h : HT} {n : Pa}

theorem blkC_or {k : List AV → OR} {o : Option Blk} {no : Nat} {v : AV} {h' : HT} {n' : Pa} (hb : blkC (.no no) k o = .ok v h' n') : ∃ l, o = some (.c l) ∧ k l = .ok v h' n' := by
  cases o with
  | none => cases hb
  | some b =>
    cases b with
    | c l => exact ⟨l, rfl, hb⟩
    | lp ps a b fr => cases hb
    | df => cases hb
    | mp nk es => cases hb
    | cz m z l => cases hb
/-- the cells of a slice -/
theorem srcK_sound {m : Nat} {x : AV} {k : List AV → OR} {v : AV} {h' : HT} {n' : Pa} (hw : WRel K E w h n) (hx : Sc (Up n) x) (he : srcK m x h k = .ok v h' n') :
    ∃ news, k news = .ok v h' n' ∧ news.length = m ∧ ScL (Up n) news ∧ ((x = .sn ∧ m = 0) ∨ ∃ id off len cap, x = .sl id off len cap ∧ ∀ j u, (denL E news)[j]? = some u → w.cell? ((⟨E.blk id, off, none⟩ : Addr).add j) = some u) := by
  unfold srcK at he
  cases hs : asS x with
  | no => rw [hs] at he; cases he
  | sn =>
    rw [hs] at he
    simp only [ifB_eq] at he
    split at he
    · rename_i h0
      have h0 : m = 0 := Nat.eq_of_beq_eq_true h0
      exact ⟨[], he, by simp [h0], by simp [ScL], .inl ⟨asS_sn hs, h0⟩⟩
    · cases he
  | sl id off len cap =>
    rw [hs] at he
    obtain ⟨l, hl, hk⟩ := blkC_or he
    have hxe := asS_sl hs
    subst hxe
    have hid : Up n id := by simpa [Sc] using hx
    rw [cutK_eq] at hk
    split at hk
    · rename_i hle
      refine ⟨_, hk, by simp; omega, ScL_take _ (ScL_drop _ (hw.blk id _ hid.1 hl).2), .inr ⟨id, off, len, cap, rfl, fun j u hu => ?_⟩⟩
      rw [denL_eq, List.getElem?_map] at hu
      cases hj : ((l.drop off).take m)[j]? with
      | none => rw [hj] at hu; cases hu
      | some y =>
        rw [hj] at hu
        have := Option.some.inj hu; subst this
        rw [List.getElem?_take] at hj
        split at hj
        · rw [List.getElem?_drop] at hj
          rw [Addr.add_blk]
          exact (cell_of hw hid.1 hl hj).1
        · cases hj
    · cases hk

theorem run_append_zero {t ty e : Nat} {i : TypeInfo} (ht : P.underlying t = some (.slice e)) (hi : P.info? e = some i) {base : Option Addr} {len cap : Nat} (hle : len ≤ cap) {x : Value} (hx : (∃ a c, x = .slice a 0 c)) :
    (Builtin.append_ #[t, t] ty #[.slice base len cap, x]).run P w = .ok (.slice base len cap) w := by
  obtain ⟨a, c, rfl⟩ := hx
  have hf : (Builtin.firstCells i.size 0 (.slice a 0 c)).run P w = .ok #[] w := by
    cases a with
    | none => exact run_firstCells_none w _ _ _ _
    | some a => exact run_firstCells_some w i.size 0 a 0 c [] (by simp) (fun j v hv => by cases hv)
  cases base with
  | none => simp [Builtin.append_, run_underlying ht, sizeOf, typeInfo, hi, Builtin.lenOf, hle, hf]
  | some b => simp [Builtin.append_, run_underlying ht, sizeOf, typeInfo, hi, Builtin.lenOf, hle, hf, storeCells]

/-- a step that names one more block -/
theorem step_name {n' : Pa} {hx : HT} {k s : Nat} (hi : inc n = some n') (hos : w'.os = w.os) (ht : w'.tape = w.tape) (ho : w'.output = w.output) (hsz : w.heap.size ≤ w'.heap.size)
    (hkeep : ∀ i, i < w.heap.size → (∀ p, In h n p → E.blk p ≠ i) → w'.heap[i]? = w.heap[i]?) (hk : w.heap.size ≤ k ∨ ∃ q, In h n q ∧ E.blk q = k) (hin : ∀ p, In hx n p → p = n ∨ In h n p) : Step E w h n (E.put n k s) w' hx n' := by
  obtain ⟨hv, hl⟩ := inc_spec n n' hi
  refine ⟨hl, by omega, fun p hp hn => E.put_ne k s (fun e => by subst e; omega), hos, ht, ho, hsz, hkeep, fun p hp => ?_⟩
  by_cases e : p = n
  · subst e; rw [(E.put_eq p k s).1]; exact hk
  · rw [(E.put_ne k s e).1]
    exact .inr ⟨p, (hin p ⟨hp.1.trans hl, hp.2⟩).resolve_left e, rfl⟩

theorem fits_iff {m b : Nat} : fits m b = true ↔ m * b ≤ 140737488355328 ∧ m ≤ 9223372036854775807 := by
  unfold fits
  rw [ifB_eq]
  have e1 : (Nat.ble (Nat.mul m b) 140737488355328 = true) ↔ m * b ≤ 140737488355328 := by rw [Nat.ble_eq]; exact Iff.rfl
  have e2 : (Nat.ble m 9223372036854775807 = true) ↔ m ≤ 9223372036854775807 := by rw [Nat.ble_eq]
  split
  · rename_i h1
    rw [e2]
    exact ⟨fun h => ⟨e1.1 h1, h⟩, fun h => h.2⟩
  · rename_i h1
    exact ⟨fun h => by simp at h, fun h => absurd (e1.2 h.1) h1⟩

/-- where a slice has no room: a new row -/
theorem grow_new {e : Nat} {i : TypeInfo} {z : Value} (hzs : z.cells.size = i.size) (h1 : 1 ≤ i.size)
    {old new : List AV} {len m : Nat} {v : AV} {h' : HT} {n' : Pa} (hw : WRel K E w h n) (hold : ScL (Up n) old) (hnew : ScL (Up n) new) (hlo : old.length = len * i.size) (hln : new.length = m * i.size) (cap : Nat) (hcap : cap < len + m)
    (he : newK (old ++ new) (mkSl (len + m) i.size) h n = .ok v h' n') :
    ∃ E', den E' v = .slice (some ⟨w.heap.size, 0, none⟩) (len + m) (grownCap w (len + m) cap e) ∧ Sc (Up n') v ∧
      WRel K E' (w.drew.alloc (.cells ((denL E old).toArray ++ (denL E new).toArray ++ Builtin.zeroCells z.cells (grownCap w (len + m) cap e - (len + m))) e)) h' n' ∧
      Step E w h n E' (w.drew.alloc (.cells ((denL E old).toArray ++ (denL E new).toArray ++ Builtin.zeroCells z.cells (grownCap w (len + m) cap e - (len + m))) e)) h' n' := by
  have hge := grownCap_ge w (len + m) cap e
  have hsz : ((denL E old).toArray ++ (denL E new).toArray ++ Builtin.zeroCells z.cells (grownCap w (len + m) cap e - (len + m))).size = grownCap w (len + m) cap e * i.size := by
    simp only [Array.size_append, List.size_toArray, denL_length, size_zeroCells, hzs, hlo, hln, ← Nat.add_mul]
    congr 1; omega
  obtain ⟨rfl, hinc, hW, hS⟩ := new_sound (el := e) (arr := (denL E old).toArray ++ (denL E new).toArray ++ Builtin.zeroCells z.cells (grownCap w (len + m) cap e - (len + m)))
    (w' := w.drew.alloc (.cells ((denL E old).toArray ++ (denL E new).toArray ++ Builtin.zeroCells z.cells (grownCap w (len + m) cap e - (len + m))) e)) hw he (heap_alloc_new w.drew _) (fun b hb => heap_alloc_old w.drew _ b hb) rfl rfl rfl (by simp)
    (by rw [hsz, List.length_append, hlo, hln, ← Nat.add_mul]; exact Nat.mul_le_mul_right _ hge)
    (fun j u hu => by
      have hj : j < (old ++ new).length := (List.getElem?_eq_some_iff.1 hu).1
      rw [List.length_append] at hj
      rw [Array.getElem?_append_left (by simp [denL_length]; omega)]
      have : (denL E old).toArray ++ (denL E new).toArray = (denL E (old ++ new)).toArray := by rw [denL_append]; simp
      rw [this, denL_get, hu]; rfl) (ScL_app hold hnew)
  refine ⟨_, ?_, by simp only [mkSl, Sc]; exact up_self hinc, hW, hS⟩
  simp only [mkSl, den, (E.put_eq n _ _).1, (E.put_eq n _ _).2, hsz, Nat.sub_zero]
  rw [Nat.mul_div_cancel _ (by omega)]

theorem allOne_iff : ∀ (l : List AV), allOne l = true ↔ ∀ v ∈ l, oneC v = true
  | [] => by show true = true ↔ _; simp
  | x :: l => by
    show ifB (oneC x) (allOne l) false = true ↔ _
    rw [ifB_eq]
    by_cases hx : oneC x = true <;> simp [hx, allOne_iff l]
theorem growK_some {sz by_ : Nat} {old new : List AV} {m : Nat} {v : AV} {h' : HT} {n' : Pa} (he : growK sz by_ old new m h n = .ok v h' n') :
    m * by_ ≤ 140737488355328 ∧ m ≤ 9223372036854775807 ∧ newK (old ++ new) (mkSl m sz) h n = .ok v h' n' ∧ ∀ v ∈ new, oneC v = true := by
  unfold growK at he
  rw [ifB_eq] at he
  split at he
  · rename_i hf
    rw [ifB_eq] at he
    split at he
    · rename_i ho
      rw [appK_eq, forceN_eq] at he
      have := fits_iff.1 hf
      exact ⟨this.1, this.2, he, (allOne_iff _).1 ho⟩
    · cases he
  · cases he

/-- in a row's own room -/
theorem room_sound {t ty e : Nat} {i : TypeInfo} (ht : P.underlying t = some (.slice e)) (hi : P.info? e = some i) {id : Pa} {off len m cap : Nat} {c : Cap} {new cs : List AV} {v : AV} {h' : HT} {n' : Pa}
    (hw : WRel K E w h n) (hid : Up n id) (hb : h.get id = some (.c cs)) (hnew : ScL (Up n) new) (he : roomK i.size id off len m c new cs h n = .ok v h' n') (hroom : len + m ≤ cap)
    {x : Value} (hx : ∃ a c, x = .slice a m c) (hf : ∀ w : World, True → True) (hfc : (Builtin.firstCells i.size m x).run P w = .ok (denL E new).toArray w) :
    ∃ w', (Builtin.append_ #[t, t] ty #[.slice (some ⟨E.blk id, off, none⟩) len cap, x]).run P w = .ok (.slice (some ⟨E.blk id, off, none⟩) (len + m) cap) w' ∧ v = .sl id off (len + m) c ∧ n' = n ∧ WRel K E w' h' n ∧ Step E w h n E w' h' n := by
  unfold roomK at he
  simp only [forceN_eq] at he
  have he' : stC id (off + len * i.size) (.sl id off (len + m) c) new h n = .ok v h' n' := by unfold stC; rw [hb]; exact he
  obtain ⟨w', hst, rfl, rfl, hW, hS⟩ := stC_sound (P := P) hw hid hnew he'
  obtain ⟨a, c', rfl⟩ := hx
  refine ⟨w', ?_, rfl, rfl, hW, hS⟩
  simp [Builtin.append_, run_underlying ht, sizeOf, typeInfo, hi, Builtin.lenOf, hroom, hfc, Addr.add_blk, hst]

theorem srcFirst {sz m : Nat} {x : AV} {news : List AV} (hlen : news.length = m * sz) (hm : lenOf x = m) (hx : (x = .sn ∧ m * sz = 0) ∨ ∃ id off len cap, x = .sl id off len cap ∧ ∀ j u, (denL E news)[j]? = some u → w.cell? ((⟨E.blk id, off, none⟩ : Addr).add j) = some u) :
    (Builtin.firstCells sz m (den E x)).run P w = .ok (denL E news).toArray w ∧ ∃ a c, den E x = .slice a m c := by
  rcases hx with ⟨rfl, h0⟩ | ⟨id, off, len, cap, rfl, hc⟩
  · have : news = [] := List.eq_nil_of_length_eq_zero (by omega)
    subst this
    have hm0 : m = 0 := hm.symm
    subst hm0
    exact ⟨by simp only [den, denL]; exact run_firstCells_none w _ _ _ _, none, 0, rfl⟩
  · have hm' : len = m := hm
    subst hm'
    obtain ⟨k, hk⟩ : ∃ k, den E (.sl id off len cap) = .slice (some ⟨E.blk id, off, none⟩) len k := by cases cap <;> exact ⟨_, rfl⟩
    rw [hk]
    exact ⟨run_firstCells_some w _ _ _ _ _ (denL E news) (by rw [denL_length, hlen]) hc, _, _, rfl⟩

/-- append of nothing -/
theorem app0_sound {t ty e : Nat} {i : TypeInfo} (ht : P.underlying t = some (.slice e)) (hi : P.info? e = some i) (h1 : 1 ≤ i.size)
    {s v : AV} {X : Value} {h' : HT} {n' : Pa} (hw : WRel K E w h n) (hs : Sc (Up n) s) (hX : ∃ a c, X = .slice a 0 c) (hk : app0 i.size s h n = .ok v h' n') :
    ∃ E' w', (Builtin.append_ #[t, t] ty #[den E s, X]).run P w = .ok (den E' v) w' ∧ Sc (Up n') v ∧ WRel K E' w' h' n' ∧ Step E w h n E' w' h' n' := by
  obtain ⟨a, c', rfl⟩ := hX
  unfold app0 at hk
  cases hss : asS s with
  | no => rw [hss] at hk; cases hk
  | sn =>
    rw [hss] at hk
    cases hk
    rw [asS_sn hss]
    exact ⟨E, w, by simp only [den]; exact run_append_zero ht hi (Nat.le_refl _) ⟨a, c', rfl⟩, by simp [Sc], hw, Step.refl _ _ _ _⟩
  | sl id off len cap =>
    rw [hss] at hk
    have hse := asS_sl hss
    subst hse
    cases cap with
    | ex c =>
      simp only [ifB_eq] at hk
      split at hk
      · rename_i hle
        cases hk
        exact ⟨E, w, by simp only [den]; exact run_append_zero ht hi (Nat.le_of_ble_eq_true hle) ⟨a, c', rfl⟩, hs, hw, Step.refl _ _ _ _⟩
      · cases hk
    | re sz' =>
      obtain ⟨cs, hcs, hk⟩ := blkC_or hk
      simp only [ifB_eq] at hk
      split at hk
      · rename_i hsz
        have hsz : i.size = sz' := Nat.eq_of_beq_eq_true hsz
        subst hsz
        split at hk
        · rename_i hal
          cases hk
          have hal : off + len * i.size ≤ cs.length := (atLeast_iff _ _).1 hal
          have hid : Up n id := by simpa [Sc] using hs
          obtain ⟨⟨arr, el, k1, k2, k3, k4⟩, k5⟩ := hw.blk id _ hid.1 hcs
          have hcap : len ≤ (E.sz id - off) / i.size := (Nat.le_div_iff_mul_le (by omega)).2 (by omega)
          exact ⟨E, w, by simp only [den]; exact run_append_zero ht hi hcap ⟨a, c', rfl⟩, hs, hw, Step.refl _ _ _ _⟩
        · cases hk
      · cases hk

theorem app_sound0 {t ty e : Nat} {i : TypeInfo} {z : Value} (ht : P.underlying t = some (.slice e)) (hi : P.info? e = some i) (hz : i.zero = some z) (hzs : z.cells.size = i.size) (h1 : 1 ≤ i.size)
    {s x v : AV} {h' : HT} {n' : Pa} (hw : WRel K E w h n) (hs : Sc (Up n) s) (hx : Sc (Up n) x) (hnz : ∀ id off len cap m z l, s = .sl id off len cap → h.get id ≠ some (.cz m z l)) (he : appS i.size i.bytes s x h n = .ok v h' n') :
    ∃ E' w', (Builtin.append_ #[t, t] ty #[den E s, den E x]).run P w = .ok (den E' v) w' ∧ Sc (Up n') v ∧ WRel K E' w' h' n' ∧ Step E w h n E' w' h' n' := by
  unfold appS at he
  rw [ifB_eq] at he
  split at he
  case isFalse => cases he
  obtain ⟨news, hk, hnl, hns, hxc⟩ := srcK_sound hw hx he
  obtain ⟨hfc, a, c', hxd⟩ := srcFirst (P := P) (w := w) (E := E) hnl rfl hxc
  generalize hm : lenOf x = m at hk hnl hxc hfc hxd
  have hnl : news.length = m * i.size := hnl
  unfold appC at hk
  rw [ifB_eq] at hk
  split at hk
  · -- nothing
    rename_i h0
    have h0 : m = 0 := Nat.eq_of_beq_eq_true h0
    subst h0
    unfold app0 at hk
    cases hss : asS s with
    | no => rw [hss] at hk; cases hk
    | sn =>
      rw [hss] at hk
      cases hk
      rw [asS_sn hss]
      exact ⟨E, w, by simp only [den]; exact run_append_zero ht hi (Nat.le_refl _) ⟨a, c', hxd⟩, by simp [Sc], hw, Step.refl _ _ _ _⟩
    | sl id off len cap =>
      rw [hss] at hk
      have hse := asS_sl hss
      subst hse
      cases cap with
      | ex c =>
        simp only [ifB_eq] at hk
        split at hk
        · rename_i hle
          cases hk
          exact ⟨E, w, by simp only [den]; exact run_append_zero ht hi (Nat.le_of_ble_eq_true hle) ⟨a, c', hxd⟩, hs, hw, Step.refl _ _ _ _⟩
        · cases hk
      | re sz' =>
        obtain ⟨cs, hcs, hk⟩ := blkC_or hk
        simp only [ifB_eq] at hk
        split at hk
        · rename_i hsz
          have hsz : i.size = sz' := Nat.eq_of_beq_eq_true hsz
          subst hsz
          split at hk
          · rename_i hal
            cases hk
            have hal : off + len * i.size ≤ cs.length := (atLeast_iff _ _).1 hal
            have hid : Up n id := by simpa [Sc] using hs
            obtain ⟨⟨arr, el, k1, k2, k3, k4⟩, k5⟩ := hw.blk id _ hid.1 hcs
            have hcap : len ≤ (E.sz id - off) / i.size := (Nat.le_div_iff_mul_le (by omega)).2 (by omega)
            exact ⟨E, w, by simp only [den]; exact run_append_zero ht hi hcap ⟨a, c', hxd⟩, hs, hw, Step.refl _ _ _ _⟩
          · cases hk
        · cases hk
  · rename_i hm0
    have hm0 : m ≠ 0 := fun e => hm0 (by subst e; rfl)
    -- the source is a slice that is there
    obtain ⟨ix, ox, cx, hxe, hxcell⟩ : ∃ ix ox cx, den E x = .slice (some ⟨E.blk ix, ox, none⟩) m cx ∧ ∀ j u, (denL E news)[j]? = some u → w.cell? ((⟨E.blk ix, ox, none⟩ : Addr).add j) = some u := by
      rcases hxc with ⟨rfl, _⟩ | ⟨id, off, len, cap, rfl, hc⟩
      · exact absurd hm.symm hm0
      · have : len = m := hm
        subst this
        cases cap <;> exact ⟨_, _, _, rfl, hc⟩
    have hnl' : (denL E news).length = m * i.size := by rw [denL_length, hnl]
    cases hss : asS s with
    | no => rw [hss] at hk; cases hk
    | sn =>
      rw [hss] at hk
      obtain ⟨hb1, hb2, hnew, hone⟩ := growK_some hk
      have hse := asS_sn hss
      subst hse
      have hnew' : newK ([] ++ news) (mkSl (0 + m) i.size) h n = .ok v h' n' := by simpa using hnew
      obtain ⟨E', hd, hsv, hW, hS⟩ := grow_new (e := e) (z := z) hzs h1 hw (by simp [ScL]) hns (by simp) hnl 0 (by omega) hnew'
      refine ⟨E', _, ?_, hsv, hW, hS⟩
      simp only [Nat.zero_add] at hd
      rw [hd, hxe]
      simp only [den]
      rw [run_append_nil (P := P) w t ty e i z ht hi hz _ m _ (denL E news) hnl' hxcell (by omega) (by omega) (by omega)]
      simp [denL]
    | sl id off len cap =>
      rw [hss] at hk
      have hse := asS_sl hss
      subst hse
      have hid : Up n id := by simpa [Sc] using hs
      obtain ⟨cs, hcs, hu⟩ := (blkZ_or hk).resolve_right fun ⟨m, z, l, hz1, _⟩ => hnz _ _ _ _ m z l rfl hz1
      clear hk
      have hk := hu
      clear hu
      obtain ⟨⟨arr, el, k1, k2, k3, k4⟩, k5⟩ := hw.blk id _ hid.1 hcs
      -- growing, from a heap in which the old row may be gone
      have grow : ∀ (hx : HT) (cp : Nat), den E (.sl id off len cap) = .slice (some ⟨E.blk id, off, none⟩) len cp → cp < len + m → WRel K E w hx n → Step E w h n E w hx n → ∀ old, off + len * i.size ≤ cs.length → old = (cs.drop off).take (len * i.size) →
          growK i.size i.bytes old news (len + m) hx n = .ok v h' n' → ∃ E' w', (Builtin.append_ #[t, t] ty #[den E (.sl id off len cap), den E x]).run P w = .ok (den E' v) w' ∧ Sc (Up n') v ∧ WRel K E' w' h' n' ∧ Step E w h n E' w' h' n' := by
        intro hx cp hcp hlt hwx hstep old hle hold hg
        obtain ⟨hb1, hb2, hnew, hone⟩ := growK_some hg
        have hol : old.length = len * i.size := by rw [hold]; simp; omega
        have hosc : ScL (Up n) old := by rw [hold]; exact ScL_take _ (ScL_drop _ k5)
        obtain ⟨E', hd, hsv, hW, hS⟩ := grow_new (e := e) (z := z) hzs h1 hwx hosc hns hol hnl cp hlt hnew
        have hoc : ∀ j u, (denL E old)[j]? = some u → w.cell? ((⟨E.blk id, off, none⟩ : Addr).add j) = some u := by
          intro j u hu
          rw [denL_eq, List.getElem?_map] at hu
          cases hj : old[j]? with
          | none => rw [hj] at hu; cases hu
          | some y =>
            rw [hj] at hu
            have := Option.some.inj hu; subst this
            rw [hold, List.getElem?_take] at hj
            split at hj
            · rw [List.getElem?_drop] at hj
              rw [Addr.add_blk]
              exact (cell_of hw hid.1 hcs hj).1
            · cases hj
        refine ⟨E', _, ?_, hsv, hW, hstep.trans hS⟩
        rw [hd, hxe, hcp, run_append_grow (P := P) w t ty e i z ht hi hz _ len cp (denL E old) (by rw [denL_length, hol]) hoc _ m _ (denL E news) hnl' hxcell hlt (by omega) (growslice_fits hlt hb1)]
      have room : ∀ cp c, den E (.sl id off len cap) = .slice (some ⟨E.blk id, off, none⟩) len cp → len + m ≤ cp → den E (.sl id off (len + m) c) = .slice (some ⟨E.blk id, off, none⟩) (len + m) cp → roomK i.size id off len m c news cs h n = .ok v h' n' →
          ∃ E' w', (Builtin.append_ #[t, t] ty #[den E (.sl id off len cap), den E x]).run P w = .ok (den E' v) w' ∧ Sc (Up n') v ∧ WRel K E' w' h' n' ∧ Step E w h n E' w' h' n' := by
        intro cp c hcp hle hcp' hr
        obtain ⟨w', hrun, rfl, rfl, hW, hS⟩ := room_sound (P := P) (ty := ty) (cap := cp) ht hi hw hid hcs hns hr hle ⟨_, _, hxd⟩ (fun _ _ => trivial) hfc
        exact ⟨E, w', by rw [hcp, hrun, hcp'], by simpa [Sc] using hid, hW, hS⟩
      cases cap with
      | ex c =>
        change appX i.size i.bytes news m id off len c cs h n = _ at hk
        unfold appX at hk
        rw [ifB_eq] at hk
        split at hk
        · rename_i hle
          have hle : len + m ≤ c := Nat.le_of_ble_eq_true hle
          exact room c (.ex c) rfl hle rfl hk
        · rename_i hle
          have hle : ¬ len + m ≤ c := fun e => hle (by rw [Nat.ble_eq]; exact e)
          rw [cutK_eq] at hk
          split at hk
          · rename_i hoff
            exact grow h c rfl (by omega) hw (Step.refl _ _ _ _) _ hoff rfl hk
          · cases hk
      | re sz' =>
        change appR i.size i.bytes news m id off len sz' cs h n = _ at hk
        unfold appR at hk
        rw [ifB_eq] at hk
        split at hk
        case isFalse => cases hk
        rename_i hsz
        have hsz : i.size = sz' := Nat.eq_of_beq_eq_true hsz
        subst hsz
        rw [ifB_eq] at hk
        split at hk
        · rename_i hle
          have hle : off + (len + m) * i.size ≤ lenA cs := Nat.le_of_ble_eq_true hle
          rw [lenA_eq] at hle
          have hcap : len + m ≤ (E.sz id - off) / i.size := (Nat.le_div_iff_mul_le (by omega)).2 (by omega)
          exact room ((E.sz id - off) / i.size) (.re i.size) rfl hcap rfl hk
        · rename_i hle
          have hle : ¬ off + (len + m) * i.size ≤ cs.length := fun e => hle (by rw [Nat.ble_eq, lenA_eq]; exact e)
          rw [ifB_eq] at hk
          split at hk
          case isFalse => cases hk
          rename_i ho
          have ho : off = 0 := Nat.eq_of_beq_eq_true ho
          subst ho
          rw [T.setK_eq] at hk
          rw [cutK_eq] at hk
          split at hk
          case isFalse => cases hk
          rename_i hoff
          have hin : In h n id := ⟨hid.1, by rw [hcs]; simp⟩
          by_cases hcap : len + m ≤ (E.sz id - 0) / i.size
          · -- in place after all
            have hfit : (len + m) * i.size ≤ E.sz id := by
              have := (Nat.le_div_iff_mul_le (by omega : 0 < i.size)).1 hcap
              omega
            obtain ⟨hb1, hb2, hnew, hone⟩ := growK_some hk
            unfold newK at hnew
            rw [incK_eq] at hnew
            cases hinc : inc n with
            | none => rw [hinc] at hnew; cases hnew
            | some nn =>
              rw [hinc] at hnew
              simp only [T.setK_eq] at hnew
              cases hnew
              have hone' : ∀ u ∈ denL E news, u.oneCell' = true := by
                intro u hu
                rw [denL_eq, List.mem_map] at hu
                obtain ⟨x, hx, rfl⟩ := hu
                exact oneC_cell (hone x hx)
              have hmul : (len + m) * i.size = len * i.size + m * i.size := Nat.add_mul _ _ _
              have hol : ((cs.drop 0).take (len * i.size)).length = len * i.size := by
                have : len * i.size ≤ cs.length := by simpa using hoff
                simp; omega
              have hst := run_storeCells_at P (E.blk id) (len * i.size) el (denL E news) 0 arr w k1 (by rw [denL_length, hnl]; omega) hone'
              rw [Nat.add_zero, denL_length, hnl] at hst
              have hrun : (Builtin.append_ #[t, t] ty #[den E (.sl id 0 len (.re i.size)), den E x]).run P w = .ok (.slice (some ⟨E.blk id, 0, none⟩) (len + m) ((E.sz id - 0) / i.size))
                  (w.setRow (E.blk id) (arr.toList.take (len * i.size) ++ denL E news ++ arr.toList.drop (len * i.size + m * i.size)).toArray) := by
                rw [hxe] at hfc ⊢
                simp only [den]
                simp only [Nat.sub_zero] at hcap ⊢
                simp [Builtin.append_, run_underlying ht, sizeOf, typeInfo, hi, Builtin.lenOf, hcap, hfc, Addr.add_blk, hst]
              have hne : ∀ p, In (T.set .e id h) n p → E.blk p ≠ E.blk id := fun p hp e => by
                rcases In.set hid.1 hp with rfl | hp'
                · exact absurd (T.get_del_same p h) hp.2
                · have := hw.inj p id hp' hin e
                  subst this
                  exact absurd (T.get_del_same p h) hp.2
              have hw1 : WRel K E (w.setRow (E.blk id) (arr.toList.take (len * i.size) ++ denL E news ++ arr.toList.drop (len * i.size + m * i.size)).toArray) (T.set .e id h) n :=
                (hw.del hid.1).frame (fun p hp => setRow_other w _ _ _ (hne p hp)) (fun hh => setRow_other w _ _ _ fun e => (hw.arg hh).2 id hin e.symm)
              have hsc : ScL (Up n) ((cs.drop 0).take (len * i.size) ++ news) := ScL_app (ScL_take _ (ScL_drop _ k5)) hns
              refine ⟨E.put n (E.blk id) (E.sz id), _, ?_, by simp only [mkSl, Sc]; exact up_self hinc, hw1.adopt hinc hne ?_ (ScL.mono (fun p hp => up_inc hinc hp) _ hsc) (fun hh => (hw.arg hh).2 id hin), ?_⟩
              · rw [hrun]; simp [mkSl, den, (E.put_eq n _ _).1, (E.put_eq n _ _).2]
              · refine ⟨(arr.toList.take (len * i.size) ++ denL E news ++ arr.toList.drop (len * i.size + m * i.size)).toArray, el, ?_, ?_, ?_, ?_⟩
                · rw [(E.put_eq n _ _).1]; exact setRow_heap w _ _ _ _ _ k1
                · rw [(E.put_eq n _ _).2, ← k2]
                  simp [denL_length, hnl]; omega
                · simp [denL_length, hnl] at hol ⊢
                  omega
                · intro j u hu
                  simp only [Nat.mul_eq] at hu
                  have hlay : (arr.toList.take (len * i.size) ++ denL E news ++ arr.toList.drop (len * i.size + m * i.size))[j]? = some (den E u) := by
                    have hj : j < ((cs.drop 0).take (len * i.size) ++ news).length := (List.getElem?_eq_some_iff.1 hu).1
                    rw [List.length_append, hol] at hj
                    have hl1 : (arr.toList.take (len * i.size)).length = len * i.size := by rw [List.length_take, Array.length_toList]; omega
                    rw [List.getElem?_append_left (by rw [List.length_append, hl1, denL_length]; omega)]
                    by_cases hj1 : j < len * i.size
                    · rw [List.getElem?_append_left (by omega)] at hu
                      rw [List.getElem?_append_left (by omega), List.getElem?_take, if_pos hj1]
                      rw [List.getElem?_take, if_pos hj1, List.getElem?_drop, Nat.zero_add] at hu
                      simpa using k4 j u hu
                    · rw [List.getElem?_append_right (by omega), hol] at hu
                      rw [List.getElem?_append_right (by omega), hl1, denL_eq, List.getElem?_map, hu]
                      rfl
                  rw [den_congr (S := Up n) (fun q hq => E.put_ne _ _ hq.ne) u (ScL_get hsc hu)]
                  simpa using hlay
              · refine step_name hinc rfl rfl rfl (by simp) (fun j hj hno => setRow_other w _ _ _ (fun e => hno id hin e.symm)) (.inr ⟨id, hin, rfl⟩) fun p hp => ?_
                rcases In.set rfl hp with rfl | hp'
                · exact .inl rfl
                · refine .inr ?_
                  rcases In.set hid.1 hp' with rfl | hp''
                  · exact hin
                  · exact hp''
          · have hcap : (E.sz id - 0) / i.size < len + m := by omega
            exact grow _ _ rfl hcap (hw.del hid.1) (Step.del hid.1) _ (by simpa using hoff) (by simp) hk
/-- a compact row grows -/
theorem growZ_out {by_ mz : Nat} {z : AV} {l new cs : List AV} {m : Nat} {v : AV} {h' hx : HT} {n' : Pa} (hcs : cs = List.replicate mz z ++ l) (hq : HEq2 n h hx) (he : growZ by_ mz z l new m h n = .ok v h' n') : ∃ hx', growK 1 by_ cs new m hx n = .ok v hx' n' ∧ HEq2 n' hx' h' := by
  unfold growZ at he
  unfold growK
  rw [ifB_eq] at he ⊢
  split at he
  · rename_i hf
    rw [if_pos hf]
    rw [ifB_eq] at he ⊢
    split at he
    · rename_i ho
      rw [if_pos ho]
      rw [appK_eq, forceN_eq, incK_eq] at he
      rw [appK_eq, forceN_eq]
      unfold newK
      rw [incK_eq]
      cases hi : inc n with
      | none => rw [hi] at he; cases he
      | some k =>
        rw [hi] at he
        simp only [T.setK_eq] at he ⊢
        cases he
        obtain ⟨hv, hln⟩ := inc_spec n _ hi
        exact ⟨_, rfl, HEq2.set (hq.symm.len hln) hln.symm (by simp [xpB, hcs])⟩
    · cases he
  · cases he
theorem app_sound {t ty e : Nat} {i : TypeInfo} {z : Value} (ht : P.underlying t = some (.slice e)) (hi : P.info? e = some i) (hz : i.zero = some z) (hzs : z.cells.size = i.size) (h1 : 1 ≤ i.size)
    {s x v : AV} {h' : HT} {n' : Pa} (hw : WRel K E w h n) (hs : Sc (Up n) s) (hx : Sc (Up n) x) (he : appS i.size i.bytes s x h n = .ok v h' n') :
    ∃ E' w', (Builtin.append_ #[t, t] ty #[den E s, den E x]).run P w = .ok (den E' v) w' ∧ Sc (Up n') v ∧ WRel K E' w' h' n' ∧ Step E w h n E' w' h' n' := by
  by_cases hc : ∃ id off len cap m z l, s = .sl id off len cap ∧ h.get id = some (.cz m z l)
  rotate_left
  · exact app_sound0 ht hi hz hzs h1 hw hs hx (fun id off len cap m z l e1 e2 => hc ⟨id, off, len, cap, m, z, l, e1, e2⟩) he
  · obtain ⟨id, off, len, cap, mz, zz, l, rfl, hb⟩ := hc
    have hid : Up n id := by simpa [Sc] using hs
    have e1 := heq_out hb hid.1
    -- the same in the heap where the row is written out
    have key : ∃ hx', appS i.size i.bytes (.sl id off len cap) x (T.set (.v (.c (List.replicate mz zz ++ l))) id h) n = .ok v hx' n' ∧ HEq2 n' hx' h' := by
      unfold appS at he ⊢
      rw [ifB_eq] at he ⊢
      split at he
      case isFalse => cases he
      rename_i hsl
      rw [if_pos hsl]
      -- the source
      obtain ⟨news, hk, hsrc⟩ : ∃ news, appC i.size i.bytes (.sl id off len cap) (lenOf x) h n news = .ok v h' n' ∧ ∀ k : List AV → OR, srcK (Nat.mul (lenOf x) i.size) x (T.set (.v (.c (List.replicate mz zz ++ l))) id h) k = k news := by
        unfold srcK at he
        cases hss : asS x with
        | no => rw [hss] at he; cases he
        | sn =>
          rw [hss] at he
          simp only [ifB_eq] at he
          split at he
          · rename_i h0
            exact ⟨[], he, fun k => by unfold srcK; rw [hss]; simp only [ifB_eq]; rw [if_pos h0]⟩
          · cases he
        | sl idx offx lenx capx =>
          rw [hss] at he
          obtain ⟨cx, hcx, hkx⟩ := blkC_or he
          rw [cutK_eq] at hkx
          split at hkx
          · rename_i hle
            refine ⟨_, hkx, fun k => ?_⟩
            have hxe := asS_sl hss
            subst hxe
            have hidx : Up n idx := by simpa [Sc] using hx
            have hne : id ≠ idx := fun e => by subst e; rw [hb] at hcx; cases hcx
            unfold srcK
            rw [hss]
            simp only
            rw [T.get_set_ne _ _ _ _ (hid.1.trans hidx.1.symm) hne, hcx]
            show cutK _ _ _ cx k = _
            rw [cutK_eq, if_pos hle]
          · cases hkx
      rw [hsrc]
      unfold appC at hk ⊢
      rw [ifB_eq] at hk ⊢
      split at hk
      · -- nothing
        rename_i h0
        rw [if_pos h0]
        unfold app0 at hk ⊢
        cases cap with
        | ex c =>
          have hk' : ifB (Nat.ble len c) (OR.ok (.sl id off len (.ex c)) h n) (.no 27) = .ok v h' n' := hk
          rw [ifB_eq] at hk'
          split at hk'
          · rename_i hle
            cases hk'
            refine ⟨_, ?_, e1.symm⟩
            show ifB (Nat.ble len c) (OR.ok (.sl id off len (.ex c)) _ n) (.no 27) = _
            rw [ifB_eq, if_pos hle]
          · cases hk'
        | re sz' =>
          exfalso
          have hk' : blkC (OR.no 28) (fun cs => ifB (Nat.beq i.size sz') (ifB (atLeast (Nat.add off (Nat.mul len i.size)) cs) (OR.ok (.sl id off len (.re sz')) h n) (.no 29)) (.no 29)) (h.get id) = .ok v h' n' := hk
          obtain ⟨cs, hcs, _⟩ := blkC_or hk'
          rw [hb] at hcs; cases hcs
      · rename_i hm0
        rw [if_neg hm0]
        have hk' : blkZ (OR.no 20) (fun cs => @Cap.rec (fun _ => OR) (fun c => appX i.size i.bytes news (lenOf x) id off len c cs h n) (fun sz' => appR i.size i.bytes news (lenOf x) id off len sz' cs h n) cap) (appZ i.size i.bytes news (lenOf x) id off len cap h n) (h.get id) = .ok v h' n' := hk
        show ∃ hx', blkZ (OR.no 20) (fun cs => @Cap.rec (fun _ => OR) (fun c => appX i.size i.bytes news (lenOf x) id off len c cs (T.set (.v (.c (List.replicate mz zz ++ l))) id h) n) (fun sz' => appR i.size i.bytes news (lenOf x) id off len sz' cs (T.set (.v (.c (List.replicate mz zz ++ l))) id h) n) cap) (appZ i.size i.bytes news (lenOf x) id off len cap (T.set (.v (.c (List.replicate mz zz ++ l))) id h) n) (T.get id (T.set (.v (.c (List.replicate mz zz ++ l))) id h)) = .ok v hx' n' ∧ HEq2 n' hx' h'
        rw [hb] at hk'
        rw [T.get_set_same]
        change appZ i.size i.bytes news (lenOf x) id off len cap h n mz zz l = .ok v h' n' at hk'
        unfold appZ at hk'
        simp only [ifB_eq] at hk'
        split at hk'
        case isFalse => cases hk'
        rename_i hs1
        have hs1 : i.size = 1 := Nat.eq_of_beq_eq_true hs1
        split at hk'
        case isFalse => cases hk'
        rename_i ho
        have ho : off = 0 := Nat.eq_of_beq_eq_true ho
        subst ho
        split at hk'
        case isFalse => cases hk'
        rename_i hln
        have hln : len = mz + lenA l := Nat.eq_of_beq_eq_true hln
        rw [lenA_eq] at hln
        have hm0' : 1 ≤ lenOf x := Nat.one_le_iff_ne_zero.2 fun e => hm0 (by rw [e]; rfl)
        have hcl : (List.replicate mz zz ++ l).length = len := by simp [hln]
        have htk : ((List.replicate mz zz ++ l).drop 0).take (len * 1) = List.replicate mz zz ++ l := by rw [List.drop_zero, Nat.mul_one, ← hcl, List.take_length]
        rw [hs1]
        cases cap with
        | ex c =>
          simp only [ifB_eq] at hk'
          split at hk'
          case isTrue => cases hk'
          rename_i hle
          obtain ⟨hx', q1, q2⟩ := growZ_out rfl e1 hk'
          refine ⟨hx', ?_, q2⟩
          show appX 1 i.bytes news (lenOf x) id 0 len c (List.replicate mz zz ++ l) _ n = _
          unfold appX
          rw [ifB_eq, if_neg hle, cutK_eq, if_pos (by rw [hcl]; simp)]
          simp only [Nat.mul_eq]
          rw [htk]; exact q1
        | re sz' =>
          simp only [ifB_eq] at hk'
          split at hk'
          case isFalse => cases hk'
          rename_i hsz
          have hsz : sz' = 1 := Nat.eq_of_beq_eq_true hsz
          subst hsz
          rw [T.setK_eq] at hk'
          obtain ⟨hx', q1, q2⟩ := growZ_out rfl (e1.del (q := id) hid.1) hk'
          refine ⟨hx', ?_, q2⟩
          show appR 1 i.bytes news (lenOf x) id 0 len 1 (List.replicate mz zz ++ l) _ n = _
          unfold appR
          have hn : ¬ (Nat.ble (Nat.add 0 (Nat.mul (Nat.add len (lenOf x)) 1)) (lenA (List.replicate mz zz ++ l)) = true) := by
            rw [lenA_eq, hcl, Nat.ble_eq]; simp; omega
          rw [ifB_eq, if_pos (show Nat.beq 1 1 = true from rfl), ifB_eq, if_neg hn, ifB_eq, if_pos (show Nat.beq 0 0 = true from rfl), T.setK_eq, cutK_eq, if_pos (by rw [hcl]; simp)]
          simp only [Nat.mul_eq]
          rw [htk]; exact q1
    obtain ⟨hx', q1, q2⟩ := key
    obtain ⟨E', w', q3, q4, q5, q6⟩ := app_sound0 ht hi hz hzs h1 (hw.heq e1) hs hx (fun id' off' len' cap' m' z' l' e e' => by cases e; rw [T.get_set_same] at e'; cases e') q1
    exact ⟨E', w', q3, q4, q5.heq q2, q6.heq e1.symm q2⟩
end Go.X

namespace Go.X
variable [Sym]
variable {P : Program} {K : Loop → List Nat → List U → Code → Code → Prop} {E : Env} {w w' : World} {h : HT} {n : Pa}

/-- a function that has code -/
def FnEn (P : Program) (fid : Nat) : Prop := ∃ (fn : Go.Func) (c : Go.Code), P.funcs[fid]? = some fn ∧ fn.body = some c ∧ (fn.name == "runtime.NumGoroutine") = false
theorem FnEn.callFunc {fid : Nat} (hF : FnEn P fid) (args : Array Value) (w : World) : (callFunc fid args).run P w = .ok (.enter fid args) w := by
  obtain ⟨fn, c, h1, h2, h3⟩ := hF
  have hne : fn.name ≠ "runtime.NumGoroutine" := by simpa using h3
  simp [Go.callFunc, h1, hne, h2, Result.andThen]
theorem FnEn.invoke {fid : Nat} (hF : FnEn P fid) (args cap : Array Value) (w : World) : (invoke (.fn (.func fid) cap) args).run P w = .ok (.enter fid (args ++ cap)) w := by
  simp only [Go.invoke]
  exact hF.callFunc _ w

/-- the world, but for new blocks and draws -/
structure Same (w w' : World) : Prop where
  old : ∀ b, b < w.heap.size → w'.heap[b]? = w.heap[b]?
  size : w.heap.size ≤ w'.heap.size
  os : w'.os = w.os
  tape : w'.tape = w.tape
  output : w'.output = w.output
/-- what a function tells, whatever the world is -/
def SpOk (P : Program) (fid : Nat) (sp : List AV → Option AV) : Prop := ∀ (inst : Sym) (as : List AV) (v : AV), sp as = some v → (∀ S, @ScL inst S as → @Sc inst S v) ∧
  ∀ (E : Env) (w : World), Calls P fid (@denL inst E as).toArray w fun e w' => e = .returned (@den inst E v) ∧ Same w w'
omit [Sym] in
theorem spNo_ok {P : Program} {fid : Nat} : SpOk P fid spNo := fun _ _ _ h => by cases h
theorem Same.rel {K : Loop → List Nat → List U → Code → Code → Prop} {E : Env} {w w' : World} {h : HT} {n : Pa} (s : Same w w') (hw : WRel K E w h n) : WRel K E w' h n ∧ Step E w h n E w' h n := by
  have hin : ∀ p, In h n p → E.blk p < w.heap.size := fun p hp => by
    cases hb : h.get p with
    | none => exact absurd hb hp.2
    | some b => exact (hw.blk p b hp.1 hb).1.there
  exact ⟨hw.frame (fun p hp => s.old _ (hin p hp)) (fun hh => s.old _ (hw.arg_lt hh)), ⟨rfl, Nat.le_refl _, fun _ _ _ => ⟨rfl, rfl⟩, s.os, s.tape, s.output, s.size, fun b hb _ => s.old b hb, fun p hp => .inr ⟨p, hp, rfl⟩⟩⟩

/-- slices.Insert of one int: in place, or in a new row -/
structure InsOk (P : Program) (fid : Nat) : Prop where
  en : FnEn P fid
  run : ∀ (b vb voff vc m i : Nat) (cs : List Value) (x : Value) (w : World) (arr arrv : Array Value) (el elv : TypeId), i < m → m ≤ 1000 → m ≤ arr.size → vb ≠ b → cs.length = m →
    w.heap[b]? = some (.cells arr el (0, 0)) → w.heap[vb]? = some (.cells arrv elv (0, 0)) → (∀ (j : Nat) (v : Value), cs[j]? = some v → arr[j]? = some v) → arrv[voff]? = some x →
    (∀ v ∈ cs, v.oneCell' = true) → x.oneCell' = true →
    Calls P fid #[.slice (some ⟨b, 0, none⟩) m arr.size, .int .i64 (i : Int), .slice (some ⟨vb, voff, none⟩) 1 vc] w fun e w' =>
      ∃ (b' : Nat) (arr' : Array Value) (el' : TypeId), e = .returned (.slice (some ⟨b', 0, none⟩) (m + 1) arr'.size) ∧ w'.heap[b']? = some (.cells arr' el' (0, 0)) ∧ m + 1 ≤ arr'.size ∧
        (∀ (j : Nat) (v : Value), (cs.take i ++ x :: cs.drop i)[j]? = some v → arr'[j]? = some v) ∧ (b' = b ∨ b' = w.heap.size) ∧ (∀ k, k < w.heap.size → k ≠ b → w'.heap[k]? = w.heap[k]?) ∧
        w.heap.size ≤ w'.heap.size ∧ w'.os = w.os ∧ w'.tape = w.tape ∧ w'.output = w.output

theorem insAt_eq {β : Type} (no : β) (v : AV) : ∀ (i : Nat) (l : List AV) (k : List AV → β), insAt no v i l k = if i ≤ l.length then k (l.take i ++ v :: l.drop i) else no
  | 0, l, k => by show k (v :: l) = _; simp
  | i + 1, [], k => by show no = _; simp
  | i + 1, x :: l, k => by
    show insAt no v i l (fun l => k (x :: l)) = _
    rw [insAt_eq no v i l]
    simp

theorem ins_sound {fid : Nat} (hI : InsOk P fid) {as : List AV} {v : AV} {h' : HT} {n' : Pa} (hw : WRel K E w h n) (hs : ScL (Up n) as) (he : insR as h n = .ok v h' n') :
    Calls P fid (denL E as).toArray w fun e w' => ∃ E', e = .returned (den E' v) ∧ WRel K E' w' h' n' ∧ Step E w h n E' w' h' n' ∧ Sc (Up n') v := by
  match as, hs, he with
  | [s, iv, u], hs, he =>
    have he1 : insV iv u s h n = .ok v h' n' := he
    clear he
    unfold insV at he1
    cases hss : asS s with
    | no => rw [hss] at he1; cases he1
    | sn => rw [hss] at he1; cases he1
    | sl id off len cap =>
      rw [hss] at he1
      have hse := asS_sl hss
      subst hse
      cases cap with
      | ex c => cases he1
      | re sz =>
        simp only [ifB_eq] at he1
        split at he1
        case isFalse => cases he1
        rename_i hsz
        have hsz : sz = 1 := Nat.eq_of_beq_eq_true hsz
        subst hsz
        split at he1
        case isFalse => cases he1
        rename_i hoff
        have hoff : off = 0 := Nat.eq_of_beq_eq_true hoff
        subst hoff
        obtain ⟨cs, hcs, he2⟩ := blkC_or he1
        clear he1
        unfold insS at he2
        cases hi : asNat iv with
        | none => rw [hi] at he2; cases he2
        | some i =>
          rw [hi] at he2
          simp only [T.setK_eq, ifB_eq] at he2
          split at he2
          case isFalse => cases he2
          rename_i hlu
          have hlu : lenOf u = 1 := Nat.eq_of_beq_eq_true hlu
          obtain ⟨hsid, hsi, hsu, _⟩ := hs
          have hid : Up n id := by simpa [Sc] using hsid
          have hin : In h n id := ⟨hid.1, by rw [hcs]; simp⟩
          unfold srcK at he2
          cases hus : asS u with
          | no => rw [hus] at he2; cases he2
          | sn => have hue := asS_sn hus; subst hue; exact absurd hlu (by decide)
          | sl idu offu lenu capu =>
            rw [hus] at he2
            have hue := asS_sl hus
            subst hue
            have hlu : lenu = 1 := hlu
            subst hlu
            obtain ⟨cu, hcu, he3⟩ := blkC_or he2
            clear he2
            rw [cutK_eq] at he3
            split at he3
            case isFalse => cases he3
            rename_i hfu
            have hidu : Up n idu := by simpa [Sc] using hsu
            have hdel := hw.del (q := id) hid.1
            have hinu : In (T.set .e id h) n idu := ⟨hidu.1, by rw [hcu]; simp⟩
            have hne : ∀ p, In (T.set .e id h) n p → In h n p ∧ E.blk p ≠ E.blk id := fun p hp => by
              rcases In.set hid.1 hp with rfl | hp'
              · exact absurd (T.get_del_same p h) hp.2
              · exact ⟨hp', fun e => by
                  have := hw.inj p id hp' hin e
                  subst this
                  exact absurd (T.get_del_same p h) hp.2⟩
            obtain ⟨⟨arrv, elv, u1, u2, u3, u4⟩, u5⟩ := hdel.blk idu _ hidu.1 hcu
            obtain ⟨⟨arr, el, k1, k2, k3, k4⟩, k5⟩ := hw.blk id _ hid.1 hcs
            -- the one new cell
            obtain ⟨x, hx⟩ : ∃ x, cu[offu]? = some x := ⟨_, List.getElem?_eq_getElem (by omega)⟩
            have hnew : (cu.drop offu).take 1 = [x] := by
              rw [List.take_one, List.head?_drop, hx]; rfl
            rw [hnew] at he3
            unfold insC at he3
            simp only [ifB_eq] at he3
            split at he3
            case isFalse => cases he3
            rename_i hilt
            have hilt : i < len := Nat.le_of_ble_eq_true hilt
            split at he3
            case isFalse => cases he3
            rename_i hl1
            have hl1 : len ≤ 1000 := Nat.le_of_ble_eq_true hl1
            rw [cutK_eq] at he3
            split at he3
            case isFalse => cases he3
            rename_i hlc
            have hlc : len ≤ cs.length := by simpa using hlc
            split at he3
            case isFalse => cases he3
            rename_i ho1
            have ho1 := (allOne_iff _).1 ho1
            split at he3
            case isFalse => cases he3
            rename_i ho2
            have ho2 := (allOne_iff _).1 ho2 x (by simp)
            rw [insAt_eq] at he3
            split at he3
            case isFalse => cases he3
            rename_i hil
            rw [forceN_eq] at he3
            simp only [List.drop_zero] at he3 hil ho1
            have hol : (cs.take len).length = len := by rw [List.length_take]; omega
            rw [hol] at hil
            have hiv : iv = .i .i64 (i : Int) := asNat_some hi
            subst hiv
            -- the new name
            unfold newK at he3
            rw [incK_eq] at he3
            cases hinc : inc n with
            | none => rw [hinc] at he3; cases he3
            | some nn =>
              rw [hinc] at he3
              simp only [T.setK_eq] at he3
              cases he3
              have hsc : ScL (Up n) ((cs.take len).take i ++ hd [x] :: (cs.take len).drop i) :=
                ScL_app (ScL_take _ (ScL_take _ k5)) ⟨ScL_get u5 hx, ScL_drop _ (ScL_take _ k5)⟩
              have hargs : (denL E [.sl id 0 len (.re 1), .i .i64 (i : Int), .sl idu offu 1 capu]).toArray = #[.slice (some ⟨E.blk id, 0, none⟩) len arr.size, .int .i64 (i : Int), .slice (some ⟨E.blk idu, offu, none⟩) 1 (match capu with | .ex c => c | .re s => (E.sz idu - offu) / s)] := by
                cases capu <;> simp [denL, den, k2]
              rw [hargs]
              refine (hI.run (E.blk id) (E.blk idu) offu _ len i (denL E (cs.take len)) (den E x) w arr arrv el elv hilt hl1 (by omega) (hne idu hinu).2 (by rw [denL_length, hol]) k1 u1 ?_ (u4 _ _ hx) ?_ (oneC_cell ho2)).mono ?_
              · intro j y hy
                rw [denL_eq, List.getElem?_map] at hy
                cases hj : (cs.take len)[j]? with
                | none => rw [hj] at hy; cases hy
                | some z =>
                  rw [hj] at hy
                  have := Option.some.inj hy; subst this
                  rw [List.getElem?_take] at hj
                  split at hj
                  · exact k4 j z hj
                  · cases hj
              · intro y hy
                rw [denL_eq, List.mem_map] at hy
                obtain ⟨z, hz, rfl⟩ := hy
                exact oneC_cell (ho1 z hz)
              · rintro e w' ⟨b', arr', el', rfl, q1, q2, q3, q4, q5, q6, q7, q8, q9⟩
                have hthere : ∀ p, In (T.set .e id h) n p → E.blk p < w.heap.size := fun p hp => by
                  cases hb : h.get p with
                  | none => exact absurd hb (hne p hp).1.2
                  | some b => exact (hw.blk p b hp.1 hb).1.there
                have hw1 : WRel K E w' (T.set .e id h) n := hdel.frame (fun p hp => q5 _ (hthere p hp) (hne p hp).2) (fun hh => q5 _ (hw.arg_lt hh) fun e => (hw.arg hh).2 id hin e.symm)
                have hnb : ∀ p, In (T.set .e id h) n p → E.blk p ≠ b' := fun p hp => by
                  rcases q4 with rfl | rfl
                  · exact (hne p hp).2
                  · have := hthere p hp; omega
                have hnar : Sym.has → b' ≠ Sym.ab := fun hh => by
                  rcases q4 with rfl | rfl
                  · exact (hw.arg hh).2 id hin
                  · have := hw.arg_lt hh; omega
                refine ⟨E.put n b' arr'.size, ?_, hw1.adopt hinc hnb ⟨arr', el', by rw [(E.put_eq n _ _).1]; exact q1, (E.put_eq n _ _).2.symm, ?_, ?_⟩ (ScL.mono (fun p hp => up_inc hinc hp) _ hsc) hnar, ?_, by simp only [mkSl, Sc]; exact up_self hinc⟩
                · simp [mkSl, den, (E.put_eq n _ _).1, (E.put_eq n _ _).2]
                · rw [List.length_append, List.length_cons, List.length_take, List.length_drop, hol]; omega
                · intro j y hy
                  rw [den_congr (S := Up n) (fun q hq => E.put_ne _ _ hq.ne) y (ScL_get hsc hy)]
                  refine q3 j _ ?_
                  have e1 : (denL E (cs.take len)).take i ++ den E x :: (denL E (cs.take len)).drop i = ((cs.take len).take i ++ x :: (cs.take len).drop i).map (den E) := by
                    rw [denL_eq]; simp [List.map_take, List.map_drop]
                  rw [e1, List.getElem?_map]
                  have hy' : ((cs.take len).take i ++ x :: (cs.take len).drop i)[j]? = some y := hy
                  rw [hy']; rfl
                · refine step_name hinc q7 q8 q9 q6 (fun j hj hno => q5 j hj fun e => hno id hin e.symm) (by
                    rcases q4 with rfl | rfl
                    · exact .inr ⟨id, hin, rfl⟩
                    · exact .inl (Nat.le_refl _)) fun p hp => ?_
                  rcases In.set rfl hp with rfl | hp'
                  · exact .inl rfl
                  · exact .inr (hne p hp').1
  | [], _, he => cases he
  | [_], _, he => cases he
  | [_, _], _, he => cases he
  | _ :: _ :: _ :: _ :: _, _, he => cases he
end Go.X

namespace Go.X
variable [Sym]
variable {P : Program} {K : Loop → List Nat → List U → Code → Code → Prop} {E : Env} {w w' : World} {h : HT} {n : Pa}

theorem ARel.eq {l : List AV} {A : Array Value} (hr : ARel E l A) : A = (denL E l).toArray := by
  apply Array.ext'
  apply List.ext_getElem?
  intro j
  simp only [Array.getElem?_toList, denL_eq, List.getElem?_map]
  cases hj : l[j]? with
  | none =>
    have := hr.1
    rw [Array.getElem?_eq_none (by have := List.getElem?_eq_none_iff.1 hj; omega)]; rfl
  | some y => rw [hr.2 j y hj]; rfl

theorem isSl_or {x : AV} (hx : isSl x = true) : x = .sn ∨ ∃ id off len cap, x = .sl id off len cap := by
  unfold isSl at hx
  cases hs : asS x with
  | no => rw [hs] at hx; cases hx
  | sn => exact .inl (asS_sn hs)
  | sl id off len cap => exact .inr ⟨id, off, len, cap, asS_sl hs⟩

theorem cpyN_sound {sz m : Nat} {s v : AV} {id : Pa} {off : Nat} {h' : HT} {n' : Pa} (hw : WRel K E w h n) (hs : Sc (Up n) s) (hid : Up n id) (he : cpyN sz s id off m h n = .ok v h' n') :
    ∃ (w' : World) (cs : Array Value), (Builtin.firstCells sz m (den E s)).run P w = .ok cs w ∧ (storeCells ⟨E.blk id, off, none⟩ cs.toList).run P w = .ok () w' ∧ v = .i .i64 (.ofNat m) ∧ n' = n ∧ WRel K E w' h' n ∧ Step E w h n E w' h' n := by
  unfold cpyN at he
  obtain ⟨news, hk, hnl, hns, hxc⟩ := srcK_sound hw hs he
  obtain ⟨w', hst, rfl, rfl, hW, hS⟩ := stC_sound (P := P) hw hid hns hk
  refine ⟨w', (denL E news).toArray, ?_, by simpa using hst, rfl, rfl, hW, hS⟩
  rcases hxc with ⟨rfl, h0⟩ | ⟨id', off', len, cap, rfl, hc⟩
  · have : news = [] := List.eq_nil_of_length_eq_zero (by omega)
    subst this
    simp only [den, denL]; exact run_firstCells_none w _ _ _ _
  · obtain ⟨k, hk⟩ : ∃ k, den E (.sl id' off' len cap) = .slice (some ⟨E.blk id', off', none⟩) len k := by cases cap <;> exact ⟨_, rfl⟩
    rw [hk]
    exact run_firstCells_some w _ _ _ _ _ (denL E news) (by rw [denL_length, hnl]; rfl) hc

theorem cpy_sound {t t2 ty e sz : Nat} {ts : List Nat} (ht : P.underlying t = some (.slice e)) (hs : szo P e = some sz) {d s v : AV} {h' : HT} {n' : Pa} (hw : WRel K E w h n) (hd : Sc (Up n) d) (hsc : Sc (Up n) s) (he : cpyV sz d s h n = .ok v h' n') :
    ∃ w', (Builtin.copy_ (t :: ts).toArray ty #[den E d, den E s]).run P w = .ok (den E v) w' ∧ Sc (Up n') v ∧ WRel K E w' h' n' ∧ Step E w h n E w' h' n' := by
  have lenOf_run : isSl s = true → (Builtin.lenOf (den E s)).run P w = .ok (lenOf s) w := by
    intro hx
    rcases isSl_or hx with rfl | ⟨a, b, c, cap, rfl⟩
    · rfl
    · cases cap <;> rfl
  unfold cpyV at he
  cases hdd : asS d with
  | no => rw [hdd] at he; cases he
  | sn =>
    rw [hdd] at he
    change ifB (isSl s) (OR.ok (.i .i64 (.ofNat 0))) (no 24) h n = _ at he
    cases hsl : isSl s with
    | false => rw [hsl] at he; cases he
    | true =>
      rw [hsl, ifB_true] at he
      cases he
      rw [asS_sn hdd]
      have hf : (Builtin.firstCells sz 0 (den E s)).run P w = .ok #[] w := by
        rcases isSl_or hsl with rfl | ⟨a, b, c, cap, rfl⟩
        · simp only [den]; exact run_firstCells_none w _ _ _ _
        · obtain ⟨k, hk⟩ : ∃ k, den E (.sl a b c cap) = .slice (some ⟨E.blk a, b, none⟩) c k := by cases cap <;> exact ⟨_, rfl⟩
          rw [hk]; exact run_firstCells_some w _ _ _ _ _ [] (by simp) (fun j v hv => by cases hv)
      have h0 : Nat.min (lenOf s) 0 = 0 := Nat.min_zero _
      refine ⟨w, ?_, by simp [Sc], hw, Step.refl _ _ _ _⟩
      simp [Builtin.copy_, run_underlying ht, den, lenOf_run hsl, run_sizeOf' hs, hf, h0, goInt]
  | sl id off len cap =>
    rw [hdd] at he
    change ifB (isSl s) (ifB (Nat.ble (lenOf s) len) (cpyN sz s id off (lenOf s)) (cpyN sz s id off len)) (no 23) h n = _ at he
    cases hsl : isSl s with
    | false => rw [hsl] at he; cases he
    | true =>
    rw [hsl, ifB_true] at he
    have hde := asS_sl hdd
    subst hde
    have hid : Up n id := by simpa [Sc] using hd
    obtain ⟨k, hk⟩ : ∃ k, den E (.sl id off len cap) = .slice (some ⟨E.blk id, off, none⟩) len k := by cases cap <;> exact ⟨_, rfl⟩
    have key : ∀ m, Nat.min (lenOf s) len = m → cpyN sz s id off m h n = .ok v h' n' → ∃ w', (Builtin.copy_ (t :: ts).toArray ty #[den E (.sl id off len cap), den E s]).run P w = .ok (den E v) w' ∧ Sc (Up n') v ∧ WRel K E w' h' n' ∧ Step E w h n E w' h' n' := by
      intro m hm hc
      obtain ⟨w', cs, hf, hst, rfl, rfl, hW, hS⟩ := cpyN_sound (P := P) hw hsc hid hc
      refine ⟨w', ?_, by simp [Sc], hW, hS⟩
      rw [hk]
      simp [Builtin.copy_, run_underlying ht, den, lenOf_run hsl, run_sizeOf' hs, hm, hf, hst, goInt]
    cases hle : Nat.ble (lenOf s) len with
    | true =>
      rw [hle, ifB_true] at he
      exact key _ (Nat.min_eq_left (Nat.le_of_ble_eq_true hle)) he
    | false =>
      rw [hle, ifB_false] at he
      have hle : ¬ lenOf s ≤ len := fun e => by have := Nat.ble_eq_true_of_le e; rw [this] at hle; cases hle
      exact key _ (Nat.min_eq_right (by omega)) he

theorem clr_sound {t ty e : Nat} {ts : List Nat} {z : List AV} (ht : P.underlying t = some (.slice e)) (hz : zer P e = some z) {x v : AV} {h' : HT} {n' : Pa} (hw : WRel K E w h n) (hx : Sc (Up n) x) (he : clrV z x h n = .ok v h' n') :
    ∃ w', (Builtin.clear_ (t :: ts).toArray ty #[den E x]).run P w = .ok (den E v) w' ∧ Sc (Up n') v ∧ WRel K E w' h' n' ∧ Step E w h n E w' h' n' := by
  obtain ⟨i, zv, hi, hzv, hde, hsc⟩ := zer_some hz
  unfold clrV at he
  cases hs : asS x with
  | no => rw [hs] at he; cases he
  | sn =>
    rw [hs] at he
    cases he
    rw [asS_sn hs]
    exact ⟨w, by simp [Builtin.clear_, run_underlying ht, den], by simp [Sc], hw, Step.refl _ _ _ _⟩
  | sl id off len cap =>
    rw [hs] at he
    have hse := asS_sl hs
    subst hse
    have hid : Up n id := by simpa [Sc] using hx
    obtain ⟨k, hk⟩ : ∃ k, den E (.sl id off len cap) = .slice (some ⟨E.blk id, off, none⟩) len k := by cases cap <;> exact ⟨_, rfl⟩
    obtain ⟨w', hst, rfl, rfl, hW, hS⟩ := stC_sound (P := P) hw hid (rep_sc (hsc _) len) he
    refine ⟨w', ?_, by simp [Sc], hW, hS⟩
    have hzc : (Builtin.zeroCells zv.cells len).toList = denL E (rep z len) := by
      have h1 := ARel_rep (E := E) (zv := zv.cells) (hde E) len (len * zv.cells.size) (by rw [← Array.length_toList, ← hde E, denL_length])
      have := h1.eq
      unfold Builtin.zeroCells
      rw [this]
    rw [hk]
    by_cases h0 : len = 0
    · subst h0
      have : rep z 0 = [] := rfl
      rw [this] at hst
      simp only [denL, storeCells] at hst
      have hww : w' = w := by simpa using hst.symm
      subst hww
      simp [Builtin.clear_, run_underlying ht, den]
    · have : ∀ (X : Sem Unit), (match (some (⟨E.blk id, off, none⟩ : Addr)), len with | none, _ => pure () | _, 0 => pure () | some _, _ => X : Sem Unit) = X := by
        intro X; cases len with | zero => exact absurd rfl h0 | succ m => rfl
      cases len with
      | zero => exact absurd rfl h0
      | succ m => simp [Builtin.clear_, run_underlying ht, zeroValue, typeInfo, hi, hzv, hzc, hst, den]
end Go.X

namespace Go.X
variable [Sym]
variable {P : Program} {K : Loop → List Nat → List U → Code → Code → Prop} {E : Env} {w w' : World} {h : HT} {n : Pa}

/-! ### keys -/
omit [Sym] in
theorem bndI_iff (n : Int) : bndI n = true ↔ KB n := by
  unfold bndI KB
  rw [ifB_eq, ile_eq, ile_eq]
  have e1 : (Int.negSucc 9223372036854775807) = -9223372036854775808 := rfl
  have e2 : (Int.ofNat 9223372036854775807) = 9223372036854775807 := rfl
  rw [e1, e2]
  by_cases h1 : -9223372036854775808 ≤ n <;> by_cases h2 : n ≤ 9223372036854775807 <;> simp [h1, h2]
theorem i64K_or {v : AV} {k : Int → OR} {m : Nat} {r : AV} {h' : HT} {n' : Pa} (he : i64K (.no m) v k = .ok r h' n') : ∃ x, v = .i .i64 x ∧ KB x ∧ k x = .ok r h' n' := by
  unfold i64K at he
  cases hv : asI v with
  | no => rw [hv] at he; cases he
  | i kd x =>
    rw [hv] at he
    change ifB (isI64 kd) (ifB (bndI x) (k x) (.no m)) (.no m) = _ at he
    simp only [ifB_eq] at he
    split at he
    · rename_i h1
      split at he
      · rename_i h2
        exact ⟨x, by rw [asI_i hv, (isI64_iff kd).1 h1], (bndI_iff x).1 h2, he⟩
      · cases he
    · cases he
theorem keyK_or {m : Nat} {r : AV} {h' : HT} {n' : Pa} : ∀ {l : List AV} {k : List Int → OR}, keyK (.no m) l k = .ok r h' n' → ∃ key : List Int, l = key.map (AV.i .i64) ∧ (∀ i ∈ key, KB i) ∧ k key = .ok r h' n'
  | [], k, he => ⟨[], rfl, by simp, he⟩
  | v :: l, k, he => by
    obtain ⟨x, hv, hx, he⟩ := i64K_or (k := fun n => keyK (.no m) l fun l => k (n :: l)) he
    obtain ⟨key, hl, hk, he⟩ := keyK_or he
    exact ⟨x :: key, by rw [hv, hl]; rfl, fun i hi => by rcases List.mem_cons.1 hi with rfl | hi; exact hx; exact hk i hi, he⟩
omit [Sym] in
theorem keyEq_iff : ∀ (a b : List Int), keyEq a b = true ↔ a = b
  | [], [] => by simp [keyEq]
  | [], _ :: _ => by simp [keyEq]
  | _ :: _, [] => by simp [keyEq]
  | x :: a, y :: b => by
    show ifB (ieq x y) (keyEq a b) false = true ↔ _
    rw [ifB_eq, ieq_eq]
    by_cases e : x = y
    · simp [e, keyEq_iff a b]
    · simp [e]
omit [Sym] in
theorem isLenI_eq : ∀ (n : Nat) (l : List Int), isLenI n l = decide (l.length = n)
  | 0, [] => rfl
  | 0, x :: l => by show false = _; simp
  | n + 1, [] => by show false = _; simp
  | n + 1, x :: l => by show isLenI n l = _; rw [isLenI_eq n l]; simp
omit [Sym] in
theorem mFnd_none {key : List Int} : ∀ {es : MEs}, mFnd key es = none → ∀ x ∈ es, x.1 ≠ key
  | [], _, x, hx => by cases hx
  | y :: es, he, x, hx => by
    have he' : ifB (keyEq key y.1) (some y.2) (mFnd key es) = none := he
    rw [ifB_eq] at he'
    split at he'
    · cases he'
    · rename_i hn
      rcases List.mem_cons.1 hx with rfl | hx
      · exact fun e => hn ((keyEq_iff _ _).2 e.symm)
      · exact mFnd_none he' x hx
omit [Sym] in
theorem mFnd_some {key : List Int} {v : Int} : ∀ {es : MEs}, mFnd key es = some v → (key, v) ∈ es
  | y :: es, he => by
    have he' : ifB (keyEq key y.1) (some y.2) (mFnd key es) = some v := he
    rw [ifB_eq] at he'
    split at he'
    · rename_i hk
      have h1 := (keyEq_iff _ _).1 hk
      have h2 := Option.some.inj he'
      obtain ⟨a, b⟩ := y
      simp only at h1 h2
      rw [h1, h2]; exact List.mem_cons_self
    · exact List.mem_cons_of_mem _ (mFnd_some he')
omit [Sym] in
theorem mApp_eq {β : Type} (x : List Int × Int) : ∀ (es : MEs) (k : MEs → β), mApp x es k = k (es ++ [x])
  | [], k => rfl
  | y :: es, k => by show mApp x es (fun l => k (y :: l)) = _; rw [mApp_eq x es]; rfl
omit [Sym] in
theorem mDel_or {key : List Int} {m : Nat} {r : AV} {h' : HT} {n' : Pa} : ∀ {es : MEs} {k : MEs → OR}, mDel key (.no m) es k = .ok r h' n' → ∃ pre v post, es = pre ++ (key, v) :: post ∧ (∀ x ∈ pre, x.1 ≠ key) ∧ k (pre ++ post) = .ok r h' n'
  | [], k, he => by cases he
  | y :: es, k, he => by
    have he' : ifB (keyEq key y.1) (k es) (mDel key (.no m) es fun l => k (y :: l)) = .ok r h' n' := he
    rw [ifB_eq] at he'
    split at he'
    · rename_i hk
      obtain ⟨a, b⟩ := y
      have h1 : key = a := (keyEq_iff _ _).1 hk
      subst h1
      exact ⟨[], b, es, rfl, by simp, he'⟩
    · rename_i hk
      obtain ⟨pre, v, post, h1, h2, h3⟩ := mDel_or he'
      refine ⟨y :: pre, v, post, by rw [h1]; rfl, fun x hx => ?_, h3⟩
      rcases List.mem_cons.1 hx with rfl | hx
      · exact fun e => hk ((keyEq_iff _ _).2 e.symm)
      · exact h2 x hx
theorem mapV_or {nk : Nat} {m ky : AV} {k : Pa → List Int → MEs → OR} {r : AV} {h' : HT} {n' : Pa} (he : mapV nk m ky k h = .ok r h' n') :
    ∃ id es key, m = .mp id ∧ h.get id = some (.mp nk es) ∧ ky = .ag (key.map (AV.i .i64)) ∧ (∀ i ∈ key, KB i) ∧ key.length = nk ∧ k id key es = .ok r h' n' := by
  unfold mapV at he
  cases hm : asM m with
  | none => rw [hm] at he; cases he
  | some id =>
    rw [hm] at he
    have hme : m = .mp id := by
      cases m <;> simp only [asM, reduceCtorEq, Option.some.injEq] at hm
      rw [hm]
    cases hb : h.get id with
    | none => simp only [hb] at he; cases he
    | some b =>
      simp only [hb] at he
      cases b with
      | c l => cases he
      | lp ps a b fr => cases he
      | df => cases he
      | cz m z l => cases he
      | mp nk' es =>
        change ifB (Nat.beq nk nk') (@VL.rec (fun _ => OR) (fun l => keyK (.no 92) l fun key => ifB (isLenI nk key) (k id key es) (.no 93)) (.no 99) (asAg ky)) (.no 94) = _ at he
        rw [ifB_eq] at he
        split at he
        · rename_i hnk
          have hnk := Nat.eq_of_beq_eq_true hnk
          subst hnk
          cases hk : asAg ky with
          | no => rw [hk] at he; cases he
          | l l =>
            rw [hk] at he
            obtain ⟨key, hl, hkb, he⟩ := keyK_or (k := fun key => ifB (isLenI nk key) (k id key es) (.no 93)) he
            rw [ifB_eq, isLenI_eq] at he
            split at he
            · rename_i hlen
              have hky : ky = .ag l := by
                cases ky <;> simp only [asAg, VL.l.injEq, reduceCtorEq] at hk
                rw [hk]
              exact ⟨id, es, key, hme, hb, by rw [hky, hl], hkb, by simpa using hlen, he⟩
            · cases he
        · cases he
theorem den_key (key : List Int) : den E (.ag (key.map (AV.i .i64))) = keyV key := by
  simp only [den, keyV, denL_eq, List.map_map]
  congr 2
omit [Sym] in
theorem keyV_inj {a b : List Int} (h : keyV a = keyV b) : a = b := by
  have h1 : a.map (Value.int .i64) = b.map (Value.int .i64) := by
    have := Value.agg.inj h
    simpa using this
  clear h
  induction a generalizing b with
  | nil => cases b with | nil => rfl | cons => simp at h1
  | cons x a ih =>
    cases b with
    | nil => simp at h1
    | cons y b =>
      simp only [List.map_cons, List.cons.injEq, Value.int.injEq, true_and] at h1
      rw [h1.1, ih h1.2]
omit [Sym] in
theorem nodup_fst : ∀ {es : MEs}, (es.map (·.1)).Nodup → ∀ {x y : List Int × Int}, x ∈ es → y ∈ es → x.1 = y.1 → x = y
  | a :: es, hn, x, y, hx, hy, he => by
    simp only [List.map_cons, List.nodup_cons] at hn
    rcases List.mem_cons.1 hx with rfl | hx' <;> rcases List.mem_cons.1 hy with rfl | hy'
    · rfl
    · exact absurd (List.mem_map.2 ⟨_, hy', he.symm⟩) hn.1
    · exact absurd (List.mem_map.2 ⟨_, hx', he⟩) hn.1
    · exact nodup_fst hn.2 hx' hy' he

/-! ### a type whose cells are ints -/
omit [Sym] in
theorem mapM_of {α β : Type} {f : α → Option β} : ∀ {l : List α}, (∀ x ∈ l, ∃ y, f x = some y) → ∃ ys, l.mapM f = some ys
  | [], _ => ⟨[], rfl⟩
  | x :: l, hl => by
    obtain ⟨y, hy⟩ := hl x List.mem_cons_self
    obtain ⟨ys, hys⟩ := mapM_of (l := l) fun z hz => hl z (List.mem_cons_of_mem _ hz)
    exact ⟨y :: ys, by simp [hy, hys]⟩
omit [Sym] in
theorem flat_lits : ∀ (d : Nat) (t : Nat), flat P d t = true → ∀ (D : Nat), d ≤ D → ∀ key : List Int, key.length = P.cellsOf t → (∀ i ∈ key, KB i) → ∃ L, P.keyLits D t (key.map (Value.int .i64)) = some L
  | 0, _, hf, _, _, _, _, _ => by cases hf
  | d + 1, t, hf, 0, hD, _, _, _ => by omega
  | d + 1, t, hf, D + 1, hD, key, hl, hk => by
    have part : ∀ (e off : Nat), flat P d e = true → off + P.cellsOf e ≤ key.length → ∃ L, P.keyLits D e (((key.map (Value.int .i64)).drop off).take (P.cellsOf e)) = some L := by
      intro e off he ho
      rw [← List.map_drop, ← List.map_take]
      exact flat_lits d e he D (by omega) _ (by simp; omega) fun i hi => hk i (List.mem_of_mem_drop (List.mem_of_mem_take hi))
    unfold flat at hf
    unfold Program.keyLits
    split at hf
    · rename_i hu
      rw [show P.cellsOf t = 1 by simpa using hf] at hl
      match key, hl with
      | [x], _ =>
        have hb := hk x (by simp)
        simp only [hu, List.map_cons, List.map_nil]
        rw [if_pos]
        · exact ⟨_, rfl⟩
        · refine ⟨trivial, ?_⟩
          obtain ⟨h1, h2⟩ := hb
          have e1 : IntKind.min .i64 = -9223372036854775808 := by decide
          have e2 : IntKind.max .i64 = 9223372036854775807 := by decide
          simp only [Lit.wf, e1, e2, Bool.and_eq_true, decide_eq_true_eq]
          exact ⟨h1, h2⟩
    · rename_i m e hu
      simp only [Bool.and_eq_true, beq_iff_eq] at hf
      simp only [hu, List.length_map]
      rw [if_pos hl]
      obtain ⟨ys, hys⟩ := mapM_of (l := List.range m) (f := fun i => P.keyLits D e (((key.map (Value.int .i64)).drop (i * P.cellsOf e)).take (P.cellsOf e))) fun i hi => part e _ hf.2 (by
        have hi := List.mem_range.1 hi
        rw [hl, hf.1]
        calc i * P.cellsOf e + P.cellsOf e = (i + 1) * P.cellsOf e := by rw [Nat.add_mul, Nat.one_mul]
          _ ≤ m * P.cellsOf e := Nat.mul_le_mul_right _ hi)
      exact ⟨ys.flatten, by rw [hys]; rfl⟩
    · rename_i fs hu
      simp only [hu, List.length_map]
      have hall := Array.all_eq_true_iff_forall_mem.1 hf
      rw [if_pos]
      · obtain ⟨ys, hys⟩ := mapM_of (l := fs.toList) (f := fun f => P.keyLits D f.type (((key.map (Value.int .i64)).drop f.offset).take (P.cellsOf f.type))) fun f hf' => by
          have := hall f (Array.mem_toList_iff.1 hf')
          simp only [Bool.and_eq_true] at this
          exact part f.type _ this.2.1 (by have := Nat.le_of_ble_eq_true this.2.2; omega)
        exact ⟨ys.flatten, by rw [hys]; rfl⟩
      · refine ⟨hl, Array.all_eq_true_iff_forall_mem.2 fun f hf' => ?_⟩
        have := hall f hf'
        simp only [Bool.and_eq_true] at this
        exact this.1
    · cases hf

/-- what is known of a map's type -/
structure MapT (P : Program) (t nk : Nat) : Prop where
  h : ∃ kt et i, P.underlying t = some (.map kt et) ∧ WideMaps.KeyLaw P kt ∧ P.info? et = some i ∧ i.zero = some (.int .i64 0) ∧ ∀ key : List Int, key.length = nk → (∀ i ∈ key, KB i) → ∃ l, keyOf P kt (keyV key) = some l
omit [Sym] in
theorem mapN_some {t nk : Nat} (hm : mapN P t = some nk) : MapT P t nk := by
  unfold mapN at hm
  cases hu : P.underlying t with
  | none => rw [hu] at hm; cases hm
  | some d =>
    rw [hu] at hm
    simp only [Option.bind_some] at hm
    split at hm
    · rename_i kt et
      split at hm
      · rename_i hc
        simp only [Bool.and_eq_true] at hc
        obtain ⟨h0, h1, h2, h3, h4, h5⟩ := hc
        cases hi : P.info? et with
        | none => rw [hi] at hm; cases hm
        | some i =>
          rw [hi] at hm
          simp only [Option.bind_some] at hm
          cases hz : i.zero with
          | none => rw [hz] at hm; cases hm
          | some z =>
            rw [hz] at hm
            simp only [Option.bind_some] at hm
            split at hm
            · have hnk := Option.some.inj hm
              have hwide : (match P.underlying kt with | some (.array _ _) | some (.struct _) => true | _ => false) = true := by
                cases hk : P.underlying kt with
                | none => rw [hk] at h4; cases h4
                | some d => rw [hk] at h4; cases d <;> first | rfl | cases h4
              refine ⟨kt, et, i, hu, deep_law (m := 9) (by decide) h1 h2 hwide, hi, hz, fun key hl hk => ?_⟩
              have hform : (keyV key).formed P kt = true := by
                unfold keyV Value.formed
                cases hk : P.underlying kt with
                | none => rw [hk] at h4; cases h4
                | some d => rw [hk] at h4; cases d <;> first | (cases h4; done) | (simp [hl, hnk]; done)
              have hsz : 9 ≤ P.types.size + 1 := by have := Nat.le_of_ble_eq_true h0; omega
              obtain ⟨L, hL⟩ := flat_lits 9 kt h5 (P.types.size + 1) hsz key (by rw [hl, hnk]) hk
              refine ⟨.string (keyBytes L), ?_⟩
              · unfold keyOf
                have hc : (keyV key).cells.toList = key.map (Value.int .i64) := by simp [keyV, Value.cells]
                cases hk : P.underlying kt with
                | none => rw [hk] at h4; cases h4
                | some d =>
                  rw [hk] at h4
                  cases d <;> first | (simp only [h3, hform, Bool.and_self, if_true, hc, hL, Option.map_some]; done) | (cases h4; done)
            · cases hm
      · cases hm
    · cases hm

/-! ### the operations -/
section
variable {A : Array MapEntry} {es : MEs} {nk : Nat} {kt : Nat} {key : List Int}
omit [Sym] in
theorem ent_of (hA : A.toList.map (fun e => (e.key, e.val)) = es.map entV) {e : MapEntry} (he : e ∈ A.toList) : ∃ x ∈ es, e.key = keyV x.1 ∧ e.val = .int .i64 x.2 := by
  have h1 : (e.key, e.val) ∈ es.map entV := hA ▸ List.mem_map_of_mem (f := fun e : MapEntry => (e.key, e.val)) he
  obtain ⟨x, hx, he⟩ := List.mem_map.1 h1
  exact ⟨x, hx, (Prod.mk.inj he).1.symm, (Prod.mk.inj he).2.symm⟩
omit [Sym] in
theorem of_ent (hA : A.toList.map (fun e => (e.key, e.val)) = es.map entV) {x : List Int × Int} (hx : x ∈ es) : ∃ e ∈ A.toList, e.key = keyV x.1 ∧ e.val = .int .i64 x.2 := by
  have h1 : entV x ∈ A.toList.map (fun e => (e.key, e.val)) := hA ▸ List.mem_map_of_mem hx
  obtain ⟨e, he, h2⟩ := List.mem_map.1 h1
  exact ⟨e, he, (Prod.mk.inj h2).1, (Prod.mk.inj h2).2⟩
omit [Sym] in
/-- what is found -/
theorem find_sound (law : WideMaps.KeyLaw P kt) (hall : ∀ key : List Int, key.length = nk → (∀ i ∈ key, KB i) → ∃ l, keyOf P kt (keyV key) = some l)
    (hA : A.toList.map (fun e => (e.key, e.val)) = es.map entV) (hes : ∀ x ∈ es, x.1.length = nk ∧ ∀ i ∈ x.1, KB i) (hn : (es.map (·.1)).Nodup) (hl : key.length = nk) (hk : ∀ i ∈ key, KB i) (w : World) :
    ((Instr.findKey kt (keyV key) A.toList).run P w = .ok none w ∧ ∀ x ∈ es, x.1 ≠ key) ∨
    ∃ j v, (Instr.findKey kt (keyV key) A.toList).run P w = .ok (some (j, .int .i64 v)) w ∧ es[j]? = some (key, v) := by
  obtain ⟨l, hkl⟩ := hall key hl hk
  rcases law.find w hkl A.toList (fun e he => by
    obtain ⟨x, hx, h1, _⟩ := ent_of hA he
    obtain ⟨l, h2⟩ := hall x.1 (hes x hx).1 (hes x hx).2
    exact ⟨l, by rw [h1]; exact h2⟩) with ⟨h1, h2⟩ | ⟨j, e, h1, h2, h3⟩
  · refine .inl ⟨h1, fun x hx e => ?_⟩
    obtain ⟨y, hy, h3, _⟩ := of_ent hA hx
    exact h2 y hy (by rw [h3, e])
  · have h4 : (es.map entV)[j]? = some (e.key, e.val) := by rw [← hA, List.getElem?_map, h2]; rfl
    rw [List.getElem?_map] at h4
    cases hj : es[j]? with
    | none => rw [hj] at h4; cases h4
    | some x =>
      rw [hj] at h4
      have h5 := Option.some.inj h4
      have h6 := (Prod.mk.inj h5)
      have h7 : x.1 = key := keyV_inj (h6.1.trans h3)
      refine .inr ⟨j, x.2, ?_, ?_⟩
      · rw [h1, ← h6.2]
      · rw [hj, ← h7]
end

theorem lup_sound {t nk : Nat} (ht : MapT P t nk) {m ky v : AV} {h' : HT} {n' : Pa} (hw : WRel K E w h n) (hm : Sc (Up n) m) (he : lupV nk m ky h n = .ok v h' n') :
    (Instr.lookup t (den E m) (den E ky) true).run P w = .ok (den E v) w ∧ Sc (Up n) v ∧ h' = h ∧ n' = n := by
  obtain ⟨kt, et, i, hu, law, hi, hz, hall⟩ := ht.h
  obtain ⟨id, es, key, rfl, hb, rfl, hkb, hlen, he⟩ := mapV_or he
  have hid : Up n id := by simpa [Sc] using hm
  obtain ⟨A, c, hh, hA, hes, hn⟩ := (hw.blk id _ hid.1 hb).1
  rw [den_key]
  obtain ⟨l, hkl⟩ := hall key hlen hkb
  have hchk := law.check w A.isEmpty hkl
  have hget := run_getObj_map (P := P) w _ _ _ hh
  rcases find_sound law hall hA hes hn hlen hkb w with ⟨h1, h2⟩ | ⟨j, x, h1, h2⟩
  · have hf : mFnd key es = none := by
      cases hf : mFnd key es with
      | none => rfl
      | some x => exact absurd rfl (h2 _ (mFnd_some hf))
    rw [hf] at he
    cases he
    refine ⟨?_, by simp [Sc, ScL], rfl, rfl⟩
    simp [Instr.lookup, run_underlying hu, den, denL, hget, hchk, h1, zeroValue, typeInfo, hi, hz]
  · have hf : mFnd key es = some x := by
      cases hf : mFnd key es with
      | none => exact absurd rfl (mFnd_none hf _ (List.mem_of_getElem? h2))
      | some y =>
        have := nodup_fst hn (mFnd_some hf) (List.mem_of_getElem? h2) rfl
        rw [(Prod.mk.inj this).2]
    rw [hf] at he
    cases he
    refine ⟨?_, by simp [Sc, ScL], rfl, rfl⟩
    simp [Instr.lookup, run_underlying hu, den, denL, hget, hchk, h1]

/-- a map's block is turned -/
theorem stM_sound {id : Pa} {nk c c' : Nat} {es : MEs} {A A' : Array MapEntry} {v : AV} {h' : HT} {n' : Pa} {b : Blk} (hw : WRel K E w h n) (hid : Up n id) (hb : h.get id = some b) (hh : w.heap[E.blk id]? = some (.map A c))
    (hA : A'.toList.map (fun e => (e.key, e.val)) = es.map entV) (hes : ∀ x ∈ es, x.1.length = nk ∧ ∀ i ∈ x.1, KB i) (hn : (es.map (·.1)).Nodup) (he : stM id nk h n es = .ok v h' n') :
    v = .und ∧ n' = n ∧ WRel K E { w with heap := w.heap.setIfInBounds (E.blk id) (.map A' c') } h' n ∧ Step E w h n E { w with heap := w.heap.setIfInBounds (E.blk id) (.map A' c') } h' n := by
  unfold stM at he
  rw [T.setK_eq] at he
  cases he
  have hin : In h n id := ⟨hid.1, by rw [hb]; simp⟩
  obtain ⟨q1, q2⟩ := MapKept.heap_set (w := w) (o' := .map A' c') hh
  exact ⟨rfl, rfl, hw.turn hin (fun p hp hpn => q2 _ fun e => hpn (hw.inj p id hp hin e)) ⟨A', c', q1, hA, hes, hn⟩ trivial (fun hh => q2 _ fun e => (hw.arg hh).2 id hin e.symm), step_put hin rfl rfl rfl (by simp) fun i hi => q2 i hi⟩

theorem mup_sound {t nk : Nat} (ht : MapT P t nk) {m ky u v : AV} {h' : HT} {n' : Pa} (hw : WRel K E w h n) (hm : Sc (Up n) m) (he : mupV nk m ky u h n = .ok v h' n') :
    ∃ w', (Instr.mapUpdate t (den E m) (den E ky) (den E u)).run P w = .ok () w' ∧ v = .und ∧ n' = n ∧ WRel K E w' h' n ∧ Step E w h n E w' h' n := by
  obtain ⟨kt, et, i, hu, law, hi, hz, hall⟩ := ht.h
  obtain ⟨id, es, key, rfl, hb, rfl, hkb, hlen, he⟩ := mapV_or he
  have hid : Up n id := by simpa [Sc] using hm
  obtain ⟨A, c, hh, hA, hes, hn⟩ := (hw.blk id _ hid.1 hb).1
  rw [den_key]
  obtain ⟨l, hkl⟩ := hall key hlen hkb
  have hchk := law.check w false hkl
  have hget := run_getObj_map (P := P) w _ _ _ hh
  obtain ⟨x, rfl, hx, he⟩ := i64K_or he
  cases hf : mFnd key es with
  | some y => rw [hf] at he; cases he
  | none =>
    rw [hf] at he
    change mApp (key, x) es (stM id nk h n) = _ at he
    rw [mApp_eq] at he
    have hno := mFnd_none hf
    rcases find_sound law hall hA hes hn hlen hkb w with ⟨h1, h2⟩ | ⟨j, y, h1, h2⟩
    · obtain ⟨rfl, rfl, hW, hS⟩ := stM_sound (A' := A.push { key := keyV key, val := .int .i64 x, born := c }) (c' := c + 1) hw hid hb hh
        (by simp [hA, entV]) (fun y hy => by
          rcases List.mem_append.1 hy with hy | hy
          · exact hes y hy
          · rw [List.mem_singleton.1 hy]; exact ⟨hlen, hkb⟩)
        (by
          rw [List.map_append, List.nodup_append]
          refine ⟨hn, by simp, fun a ha b hb' => ?_⟩
          obtain ⟨y, hy, rfl⟩ := List.mem_map.1 ha
          simp only [List.map_cons, List.map_nil, List.mem_singleton] at hb'
          rw [hb']; exact hno y hy) he
      refine ⟨_, ?_, rfl, rfl, hW, hS⟩
      have hset := MapKept.run_setObj_map (P := P) (Obj.map (A.push { key := keyV key, val := .int .i64 x, born := c }) (c + 1)) hh
      simp [Instr.mapUpdate, run_underlying hu, den, hget, hchk, h1, hset]
    · exact absurd rfl (hno _ (List.mem_of_getElem? h2))

omit [Sym] in
theorem erase_mid {pre post : MEs} {v v' : Int} {key : List Int} (hn : ((pre ++ (key, v) :: post).map (·.1)).Nodup) {j : Nat} (hj : (pre ++ (key, v) :: post)[j]? = some (key, v')) : (pre ++ (key, v) :: post).eraseIdx j = pre ++ post := by
  induction pre generalizing j with
  | nil =>
    cases j with
    | zero => rfl
    | succ j =>
      simp only [List.nil_append, List.getElem?_cons_succ] at hj
      simp only [List.nil_append, List.map_cons, List.nodup_cons] at hn
      exact absurd (List.mem_map_of_mem (f := (·.1)) (List.mem_of_getElem? hj)) hn.1
  | cons a pre ih =>
    simp only [List.cons_append, List.map_cons, List.nodup_cons] at hn
    cases j with
    | zero =>
      simp only [List.cons_append, List.getElem?_cons_zero, Option.some.injEq] at hj
      subst hj
      exact absurd (by simp) hn.1
    | succ j =>
      simp only [List.cons_append, List.getElem?_cons_succ] at hj
      simp only [List.cons_append, List.eraseIdx_cons_succ]
      rw [ih hn.2 hj]
omit [Sym] in
theorem map_erase {α β : Type} (f : α → β) : ∀ (l : List α) (j : Nat), (l.eraseIdx j).map f = (l.map f).eraseIdx j
  | [], j => by simp
  | a :: l, 0 => rfl
  | a :: l, j + 1 => by simp [map_erase f l j]

theorem mdl_sound {t nk ty : Nat} {ts : List Nat} (ht : MapT P t nk) {m ky v : AV} {h' : HT} {n' : Pa} (hw : WRel K E w h n) (hm : Sc (Up n) m) (he : mdlV nk m ky h n = .ok v h' n') :
    ∃ w', (Builtin.delete_ (t :: ts).toArray ty #[den E m, den E ky]).run P w = .ok (den E v) w' ∧ Sc (Up n') v ∧ WRel K E w' h' n' ∧ Step E w h n E w' h' n' := by
  obtain ⟨kt, et, i, hu, law, hi, hz, hall⟩ := ht.h
  obtain ⟨id, es, key, rfl, hb, rfl, hkb, hlen, he⟩ := mapV_or he
  have hid : Up n id := by simpa [Sc] using hm
  obtain ⟨A, c, hh, hA, hes, hn⟩ := (hw.blk id _ hid.1 hb).1
  rw [den_key]
  obtain ⟨l, hkl⟩ := hall key hlen hkb
  have hchk := law.check w A.isEmpty hkl
  have hget := run_getObj_map (P := P) w _ _ _ hh
  obtain ⟨pre, x, post, rfl, hpre, he⟩ := mDel_or he
  rcases find_sound law hall hA hes hn hlen hkb w with ⟨h1, h2⟩ | ⟨j, y, h1, h2⟩
  · exact absurd rfl (h2 (key, x) (by simp))
  · have hsub : List.Sublist (pre ++ post) (pre ++ (key, x) :: post) := List.Sublist.append_left (List.sublist_cons_self _ _) _
    have hjA : j < A.size := by
      have h3 : (A.toList.map (fun e => (e.key, e.val)))[j]? = some (entV (key, y)) := by rw [hA, List.getElem?_map, h2]; rfl
      have := (List.getElem?_eq_some_iff.1 h3).1
      simpa using this
    obtain ⟨rfl, rfl, hW, hS⟩ := stM_sound (A' := A.eraseIdxIfInBounds j) (c' := c) hw hid hb hh
      (by
        have : (A.eraseIdxIfInBounds j).toList = A.toList.eraseIdx j := by simp [Array.eraseIdxIfInBounds, hjA]
        rw [this, map_erase, hA, ← map_erase, erase_mid hn h2])
      (fun z hz => hes z (hsub.subset hz)) (hn.sublist (hsub.map _)) he
    refine ⟨_, ?_, by simp [Sc], hW, hS⟩
    have hset := MapKept.run_setObj_map (P := P) (Obj.map (A.eraseIdxIfInBounds j) c) hh
    simp [Builtin.delete_, run_underlying hu, den, hget, hchk, h1, hset]

theorem mkm_sound {t nk : Nat} {v : AV} {h' : HT} {n' : Pa} (hw : WRel K E w h n) (he : mkmV nk h n = .ok v h' n') :
    ∃ E' w', (Instr.makeMap t none).run P w = .ok (den E' v) w' ∧ Sc (Up n') v ∧ WRel K E' w' h' n' ∧ Step E w h n E' w' h' n' := by
  unfold mkmV at he
  rw [incK_eq] at he
  cases hi : inc n with
  | none => rw [hi] at he; cases he
  | some m =>
    rw [hi] at he
    simp only [T.setK_eq] at he
    cases he
    have hold : ∀ b, b < w.heap.size → (w.alloc (.map #[] 0)).heap[b]? = w.heap[b]? := fun b hb => heap_alloc_old w _ b hb
    have hw1 : WRel K E (w.alloc (.map #[] 0)) h n := hw.frame (fun p hp => by
      cases hb : h.get p with
      | none => exact absurd hb hp.2
      | some b => exact hold _ (hw.blk p b hp.1 hb).1.there) (fun hh => hold _ (hw.arg_lt hh))
    refine ⟨E.put n w.heap.size 0, w.alloc (.map #[] 0), ?_, by simp only [Sc]; exact up_self hi, hw1.adopt hi (fun p hp e => ?_) ⟨#[], 0, ?_, rfl, by simp, by simp⟩ trivial (fun hh e => by have := hw.arg_lt hh; omega), step_new hi rfl rfl rfl (by simp) (fun i hi' _ => hold i hi') (.inl (Nat.le_refl _))⟩
    · simp only [den, (E.put_eq n _ _).1]; rfl
    · cases hb : h.get p with
      | none => exact absurd hb hp.2
      | some b => have := (hw.blk p b hp.1 hb).1.there; omega
    · rw [(E.put_eq n _ _).1]; exact heap_alloc_new w _
end Go.X
