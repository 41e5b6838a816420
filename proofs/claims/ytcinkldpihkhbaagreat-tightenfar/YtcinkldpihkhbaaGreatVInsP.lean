/- An executable reading of the model, its soundness over any program, and what it reads of this program. -/
import Derived.Test.YtcinkldpihkhbaaGreatVXO
import Derived.Test.YtcinkldpihkhbaaGreatProg
import Derived.Shelf.Spec.SlicesInsert
import Derived.Shelf.Spec.SlicesInsertGrow
import Derived.Deep.Upon
import Derived.KernelRfl
set_option linter.unusedSectionVars false
set_option linter.unusedVariables false
set_option linter.unusedSimpArgs false
set_option linter.constructorNameAsVariable false
namespace Go.X
open Go.Proofs Go.Shelf Go.RowKit Go.Lib
variable {P : Program} {ρ : Ren}
theorem cell_heap {w : World} {b : Nat} {arr : Array Value} {el : TypeId} (h : w.heap[b]? = some (.cells arr el (0, 0))) (j : Nat) : w.cell? ⟨b, j, none⟩ = arr[j]? := by simp [World.cell?, h]
theorem frozen_heap {w : World} {b : Nat} {arr : Array Value} {el : TypeId} (h : w.heap[b]? = some (.cells arr el (0, 0))) (j : Nat) : w.frozen? ⟨b, j, none⟩ = false := by simp [World.frozen?, h]
set_option maxHeartbeats 4000000 in
set_option maxRecDepth 100000 in
/-- one int more ahead of a row's end, where there is room: two copies in the row, whatever its capacity is -/
theorem ins_room (L : Lays2.n21 P ρ) {b m i vb voff vc : Nat} {cs : List Value} {x : Value} {w : World} {arr arrv : Array Value} {el elv : TypeId} (hi : i < m) (hm : m ≤ 1000) (hroom : m + 1 ≤ arr.size) (hvb : vb ≠ b) (hcl : cs.length = m)
    (hb : w.heap[b]? = some (.cells arr el (0, 0))) (hv : w.heap[vb]? = some (.cells arrv elv (0, 0))) (hcs : ∀ (j : Nat) (v : Value), cs[j]? = some v → arr[j]? = some v) (hx : arrv[voff]? = some x) (h1c : ∀ v ∈ cs, v.oneCell' = true) (h1x : x.oneCell' = true) :
    Calls P (ρ.f 21) #[.slice (some ⟨b, 0, none⟩) m arr.size, .int .i64 (i : Int), .slice (some ⟨vb, voff, none⟩) 1 vc] w fun e w' =>
      e = .returned (.slice (some ⟨b, 0, none⟩) (m + 1) arr.size) ∧ w' = (w.drew.setCells b (i + 1) (cs.drop i)).setCells b i [x] := by
  generalize hc : arr.size = c at hroom
  have hthere : ∀ k, k < m + 1 → (w.cell? ⟨b, k, none⟩).isSome = true := fun k hk => by rw [cell_heap hb, Array.getElem?_eq_getElem (by omega)]; rfl
  have hdl : (cs.drop i).length = m - i := by rw [List.length_drop, hcl]
  have size1 : (P.info? (ρ.t 3)).map (·.size) = some 1 := by
    obtain ⟨k, hk, _, hs, _⟩ := info_parts L.i3
    rw [hk]; simp [hs]
  -- what the three library calls on the way do
  have hov : ∀ lb cb, (callFunc (ρ.f 27) #[.slice (some ⟨vb, voff, none⟩) 1 vc, .slice (some ⟨b, i + 1, none⟩) lb cb]).run P w = .ok (.value (.bool false)) w := fun lb cb => by
    rw [run_callFunc_extern L.f27 (by kernel_rfl) (by kernel_rfl) (by kernel_rfl) (e := Extern.SlicesOverlaps.overlaps #[(ρ.t 22), (ρ.t 22)] #[(ρ.t 4)]) (by kernel_rfl),
      run_overlaps_apart w (ρ.t 22) (ρ.t 4) (ρ.t 3) L.t22 1 L.z3 ⟨vb, voff, none⟩ ⟨b, i + 1, none⟩ 1 vc lb cb hvb elv el arrv.size arr.size (by simp [World.shape?, hv]) (by simp [World.shape?, hb]) (by omega) (frozen_heap hv _) (frozen_heap hv _)]
    rfl
  obtain ⟨W1, hW1⟩ : ∃ W1, W1 = w.drew.setCells b (i + 1) (cs.drop i) := ⟨_, rfl⟩
  have cp1 : ∀ ty dc sc, (Builtin.copy_ #[(ρ.t 22), (ρ.t 22)] ty #[.slice (some ⟨b, i + 1, none⟩) (m - i) dc, .slice (some ⟨b, i, none⟩) (m + 1 - i) sc]).run P w.drew = .ok (goInt (cs.drop i).length) W1 := fun ty dc sc => by
    rw [hW1]
    exact run_copy_cells w.drew _ _ ty (ρ.t 3) b (i + 1) (m - i) dc ⟨b, i, none⟩ (m + 1 - i) sc (cs.drop i) L.t22 size1 (by rw [hdl]; simp only [Nat.min_def]; split <;> omega)
      (fun j v hj => by rw [Addr.add_lit]; rw [List.getElem?_drop] at hj; exact (cell_heap hb _).trans (hcs _ _ hj))
      (fun j hj => hthere _ (by omega)) (fun j _ => frozen_heap (w := w.drew) hb _) (fun v hv => h1c v (List.mem_of_mem_drop hv))
  have hW1there : ∀ k, k < m + 1 → (W1.cell? ⟨b, k, none⟩).isSome = true := fun k hk => by
    rw [hW1]
    exact isSome_setCells b (cs.drop i) (i + 1) w.drew (fun j hj => hthere _ (by rw [hdl] at hj; omega)) k (hthere k hk)
  have cp2 : ∀ (W : World), (∀ a, W.cell? a = W1.cell? a) → (∀ a, W.frozen? a = W1.frozen? a) → ∀ ty dc, (Builtin.copy_ #[(ρ.t 22), (ρ.t 22)] ty #[.slice (some ⟨b, i, none⟩) (m + 1 - i) dc, .slice (some ⟨vb, voff, none⟩) 1 vc]).run P W = .ok (goInt [x].length) (W.setCells b i [x]) := fun W e1 e2 ty dc =>
    run_copy_cells W _ _ ty (ρ.t 3) b i (m + 1 - i) dc ⟨vb, voff, none⟩ 1 vc [x] L.t22 size1 (by simp only [Nat.min_def]; split <;> simp <;> omega)
      (fun j v hj => by
        cases j with
        | succ j => cases hj
        | zero =>
          cases hj
          rw [Addr.add_lit, e1, hW1, World.cell?_setCells_out b _ _ _ _ (fun h _ => absurd h hvb)]
          exact (cell_heap (w := w.drew) hv _).trans hx)
      (fun j hj => by rw [e1]; exact hW1there _ (by simp at hj; omega))
      (fun j hj => by rw [e2, hW1, World.frozen?_setCells]; exact frozen_heap (w := w.drew) hb _) (fun v hv => by rw [List.mem_singleton.1 hv]; exact h1x)
  -- the walk
  have t0 := L.t0; have a0 := L.a0; have z0 := L.z0; have v0 := L.v0; have t3 := L.t3; have a3 := L.a3; have z3 := L.z3; have v3 := L.v3; have t4 := L.t4; have a4 := L.a4; have z4 := L.z4; have v4 := L.v4; have t22 := L.t22; have a22 := L.a22; have z22 := L.z22; have v22 := L.v22
  have u0 := run_underlying L.t0; have u3 := run_underlying L.t3; have u4 := run_underlying L.t4; have u22 := run_underlying L.t22
  have mixed := L.mixed
  have r1 : ¬ ((i : Int) = (m : Int)) := by omega
  have r2 : IntKind.i64.wrap ((i : Int) + 1) = (i : Int) + 1 := by rw [IntKind.wrap_i64]; omega
  have r3 : (0 : Int) ≤ (i : Int) + 1 := by omega
  have r4 : i ≤ m := by omega
  have r5 : ((i : Int) + 1).toNat = i + 1 := by omega
  have r6 : ¬ (c = i + 1) := by omega
  have r7 : (i : Int) ≤ (m : Int) + 1 := by omega
  have r8 : ¬ (c = i) := by omega
  clear hcs hx h1c hthere hW1there hv
  go_enter L.f21, Body2.n21_ntmps ρ
  go_wp2_with (simp only [hov])
  go_region_law_o (refine step_copy_runI rfl _ _ (ρ.t 22) (ρ.t 22) rfl _ _ (by simp [Act.eval, Act.put]) (by simp [Act.eval, Act.put]) (cp1 _ _ _) ?_)
  go_wp2_with (at_builtin; refine wpList_copy_runI _ rfl _ _ (ρ.t 22) (ρ.t 22) rfl _ _ rfl rfl (cp2 _ (fun _ => rfl) (fun _ => rfl) _ _) ?_)
  go_ret
  exact ⟨rfl, rfl⟩
end Go.X
namespace Go.Proofs
open Go.Shelf Go.RowKit Go.Lib
def insRen : Ren where
  f := fun | 21 => 137 | 27 => 182 | 28 => 183 | 35 => 241 | 39 => 295 | _ => 0
  t := fun | 22 => 42 | x => x
  g := fun x => x
theorem Tryz.insLays : Lays2.n21 Tryz.prog insRen where
  mixed := by kernel_rfl
  f21 := Eq.trans Tryz.func137 (congrArg some (by kernel_rfl))
  f27 := Eq.trans Tryz.func182 (congrArg some (by kernel_rfl))
  f28 := Eq.trans Tryz.func183 (congrArg some (by kernel_rfl))
  f35 := Eq.trans Tryz.func241 (congrArg some (by kernel_rfl))
  f39 := Eq.trans Tryz.func295 (congrArg some (by kernel_rfl))
  t0 := Tryz.underlying0
  a0 := Tryz.isAgg0
  z0 := Tryz.sizeOf0
  v0 := Tryz.zeroValue0
  t3 := Tryz.underlying3
  a3 := Tryz.isAgg3
  z3 := Tryz.sizeOf3
  v3 := Tryz.zeroValue3
  t4 := Tryz.underlying4
  a4 := Tryz.isAgg4
  z4 := Tryz.sizeOf4
  v4 := Tryz.zeroValue4
  t22 := Tryz.underlying42
  a22 := Tryz.isAgg42
  z22 := Tryz.sizeOf42
  v22 := Tryz.zeroValue42
  i3 := by kernel_rfl

end Go.Proofs
namespace Go.X
open Go.Proofs Go.Lib
/-- the cells of a row, laid over -/
theorem setCells_heap (b : Nat) : ∀ (vs : List Value) (o : Nat) (w : World) (arr : Array Value) (el : TypeId), w.heap[b]? = some (.cells arr el (0, 0)) →
    ∃ arr', (w.setCells b o vs).heap[b]? = some (.cells arr' el (0, 0)) ∧ arr'.size = arr.size
  | [], o, w, arr, el, h => ⟨arr, h, rfl⟩
  | v :: vs, o, w, arr, el, h => by
    have h1 : (w.setCell ⟨b, o, none⟩ v).heap[b]? = some (.cells (arr.setIfInBounds o v) el (0, 0)) := by
      have hlt : b < w.heap.size := (Array.getElem?_eq_some_iff.1 h).1
      have hv : w.heap[b] = .cells arr el (0, 0) := (Array.getElem?_eq_some_iff.1 h).2
      unfold World.setCell
      rw [Array.getElem?_eq_getElem (by simpa using hlt), Array.getElem_modify]
      simp [hv]
    obtain ⟨arr', h2, h3⟩ := setCells_heap b vs (o + 1) _ _ el h1
    exact ⟨arr', h2, by rw [h3]; simp⟩
/-- what is laid lies there -/
theorem setCells_in {w : World} {b o : Nat} {vs : List Value} {arr : Array Value} {el : TypeId} (h : w.heap[b]? = some (.cells arr el (0, 0))) (hle : o + vs.length ≤ arr.size) {j : Nat} {v : Value} (hv : vs[j]? = some v) : (w.setCells b o vs).cell? ⟨b, o + j, none⟩ = some v := by
  obtain ⟨hj, e⟩ := List.getElem?_eq_some_iff.1 hv
  have := World.cell?_setCells_in b vs o w (fun j hj => by rw [cell_heap h, Array.getElem?_eq_getElem (by omega)]; rfl) j hj
  rw [this, ← hv]
  simp [hj]
theorem setCells_other (w : World) (b o : Nat) (vs : List Value) {k : Nat} (hk : k < w.heap.size) (hne : k ≠ b) : (w.setCells b o vs).heap[k]? = w.heap[k]? := World.heap_setCells_other w b o vs hk hne
theorem setCells_size (b : Nat) : ∀ (vs : List Value) (o : Nat) (w : World), (w.setCells b o vs).heap.size = w.heap.size
  | [], _, _ => rfl
  | v :: vs, o, w => by
    show ((w.setCell ⟨b, o, none⟩ v).setCells b (o + 1) vs).heap.size = _
    rw [setCells_size b vs]; simp [World.setCell]
theorem setCells_tape (b : Nat) : ∀ (vs : List Value) (o : Nat) (w : World), (w.setCells b o vs).tape = w.tape ∧ (w.setCells b o vs).os = w.os ∧ (w.setCells b o vs).output = w.output
  | [], _, _ => ⟨rfl, rfl, rfl⟩
  | v :: vs, o, w => setCells_tape b vs (o + 1) (w.setCell ⟨b, o, none⟩ v)
/-- two rows laid: i cells that stay, the new one, the others -/
theorem laid_all {w1 w2 : World} {b i : Nat} {cs : List Value} {x : Value} (hi : i ≤ cs.length) (h0 : ∀ j v, (cs.take i)[j]? = some v → w2.cell? ⟨b, j, none⟩ = some v) (h1 : w2.cell? ⟨b, i, none⟩ = some x)
    (h2 : ∀ j v, (cs.drop i)[j]? = some v → w2.cell? ⟨b, i + 1 + j, none⟩ = some v) : ∀ (j : Nat) (v : Value), (cs.take i ++ x :: cs.drop i)[j]? = some v → w2.cell? ⟨b, j, none⟩ = some v := by
  intro j v hv
  have hl : (cs.take i).length = i := by rw [List.length_take]; omega
  by_cases hj : j < i
  · rw [List.getElem?_append_left (by omega)] at hv; exact h0 j v hv
  · rw [List.getElem?_append_right (by omega), hl] at hv
    obtain ⟨k, rfl⟩ : ∃ k, j = i + k := ⟨j - i, by omega⟩
    rw [Nat.add_sub_cancel_left] at hv
    cases k with
    | zero => cases hv; exact h1
    | succ k => rw [List.getElem?_cons_succ] at hv; have := h2 k v hv; rwa [show i + 1 + k = i + (k + 1) by omega] at this
theorem insOk : InsOk Tryz.prog 137 where
  en := ⟨_, _, Tryz.func137, rfl, by kernel_rfl⟩
  run := fun b vb voff vc m i cs x w arr arrv el elv hi hm hma hvb hcl hb hv hcs hx h1c h1x => by
    have hcs' : ∀ j v, cs[j]? = some v → w.cell? ⟨b, 0 + j, none⟩ = some v := fun j v hj => by rw [Nat.zero_add, cell_heap hb]; exact hcs j v hj
    have hvs' : ∀ j v, [x][j]? = some v → w.cell? ⟨vb, voff + j, none⟩ = some v := fun j v hj => by
      cases j with
      | zero => cases hj; rw [Nat.add_zero, cell_heap hv]; exact hx
      | succ j => cases hj
    have h1v : ∀ v ∈ [x], v.oneCell' = true := fun v hv => by rw [List.mem_singleton.1 hv]; exact h1x
    have hbs : b < w.heap.size := (Array.getElem?_eq_some_iff.1 hb).1
    by_cases hroom : m + 1 ≤ arr.size
    · have hlt := hi
      have hsp : ∀ j, j < m + 1 → (w.cell? ⟨b, 0 + j, none⟩).isSome = true := fun j hj => by rw [Nat.zero_add, cell_heap hb, Array.getElem?_eq_getElem (by omega)]; rfl
      · -- in place
        refine (ins_room Tryz.insLays hlt hm hroom hvb hcl hb hv hcs hx h1c h1x).mono ?_
        rintro e w' ⟨rfl, rfl⟩
        have hb0 : w.drew.heap[b]? = some (.cells arr el (0, 0)) := hb
        obtain ⟨a1, q1, q2⟩ := setCells_heap b (cs.drop i) (i + 1) w.drew arr el hb0
        obtain ⟨a2, q3, q4⟩ := setCells_heap b [x] i _ a1 el q1
        refine ⟨b, a2, el, by rw [q4, q2], q3, by rw [q4, q2]; exact hroom, ?_, .inl rfl, fun k hk hne => ?_, ?_, ?_, ?_, ?_⟩
        · have hd : (cs.drop i).length = m - i := by rw [List.length_drop, hcl]
          have := laid_all (w1 := w) (w2 := (w.drew.setCells b (i + 1) (cs.drop i)).setCells b i [x]) (b := b) (x := x) (cs := cs) (i := i) (by omega) ?_ ?_ ?_
          · intro j v hj; rw [← cell_heap q3]; exact this j v hj
          · intro j v hj
            have hji : j < i := by
              have := (List.getElem?_eq_some_iff.1 hj).1
              rw [List.length_take] at this; omega
            rw [World.cell?_setCells_out b _ _ _ _ (fun _ _ => .inl (by show j < i; omega)), World.cell?_setCells_out b _ _ _ _ (fun _ _ => .inl (by show j < i + 1; omega)), cell_heap hb0]
            rw [List.getElem?_take, if_pos hji] at hj
            exact hcs j v hj
          · have := setCells_in (o := i) (vs := [x]) (j := 0) (v := x) q1 (by simp; omega) rfl
            simpa using this
          · intro j v hj
            rw [World.cell?_setCells_out b _ _ _ _ (fun _ _ => .inr (by show i + 1 ≤ i + 1 + j; omega))]
            have := setCells_in (o := i + 1) (vs := cs.drop i) hb0 (by rw [hd]; omega) hj
            simpa using this
        · rw [setCells_other _ b _ _ (by rw [setCells_size]; exact hk) hne, setCells_other w.drew b _ _ hk hne]; rfl
        · rw [setCells_size, setCells_size]; exact Nat.le_refl _
        · rw [(setCells_tape b _ _ _).2.1, (setCells_tape b _ _ _).2.1]; rfl
        · rw [(setCells_tape b _ _ _).1, (setCells_tape b _ _ _).1]; rfl
        · rw [(setCells_tape b _ _ _).2.2, (setCells_tape b _ _ _).2.2]; rfl
    · have hma' : arr.size = m := by omega
      have hhi := hi
      refine (Any2.slices_Insert_int_grow Tryz.insLays b 0 m arr.size i vb voff 1 vc cs [x] w hi (by omega) (by omega) (by omega) (by omega) hcl rfl hcs' hvs' h1c h1v).mono ?_
      rintro e w' ⟨rfl, rfl⟩
      have hge := grownCap_ge w (m + 1) arr.size (insRen.t 3)
      generalize hg : grownCap w (m + 1) arr.size (insRen.t 3) = g at hge ⊢
      generalize hA : (cs.take i).toArray ++ Builtin.zeroCells (Value.int .i64 0).cells (m + 1 - i) ++ Builtin.zeroCells (Value.int .i64 0).cells (g - (m + 1)) = A
      have hti : (cs.take i).length = i := by rw [List.length_take]; omega
      have hAs : A.size = g := by
        rw [← hA]
        simp [size_zeroCells, hti, Value.cells]
        omega
      have hA0 : ∀ (j : Nat) (v : Value), (cs.take i)[j]? = some v → A[j]? = some v := by
        intro j v hj
        have hlt := (List.getElem?_eq_some_iff.1 hj).1
        rw [← hA, Array.append_assoc, Array.getElem?_append_left (by simpa using hlt)]
        simpa using hj
      have hb0 : (w.alloc (.cells A (insRen.t 3))).drew.heap[w.heap.size]? = some (.cells A (insRen.t 3) (0, 0)) := heap_alloc_new w _
      obtain ⟨a1, q1, q2⟩ := setCells_heap w.heap.size [x] i _ A _ hb0
      have q1' : ((w.alloc (.cells A (insRen.t 3))).drew.setCells w.heap.size i [x]).drew.heap[w.heap.size]? = some (.cells a1 (insRen.t 3) (0, 0)) := q1
      obtain ⟨a2, q3, q4⟩ := setCells_heap w.heap.size (cs.drop i) (i + 1) _ a1 _ q1'
      have hd : (cs.drop i).length = m - i := by rw [List.length_drop, hcl]
      refine ⟨w.heap.size, a2, _, by rw [q4, q2, hAs], q3, by rw [q4, q2, hAs]; exact hge, ?_, .inr rfl, fun k hk hne => ?_, ?_, ?_, ?_, ?_⟩
      · have := laid_all (w1 := w) (w2 := (((w.alloc (.cells A (insRen.t 3))).drew.setCells w.heap.size i [x]).drew).setCells w.heap.size (i + 1) (cs.drop i)) (b := w.heap.size) (x := x) (cs := cs) (i := i) (by omega) ?_ ?_ ?_
        · intro j v hj; rw [← cell_heap q3]; exact this j v hj
        · intro j v hj
          have hji : j < i := by
            have := (List.getElem?_eq_some_iff.1 hj).1
            omega
          rw [World.cell?_setCells_out _ _ _ _ _ (fun _ _ => .inl (by show j < i + 1; omega))]
          show ((w.alloc (.cells A (insRen.t 3))).drew.setCells w.heap.size i [x]).cell? ⟨w.heap.size, j, none⟩ = _
          rw [World.cell?_setCells_out _ _ _ _ _ (fun _ _ => .inl hji), cell_heap hb0]
          exact hA0 j v hj
        · rw [World.cell?_setCells_out _ _ _ _ _ (fun _ _ => .inl (by show i < i + 1; omega))]
          have := setCells_in (o := i) (vs := [x]) (j := 0) (v := x) hb0 (by simp; omega) rfl
          exact this
        · intro j v hj
          exact setCells_in (o := i + 1) (vs := cs.drop i) q1' (by rw [hd]; omega) hj
      · have hkx : k < (w.alloc (.cells A (insRen.t 3))).heap.size := by simp; omega
        rw [setCells_other _ _ _ _ (by show k < (World.setCells _ _ _ _).heap.size; rw [setCells_size]; exact hkx) (by omega)]
        show ((w.alloc (.cells A (insRen.t 3))).drew.setCells w.heap.size i [x]).heap[k]? = _
        rw [setCells_other (w.alloc (.cells A (insRen.t 3))).drew _ _ _ hkx (by omega)]
        first | exact heap_alloc_old w _ k hk | exact heap_alloc_old w _ hk
      · rw [setCells_size]
        show _ ≤ ((w.alloc (.cells A (insRen.t 3))).drew.setCells w.heap.size i [x]).heap.size
        rw [setCells_size]
        show _ ≤ (w.alloc (.cells A (insRen.t 3))).heap.size
        simp
      · rw [(setCells_tape _ _ _ _).2.1]
        show ((w.alloc (.cells A (insRen.t 3))).drew.setCells w.heap.size i [x]).os = _
        rw [(setCells_tape _ _ _ _).2.1]; rfl
      · rw [(setCells_tape _ _ _ _).1]
        show ((w.alloc (.cells A (insRen.t 3))).drew.setCells w.heap.size i [x]).tape = _
        rw [(setCells_tape _ _ _ _).1]; rfl
      · rw [(setCells_tape _ _ _ _).2.2]
        show ((w.alloc (.cells A (insRen.t 3))).drew.setCells w.heap.size i [x]).output = _
        rw [(setCells_tape _ _ _ _).2.2]; rfl
end Go.X
