/- An executable reading of the model, its soundness over any program, and what it reads of this program. -/
import Derived.Test.YtfpdaeihlnlhcaaGreatUXR
import Derived.RangeFuncRecord
set_option linter.unusedSectionVars false
set_option linter.unusedVariables false
set_option linter.unusedSimpArgs false
set_option linter.constructorNameAsVariable false
namespace Go.X
variable [Sym]
variable {P : Program} {cD : Nat → List Nat → Array Oper → Option DR3} {E E' E1 : Env} {w w' w1 : World} {h h' h1 : HT} {n n' n1 : Pa} {ft : T Func} {ih : Ih}

theorem drop_put {K : Loop → List Nat → List U → Code → Code → Prop} {id : Pa} {o : Obj} (hw : WRel K E w h n) (hin : In h n id) : WRel K E (w.putObj (E.blk id) o) (T.set .e id h) n ∧ Step E w h n E (w.putObj (E.blk id) o) (T.set .e id h) n := by
  have hne : ∀ p, In (T.set .e id h) n p → p ≠ id ∧ In h n p := fun p hp => by
    rcases In.set hin.1 hp with rfl | h1
    · exact absurd (T.get_del_same p h) hp.2
    · exact ⟨fun e => by subst e; exact absurd (T.get_del_same p h) hp.2, h1⟩
  refine ⟨(hw.del hin.1).frame (fun p hp => ?_) (fun hh => World.putObj_heap_other fun e => (hw.arg hh).2 id hin e.symm), ⟨rfl, Nat.le_refl _, fun _ _ _ => ⟨rfl, rfl⟩, rfl, rfl, rfl, by simp, fun b _ hno => ?_, fun p hp => .inr ⟨p, (hne p hp).2, rfl⟩⟩⟩
  · obtain ⟨h1, h2⟩ := hne p hp
    exact World.putObj_heap_other fun e => h1 (hw.inj p id h2 hin e)
  · exact World.putObj_heap_other fun e => hno id hin e.symm
theorem FnIs.en {fid : Nat} {F : Func} {fn : Go.Func} {c : Go.Code} {nm : List Nat} (hF : FnIs P cD fid F fn c nm) : FnEn P fid := ⟨fn, c, hF.func, hF.body, hF.name⟩

/-- how a call goes on -/
def KOk (P : Program) (cD : Nat → List Nat → Array Oper → Option DR3) (E : Env) (w : World) (h : HT) (n : Pa) (k : KV) (res : Res) (G : Value → World → Prop) : Prop :=
  ∀ E' w' h' n' v, WRel (KLp P cD) E' w' h' n' → Step E w h n E' w' h' n' → Sc (Up n') v → k v h' n' = res → G (den E' v) w'
theorem KOk.step {k : KV} {res : Res} {G : Value → World → Prop} (hk : KOk P cD E w h n k res G) (s : Step E w h n E1 w1 h1 n1) : KOk P cD E1 w1 h1 n1 k res G :=
  fun E' w' h' n' v r1 r2 r3 r4 => hk E' w' h' n' v r1 (s.trans r2) r3 r4

theorem drec_ok {k : Option AV → HT → Pa → DR} {o : DR} {fr : Fr} {F : Func} {k1 kp : KV} {res : Res} (he : endK F fr k1 kp (@DR.rec (fun _ => DR) k .no o) = res) (hok : res.ok) : ∃ p h n, o = .ok p h n ∧ endK F fr k1 kp (k p h n) = res := by
  cases o with
  | ok p h n => exact ⟨p, h, n, rfl, he⟩
  | no m => have he2 : Res.no m = res := he; subst he2; exact hok.elim
theorem settle_none {u : FrameMode} (hp : PMu E n none u) : settle u = .returning := by
  rcases hp with rfl | ⟨v, rfl⟩ <;> simp [settle]
theorem settle_some {u : FrameMode} {v : AV} (hp : PMu E n (some v) u) : settle u = u := by
  obtain ⟨rfl, _⟩ := hp
  simp [settle, pan]
theorem enterD_ok {F : Func} {as : List AV} {k : Fr → DR} {no : Nat} {res : DR} (he : enterK (.no no) F as k = res) (hg : res.good) : as.length = F.np ∧ k (as ++ F.pad) = res := by
  unfold enterK at he
  rw [isLen_eq, appK_eq] at he
  by_cases hl : as.length = F.np
  · simp [hl] at he; exact ⟨hl, he⟩
  · simp [hl] at he; subst he; exact hg.elim
theorem noRs_ok {k : DR} {rs : List Rv} {res : DR} (he : noRs k rs = res) (hg : res.good) : rs = [] ∧ k = res := by
  cases rs with
  | nil => exact ⟨rfl, he⟩
  | cons d ds => have he' : DR.no 68 = res := he; subst he'; exact hg.elim
theorem ifD_ok {b : Bool} {no : Nat} {k : DR} {res : DR} (he : ifB b (.no no) k = res) (hg : res.good) : b = false ∧ k = res := by
  cases b with
  | false => exact ⟨rfl, he⟩
  | true => have he' : DR.no no = res := he; subst he'; exact hg.elim

/-- a deferred call of a function -/
theorem dCall_sound (hft : TabOk P cD ft) {f : Pa} {as : List AV} {p p' : Option AV} {u : FrameMode} {R : Ending → FrameMode → World → Prop} (hw : WRel (KLp P cD) E w h n) (hs : ScL (Up n) as) (hp : PMu E n p u)
    (he : dCallF as (ft.get f) p h n = .ok p' h' n')
    (hk : ∀ E' w' u' v, WRel (KLp P cD) E' w' h' n' → Step E w h n E' w' h' n' → PMu E' n' p' u' → R (.returned v) u' w') :
    CallsDIn (FW none) 0 P (val f) (denL E as).toArray u w R ∧ ∃ F fn c nm, FnIs P cD (val f) F fn c nm := by
  cases hF : ft.get f with
  | none => rw [hF] at he; cases he
  | some F =>
    rw [hF] at he
    obtain ⟨hdfr, he⟩ := ifD_ok (k := noRs (enterK (.no 64) F as fun fr => dCode F.body p fr h n fun _ p _ h n => .ok p h n) F.res) he trivial
    obtain ⟨fn, c, nm, hi⟩ := (hft.1 f F hF).resolve_right fun hh => by rw [hh.2.1] at hdfr; cases hdfr
    refine ⟨?_, F, fn, c, nm, hi⟩
    obtain ⟨hres, he⟩ := noRs_ok he trivial
    obtain ⟨hl, he⟩ := enterD_ok he trivial
    have hsr := enter_sound hi hl hs hw
    refine callsDIn_of_wpSIn hi.func hi.body trivial (fun c₀ cs hu => ?_)
    have hc0 : ({ c₀ with mode := u } : Frame) = c₀ := by subst hu; rfl
    have key := dCode_sound (c₀ := c₀) (cs := cs) (hft.2 ⟨f, F, hF⟩ _) hi.nodup F.body c hi.code (Q := bodyPostS P fn c₀ cs R) hsr hp he trivial ?_
    · rw [hc0] at key; exact key
    · intro go E' a' w' p2 u' f' h2 n2 q1 q2 q3 q4
      cases q4
      have hnil := q1.ds.nil
      have hr := results_sound hi q1.fr q1.sc q1.wr (vs := []) (by rw [hres]; rfl)
      cases go <;> exact ⟨hnil, u', rfl, _, hr.1, hk E' w' u' _ q1.wr q3 q2⟩

theorem dAll_sound (hft : TabOk P cD ft) {fid : Nat} {F : Func} {fn : Go.Func} {c : Go.Code} {nm : List Nat} (hi : FnIs P cD fid F fn c nm) {tmps : Array Value} {fr : Fr} {R : Ending → World → Prop} {k kp : KV} {res : Res} (hok : res.ok) :
    ∀ (ds : List Df) {ds' : List Deferred} {E : Env} {w : World} {h : HT} {n : Pa} {p : Option AV} {u : FrameMode}, DsR E n ds ds' → WRel (KLp P cD) E w h n → FRel E nm fr tmps → ScL (Up n) fr → PMu E n p u → settle u = u →
      endK F fr k kp (dAll ft ds p h n) = res → KOk P cD E w h n k res (fun v w' => R (.returned v) w') → KOk P cD E w h n kp res (fun v w' => R (.panicked (pan v)) w') →
      LeavesInM (FW none) 0 P fn tmps R ds' u w
  | [], ds', E, w, h, n, p, u, hd, hw, hf, hsf, hp, hse, he, hk, hkp => by
    have := hd.nil
    subst this
    cases p with
    | none =>
      have hu : u = .returning := by rw [← hse]; exact settle_none hp
      subst hu
      obtain ⟨vs, hvs, e1⟩ := finK_ok (he : finK k h n (resL fr h F.res) = res) hok
      obtain ⟨r1, r2⟩ := results_sound hi hf hsf hw hvs
      exact ⟨_, r1, hk E w h n _ hw (Step.refl _ _ _ _) r2 e1⟩
    | some v =>
      obtain ⟨rfl, sv⟩ := hp
      exact hkp E w h n v hw (Step.refl _ _ _ _) sv he
  | d :: ds, [], _, _, _, _, _, _, hd, _, _, _, _, _, _, _, _ => hd.elim
  | d :: ds, d' :: ds', E, w, h, n, p, u, hd, hw, hf, hsf, hp, hse, he, hk, hkp => by
    obtain ⟨p1, h1, n1, e1, e2⟩ := drec_ok (k := dAll ft ds) (o := dCall ft d p h n) he hok
    have hrun : u ≠ .run := by
      cases p with
      | none => rcases hp with rfl | ⟨v, rfl⟩ <;> simp
      | some v => obtain ⟨rfl, _⟩ := hp; simp
    refine ⟨hrun, ?_⟩
    cases d with
    | d f as =>
      right
      obtain ⟨hs, cap, ht, ha⟩ := hd.1
      refine ⟨by simp [FW], ?_⟩
      have e1' : dCallF as (ft.get f) p h n = .ok p1 h1 n1 := e1
      obtain ⟨hcall, F2, fn2, c2, nm2, hi2⟩ := dCall_sound (R := fun
          | .returned _, u', w' => LeavesInM (FW none) 0 P fn tmps R ds' (settle u') w'
          | .panicked chain, u', w' => LeavesInM (FW none) 0 P fn tmps R ds' (raised u' chain) w'
          | .outgrown, _, w' => R .outgrown w') hft hw hs hp e1' (by
        intro E' w' u' v q1 q2 q3
        refine dAll_sound hft hi hok ds (hd.2.step q2) q1 (hf.step hsf q2) (q2.scl hsf) ?_ ?_ e2 (hk.step q2) (hkp.step q2)
        · cases p1 with
          | none => rw [settle_none q3]; exact .inl rfl
          | some v => rw [settle_some q3]; exact q3
        · cases p1 with
          | none => rw [settle_none q3]; rfl
          | some v => rw [settle_some q3]; exact settle_some q3)
      have hargs : d'.args ++ cap = (denL E as).toArray := Array.ext' (by simpa using ha)
      exact ⟨_, cap, val f, _, ht, by rw [ht, hi2.en.invoke, hargs], fun _ _ => trivial, hcall⟩
    | col id =>
      left
      obtain ⟨hu, ht⟩ := hd.1
      have e1' : blkD (DR.no 67) (T.setK .e id h fun h => DR.ok p h n) (h.get id) = DR.ok p1 h1 n1 := e1
      cases hb : h.get id with
      | none => rw [hb] at e1'; cases e1'
      | some b =>
        rw [hb] at e1'
        cases b with
        | c l => cases e1'
        | lp ps a b fr => cases e1'
        | mp nk es => cases e1'
        | cz m z l => cases e1'
        | df =>
          have e3 : T.setK .e id h (fun h => DR.ok p h n) = .ok p1 h1 n1 := e1'
          rw [T.setK_eq] at e3
          cases e3
          have hblk : w.heap[E.blk id]? = some (.deferred (some [])) := (hw.blk id .df hu.1 hb).1
          have hin : In h n id := ⟨hu.1, by rw [hb]; simp⟩
          obtain ⟨w2, st⟩ := drop_put (o := .deferred none) hw hin
          exact ⟨E.blk id, _, ht, run_takeDeferred hblk, dAll_sound hft hi hok ds (hd.2.step st) w2 (hf.step hsf st) (st.scl hsf) hp hse e2 (hk.step st) (hkp.step st)⟩

/-- a call of a function -/
theorem callF_sound (hft : TabOk P cD ft) (hih : CodeOk P cD ih) {p : Pa} {as : List AV} {k kp : KV} {res : Res} {R : Ending → World → Prop} (hw : WRel (KLp P cD) E w h n) (hs : ScL (Up n) as)
    (he : callF ft ih as k kp (ft.get p) h n = res) (hok : res.ok) (hk : KOk P cD E w h n k res (fun v w' => R (.returned v) w')) (hkp : KOk P cD E w h n kp res (fun v w' => R (.panicked (pan v)) w')) :
    CallsIn (FW none) 0 P (val p) (denL E as).toArray w R ∧ FnEn P (val p) := by
  cases hF : ft.get p with
  | none => rw [hF] at he; have he2 : Res.no 54 = res := he; subst he2; exact hok.elim
  | some F =>
    rw [hF] at he
    rcases hft.1 p F hF with ⟨fn, c, nm, hi⟩ | ⟨hin, _, hI⟩
    rotate_left
    · refine ⟨?_, hI.en⟩
      have he1 : @Bool.rec (fun _ => Res) (@Option.rec AV (fun _ => Res) (cfP F ft ih as k kp h n) (fun v => k v h n) (F.sp as)) (insK as k h n) F.ins = res := he
      rw [hin] at he1
      have he2 : insK as k h n = res := he1
      unfold insK at he2
      cases hr : insR as h n with
      | no m => rw [hr] at he2; have he3 : Res.no m = res := he2; subst he3; exact hok.elim
      | ok v h' n' =>
        rw [hr] at he2
        refine callsIn_wide.2 ((ins_sound hI hw hs hr).mono fun e w' ⟨E', q1, q2, q3, q4⟩ => ?_)
        subst q1
        exact hk E' w' h' n' v q2 q3 q4 he2
    refine ⟨?_, hi.en⟩
    have he1 : @Bool.rec (fun _ => Res) (@Option.rec AV (fun _ => Res) (cfP F ft ih as k kp h n) (fun v => k v h n) (F.sp as)) (insK as k h n) F.ins = res := he
    rw [hi.ins] at he1
    cases hsp : F.sp as with
    | some v =>
      rw [hsp] at he1
      have he2 : k v h n = res := he1
      obtain ⟨q1, q2⟩ := hi.sp _ as v hsp
      refine callsIn_wide.2 ((q2 E w).mono fun e w' ⟨q3, q4⟩ => ?_)
      subst q3
      obtain ⟨q5, q6⟩ := q4.rel hw
      exact hk E w' h n v q5 q6 (q1 _ hs) he2
    | none =>
    rw [hsp] at he1
    have he : cfP F ft ih as k kp h n = res := he1
    obtain ⟨hl, he⟩ := enterK_ok he hok
    have hsr := enter_sound hi hl hs hw
    have hrok : (ih F.body (as ++ F.pad) [] h n).ok := by
      cases hr : ih F.body (as ++ F.pad) [] h n with
      | no m =>
        rw [hr] at he
        cases hd : F.dfr with
        | true => rw [hd] at he; have he2 : Res.no m = res := he; subst he2; exact hok.elim
        | false => rw [hd] at he; have he2 : Res.no m = res := he; subst he2; exact hok.elim
      | _ => trivial
    have hbody := (hih none fn.ntmps nm c F.body E _ w (as ++ F.pad) [] h n hi.code hi.nodup (fun h => absurd rfl h) hsr hrok).1
    refine callsIn_of_wp_marks hi.func hi.body trivial (wpIn_mono hbody fun e a' w' hq => ?_)
    revert he hq
    cases hr : ih F.body (as ++ F.pad) [] h n with
    | no m => rw [hr] at hrok; exact hrok.elim
    | ex id f' ds' h' n' =>
      intro he hq
      cases hd : F.dfr with
      | true => rw [hd] at he; have he2 : Res.no 52 = res := he; subst he2; exact hok.elim
      | false => rw [hd] at he; have he2 : Res.no 51 = res := he; subst he2; exact hok.elim
    | nm f' ds' h' n' =>
      intro he hq
      cases e with
      | normal =>
        obtain ⟨E', q1, q2⟩ := hq
        cases hd : F.dfr with
        | true =>
          rw [hd] at he
          exact dAll_sound hft hi hok ds' (p := none) q1.ds q1.wr q1.fr q1.sc (.inl rfl) rfl he (hk.step q2) (hkp.step q2)
        | false =>
          rw [hd] at he
          obtain ⟨rfl, e1⟩ := noDs_ok (he : noDs (.no 51) _ ds' = res) hok
          obtain ⟨vs, hvs, e2⟩ := finK_ok e1 hok
          obtain ⟨r1, r2⟩ := results_sound hi q1.fr q1.sc q1.wr hvs
          have hnil := q1.ds.nil
          show LeavesInM _ _ _ _ _ _ a'.defers _ _
          rw [hnil]
          exact ⟨_, r1, hk E' w' h' n' _ q1.wr q2 r2 e2⟩
      | _ => exact hq.elim
    | rt f' ds' h' n' =>
      intro he hq
      cases e with
      | ret =>
        obtain ⟨E', q1, q2⟩ := hq
        cases hd : F.dfr with
        | true =>
          rw [hd] at he
          exact dAll_sound hft hi hok ds' (p := none) q1.ds q1.wr q1.fr q1.sc (.inl rfl) rfl he (hk.step q2) (hkp.step q2)
        | false =>
          rw [hd] at he
          obtain ⟨rfl, e1⟩ := noDs_ok (he : noDs (.no 51) _ ds' = res) hok
          obtain ⟨vs, hvs, e2⟩ := finK_ok e1 hok
          obtain ⟨r1, r2⟩ := results_sound hi q1.fr q1.sc q1.wr hvs
          have hnil := q1.ds.nil
          show LeavesInM _ _ _ _ _ _ a'.defers _ _
          rw [hnil]
          exact ⟨_, r1, hk E' w' h' n' _ q1.wr q2 r2 e2⟩
      | _ => exact hq.elim
    | pc v f' ds' h' n' =>
      intro he hq
      cases e with
      | panic ch =>
        obtain ⟨E', rfl, sv, q1, q2⟩ := hq
        cases hd : F.dfr with
        | true =>
          rw [hd] at he
          exact dAll_sound hft hi hok ds' (p := some v) q1.ds q1.wr q1.fr q1.sc ⟨rfl, sv⟩ (by simp [settle, pan]) he (hk.step q2) (hkp.step q2)
        | false =>
          rw [hd] at he
          obtain ⟨rfl, e1⟩ := noDs_ok (he : noDs (.no 51) _ ds' = res) hok
          have hnil := q1.ds.nil
          show LeavesInM _ _ _ _ _ _ a'.defers _ _
          rw [hnil]
          exact hkp E' w' h' n' v q1.wr q2 sv e1
      | _ => exact hq.elim
theorem callsIn_ro {ro : Option Nat} {f : FuncId} {args : Array Value} {R : Ending → World → Prop} (hc : CallsIn (FW none) 0 P f args w R) : CallsIn (FW ro) 0 P f args w R := hc
end Go.X

namespace Go.X
variable [Sym]
variable {P : Program} {cD : Nat → List Nat → Array Oper → Option DR3} {E E' E1 : Env} {w w' w1 : World} {h h' h1 : HT} {n n' n1 : Pa} {ft : T Func} {ih : Ih}

/-! ### a round -/
theorem Step.touch {id : Pa} {o : Obj} (s : Step E w h n E' w' h' n') (hin : In h n id) : Step E w h n E' (w'.putObj (E.blk id) o) h' n' :=
  ⟨s.len, s.le, s.env, s.os, s.tape, s.output, by simpa using s.size, fun b hb hno => by rw [World.putObj_heap_other (fun e => hno id hin e.symm)]; exact s.keep b hb hno, s.own⟩
theorem Step.back {id : Pa} {b : Blk} (s : Step E w h n E' w' h' n') (hin : In h n id) (hu : Up n id) : Step E w h n E' w' (T.set (.v b) id h') n' :=
  ⟨s.len, s.le, s.env, s.os, s.tape, s.output, s.size, s.keep, fun p hp => by
    rcases In.set (hin.1.trans s.len.symm) hp with rfl | h1
    · exact .inr ⟨p, hin, ((s.env p hu.1 (by have := hu.2; omega)).1).symm⟩
    · exact s.own p h1⟩
/-- a block that is not the heap's stays none -/
theorem Step.off {b : Nat} (s : Step E w h n E' w' h' n') (hb : b < w.heap.size) (hno : ∀ p, In h n p → E.blk p ≠ b) : ∀ p, In h' n' p → E'.blk p ≠ b := fun p hp e => by
  rcases s.own p hp with h1 | ⟨q, hq, e1⟩
  · omega
  · exact hno q hq (e1.trans e)
theorem parK_sound {nm : List Nat} (hn : nm.Nodup) {k : Fr → Res} {res : Res} (hok : res.ok) : ∀ {ps : List U} {params : List Nat} {as : List AV} {fr : Fr} {tmps : Array Value}, cPs nm params = some ps → FRel E nm fr tmps → ScL (Up n) fr → ScL (Up n) as → parK k ps as fr = res →
    ∃ fr', k fr' = res ∧ ScL (Up n) fr' ∧ params.length = as.length ∧ FRel E nm fr' ((params.zip (denL E as)).foldl (fun tmps (p : Nat × Value) => tmps.setIfInBounds p.1 p.2) tmps) ∧
      ((params.zip (denL E as)).foldl (fun tmps (p : Nat × Value) => tmps.setIfInBounds p.1 p.2) tmps).size = tmps.size
  | ps, [], as, fr, tmps, hp, hf, hs, hsa, he => by
    cases hp
    cases as with
    | nil => exact ⟨fr, he, hs, rfl, hf, rfl⟩
    | cons v as => have he2 : Res.no 72 = res := he; subst he2; exact hok.elim
  | ps, t :: params, as, fr, tmps, hp, hf, hs, hsa, he => by
    obtain ⟨i, hi, hp⟩ := bind_some hp
    obtain ⟨ps', hps, rfl⟩ := map_some hp
    cases as with
    | nil => have he2 : Res.no 72 = res := he; subst he2; exact hok.elim
    | cons v as =>
      have he2 : setU v i fr (parK k ps' as) = res := he
      rw [setU_eq] at he2
      obtain ⟨fr', e1, e2, e3, e4, e5⟩ := parK_sound hn hok hps (hf.put hn hi v) (sc_set hs _ hsa.1) hsa.2 he2
      exact ⟨fr', e1, e2, by simp [e3], e4, by rw [denL, List.zip_cons_cons, List.foldl_cons, e5]; simp⟩

theorem rndE_ok {b : Blk} {id : Pa} {k : KV} {r res : Res} (he : rndE b id k r = res) (hok : res.ok) : ∃ f h n, r = .nm f [] h n ∧ k (.b true) (T.set (.v b) id h) n = res := by
  cases r with
  | nm f ds h n =>
    obtain ⟨rfl, e⟩ := noDs_ok (he : noDs (.no 73) _ ds = res) hok
    rw [T.setK_eq] at e
    exact ⟨f, h, n, rfl, e⟩
  | ex => have he2 : Res.no 73 = res := he; subst he2; exact hok.elim
  | rt => have he2 : Res.no 73 = res := he; subst he2; exact hok.elim
  | pc => have he2 : Res.no 73 = res := he; subst he2; exact hok.elim
  | no m => have he2 : Res.no m = res := he; subst he2; exact hok.elim
theorem rndB_ok {b : Code} {e : Res → Res} {r res : Res} (he : rndB ih b e r = res) (hok : res.ok) : ∃ f h n, r = .nm f [] h n ∧ e (ih b f [] h n) = res := by
  cases r with
  | nm f ds h n =>
    obtain ⟨rfl, e⟩ := noDs_ok (he : noDs (.no 74) _ ds = res) hok
    exact ⟨f, h, n, rfl, e⟩
  | ex => have he2 : Res.no 74 = res := he; subst he2; exact hok.elim
  | rt => have he2 : Res.no 74 = res := he; subst he2; exact hok.elim
  | pc => have he2 : Res.no 74 = res := he; subst he2; exact hok.elim
  | no m => have he2 : Res.no m = res := he; subst he2; exact hok.elim
theorem blkL_ok {k : List U → Code → Code → Fr → Res} {no : Nat} {o : Option Blk} {res : Res} (he : blkL (.no no) k o = res) (hok : res.ok) : ∃ ps a b fr, o = some (.lp ps a b fr) ∧ k ps a b fr = res := by
  cases o with
  | none => have he2 : Res.no no = res := he; subst he2; exact hok.elim
  | some b =>
    cases b with
    | c => have he2 : Res.no no = res := he; subst he2; exact hok.elim
    | df => have he2 : Res.no no = res := he; subst he2; exact hok.elim
    | mp nk es => have he2 : Res.no no = res := he; subst he2; exact hok.elim
    | cz m z l => have he2 : Res.no no = res := he; subst he2; exact hok.elim
    | lp ps a b fr => exact ⟨ps, a, b, fr, rfl, he⟩

theorem yield_sound (hih : CodeOk P cD ih) {id : Pa} {as : List AV} {k : KV} {res : Res} {R : Ending → World → Prop} {ro : Option Nat} (hw : WRel (KLp P cD) E w h n) (hs : ScL (Up n) as) (hu : Up n id)
    (he : yldV ih id as k h n = res) (hok : res.ok) (hk : KOk P cD E w h n k res (fun v w' => R (.returned v) w')) :
    ∃ f tmps assign body, (Instr.yield (E.blk id) (denL E as).toArray).run P w = .ok (.round (E.blk id) f tmps assign body) w ∧ RoundIn (FW ro) 0 P (E.blk id) f tmps assign body w R := by
  obtain ⟨ps, a, b, fr, hb, he⟩ := blkL_ok he hok
  have hin : In h n id := ⟨hu.1, by rw [hb]; simp⟩
  obtain ⟨⟨r, nm, hr, hst, hpd, ⟨nt, hnt, hnd, hca, hcb, hma, hmb, hps⟩, hfr⟩, hsf⟩ := hw.blk id _ hu.1 hb
  have hsf' : ScL (Up n) fr := hsf
  have hlt : E.blk id < w.heap.size := by
    rcases Nat.lt_or_ge (E.blk id) w.heap.size with h | h
    · exact h
    · rw [Array.getElem?_eq_none h] at hr; cases hr
  obtain ⟨fr', e1, sfr', hlen, hfr', hsz⟩ := parK_sound hnd hok hps hfr hsf' hs he
  rw [T.setK_eq] at e1
  have htm : ∀ (A : Array Value), A = (denL E as).toArray → (r.params.zip A).foldl (fun tmps (x : Nat × Value) => tmps.setIfInBounds x.1 x.2) r.tmps = ((r.params.toList.zip (denL E as)).foldl (fun tmps (p : Nat × Value) => tmps.setIfInBounds p.1 p.2) r.tmps) := by
    intro A hA
    subst hA
    rw [← Array.foldl_toList]; simp [Array.toList_zip]
  refine ⟨r.fn, _, r.assign, r.body, run_yield hr (by simp [denL_length, ← hlen]), ?_⟩
  have hno : ∀ p, In (T.set .e id h) n p → E.blk p ≠ E.blk id := fun p hp => by
    rcases In.set hu.1 hp with rfl | h1
    · exact absurd (T.get_del_same p h) hp.2
    · exact fun e => by
        have := hw.inj p id h1 hin e
        subst this
        exact absurd (T.get_del_same p h) hp.2
  obtain ⟨f2, h2, n2, ea, eb⟩ := rndB_ok e1 hok
  obtain ⟨f3, h3, n3, ec, ed⟩ := rndE_ok eb hok
  refine roundIn_of_wpIn trivial ?_
  rw [htm _ rfl]
  have hs0 : SRel P cD E { tmps := (r.params.toList.zip (denL E as)).foldl (fun tmps (p : Nat × Value) => tmps.setIfInBounds p.1 p.2) r.tmps, defers := [] } w nt nm fr' [] (T.set .e id h) n :=
    ⟨by rw [hsz]; exact hnt, hfr', sfr', hw.del hu.1, trivial⟩
  have hassign := (hih (some (E.blk id)) nt nm r.assign a E _ w fr' [] (T.set .e id h) n hca hnd (fun _ => hma) hs0 (by rw [ea]; trivial)).1
  rw [ea] at hassign
  refine wpIn_mono hassign fun e a2 w2 hq => ?_
  cases e with
  | normal =>
    obtain ⟨E2, q1, q2⟩ := hq
    have hr2 : w2.heap[E.blk id]? = some (.loop r) := by rw [q2.keep _ hlt hno]; exact hr
    have hno2 := q2.off hlt hno
    have st2 : Step E w h n E2 (w2.putObj (E.blk id) (.loop { r with state := .busy })) h2 n2 := ((Step.del hu.1).trans q2).touch hin
    have wr2 : WRel (KLp P cD) E2 (w2.putObj (E.blk id) (.loop { r with state := .busy })) h2 n2 := q1.wr.frame (fun p hp => World.putObj_heap_other (hno2 p hp)) (fun hh => World.putObj_heap_other fun e => (hw.arg hh).2 id hin e.symm)
    refine ⟨_, run_beginRound hr2 hst, ?_⟩
    have hs2 : SRel P cD E2 a2 (w2.putObj (E.blk id) (.loop { r with state := .busy })) nt nm f2 [] h2 n2 := ⟨q1.nt, q1.fr, q1.sc, wr2, q1.ds⟩
    have hbody := (hih (some (E.blk id)) nt nm r.body b E2 a2 _ f2 [] h2 n2 hcb hnd (fun _ => hmb) hs2 (by rw [ec]; trivial)).1
    rw [ec] at hbody
    refine wpIn_mono hbody fun e a3 w3 hq => ?_
    cases e with
    | normal =>
      obtain ⟨E3, q3, q4⟩ := hq
      have hlt2 : E.blk id < w2.heap.size := Nat.lt_of_lt_of_le hlt q2.size
      have hr3 : w3.heap[E.blk id]? = some (.loop { r with state := .busy }) := by
        rw [q4.keep _ (by simpa using hlt2) hno2]; exact World.putObj_heap_same hlt2
      have hno3 := q4.off (by simpa using hlt2) hno2
      have hlt3 : E.blk id < w3.heap.size := Nat.lt_of_lt_of_le (by simpa using hlt2) q4.size
      have st3 := (st2.trans q4)
      refine ⟨_, _, run_endRound none hr3, ?_⟩
      have st4 := (st3.touch (o := .loop { { r with state := .busy } with state := if (none : Option Go.Code).isNone = true then .ready else .done, pending := none }) hin).back (b := .lp ps a b fr) hin hu
      have hid3 : E3.blk id = E.blk id := (st3.env id hu.1 (by have := hu.2; omega)).1
      have wr3 : WRel (KLp P cD) E3 (w3.putObj (E.blk id) (.loop { { r with state := .busy } with state := if (none : Option Go.Code).isNone = true then .ready else .done, pending := none })) h3 n3 := q3.wr.frame (fun p hp => World.putObj_heap_other (hno3 p hp)) (fun hh => World.putObj_heap_other fun e => (hw.arg hh).2 id hin e.symm)
      have wr4 := wr3.put (b := .lp ps a b fr) (q := id) (st3.up hu) (fun p hp _ => by rw [hid3]; exact hno3 p hp)
        ⟨{ { r with state := .busy } with state := .ready, pending := none }, nm, by rw [hid3]; exact World.putObj_heap_same hlt3, rfl, rfl, ⟨nt, hnt, hnd, hca, hcb, hma, hmb, hps⟩, hfr.step hsf' st3⟩ (st3.scl hsf') (fun hh => by rw [hid3]; exact (hw.arg hh).2 id hin)
      have := hk E3 _ _ n3 (.b true) wr4 st4 (by simp [Sc]) ed
      simpa [den] using this
    | _ => exact hq.elim
  | _ => exact hq.elim
end Go.X

namespace Go.X
variable [Sym]
variable {P : Program} {cD : Nat → List Nat → Array Oper → Option DR3} {E E' E1 : Env} {w w' w1 : World} {h h' h1 : HT} {n n' n1 : Pa} {ft : T Func} {ih : Ih}

theorem orK_ok {k : KV} {o : OR} {res : Res} (he : orK k o = res) (hok : res.ok) : ∃ v h' n', o = .ok v h' n' ∧ k v h' n' = res := by
  cases o with
  | ok v h' n' => exact ⟨v, h', n', rfl, he⟩
  | no m => have he' : Res.no m = res := he; subst he'; exact hok.elim

section
variable {ro : Option Nat} {all : Array Oper} {nt : Nat} {nm : List Nat} {Q : Exit → Act → World → Prop}
/-- what a call of a value does -/
theorem callV_run {v : AV} {args : List AV} {g : Pa} {a c : List AV} (hv : v = .fn g a c) (hF : FnEn P (val g)) :
    (Deferred.ofValue (den E v) (denL E args).toArray).run P w = .ok { target := .fn (.func (val g)) (denL E c).toArray, args := (denL E a).toArray ++ (denL E args).toArray } w ∧
    (invoke (.fn (.func (val g)) (denL E c).toArray) ((denL E a).toArray ++ (denL E args).toArray)).run P w = .ok (.enter (val g) (denL E (a ++ (args ++ c))).toArray) w := by
  subst hv
  refine ⟨by simp [den, Deferred.ofValue], ?_⟩
  rw [hF.invoke]
  congr 2
  rw [denL_append, denL_append]
  simp

theorem iop_sound (hft : TabOk P cD ft) (hih : CodeOk P cD ih) (hn : nm.Nodup) {o : Oper} {ls : List Nat} {x : IOp} (hx : cIOp P (Go.X.ro ls nm) (fndK nm o.dst).1 o.op = some x) (hcalm : ro ≠ none → calmI x = true) (hd : ∀ t, o.dst = some t → t < nt) (hap : Apart ls nm)
    {k : KI} {a : Act} {l : List AV} {f : Fr} {ds : List Df} {res : Res} {next : Act → World → Prop} (hr : RRel P cD E a w nt nm ls l f ds h n) (he : exI ft ih k x l f ds h n = res) (hok : res.ok)
    (hnext : ∀ E' a' w' l' f' ds' h' n', RRel P cD E' a' w' nt nm (lsP ls (fndK nm o.dst).2) l' f' ds' h' n' → Apart (lsP ls (fndK nm o.dst).2) nm → Step E w h n E' w' h' n' → k l' f' ds' h' n' = res → next a' w')
    (hpan : ∀ E' a' w' v f' ds' h' n', SRel P cD E' a' w' nt nm f' ds' h' n' → Sc (Up n') v → Step E w h n E' w' h' n' → .pc v f' ds' h' n' = res → Q (.panic (pan (den E' v))) a' w') :
    o.wpIn (FW ro) 0 P a w next Q := by
  refine ⟨fun _ _ => trivial, ?_⟩
  have hinv := cIOp_inv hx
  -- behind the operation
  have cont : ∀ E1 w1 v h1 n1, RRel P cD E1 a w1 nt nm ls l f ds h1 n1 → Sc (Up n1) v → Step E w h n E1 w1 h1 n1 → putK v (fun l f => k l f ds h1 n1) (fndK nm o.dst).1 l f = res → next (a.put o.dst (den E1 v)) w1 := by
    intro E1 w1 v h1 n1 r1 sv st e1
    obtain ⟨l', f', e2, r2, ap2⟩ := put_sound r1 hn hap hd sv e1
    exact hnext E1 _ w1 l' f' ds h1 n1 r2 ap2 st e2
  have kok : ∀ kd, kd = (fndK nm o.dst).1 → KOk P cD E w h n (fun v h n => putK v (fun l f => k l f ds h n) kd l f) res (fun v w' => next (a.put o.dst v) w') :=
    fun kd hkd E' w' h' n' v r1 r2 r3 r4 => cont E' w' v h' n' (hr.step r1 r2) r3 r2 (hkd ▸ r4)
  have kpok : KOk P cD E w h n (fun v h n => .pc v f ds h n) res (fun v w' => Q (.panic (pan v)) a w') :=
    fun E' w' h' n' v r1 r2 r3 r4 => hpan E' a w' v f ds h' n' (hr.s.step r1 r2) r3 r2 r4
  cases x with
  | o kd o' =>
    obtain ⟨rfl, hco⟩ := hinv
    have hnd : ∀ c, o.op ≠ .defer c := fun c e => by rw [e] at hco; cases hco
    rw [Oper.semAt_eq _ _ _ hnd]
    obtain ⟨v, h1, n1, hs, e1⟩ := orK_ok (o := sop o' l f h n) he hok
    obtain ⟨E1, w1, nx, hrun, hnx, sv, wr1, st⟩ := sop_sound hr.ro hco hr.s.wr hs
    rw [hrun]
    have r1 := hr.step wr1 st
    rcases hnx with rfl | ⟨rfl, hu⟩
    · exact cont E1 w1 v h1 n1 r1 sv st e1
    · have := cont E1 w1 v h1 n1 r1 sv st e1
      rw [hu] at this; exact this
  | call kd p as =>
    obtain ⟨rfl, c, g, hop, hcal, hp, has⟩ := hinv
    have hnd : ∀ c, o.op ≠ .defer c := fun c e => by rw [hop] at e; cases e
    rw [Oper.semAt_eq _ _ _ hnd]
    obtain ⟨k1, k2⟩ := ros_map hr.ro has
    obtain ⟨hc, hF⟩ := callF_sound (R := fun
      | .returned v, w'' => next (a.put o.dst v) w''
      | .panicked chain, w'' => Q (.panic chain) a w''
      | .outgrown, _ => LetsOut Q) hft hih hr.s.wr k2 he hok (kok _ rfl) kpok
    have hargs : c.args.map a.eval = (denL E (evs as l f)).toArray := Array.ext' (by rw [← k1]; exact Array.toList_map)
    have hrun : (execOp a.eval o).run P w = .ok (.enter (val p) (denL E (evs as l f)).toArray) w := by
      have hF' := hF.invoke ((denL E (evs as l f)).toArray) #[] w
      simp only [execOp, hop, resolve, hcal, Act.eval, Deferred.ofValue, Sem.run_bind, Sem.run_pure, Result.andThen, hargs, ← fpa_val hp]
      simpa using hF'
    rw [hrun]
    exact ⟨by simp [FW], callsIn_ro hc⟩
  | callv kd g as =>
    obtain ⟨rfl, c, g', hop, hcal, hg, has⟩ := hinv
    have hnd : ∀ c, o.op ≠ .defer c := fun c e => by rw [hop] at e; cases e
    rw [Oper.semAt_eq _ _ _ hnd]
    obtain ⟨k1, k2⟩ := ros_map hr.ro has
    obtain ⟨g1, g2⟩ := hr.ro g' g hg
    have hargs : c.args.map a.eval = (denL E (evs as l f)).toArray := Array.ext' (by rw [← k1]; exact Array.toList_map)
    have he' : callV ft ih (evs as l f) (fun v h n => putK v (fun l f => k l f ds h n) (fndK nm o.dst).1 l f) (fun v h n => .pc v f ds h n) h n (asF (ev g l f)) = res := he
    cases hv : asF (ev g l f) with
    | no => rw [hv] at he'; have he2 : Res.no 55 = res := he'; subst he2; exact hok.elim
    | fn p fa fc =>
      rw [hv] at he'
      have hve := asF_fn hv
      have hsc : ScL (Up n) fa ∧ ScL (Up n) fc := by rw [hve] at g2; simpa [Sc] using g2
      have he2 : appK (evs as l f) fc (fun l' => appK fa l' fun l' => callF ft ih l' (fun v h n => putK v (fun l f => k l f ds h n) (fndK nm o.dst).1 l f) (fun v h n => .pc v f ds h n) (ft.get p) h n) = res := he'
      rw [appK_eq, appK_eq] at he2
      obtain ⟨hc, hF⟩ := callF_sound (R := fun
        | .returned v, w'' => next (a.put o.dst v) w''
        | .panicked chain, w'' => Q (.panic chain) a w''
        | .outgrown, _ => LetsOut Q) hft hih hr.s.wr (ScL_app hsc.1 (ScL_app k2 hsc.2)) he2 hok (kok _ rfl) kpok
      obtain ⟨c1, c2⟩ := callV_run (E := E) (w := w) (args := evs as l f) hve hF
      have hrun : (execOp a.eval o).run P w = .ok (.enter (val p) (denL E (fa ++ (evs as l f ++ fc))).toArray) w := by
        simp only [execOp, hop, resolve, hcal, Sem.run_bind, hargs, g1, c1, Result.andThen, c2]
      rw [hrun]
      exact ⟨by simp [FW], callsIn_ro hc⟩
    | yl id =>
      rw [hv] at he'
      have hve := asF_yl hv
      have hu : Up n id := by rw [hve] at g2; simpa [Sc] using g2
      obtain ⟨fid, tmps, assign, body, hy, hround⟩ := yield_sound (ro := ro) (R := fun
        | .returned v, w'' => next (a.put o.dst v) w''
        | .panicked chain, w'' => Q (.panic chain) a w''
        | .outgrown, _ => LetsOut Q) hih hr.s.wr k2 hu he' hok (kok _ rfl)
      have hrun : (execOp a.eval o).run P w = .ok (.round (E.blk id) fid tmps assign body) w := by
        simp only [execOp, hop, resolve, hcal, Sem.run_bind, hargs, g1, hve, den, Deferred.ofValue, Sem.run_pure, Result.andThen, invoke]
        simpa using hy
      rw [hrun]
      exact ⟨by simp [FW], hround⟩
  | dfr kd g as =>
    obtain ⟨rfl, c, g', hop, hcal, hg, has⟩ := hinv
    have hro : ro = none := by
      cases ro with
      | none => rfl
      | some l => exact absurd (hcalm (by simp)) (by simp [calmI])
    subst hro
    obtain ⟨k1, k2⟩ := ros_map hr.ro has
    obtain ⟨g1, g2⟩ := hr.ro g' g hg
    have hargs : c.args.map a.eval = (denL E (evs as l f)).toArray := Array.ext' (by rw [← k1]; exact Array.toList_map)
    have he' : dfrV (evs as l f) (fun d => putK .und (fun l f => k l f (d :: ds) h n) (fndK nm o.dst).1 l f) (asF (ev g l f)) = res := he
    cases hv : asF (ev g l f) with
    | no => rw [hv] at he'; have he2 : Res.no 56 = res := he'; subst he2; exact hok.elim
    | yl id => rw [hv] at he'; have he2 : Res.no 56 = res := he'; subst he2; exact hok.elim
    | fn p fa fc =>
      rw [hv] at he'
      have hve := asF_fn hv
      have hsc : ScL (Up n) fa ∧ ScL (Up n) fc := by rw [hve] at g2; simpa [Sc] using g2
      have he2 : appK (evs as l f) fc (fun l' => appK fa l' fun l' => putK .und (fun l f => k l f (.d p l' :: ds) h n) (fndK nm o.dst).1 l f) = res := he'
      rw [appK_eq, appK_eq] at he2
      have hrun : (Oper.semAt (FW none).round a.eval o).run P w = .ok (.defer { target := .fn (.func (val p)) (denL E fc).toArray, args := (denL E fa).toArray ++ (denL E (evs as l f)).toArray }) w := by
        show (Oper.semAt none a.eval o).run P w = _
        rw [Oper.semAt_none]
        simp only [execOp, hop, resolve, hcal, Sem.run_bind, hargs, g1, hve, den, Deferred.ofValue, Sem.run_pure, Result.andThen]
      rw [hrun]
      have r1 : RRel P cD E { a with defers := { target := .fn (.func (val p)) (denL E fc).toArray, args := (denL E fa).toArray ++ (denL E (evs as l f)).toArray } :: a.defers } w nt nm ls l f (.d p (fa ++ (evs as l f ++ fc)) :: ds) h n :=
        ⟨⟨hr.s.nt, hr.s.fr, hr.s.sc, hr.s.wr, ⟨⟨ScL_app hsc.1 (ScL_app k2 hsc.2), _, rfl, by simp [denL_append]⟩, hr.s.ds⟩⟩, hr.lr, hr.scl⟩
      obtain ⟨l', f', e3, r2, ap2⟩ := put_sound r1 hn hap hd (v := .und) (by simp [Sc]) he2
      exact hnext E _ w l' f' _ h n r2 ap2 (Step.refl _ _ _ _) e3
  | pan x =>
    obtain ⟨y, hop, hy⟩ := hinv
    have hnd : ∀ c, o.op ≠ .defer c := fun c e => by rw [hop] at e; cases e
    rw [Oper.semAt_eq _ _ _ hnd]
    obtain ⟨v1, s1⟩ := hr.ro y x hy
    have he' : panV f ds h n (asC (ev x l f)) = res := he
    cases hv : asC (ev x l f) with
    | no => rw [hv] at he'; have he2 : Res.no 84 = res := he'; subst he2; exact hok.elim
    | iz => rw [hv] at he'; have he2 : Res.no 83 = res := he'; subst he2; exact hok.elim
    | ic t v =>
      rw [hv] at he'
      have hve : ev x l f = .ic t v := by
        revert hv
        cases ev x l f <;> simp [asC]
      have hrun : (execOp a.eval o).run P w = .halt (.panic (den E (.ic t v))) w := by
        simp [execOp, hop, v1, hve, den, Instr.panic, goPanic, Result.andThen]
      rw [hrun]
      rw [hve] at s1
      exact hpan E a w _ f ds h n hr.s s1 (Step.refl _ _ _ _) he'
  | rcv kd => have he2 : Res.no 57 = res := he; subst he2; exact hok.elim
  | g => exact hinv.elim
end
end Go.X

namespace Go.X
variable [Sym]
variable {P : Program} {cD : Nat → List Nat → Array Oper → Option DR3} {E E' E1 : Env} {w w' w1 : World} {h h' h1 : HT} {n n' n1 : Pa} {ft : T Func} {ih : Ih}

def vbO : VB → Option Bool
  | .b x => some x
  | .no => none
theorem yielded_eq {all : Array Oper} {a : Act} {j t : Nat} {o : Oper} {v : AV} (ho : all[j]? = some o) (ht : o.dst = some t) (hv : a.eval (.tmp t) = den E v) : yielded all a.tmps j = vbO (asB v) := by
  unfold yielded
  rw [ho]
  simp only [Option.bind_some, ht]
  have hv' : a.tmps.getD t undef = den E v := hv
  rw [Array.getD_eq_getD_getElem?] at hv'
  cases hg : a.tmps[t]? with
  | none =>
    rw [hg] at hv'
    cases v <;> simp [undef, den, asB, vbO] at hv' ⊢
  | some u =>
    rw [hg] at hv'
    simp only [Option.getD_some] at hv'
    subst hv'
    cases v with
    | sl id off len cap => cases cap <;> simp [den, asB, vbO]
    | x y => cases y <;> simp [den, denX, asB, vbO]
    | em id off l s => obtain ⟨a, c, he⟩ := den_em E id off l s; rw [he]; simp [asB, vbO]
    | oq k =>
      have h1 := Sym.nb k
      simp only [den, asB, vbO]
      split
      · rename_i b hb; exact absurd (Option.some.inj hb) (h1 b)
      · rfl
    | _ => simp [den, asB, vbO]
theorem wanted_eq {o : Oper} {j : Nat} {b : Bool} {y : Nat → Option Bool} {v : VB} (hg : o.guard = some (j, b)) (hy : y j = vbO v) : Region.wanted o y = wanted b v := by
  simp only [Region.wanted, hg, hy]
  cases v with
  | no => simp [vbO, wanted]
  | b x => cases x <;> cases b <;> rfl

section
variable {ro : Option Nat} {all : Array Oper} {nt : Nat} {nm : List Nat} {Q : Exit → Act → World → Prop}
theorem ops_sound (hft : TabOk P cD ft) (hih : CodeOk P cD ih) (hn : nm.Nodup) : ∀ (os : List Oper) (idx ls : List Nat) (os' : List IOp) (ls' : List Nat), idx.map (all[·]?) = os.map some → cOps P nm all.toList os ls = some (os', ls') → dstOk nt os = true → (ro ≠ none → os'.all calmI = true) → Apart ls nm →
    ∀ {k : KI} {E : Env} {a : Act} {w : World} {l : List AV} {f : Fr} {ds : List Df} {h : HT} {n : Pa} {res : Res}, RRel P cD E a w nt nm ls l f ds h n → exOps ft ih os' k l f ds h n = res → res.ok →
    (∀ E' a' w' l' f' ds' h' n', RRel P cD E' a' w' nt nm ls' l' f' ds' h' n' → Apart ls' nm → Step E w h n E' w' h' n' → k l' f' ds' h' n' = res → Q .normal a' w') →
    (∀ E' a' w' v f' ds' h' n', SRel P cD E' a' w' nt nm f' ds' h' n' → Sc (Up n') v → Step E w h n E' w' h' n' → .pc v f' ds' h' n' = res → Q (.panic (pan (den E' v))) a' w') →
    wpOpsIn (FW ro) 0 P all Q idx a w
  | [], idx, ls, os', ls', hi, hc, _, _, hap, k, E, a, w, l, f, ds, h, n, res, hr, he, hok, hk, hp => by
    have : idx = [] := by simpa using hi
    subst this
    cases hc
    exact hk E a w l f ds h n hr hap (Step.refl _ _ _ _) he
  | o :: os, [], _, _, _, hi, _, _, _, _, _, _, _, _, _, _, _, _, _, _, _, _, _, _, _ => by simp at hi
  | o :: os, i :: idx, ls, os', ls', hi, hc, hdst, hcalm, hap, k, E, a, w, l, f, ds, h, n, res, hr, he, hok, hk, hp => by
    simp only [List.map_cons, List.cons.injEq] at hi
    simp only [cOps] at hc
    obtain ⟨x, hx, hc⟩ := bind_some hc
    obtain ⟨x', hx', hc⟩ := bind_some hc
    obtain ⟨⟨xs, ls2⟩, hxs, hc⟩ := map_some hc
    cases hc
    simp only [dstOk, List.all_cons, Bool.and_eq_true] at hdst
    have hd : ∀ t, o.dst = some t → t < nt := fun t ht => by
      have := hdst.1
      rw [ht] at this
      simpa using this
    simp only [wpOpsIn, hi.1]
    have he' : exI ft ih (exOps ft ih xs k) x' l f ds h n = res := he
    have hcx : ro ≠ none → calmI x' = true ∧ xs.all calmI = true := fun h => by simpa [List.all_cons, Bool.and_eq_true] using hcalm h
    have rest : ∀ E1 a1 w1 l1 f1 ds1 h1 n1, RRel P cD E1 a1 w1 nt nm (lsP ls (fndK nm o.dst).2) l1 f1 ds1 h1 n1 → Apart (lsP ls (fndK nm o.dst).2) nm → Step E w h n E1 w1 h1 n1 → exOps ft ih xs k l1 f1 ds1 h1 n1 = res → wpOpsIn (FW ro) 0 P all Q idx a1 w1 := by
      intro E1 a1 w1 l1 f1 ds1 h1 n1 r1 ap1 st e1
      exact ops_sound hft hih hn os idx _ xs _ hi.2 hxs hdst.2 (fun h => (hcx h).2) ap1 r1 e1 hok (fun E' a' w' l' f' ds' h' n' q1 q2 q3 q4 => hk E' a' w' l' f' ds' h' n' q1 q2 (st.trans q3) q4)
        fun E' a' w' v f' ds' h' n' q1 q2 q3 q4 => hp E' a' w' v f' ds' h' n' q1 q2 (st.trans q3) q4
    cases hgd : o.guard with
    | none =>
      simp only [cGuard, hgd] at hx'
      cases hx'
      have hwant : Region.wanted o (yielded all a.tmps) = true := by simp [Region.wanted, hgd]
      rw [if_pos hwant]
      exact iop_sound hft hih hn hx (fun h => (hcx h).1) hd hap hr he' hok rest hp
    | some jb =>
      obtain ⟨j, b⟩ := jb
      simp only [cGuard, hgd] at hx'
      obtain ⟨o2, ho2, hx'⟩ := bind_some hx'
      obtain ⟨t, ht, hx'⟩ := bind_some hx'
      obtain ⟨y, hy, rfl⟩ := map_some hx'
      have ho2' : all[j]? = some o2 := by simpa using ho2
      have hye := yielded_eq ho2' ht (hr.ro _ y hy).1
      have hwe : Region.wanted o (yielded all a.tmps) = wanted b (asB (ev y l f)) := wanted_eq hgd hye
      have he2 : ifB (wanted b (asB (ev y l f))) (exI ft ih (exOps ft ih xs k) x l f ds h n) (putK .und (fun l f => exOps ft ih xs k l f ds h n) (fndK nm o.dst).1 l f) = res := he'
      cases hwb : wanted b (asB (ev y l f)) with
      | true =>
        rw [hwb] at he2 hwe
        rw [if_pos hwe]
        exact iop_sound hft hih hn hx (fun h => by have := (hcx h).1; simpa [calmI] using this) hd hap hr he2 hok rest hp
      | false =>
        rw [hwb] at he2 hwe
        rw [if_neg (by rw [hwe]; simp)]
        refine ⟨fun _ _ => trivial, ?_⟩
        have he3 : putK .und (fun l f => exOps ft ih xs k l f ds h n) (fndK nm o.dst).1 l f = res := he2
        obtain ⟨l', f', e3, r2, ap2⟩ := put_sound hr hn hap hd (v := .und) (by simp [Sc]) he3
        have := rest E _ w l' f' ds h n r2 ap2 (Step.refl _ _ _ _) e3
        exact this
end

/-! ### a code -/
theorem condK_ok {a b : Code} {v : VB} {f : Fr} {ds : List Df} {res : Res} (he : condK ih a b v f ds h n = res) (hok : res.ok) : ∃ x, v = .b x ∧ ih (ifB x a b) f ds h n = res := by
  cases v with
  | no => have he2 : Res.no 70 = res := he; subst he2; exact hok.elim
  | b x => exact ⟨x, rfl, he⟩
theorem seqK_no {k : KR} {r : Res} (hok : (seqK k r).ok) : r.ok := by cases r <;> first | trivial | exact hok
theorem blockK_no {id : Nat} {r : Res} (hok : (blockK id r).ok) : r.ok := by cases r <;> first | trivial | exact hok

theorem cond_sound (hih : CodeOk P cD ih) {ro : Option Nat} {nt : Nat} {nm : List Nat} (hn : nm.Nodup) {x : Operand} {ca cb : Go.Code} {a' b' : Code} (hca : cCode P (cD nt) nt nm ca = some a') (hcb : cCode P (cD nt) nt nm cb = some b') (hm : ro ≠ none → calm a' = true ∧ calm b' = true)
    {a : Act} {f : Fr} {ds : List Df} {v : AV} {res : Res} (hr : SRel P cD E a w nt nm f ds h n) (hv : a.eval x = den E v) (he : condK ih a' b' (asB v) f ds h n = res) (hok : res.ok) : (Go.Code.cond x ca cb).wpIn (FW ro) 0 P (PostR P cD E w h n nt nm res) a w := by
  obtain ⟨t, ht, e2⟩ := condK_ok he hok
  refine wpIn_cond (t := t) (by rw [hv, asB_b ht]; simp [den]) ?_
  subst e2
  cases t with
  | true => exact (hih ro nt nm ca a' E a w f ds h n hca hn (fun h => (hm h).1) hr hok).1
  | false => exact (hih ro nt nm cb b' E a w f ds h n hcb hn (fun h => (hm h).2) hr hok).1

theorem seq_post (hih : CodeOk P cD ih) {ro : Option Nat} {nt : Nat} {nm : List Nat} (hn : nm.Nodup) {cb : Go.Code} {b' : Code} (hcb : cCode P (cD nt) nt nm cb = some b') (hm : ro ≠ none → calm b' = true) {r : Res} (hok : (seqK (ih b') r).ok)
    (e : Exit) (a2 : Act) (w2 : World) (hq : PostR P cD E w h n nt nm r e a2 w2) : Exit.then (cb.wpIn (FW ro) 0 P (PostR P cD E w h n nt nm (seqK (ih b') r))) (PostR P cD E w h n nt nm (seqK (ih b') r)) e a2 w2 := by
  cases r with
  | no m => exact hok.elim
  | nm f ds h1 n1 =>
    cases e with
    | normal =>
      obtain ⟨E1, q1, q2⟩ := hq
      exact wpIn_mono (hih ro nt nm cb b' E1 a2 w2 f ds h1 n1 hcb hn hm q1 hok).1 fun e a3 w3 q => q.trans q2
    | _ => exact hq.elim
  | ex id f ds h1 n1 => cases e <;> first | exact hq | exact hq.elim
  | rt f ds h1 n1 => cases e <;> first | exact hq | exact hq.elim
  | pc v f ds h1 n1 => cases e <;> first | exact hq | exact hq.elim

theorem exC_sound (hft : TabOk P cD ft) (hD : DOk P cD ft) (hih : CodeOk P cD ih) : CodeOk P cD (exC ft ih) := by
  intro ro nt nm c c' E a w f ds h n hc hn hm hr hok
  have hinv := cCode_inv hc
  cases c' with
  | skip =>
    simp only [CInv] at hinv
    subst hinv
    exact ⟨wpIn_skip ⟨E, hr, Step.refl _ _ _ _⟩, fun _ h => by cases h⟩
  | exit id =>
    rcases hinv with ⟨rfl, hlt⟩ | ⟨l, rfl, hl⟩
    · exact ⟨wpIn_exit ⟨⟨hlt, rfl⟩, E, hr, Step.refl _ _ _ _⟩, fun _ h => by cases h⟩
    · exact ⟨wpIn_goto ⟨hl, E, hr, Step.refl _ _ _ _⟩, fun _ h => by cases h⟩
  | lab l =>
    simp only [CInv] at hinv
    subst hinv
    exact ⟨wpIn_label ⟨E, hr, Step.refl _ _ _ _⟩, fun _ h => by cases h⟩
  | sc a' =>
    obtain ⟨ca, rfl, hca⟩ := hinv
    refine ⟨?_, fun _ h => by cases h⟩
    have hma : ro ≠ none → calm a' = true := fun h => by have := hm h; simpa only [calm] using this
    have hok' : (scK ih a' (ih a' f ds h n)).ok := hok
    show (Go.Code.scope ca).wpIn (FW ro) 0 P (PostR P cD E w h n nt nm (scK ih a' (ih a' f ds h n))) a w
    have hpre : (ih a' f ds h n).ok := by
      revert hok'
      cases ih a' f ds h n with
      | no m => exact fun h => h
      | _ => exact fun _ => True.intro
    refine wpIn_scope1 (wpIn_mono (hih ro nt nm ca a' E a w f ds h n hca hn hma hr hpre).1 fun e a2 w2 hq => ?_)
    revert hq hok'
    cases ih a' f ds h n with
    | no m => intro hok' hq; exact hok'.elim
    | nm f1 ds1 h1 n1 => intro hok' hq; cases e <;> first | exact hq | exact hq.elim
    | rt f1 ds1 h1 n1 => intro hok' hq; cases e <;> first | exact hq | exact hq.elim
    | pc v f1 ds1 h1 n1 => intro hok' hq; cases e <;> first | exact hq | exact hq.elim
    | ex id f1 ds1 h1 n1 =>
      intro hok' hq
      have hsc : scK ih a' (.ex id f1 ds1 h1 n1) = ifB (Nat.ble 1000000 id) (@Option.rec Code (fun _ => Res) (.no 96) (fun r => noGt (ih r f1 ds1 h1 n1)) (findL a' (Nat.sub id 1000000))) (.ex id f1 ds1 h1 n1) := rfl
      cases e with
      | exit id' =>
        obtain ⟨⟨hlt, rfl⟩, E1, q1, q2⟩ := hq
        have hb : Nat.ble 1000000 id' = false := by rw [← Bool.not_eq_true]; intro hb; have := Nat.le_of_ble_eq_true hb; omega
        rw [hsc, hb, ifB_false]
        exact ⟨⟨hlt, rfl⟩, E1, q1, q2⟩
      | goto l =>
        obtain ⟨rfl, E1, q1, q2⟩ := hq
        have hb : Nat.ble 1000000 (1000000 + l) = true := Nat.ble_eq_true_of_le (by omega)
        have hl : Nat.sub (1000000 + l) 1000000 = l := by show 1000000 + l - 1000000 = l; omega
        rw [hsc, hb, ifB_true, hl] at hok' ⊢
        have hfl := findL_ok l hca
        cases hfr : findL a' l with
        | none => rw [hfr] at hok'; exact hok'.elim
        | some r =>
          rw [hfr] at hfl hok'
          obtain ⟨rest, hrest, hcr⟩ := hfl
          refine ⟨rest, hrest, ?_⟩
          have hok2 : (noGt (ih r f1 ds1 h1 n1)).ok := hok'
          show rest.wpIn (FW ro) 0 P (Exit.noGoto (PostR P cD E w h n nt nm (noGt (ih r f1 ds1 h1 n1)))) a2 w2
          have hpre2 : (ih r f1 ds1 h1 n1).ok := by
            revert hok2
            cases ih r f1 ds1 h1 n1 with
            | no m => exact fun h => h
            | _ => exact fun _ => True.intro
          refine wpIn_mono (hih ro nt nm rest r E1 a2 w2 f1 ds1 h1 n1 hcr hn (fun h => findL_calm (hma h) hfr) q1 hpre2).1 fun e a3 w3 hq3 => ?_
          revert hq3 hok2
          cases ih r f1 ds1 h1 n1 with
          | no m => intro hok2 hq3; exact hok2.elim
          | nm f3 ds3 h3 n3 => intro hok2 hq3; cases e <;> first | exact PostR.trans hq3 q2 | exact hq3.elim
          | rt f3 ds3 h3 n3 => intro hok2 hq3; cases e <;> first | exact PostR.trans hq3 q2 | exact hq3.elim
          | pc v f3 ds3 h3 n3 => intro hok2 hq3; cases e <;> first | exact PostR.trans hq3 q2 | exact hq3.elim
          | ex id3 f3 ds3 h3 n3 =>
            intro hok2 hq3
            have hng : noGt (.ex id3 f3 ds3 h3 n3) = ifB (Nat.ble 1000000 id3) (.no 95) (.ex id3 f3 ds3 h3 n3) := rfl
            cases hb3 : Nat.ble 1000000 id3 with
            | true => rw [hng, hb3] at hok2; exact hok2.elim
            | false =>
              rw [hng, hb3, ifB_false]
              cases e with
              | goto l3 =>
                obtain ⟨rfl, _⟩ := hq3
                rw [Nat.ble_eq_true_of_le (show 1000000 ≤ 1000000 + l3 by omega)] at hb3
                cases hb3
              | exit id4 => exact PostR.trans hq3 q2
              | _ => exact hq3.elim
      | _ => exact hq.elim
  | ret =>
    simp only [CInv] at hinv
    subst hinv
    exact ⟨wpIn_ret ⟨E, hr, Step.refl _ _ _ _⟩, fun _ h => by cases h⟩
  | reg o =>
    obtain ⟨id, ops, ls, rfl, hreg⟩ := hinv
    refine ⟨?_, fun _ h => by cases h⟩
    unfold cReg at hreg
    split at hreg
    · rename_i hdst
      refine wpIn_region (ops_sound (l := []) hft hih hn _ _ [] _ _ (range_map ops) hreg hdst (fun h => by have := hm h; simpa [calm] using this) (fun t i hi => by cases hi) ⟨hr, (fun t i hi => by cases hi), trivial⟩ rfl hok ?_ ?_)
      · intro E' a' w' l' f' ds' h' n' q1 _ q3 q4
        rw [show exC ft ih (.reg o) f ds h n = Res.nm f' ds' h' n' from q4.symm]
        exact ⟨E', q1.s, q3⟩
      · intro E' a' w' v f' ds' h' n' q1 q2 q3 q4
        rw [show exC ft ih (.reg o) f ds h n = Res.pc v f' ds' h' n' from q4.symm]
        exact ⟨E', rfl, q2, q1, q3⟩
    · cases hreg
  | rc o x' a' b' =>
    obtain ⟨id, ops, ls, x, ca, cb, rfl, hreg, hx, hca, hcb⟩ := hinv
    refine ⟨?_, fun _ h => by cases h⟩
    unfold cReg at hreg
    split at hreg
    · rename_i hdst
      refine wpIn_seq (wpIn_region (ops_sound (l := []) hft hih hn _ _ [] _ _ (range_map ops) hreg hdst (fun h => by have := hm h; simp only [calm, Bool.and_eq_true] at this; exact this.1) (fun t i hi => by cases hi) ⟨hr, (fun t i hi => by cases hi), trivial⟩ rfl hok ?_ ?_))
      · intro E' a2 w' l' f' ds' h' n' q1 _ q3 q4
        exact wpIn_mono (cond_sound hih hn hca hcb (fun h => by have := hm h; simp only [calm, Bool.and_eq_true] at this; exact this.2) q1.s (q1.ro x x' hx).1 q4 hok) fun e a3 w3 q => q.trans q3
      · intro E' a2 w' v f' ds' h' n' q1 q2 q3 q4
        show PostR _ _ _ _ _ _ _ _ _ _ _ _
        rw [show exC ft ih (.rc o x' a' b') f ds h n = Res.pc v f' ds' h' n' from q4.symm]
        exact ⟨E', rfl, q2, q1, q3⟩
    · cases hreg
  | dreg o out =>
    obtain ⟨id, ops, L, rfl, hd⟩ := hinv
    refine ⟨?_, fun _ h => by cases h⟩
    refine hD ih hih ro nt nm id ops o out L hd hn _ _ E a w f ds h n _ hr rfl hok ?_
    intro E' a' w' l h' n' q1 _ q3 q4
    rw [outK_eq] at q4
    rw [show exC ft ih (.dreg o out) f ds h n = Res.nm (outF l out f) ds h' n' from q4.symm]
    exact ⟨E', q1, q3⟩
  | dc o out x' a' b' =>
    obtain ⟨id, ops, L, x, ca, cb, rfl, hd, hx, hca, hcb⟩ := hinv
    refine ⟨?_, fun _ h => by cases h⟩
    refine wpIn_seq (hD ih hih ro nt nm id ops o out L hd hn _ _ E a w f ds h n _ hr rfl hok ?_)
    intro E' a2 w' l h' n' q1 q2 q3 q4
    rw [outK_eq] at q4
    exact wpIn_mono (cond_sound hih hn hca hcb (fun h => by have := hm h; simp only [calm, Bool.and_eq_true] at this; exact this) q1 (q2 x x' hx) q4 hok) fun e a3 w3 q => q.trans q3
  | seq a' b' =>
    obtain ⟨ca, cb, rfl, hca, hcb⟩ := hinv
    refine ⟨?_, fun _ h => by cases h⟩
    have hm' : ro ≠ none → calm a' = true ∧ calm b' = true := fun h => by have := hm h; simpa only [calm, Bool.and_eq_true] using this
    have hok' : (seqK (ih b') (ih a' f ds h n)).ok := hok
    exact wpIn_seq (wpIn_mono (hih ro nt nm ca a' E a w f ds h n hca hn (fun h => (hm' h).1) hr (seqK_no hok')).1 (seq_post hih hn hcb (fun h => (hm' h).2) hok'))
  | cond x' a' b' =>
    obtain ⟨x, ca, cb, rfl, hx, hca, hcb⟩ := hinv
    refine ⟨?_, fun _ h => by cases h⟩
    have hv := (ro_sound (ls := []) (l := []) hr.fr (fun t i hi => by cases hi) hr.sc trivial x x' hx).1
    exact cond_sound hih hn hca hcb (fun h => by have := hm h; simpa only [calm, Bool.and_eq_true] using this) hr hv rfl hok
  | block id a' =>
    obtain ⟨ca, rfl, hca, hidlt⟩ := hinv
    refine ⟨?_, fun _ h => by cases h⟩
    have hok' : (blockK id (ih a' f ds h n)).ok := hok
    refine wpIn_block (wpIn_mono (hih ro nt nm ca a' E a w f ds h n hca hn (fun h => by have := hm h; simpa only [calm] using this) hr (blockK_no hok')).1 fun e a2 w2 hq => ?_)
    show Exit.inBlock id (PostR P cD E w h n nt nm (blockK id (ih a' f ds h n))) e a2 w2
    revert hq
    cases hres : ih a' f ds h n with
    | no m => rw [hres] at hok'; exact hok'.elim
    | nm f1 ds1 h1 n1 => intro hq; cases e <;> first | exact hq | exact hq.elim
    | rt f1 ds1 h1 n1 => intro hq; cases e <;> first | exact hq | exact hq.elim
    | pc v f1 ds1 h1 n1 => intro hq; cases e <;> first | exact hq | exact hq.elim
    | ex id1 f1 ds1 h1 n1 =>
      intro hq
      cases e with
      | exit id2 =>
        obtain ⟨⟨hlt2, rfl⟩, E1, q1, q2⟩ := hq
        have e1 : blockK id (.ex id2 f1 ds1 h1 n1) = ifB (Nat.beq id2 id) (.nm f1 ds1 h1 n1) (.ex id2 f1 ds1 h1 n1) := rfl
        rw [e1]
        by_cases hid : id2 = id
        · subst hid
          simp only [Exit.inBlock, if_true]
          rw [show Nat.beq id2 id2 = true by simp]
          exact ⟨E1, q1, q2⟩
        · simp only [Exit.inBlock, hid, if_false]
          rw [show Nat.beq id2 id = false from by rw [← Bool.not_eq_true]; intro hb; exact hid (Nat.eq_of_beq_eq_true hb)]
          exact ⟨⟨hlt2, rfl⟩, E1, q1, q2⟩
      | goto l =>
        obtain ⟨rfl, E1, q1, q2⟩ := hq
        have e1 : blockK id (.ex (1000000 + l) f1 ds1 h1 n1) = ifB (Nat.beq (1000000 + l) id) (.nm f1 ds1 h1 n1) (.ex (1000000 + l) f1 ds1 h1 n1) := rfl
        rw [e1, show Nat.beq (1000000 + l) id = false from by rw [← Bool.not_eq_true]; intro hb; have := Nat.eq_of_beq_eq_true hb; omega]
        exact ⟨rfl, E1, q1, q2⟩
      | _ => exact hq.elim
  | loop a' =>
    obtain ⟨ca, rfl, hca⟩ := hinv
    have hma : ro ≠ none → calm a' = true := fun h => by have := hm h; simpa only [calm] using this
    have hok' : (seqK (ih (.loop a')) (ih a' f ds h n)).ok := hok
    have head : LoopHead (FW ro) 0 P ca (PostR P cD E w h n nt nm (seqK (ih (.loop a')) (ih a' f ds h n))) a w := by
      refine head_of_body (wpIn_mono (hih ro nt nm ca a' E a w f ds h n hca hn hma hr (seqK_no hok')).1 fun e a2 w2 hq => ?_)
      revert hq hok'
      cases ih a' f ds h n with
      | no m => intro hok' hq; exact hok'.elim
      | nm f1 ds1 h1 n1 =>
        intro hok' hq
        cases e with
        | normal =>
          obtain ⟨E1, q1, q2⟩ := hq
          exact ((hih ro nt nm (.loop ca) (.loop a') E1 a2 w2 f1 ds1 h1 n1 hc hn hm q1 hok').2 ca rfl).mono fun e a3 w3 q => q.trans q2
        | _ => exact hq.elim
      | ex id f ds h1 n1 => intro hok' hq; cases e <;> first | exact hq | exact hq.elim
      | rt f ds h1 n1 => intro hok' hq; cases e <;> first | exact hq | exact hq.elim
      | pc v f ds h1 n1 => intro hok' hq; cases e <;> first | exact hq | exact hq.elim
    refine ⟨loop_of_head head, fun c0 h0 => ?_⟩
    cases h0
    exact head
  | rf x' ps a' b' =>
    obtain ⟨x, pa, ca, cb, rfl, hx, hps, hca, hcb, hma, hmb⟩ := hinv
    refine ⟨?_, fun _ h => by cases h⟩
    have hro : ro = none := by
      cases ro with
      | none => rfl
      | some l => exact absurd (hm (by simp)) (by simp [calm])
    subst hro
    obtain ⟨v1, s1⟩ := ro_sound (ls := []) (l := []) hr.fr (fun t i hi => by cases hi) hr.sc trivial x x' hx
    generalize hres : exC ft ih (.rf x' ps a' b') f ds h n = res at hok ⊢
    have he : rfV ft ih ps a' b' f ds h n (asF (ev x' [] f)) = res := hres
    cases hv : asF (ev x' [] f) with
    | no => rw [hv] at he; have he2 : Res.no 71 = res := he; subst he2; exact hok.elim
    | yl id => rw [hv] at he; have he2 : Res.no 82 = res := he; subst he2; exact hok.elim
    | fn g as cs =>
      rw [hv] at he
      have hve := asF_fn hv
      rw [hve] at v1 s1
      have hsc : ScL (Up n) as ∧ ScL (Up n) cs := by simpa [Sc] using s1
      have he : incK (.no 80) n (fun n1 => incK (.no 81) n1 fun n2 => rfG ft ih ps a' b' f ds g as cs h n n1 n2) = res := he
      rw [incK_eq] at he
      cases hi1 : inc n with
      | none => rw [hi1] at he; subst he; exact hok.elim
      | some n1 =>
        rw [hi1] at he
        simp only at he
        rw [incK_eq] at he
        cases hi2 : inc n1 with
        | none => rw [hi2] at he; subst he; exact hok.elim
        | some n2 =>
          rw [hi2] at he
          simp only [rfG] at he
          rw [T.setK_eq, T.setK_eq, appK_eq] at he
          obtain ⟨hv1, hl1⟩ := inc_spec n n1 hi1
          obtain ⟨hv2, hl2⟩ := inc_spec n1 n2 hi2
          refine wpIn_rangeFunc fun fn _ => ?_
          have hwA : WRel (KLp P cD) E (w.alloc (.deferred (some []))) h n := hr.wr.frame (fun p hp => heap_alloc_old w _ _ (hr.wr.blk p _ hp.1 (Option.ne_none_iff_exists'.1 hp.2).choose_spec).1.there) (fun hh => heap_alloc_old w _ _ (hr.wr.arg_lt hh))
          have hneA : ∀ p, In h n p → E.blk p ≠ w.heap.size := fun p hp e => by
            have := (hr.wr.blk p _ hp.1 (Option.ne_none_iff_exists'.1 hp.2).choose_spec).1.there
            omega
          have hw1 := hwA.adopt (b := .df) (k := w.heap.size) (s := 0) hi1 hneA (by show _ = _; rw [(E.put_eq n _ _).1]; exact heap_alloc_new w _) trivial (fun hh e => by have := hr.wr.arg_lt hh; omega)
          have st1 : Step E w h n (E.put n w.heap.size 0) (w.alloc (.deferred (some []))) (T.set (.v .df) n h) n1 :=
            step_new hi1 rfl rfl rfl (by simp) (fun i hi _ => heap_alloc_old w _ i hi) (.inl (Nat.le_refl _))
          generalize hE1 : E.put n w.heap.size 0 = E1 at hw1 st1
          generalize hwAe : w.alloc (.deferred (some [])) = wA at hw1 st1
          have hszA : wA.heap.size = w.heap.size + 1 := by rw [← hwAe]; simp
          generalize hrec : ({ state := .ready, pending := none, fn, tmps := a.tmps, params := pa, assign := ca, body := cb, defers := w.heap.size } : Loop) = r
          have hthere : ∀ p, In (T.set (.v .df) n h) n1 p → E1.blk p < wA.heap.size := fun p hp => (hw1.blk p _ hp.1 (Option.ne_none_iff_exists'.1 hp.2).choose_spec).1.there
          have hwB : WRel (KLp P cD) E1 (wA.alloc (.loop r)) (T.set (.v .df) n h) n1 := hw1.frame (fun p hp => heap_alloc_old wA _ _ (hthere p hp)) (fun hh => heap_alloc_old wA _ _ (hw1.arg_lt hh))
          have st2 : Step E1 wA (T.set (.v .df) n h) n1 (E1.put n1 wA.heap.size 0) (wA.alloc (.loop r)) (T.set (.v (.lp ps a' b' f)) n1 (T.set (.v .df) n h)) n2 :=
            step_new hi2 rfl rfl rfl (by simp) (fun i hi _ => heap_alloc_old wA _ i hi) (.inl (Nat.le_refl _))
          have st := st1.trans st2
          have hw2 := hwB.adopt (b := .lp ps a' b' f) (k := wA.heap.size) (s := 0) hi2 (fun p hp e => by have := hthere p hp; omega)
            ⟨r, nm, by rw [(E1.put_eq n1 _ _).1]; exact heap_alloc_new wA _, by rw [← hrec], by rw [← hrec], ⟨nt, by rw [← hrec]; exact hr.nt, hn, by rw [← hrec]; exact hca, by rw [← hrec]; exact hcb, hma, hmb, by rw [← hrec]; exact hps⟩, by rw [← hrec]; exact hr.fr.step hr.sc st⟩ (st.scl hr.sc) (fun hh e => by have := hw1.arg_lt hh; omega)
          generalize hE2 : E1.put n1 wA.heap.size 0 = E2 at st2 st hw2
          have hb1 : E2.blk n1 = w.heap.size + 1 := by rw [← hE2, (E1.put_eq n1 _ _).1, hszA]
          have hnn : n ≠ n1 := fun e => by rw [← e] at hv1; omega
          have hb0 : E2.blk n = w.heap.size := by rw [← hE2, (E1.put_ne _ _ hnn).1, ← hE1, (E.put_eq n _ _).1]
          have hda : denL E2 as = denL E as := st.denL hsc.1
          have hdc : denL E2 cs = denL E cs := st.denL hsc.2
          have hargs : (denL E2 (as ++ (.yl n1 :: cs))).toArray = ((denL E as).toArray ++ #[.func (.yield (w.heap.size + 1)) #[] #[]]) ++ (denL E cs).toArray := by
            rw [denL_append]; simp [denL, den, hda, hdc, hb1]
          have hsc2 : ScL (Up n2) (as ++ (.yl n1 :: cs)) := ScL_app (st.scl hsc.1) ⟨by simp only [Sc]; exact (⟨hl2.symm, by omega⟩ : Up n2 n1), st.scl hsc.2⟩
          obtain ⟨hc, hF⟩ := callF_sound (R := rangePost (FW none) 0 P (w.heap.size + 1) (PostR P cD E w h n nt nm res) { a with defers := [{ target := .collected w.heap.size, args := #[] }] ++ a.defers }) hft hih hw2 hsc2 he hok
            (by
              intro E' w' h' n' v q1 q2 q3 q4
              obtain ⟨ps2, a2, b2, fr2, hg, e2⟩ := blkL_ok q4 hok
              rw [T.setK_eq] at e2
              have hun1 : Up n2 n1 := ⟨hl2.symm, by omega⟩
              have hun : Up n2 n := ⟨hl1.symm.trans hl2.symm, by omega⟩
              have hin : In h' n' n1 := ⟨(q2.up hun1).1, by rw [hg]; simp⟩
              obtain ⟨⟨r2, nm3, hh, hst, hpd, _, _⟩, _⟩ := q1.blk n1 _ hin.1 hg
              have hb1' : E'.blk n1 = w.heap.size + 1 := by rw [(q2.env n1 hun1.1 (by have := hun1.2; omega)).1]; exact hb1
              have hb0' : E'.blk n = w.heap.size := by rw [(q2.env n hun.1 (by have := hun.2; omega)).1]; exact hb0
              obtain ⟨w4, st4⟩ := drop_put (o := .loop { r2 with state := .exhausted }) q1 hin
              rw [hb1'] at hh w4 st4
              refine ⟨_, _, run_endLoop hh (by rw [hst]; simp), ?_⟩
              have hgoal : ∀ (j : Option Go.Code) (W : World), j = none → PostR P cD E w h n nt nm res .normal { a with defers := [{ target := .collected w.heap.size, args := #[] }] ++ a.defers } W →
                  (match j with | none => PostR P cD E w h n nt nm res .normal { a with defers := [{ target := .collected w.heap.size, args := #[] }] ++ a.defers } W | some c => c.wpIn (FW none) 0 P (PostR P cD E w h n nt nm res) { a with defers := [{ target := .collected w.heap.size, args := #[] }] ++ a.defers } W) := by
                intro j W hj hq
                subst hj
                exact hq
              refine hgoal _ _ hpd ?_
              rw [← e2]
              have stt := (st.trans q2).trans st4
              exact ⟨E', ⟨hr.nt, hr.fr.step hr.sc stt, stt.scl hr.sc, w4, ⟨⟨(q2.trans st4).up hun, by simp [hb0']⟩, hr.ds.step stt⟩⟩, stt⟩)
            (by
              intro E' w' h' n' v q1 q2 q3 q4
              have he2 : Res.no 59 = res := q4
              subst he2; exact hok.elim)
          refine ⟨w.heap.size + 1, [{ target := .collected w.heap.size, args := #[] }], wA.alloc (.loop r), { target := .fn (.func (val g)) (denL E cs).toArray, args := (denL E as).toArray ++ #[.func (.yield (w.heap.size + 1)) #[] #[]] }, wA.alloc (.loop r), val g, (denL E2 (as ++ (.yl n1 :: cs))).toArray, wA.alloc (.loop r), ?_, ?_, fun _ _ => trivial, ?_, by simp [FW], hc⟩
          · rw [← hrec, ← hwAe]; exact run_enterLoop_outer fn a.tmps pa ca cb
          · show (Deferred.ofValue (a.eval x) (#[Operand.const (.func (.yield (w.heap.size + 1)) #[] #[])].map a.eval)).run P _ = _
            rw [v1]
            simp [den, Deferred.ofValue, Act.eval]
          · rw [hF.invoke, hargs]
theorem ex_sound (hft : TabOk P cD ft) (hD : DOk P cD ft) : ∀ fuel, CodeOk P cD (ex ft fuel)
  | 0 => fun ro nt nm c c' E a w f ds h n _ _ _ _ hok => hok.elim
  | fuel + 1 => exC_sound hft hD (ex_sound hft hD fuel)
end Go.X
