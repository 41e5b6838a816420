/- An executable reading of the model, its soundness over any program, and what it reads of this program. -/
import Derived.Test.YtfpdaeihlnlhcaaGreatUXSc
set_option linter.unusedSectionVars false
set_option linter.unusedVariables false
set_option linter.unusedSimpArgs false
set_option linter.constructorNameAsVariable false
namespace Go.X
variable [Sym]

/-! ### a region whose order is open: its canonical order -/
def effOp : Go.Op → Bool
  | .call c => match c.callee with
    | .builtin b => match b with
      | .append | .copy | .clear => true
      | _ => false
    | _ => true
  | .store _ _ _ => true
  | _ => false
def befO (acc : List Nat) : List Edge → Nat → Nat
  | [], s => s
  | e :: es, s => befO acc es (match Region.binds .any e with | true => s ||| 2 ^ e.on ||| acc.getD e.on 0 | false => s)
def befs : List Oper → List Nat → List Nat
  | [], acc => acc
  | o :: os, acc => befs os (acc ++ [befO acc o.after.toList 0])
def wrs : List Oper → Nat → List (Nat × Nat)
  | [], _ => []
  | o :: os, i => match o.dst with
    | some t => (t, i) :: wrs os (i + 1)
    | none => wrs os (i + 1)
def assocN (t : Nat) : List (Nat × Nat) → Option Nat
  | [] => none
  | (x, i) :: l => match Nat.beq x t with | true => some i | false => assocN t l
def keysOk : List (Nat × Nat) → Bool
  | [] => true
  | (t, _) :: l => (match assocN t l with | none => true | some _ => false) && keysOk l
def bit (B : List Nat) (i j : Nat) : Bool := (B.getD i 0).testBit j
def hasN (i : Nat) : List Nat → Bool
  | [] => false
  | x :: l => Nat.beq x i || hasN i l
def effAt (l : List Oper) (i : Nat) : Bool := match l[i]? with | some o => effOp o.op | none => false
def ordGo (B : List Nat) (all : List Nat) : List Nat → List Nat → List Nat
  | [], done => done ++ all.filter fun i => !hasN i done
  | e :: es, done => ordGo B all es (done ++ all.filter (fun i => bit B e i && !hasN i done) ++ [e])
def toU' : Nat → U
  | 0 => .z
  | n + 1 => .s (toU' n)
def upTo : Nat → List U
  | 0 => [.z]
  | n + 1 => upTo n ++ [toU' (n + 1)]
section
variable (P : Program) (l : List Oper) (W : List (Nat × Nat)) (B : List Nat) (nm : List Nat)
def roI (i : Nat) (pre : List Nat) : Operand → Option Opd
  | .tmp t => match assocN t W with
    | some y => match bit B i y with
      | true => (fnd y pre).map .l
      | false => match bit B y i with
        | true => (fnd t nm).map .f
        | false => none
    | none => (fnd t nm).map .f
  | o => ro [] nm o
def cntE (p : Nat → Bool) (pre : List Nat) : Nat := (pre.filter fun j => effAt l j && p j).length
def toD (i : Nat) (pre : List Nat) : IOp → Option DOp
  | .o _ o => match isQop o with
    | true => some (.q o (match readOp o with | true => upTo (cntE l (fun _ => true) pre - cntE l (bit B i) pre) | false => []))
    | false => some (.e o)
  | .call _ p as => some (.call p as)
  | .callv _ f as => some (.callv f as)
  | _ => none
def gD (i : Nat) (pre : List Nat) (d : DOp) : Option (Nat × Bool) → Option DOp
  | none => some d
  | some (j, b) => (l[j]?).bind fun o' => o'.dst.bind fun t => match assocN t W with
    | some y => match Nat.beq y j && bit B i j with
      | true => (fnd j pre).map fun u => .g (.l u) b d
      | false => none
    | none => none
noncomputable def cDop (i : Nat) (pre : List Nat) (o : Oper) : Option DOp :=
  (cIOp P (roI W B nm i pre) .n o.op).bind fun x => (toD l B i pre x).bind fun d => match Bool.xor (isQ d) (effOp o.op) with
    | true => gD l W B i pre d o.guard
    | false => none
def ordOk (all : List Nat) (i : Nat) (pre : List Nat) : Bool := !hasN i pre && (all.all (fun j => !bit B i j || hasN j pre) && (!effAt l i || pre.all fun j => bit B i j))
noncomputable def cDgo (all : List Nat) : List Nat → List Nat → Option (List DOp)
  | [], _ => some []
  | i :: r, pre => match ordOk l B all i pre with
    | true => (l[i]?).bind fun o => (cDop P l W B nm i pre o).bind fun d => (cDgo all r (i :: pre)).map fun ds => d :: ds
    | false => none
def befOk (i : Nat) (o : Oper) : Bool := Nat.beq (B.getD i 0) (befO B o.after.toList 0) && o.after.toList.all fun e => !Region.binds .any e || Nat.blt e.on i
def befsOk : List Oper → Nat → Bool
  | [], _ => true
  | o :: os, i => befOk B i o && befsOk os (i + 1)
def outsD (rev : List Nat) : List (Nat × Nat) → List (U × U)
  | [] => []
  | (t, i) :: l => match fnd t nm, fnd i rev with
    | some s, some p => (s, p) :: outsD rev l
    | _, _ => outsD rev l
def tabD (rev : List Nat) : List (Nat × Nat) → List (Nat × U)
  | [] => []
  | (t, i) :: l => match fnd i rev with
    | some p => (t, p) :: tabD rev l
    | none => tabD rev l
end
/-- what a region whose order is open is, looked at so -/
noncomputable def cD (P : Program) (nt : Nat) (nm : List Nat) (ops : Array Oper) : Option DR3 :=
  let l := ops.toList
  let B := befs l []
  let W := wrs l 0
  let all := List.range l.length
  let ord := ordGo B all (all.filter (effAt l)) []
  match dstOk nt l && (befsOk B l 0 && (keysOk W && all.all fun i => hasN i ord)) with
  | true => (cDgo P l W B nm all ord []).map fun ds => (ds, outsD nm ord.reverse W, tabD ord.reverse W)
  | false => none

/-! ### its parts, shown -/
theorem hasN_iff {i : Nat} : ∀ {l : List Nat}, hasN i l = true ↔ i ∈ l
  | [] => by simp [hasN]
  | x :: l => by
    simp only [hasN, Bool.or_eq_true, hasN_iff, List.mem_cons]
    constructor
    · rintro (h | h)
      · exact .inl (Nat.eq_of_beq_eq_true h).symm
      · exact .inr h
    · rintro (h | h)
      · exact .inl (by subst h; exact Nat.beq_refl _)
      · exact .inr h
theorem befO_bit {acc : List Nat} {j : Nat} : ∀ {es : List Edge} {s : Nat}, (befO acc es s).testBit j = true → s.testBit j = true ∨ ∃ e ∈ es, Region.binds .any e = true ∧ (e.on = j ∨ (acc.getD e.on 0).testBit j = true)
  | [], s, h => .inl h
  | e :: es, s, h => by
    rcases befO_bit (es := es) h with h1 | ⟨e', h1, h2⟩
    · cases hb : Region.binds .any e with
      | false => rw [hb] at h1; exact .inl h1
      | true =>
        rw [hb] at h1
        simp only [Nat.testBit_or, Bool.or_eq_true] at h1
        rcases h1 with (h1 | h1) | h1
        · exact .inl h1
        · rw [Nat.testBit_two_pow] at h1
          exact .inr ⟨e, by simp, hb, .inl (by simpa using h1)⟩
        · exact .inr ⟨e, by simp, hb, .inr h1⟩
    · exact .inr ⟨e', by simp [h1], h2⟩
theorem befsOk_get {B : List Nat} : ∀ {l : List Oper} {k i : Nat} {o : Oper}, befsOk B l k = true → l[i]? = some o → befOk B (k + i) o = true
  | [], k, i, o, _, h => by simp at h
  | o' :: l, k, i, o, hb, h => by
    simp only [befsOk, Bool.and_eq_true] at hb
    cases i with
    | zero => simp only [List.getElem?_cons_zero, Option.some.injEq] at h; subst h; exact hb.1
    | succ i =>
      simp only [List.getElem?_cons_succ] at h
      have := befsOk_get (k := k + 1) hb.2 h
      rwa [show k + 1 + i = k + (i + 1) by omega] at this
theorem assocN_some {t i : Nat} : ∀ {l : List (Nat × Nat)}, assocN t l = some i → (t, i) ∈ l
  | [], h => by cases h
  | (x, j) :: l, h => by
    simp only [assocN] at h
    split at h
    · rename_i hb
      cases h
      rw [Nat.eq_of_beq_eq_true hb]; simp
    · exact List.mem_cons_of_mem _ (assocN_some h)
theorem assocN_mem {t i : Nat} : ∀ {l : List (Nat × Nat)}, keysOk l = true → (t, i) ∈ l → assocN t l = some i
  | [], _, h => by cases h
  | (x, j) :: l, hk, h => by
    simp only [keysOk, Bool.and_eq_true] at hk
    simp only [assocN]
    rcases List.mem_cons.1 h with h | h
    · cases h; simp [Nat.beq_refl]
    · have h1 := assocN_mem hk.2 h
      cases hb : Nat.beq x t with
      | false => exact h1
      | true =>
        have := Nat.eq_of_beq_eq_true hb
        subst this
        have h2 := hk.1
        rw [h1] at h2
        cases h2
theorem wrs_mem {t i : Nat} : ∀ {l : List Oper} {k : Nat}, (t, i) ∈ wrs l k ↔ ∃ j o, i = k + j ∧ l[j]? = some o ∧ o.dst = some t
  | [], k => by simp [wrs]
  | o :: l, k => by
    have ih := @wrs_mem t i l (k + 1)
    have hstep : (t, i) ∈ wrs (o :: l) k ↔ (i = k ∧ o.dst = some t) ∨ (t, i) ∈ wrs l (k + 1) := by
      simp only [wrs]
      cases hd : o.dst with
      | none => simp
      | some u =>
        simp only [List.mem_cons, Prod.mk.injEq, Option.some.injEq]
        constructor
        · rintro (⟨rfl, rfl⟩ | h)
          · exact .inl ⟨rfl, rfl⟩
          · exact .inr h
        · rintro (⟨rfl, rfl⟩ | h)
          · exact .inl ⟨rfl, rfl⟩
          · exact .inr h
    rw [hstep, ih]
    constructor
    · rintro (⟨rfl, h⟩ | ⟨j, o', rfl, h1, h2⟩)
      · exact ⟨0, o, rfl, rfl, h⟩
      · exact ⟨j + 1, o', by omega, h1, h2⟩
    · rintro ⟨j, o', rfl, h1, h2⟩
      cases j with
      | zero => simp only [List.getElem?_cons_zero, Option.some.injEq] at h1; subst h1; exact .inl ⟨rfl, h2⟩
      | succ j => exact .inr ⟨j, o', by omega, h1, h2⟩
theorem toU'_nat : ∀ n, (toU' n).nat = n
  | 0 => rfl
  | n + 1 => by simp [toU', U.nat, toU'_nat n]
theorem upTo_mem : ∀ {m k : Nat}, k ≤ m → toU' k ∈ upTo m
  | 0, k, h => by have : k = 0 := by omega
                  subst this; simp [upTo, toU']
  | m + 1, k, h => by
    simp only [upTo, List.mem_append, List.mem_singleton]
    rcases Nat.lt_or_ge k (m + 1) with h1 | h1
    · exact .inl (upTo_mem (by omega))
    · have : k = m + 1 := by omega
      subst this; exact .inr rfl
theorem cDgo_get {P : Program} {l : List Oper} {W : List (Nat × Nat)} {B nm all : List Nat} : ∀ {ord pre : List Nat} {ds : List DOp}, cDgo P l W B nm all ord pre = some ds →
    ds.length = ord.length ∧ ∀ c i, ord[c]? = some i → ∃ o d, l[i]? = some o ∧ ds[c]? = some d ∧ ordOk l B all i ((ord.take c).reverse ++ pre) = true ∧ cDop P l W B nm i ((ord.take c).reverse ++ pre) o = some d
  | [], pre, ds, h => by cases h; exact ⟨rfl, fun c i h => by simp at h⟩
  | x :: ord, pre, ds, h => by
    simp only [cDgo] at h
    split at h
    · rename_i hok
      obtain ⟨o, ho, h⟩ := bind_some h
      obtain ⟨d, hd, h⟩ := bind_some h
      obtain ⟨ds', hds, rfl⟩ := map_some h
      obtain ⟨h1, h2⟩ := cDgo_get hds
      refine ⟨by simp [h1], fun c i hc => ?_⟩
      cases c with
      | zero => simp only [List.getElem?_cons_zero, Option.some.injEq] at hc; subst hc; exact ⟨o, d, ho, rfl, by simpa using hok, by simpa using hd⟩
      | succ c =>
        simp only [List.getElem?_cons_succ] at hc
        obtain ⟨o', d', h3, h4, h5, h6⟩ := h2 c i hc
        exact ⟨o', d', h3, by simpa using h4, by simpa using h5, by simpa using h6⟩
    · cases h
theorem outsD_nil : True := trivial
end Go.X

namespace Go.X
variable [Sym]
variable {P : Program} {ft : T Func} {ih : Ih} {f : Fr}

/-! ### a run in the canonical order, step by step -/
structure Rec where
  l : List AV
  hs : List HT
  h : HT
  n : Pa
theorem valN_eq : ∀ p : Pa, valN p = val p
  | [] => rfl
  | q :: p => by
    show Nat.add (qv q) (Nat.mul 4 (valN p)) = q.val + 4 * val p
    rw [valN_eq p]
    cases q <;> rfl
theorem lenQ_eq : ∀ {p q : Pa}, lenQ p q = true → p.length = q.length
  | [], [], _ => rfl
  | [], _ :: _, h => by cases h
  | _ :: _, [], h => by cases h
  | _ :: p, _ :: q, h => by simp [lenQ_eq (p := p) (q := q) h]
theorem okN_le {n n' : Pa} (h : okN n n' = true) : n'.length = n.length ∧ val n ≤ val n' := by
  unfold okN at h
  rw [ifB_eq] at h
  split at h
  · rename_i hl
    rw [valN_eq, valN_eq] at h
    exact ⟨(lenQ_eq hl).symm, Nat.le_of_ble_eq_true h⟩
  · cases h
/-- an effect or a value, at its place in the canonical order -/
def DStep (ft : T Func) (ih : Ih) (f : Fr) : DOp → Rec → Rec → AV → Prop
  | .q o as, r, r', v => sop o r.l f r.h r.n = .ok v r'.h r'.n ∧ sameIn o v r.l f r'.n r.hs as = true ∧ r'.hs = r.hs
  | .e o, r, r', v => sop o r.l f r.h r.n = .ok v r'.h r'.n ∧ r'.hs = r'.h :: r.hs ∧ okN r.n r'.n = true
  | .call g as, r, r', v => (∀ k kp : KV, callF ft ih (evs as r.l f) k kp (ft.get g) r.h r.n = k v r'.h r'.n) ∧ r'.hs = r'.h :: r.hs ∧ okN r.n r'.n = true
  | .callv g as, r, r', v => (∀ k kp : KV, callV ft ih (evs as r.l f) k kp r.h r.n (asF (ev g r.l f)) = k v r'.h r'.n) ∧ r'.hs = r'.h :: r.hs ∧ okN r.n r'.n = true
  | .g x b d, r, r', v => (wanted b (asB (ev x r.l f)) = true ∧ DStep ft ih f d r r' v) ∨ (wanted b (asB (ev x r.l f)) = false ∧ v = .und ∧ r'.h = r.h ∧ r'.n = r.n ∧ r'.hs = if isQ d = true then r.hs else r.h :: r.hs)
theorem okN_k {n n' : Pa} {m : Nat} {k res : Res} (he : ifB (okN n n') k (.no m) = res) (hok : res.ok) : okN n n' = true ∧ k = res := by
  cases hb : okN n n' with
  | true => rw [hb] at he; exact ⟨rfl, he⟩
  | false => rw [hb] at he; have he2 : Res.no m = res := he; subst he2; exact hok.elim
theorem exD_step {k : KH} {res : Res} (hok : res.ok) : ∀ {d : DOp} {l : List AV} {hs : List HT} {h : HT} {n : Pa}, exD ft ih f k d l hs h n = res → ∃ v hs' h' n', DStep ft ih f d ⟨l, hs, h, n⟩ ⟨v :: l, hs', h', n'⟩ v ∧ k (v :: l) hs' h' n' = res := by
  intro d
  induction d with
  | q o as =>
    intro l hs h n he
    have he' : sameK o as l f hs (fun v h n => k (v :: l) hs h n) (sop o l f h n) = res := he
    cases hq : sop o l f h n with
    | no m => rw [hq] at he'; have he2 : Res.no m = res := he'; subst he2; exact hok.elim
    | ok v h' n' =>
      rw [hq] at he'
      have he2 : ifB (sameIn o v l f n' hs as) (k (v :: l) hs h' n') (.no 58) = res := he'
      cases hs2 : sameIn o v l f n' hs as with
      | false => rw [hs2] at he2; have he3 : Res.no 58 = res := he2; subst he3; exact hok.elim
      | true => rw [hs2] at he2; exact ⟨v, hs, h', n', ⟨hq, hs2, rfl⟩, he2⟩
  | e o =>
    intro l hs h n he
    obtain ⟨v, h', n', e1, e2⟩ := orK_ok (o := sop o l f h n) he hok
    obtain ⟨e3, e4⟩ := okN_k e2 hok
    exact ⟨v, _, h', n', ⟨e1, rfl, e3⟩, e4⟩
  | call g as =>
    intro l hs h n he
    obtain ⟨v, h', n', e1, e2⟩ := callF_split (he : callF ft ih (evs as l f) (fun v h n' => ifB (okN n n') (k (v :: l) (h :: hs) h n') (.no 85)) kpNo (ft.get g) h n = res) hok
    obtain ⟨e3, e4⟩ := okN_k e1 hok
    exact ⟨v, _, h', n', ⟨e2, rfl, e3⟩, e4⟩
  | callv g as =>
    intro l hs h n he
    obtain ⟨v, h', n', e1, e2⟩ := callV_split (he : callV ft ih (evs as l f) (fun v h n' => ifB (okN n n') (k (v :: l) (h :: hs) h n') (.no 85)) kpNo h n (asF (ev g l f)) = res) hok
    obtain ⟨e3, e4⟩ := okN_k e1 hok
    exact ⟨v, _, h', n', ⟨e2, rfl, e3⟩, e4⟩
  | g x b d ihd =>
    intro l hs h n he
    have he' : ifB (wanted b (asB (ev x l f))) (exD ft ih f k d l hs h n) (k (.und :: l) (ifB (isQ d) hs (h :: hs)) h n) = res := he
    cases hw : wanted b (asB (ev x l f)) with
    | true =>
      rw [hw] at he'
      obtain ⟨v, hs', h', n', e1, e2⟩ := ihd he'
      exact ⟨v, hs', h', n', .inl ⟨hw, e1⟩, e2⟩
    | false =>
      rw [hw] at he'
      exact ⟨.und, _, h, n, .inr ⟨hw, rfl, rfl, rfl, by rw [ifB_eq]⟩, he'⟩
theorem exDs_trace {res : Res} (hok : res.ok) : ∀ {ds : List DOp} {k : Go.X.KL} {l : List AV} {hs : List HT} {h : HT} {n : Pa}, exDs ft ih f ds k l hs h n = res →
    ∃ S : Nat → Rec, S 0 = ⟨l, hs, h, n⟩ ∧ (∀ c d, ds[c]? = some d → ∃ v, (S (c + 1)).l = v :: (S c).l ∧ DStep ft ih f d (S c) (S (c + 1)) v) ∧ k (S ds.length).l (S ds.length).h (S ds.length).n = res
  | [], k, l, hs, h, n, he => ⟨fun _ => ⟨l, hs, h, n⟩, rfl, fun c d h => by simp at h, he⟩
  | d :: ds, k, l, hs, h, n, he => by
    obtain ⟨v, hs', h', n', e1, e2⟩ := exD_step hok (he : exD ft ih f (exDs ft ih f ds k) d l hs h n = res)
    obtain ⟨S, s0, s1, s2⟩ := exDs_trace hok e2
    refine ⟨fun c => match c with | 0 => ⟨l, hs, h, n⟩ | c + 1 => S c, rfl, fun c d' hd => ?_, s2⟩
    cases c with
    | zero =>
      simp only [List.getElem?_cons_zero, Option.some.injEq] at hd
      subst hd
      refine ⟨v, ?_, ?_⟩
      · show (S 0).l = _; rw [s0]
      · show DStep ft ih f d ⟨l, hs, h, n⟩ (S 0) v; rw [s0]; exact e1
    | succ c => exact s1 c d' (by simpa using hd)
end Go.X

namespace Go.X
variable [Sym]

/-- what is known of a region whose order is open -/
structure Plan (P : Program) (ft : T Func) (ih : Ih) (f : Fr) (nt : Nat) (nm : List Nat) (ops : Array Oper) (W : List (Nat × Nat)) (B ord : List Nat) (ds : List DOp) (S : Nat → Rec) : Prop where
  dst : dstOk nt ops.toList = true
  bef : befsOk B ops.toList 0 = true
  wr : W = wrs ops.toList 0
  keys : keysOk W = true
  all : ∀ i, i < ops.size → i ∈ ord
  go : cDgo P ops.toList W B nm (List.range ops.size) ord [] = some ds
  tr : ∀ c d, ds[c]? = some d → ∃ v, (S (c + 1)).l = v :: (S c).l ∧ DStep ft ih f d (S c) (S (c + 1)) v
  l0 : (S 0).l = []
  hs0 : (S 0).hs = [(S 0).h]

variable {P : Program} {ft : T Func} {ih : Ih} {f : Fr} {nt : Nat} {nm : List Nat} {ops : Array Oper} {W : List (Nat × Nat)} {B ord : List Nat} {ds : List DOp} {S : Nat → Rec}
def preO (ord : List Nat) (c : Nat) : List Nat := (ord.take c).reverse
theorem mem_preO {c j : Nat} : j ∈ preO ord c ↔ ∃ q, q < c ∧ ord[q]? = some j := by
  unfold preO
  rw [List.mem_reverse, List.mem_iff_getElem?]
  constructor
  · rintro ⟨q, hq⟩
    by_cases h : q < c
    · rw [List.getElem?_take_of_lt h] at hq; exact ⟨q, h, hq⟩
    · rw [List.getElem?_take_eq_none (by omega)] at hq; cases hq
  · rintro ⟨q, h, hq⟩
    exact ⟨q, by rw [List.getElem?_take_of_lt h]; exact hq⟩
namespace Plan
variable (H : Plan P ft ih f nt nm ops W B ord ds S)
include H
theorem len : ds.length = ord.length := (cDgo_get H.go).1
theorem at_ {c i : Nat} (hc : ord[c]? = some i) : ∃ o d v, ops[i]? = some o ∧ ds[c]? = some d ∧ cDop P ops.toList W B nm i (preO ord c) o = some d ∧ (S (c + 1)).l = v :: (S c).l ∧ DStep ft ih f d (S c) (S (c + 1)) v := by
  obtain ⟨o, d, h1, h2, h3, h4⟩ := (cDgo_get H.go).2 c i hc
  obtain ⟨v, h5, h6⟩ := H.tr c d h2
  exact ⟨o, d, v, by simpa using h1, h2, by simpa [preO] using h4, h5, h6⟩
theorem ordOk {c i : Nat} (hc : ord[c]? = some i) : i ∉ preO ord c ∧ (∀ j, j < ops.size → bit B i j = true → j ∈ preO ord c) ∧ (effAt ops.toList i = true → ∀ j ∈ preO ord c, bit B i j = true) := by
  obtain ⟨o, d, h1, h2, h3, h4⟩ := (cDgo_get H.go).2 c i hc
  simp only [Go.X.ordOk, List.append_nil, Bool.and_eq_true, Bool.or_eq_true, Bool.not_eq_true', List.all_eq_true, List.mem_range] at h3
  refine ⟨fun h => ?_, fun j hj hb => ?_, fun he j hj => ?_⟩
  · have := hasN_iff.2 (show i ∈ (ord.take c).reverse from h)
    rw [h3.1] at this; cases this
  · rcases h3.2.1 j hj with h | h
    · rw [hb] at h; cases h
    · exact hasN_iff.1 h
  · rcases h3.2.2 with h | h
    · rw [he] at h; cases h
    · exact h j hj
theorem get {c : Nat} (hc : c < ord.length) : ∃ i, ord[c]? = some i := ⟨ord[c], by simp [hc]⟩
theorem inj {c c' i : Nat} (hc : ord[c]? = some i) (hc' : ord[c']? = some i) : c = c' := by
  rcases Nat.lt_trichotomy c c' with h | h | h
  · exact absurd (mem_preO.2 ⟨c, h, hc⟩) (H.ordOk hc').1
  · exact h
  · exact absurd (mem_preO.2 ⟨c', h, hc'⟩) (H.ordOk hc).1
theorem size {c i : Nat} (hc : ord[c]? = some i) : i < ops.size := by
  obtain ⟨o, d, v, h1, _⟩ := H.at_ hc
  exact (Array.getElem?_eq_some_iff.1 h1).1
theorem pos {i : Nat} (hi : i < ops.size) : ∃ c : Nat, ord[c]? = some i := List.mem_iff_getElem?.1 (H.all i hi)
theorem llen : ∀ {c : Nat}, c ≤ ord.length → (S c).l.length = c
  | 0, _ => by rw [H.l0]; rfl
  | c + 1, hc => by
    obtain ⟨i, hi⟩ := H.get (c := c) (by omega)
    obtain ⟨o, d, v, h1, h2, h3, h4, h5⟩ := H.at_ hi
    rw [h4, List.length_cons, llen (by omega)]
/-- the value of the operation at a place -/
theorem lval {q : Nat} {v : AV} (hv : (S (q + 1)).l = v :: (S q).l) : ∀ {c : Nat}, q < c → c ≤ ord.length → (S c).l.getD (c - 1 - q) .und = v
  | 0, h, _ => by omega
  | c + 1, h, hc => by
    obtain ⟨i, hi⟩ := H.get (c := c) (by omega)
    obtain ⟨o, d, u, h1, h2, h3, h4, h5⟩ := H.at_ hi
    by_cases e : q = c
    · subst e
      rw [hv]; simp
    · have : c + 1 - 1 - q = (c - 1 - q) + 1 := by omega
      rw [this, h4, List.getD_cons_succ]
      exact lval hv (by omega) (by omega)
/-- the edges of an operation -/
theorem bitE {i j : Nat} {o : Oper} (ho : ops[i]? = some o) (hb : bit B i j = true) : ∃ e ∈ o.after, Region.binds .any e = true ∧ (e.on = j ∨ bit B e.on j = true) := by
  have h1 := befsOk_get (k := 0) H.bef (i := i) (o := o) (by simpa using ho)
  simp only [befOk, Bool.and_eq_true, Nat.zero_add] at h1
  have h2 := Nat.eq_of_beq_eq_true h1.1
  unfold bit at hb
  rw [h2] at hb
  rcases befO_bit hb with h | ⟨e, h3, h4, h5⟩
  · simp at h
  · exact ⟨e, by simpa using h3, h4, h5⟩
theorem edges (i : Nat) (o : Oper) (ho : ops[i]? = some o) (e : Edge) (he : e ∈ o.after) (hb : Region.binds .any e = true) : e.on < i := by
  have h1 := befsOk_get (k := 0) H.bef (i := i) (o := o) (by simpa using ho)
  simp only [befOk, Bool.and_eq_true, Nat.zero_add, List.all_eq_true, Bool.or_eq_true, Bool.not_eq_true'] at h1
  rcases h1.2 e (by simpa using he) with h | h
  · rw [hb] at h; cases h
  · simpa using h
theorem dstLt {i t : Nat} {o : Oper} (ho : ops[i]? = some o) (ht : o.dst = some t) : t < nt := by
  have h := H.dst
  simp only [dstOk, List.all_eq_true] at h
  have := h o (by
    have h1 : ops.toList[i]? = some o := by simpa using ho
    exact List.mem_of_getElem? h1)
  rw [ht] at this
  simpa using this
theorem writer {i t : Nat} {o : Oper} (ho : ops[i]? = some o) (ht : o.dst = some t) : assocN t W = some i := by
  refine assocN_mem H.keys ?_
  rw [H.wr]
  exact wrs_mem.2 ⟨i, o, by omega, by simpa using ho, ht⟩
theorem writes {i t : Nat} (h : assocN t W = some i) : ∃ o, ops[i]? = some o ∧ o.dst = some t := by
  have := assocN_some h
  rw [H.wr] at this
  obtain ⟨j, o, rfl, h1, h2⟩ := wrs_mem.1 this
  exact ⟨o, by simpa using h1, h2⟩
end Plan

/-! ### what an operation's place in the heap's row is -/
def Still (S : Nat → Rec) (c : Nat) : Prop := (S (c + 1)).h = (S c).h ∧ (S (c + 1)).n = (S c).n
def NewAt (S : Nat → Rec) (c : Nat) (cs : Blk) : Prop := inc (S c).n = some (S (c + 1)).n ∧ (S (c + 1)).h = T.set (.v cs) (S c).n (S c).h
theorem NewAt.uniq {c : Nat} {cs cs' : Blk} (h1 : NewAt S c cs) (h2 : NewAt S c cs') : cs = cs' := by
  have := h1.2.symm.trans h2.2
  have h3 := congrArg (T.get (S c).n) this
  rw [T.get_set_same, T.get_set_same] at h3
  simpa using h3
theorem NewAt.not_still {c : Nat} {cs : Blk} (h1 : NewAt S c cs) (h2 : Still S c) : False := by
  have := (inc_spec _ _ h1.1).1
  rw [h2.2] at this
  omega
/-- an operation without its guard -/
def bare : DOp → DOp
  | .g _ _ d => bare d
  | d => d
theorem isQ_g (x : Opd) (b : Bool) (d : DOp) : isQ (.g x b d) = isQ d := rfl
theorem DStep.num : ∀ {d : DOp} {r r' : Rec} {v : AV}, DStep ft ih f d r r' v → (isQ d = false → r'.n.length = r.n.length ∧ val r.n ≤ val r'.n)
  | .q o as, r, r', v, h => fun hq => by cases hq
  | .e o, r, r', v, h => fun _ => okN_le h.2.2
  | .call g as, r, r', v, h => fun _ => okN_le h.2.2
  | .callv g as, r, r', v, h => fun _ => okN_le h.2.2
  | .g x b d, r, r', v, h => fun hq => by
    rcases h with ⟨_, h⟩ | ⟨_, _, _, h, _⟩
    · exact DStep.num h hq
    · rw [h]; exact ⟨rfl, Nat.le_refl _⟩
theorem sop_kind {o : Op} {l : List AV} {h h' : HT} {n n' : Pa} {v : AV} (hq : isQop o = true) (he : sop o l f h n = .ok v h' n') : (h' = h ∧ n' = n) ∨ ∃ c, inc n = some n' ∧ h' = T.set (.v c) n h := by
  rcases (isQop_iff o).1 hq with h1 | h1 | h1
  · obtain ⟨a, b, _⟩ := pure_ok h1 he; exact .inl ⟨a, b⟩
  · obtain ⟨a, b, _⟩ := read_ok h1 he; exact .inl ⟨a, b⟩
  · obtain ⟨c, _, a, b, _⟩ := new_ok h1 he; exact .inr ⟨c, a, b⟩
/-- the operations of a region are such as stand for themselves -/
def wfD : DOp → Prop
  | .q o _ => isQop o = true
  | .g _ _ d => wfD d
  | _ => True
theorem DStep.kind : ∀ {d : DOp} {r r' : Rec} {v : AV}, DStep ft ih f d r r' v → wfD d → isQ d = true → (r'.h = r.h ∧ r'.n = r.n) ∨ ∃ c, inc r.n = some r'.n ∧ r'.h = T.set (.v c) r.n r.h
  | .q o as, r, r', v, h, hw, _ => sop_kind hw h.1
  | .e o, r, r', v, h, _, hq => by cases hq
  | .call g as, r, r', v, h, _, hq => by cases hq
  | .callv g as, r, r', v, h, _, hq => by cases hq
  | .g x b d, r, r', v, h, hw, hq => by
    rcases h with ⟨_, h⟩ | ⟨_, _, h1, h2, _⟩
    · exact DStep.kind h hw hq
    · exact .inl ⟨h1, h2⟩
theorem DStep.hs : ∀ {d : DOp} {r r' : Rec} {v : AV}, DStep ft ih f d r r' v → r'.hs = if isQ d = true then r.hs else r'.h :: r.hs
  | .q o as, r, r', v, h => by rw [h.2.2]; rfl
  | .e o, r, r', v, h => by rw [h.2.1]; rfl
  | .call g as, r, r', v, h => by rw [h.2.1]; rfl
  | .callv g as, r, r', v, h => by rw [h.2.1]; rfl
  | .g x b d, r, r', v, h => by
    rcases h with ⟨_, h⟩ | ⟨_, _, h1, _, h2⟩
    · have := DStep.hs h; rw [isQ_g]; exact this
    · rw [h2, h1]; rfl
theorem toD_wf {l : List Oper} {i : Nat} {pre : List Nat} {x : IOp} {d : DOp} (h : toD l B i pre x = some d) : wfD d := by
  cases x <;> simp only [toD, reduceCtorEq] at h
  · split at h
    · rename_i hq; cases h; exact hq
    · cases h; trivial
  · cases h; trivial
  · cases h; trivial
theorem cDop_inv {i : Nat} {pre : List Nat} {o : Oper} {d : DOp} {l : List Oper} (h : cDop P l W B nm i pre o = some d) : ∃ x d', cIOp P (roI W B nm i pre) .n o.op = some x ∧ toD l B i pre x = some d' ∧ isQ d' = !effOp o.op ∧
    ((o.guard = none ∧ d = d') ∨ ∃ j b u t o', o.guard = some (j, b) ∧ l[j]? = some o' ∧ o'.dst = some t ∧ assocN t W = some j ∧ bit B i j = true ∧ fnd j pre = some u ∧ d = .g (.l u) b d') := by
  unfold cDop at h
  obtain ⟨x, h1, h⟩ := bind_some h
  obtain ⟨d', h2, h⟩ := bind_some h
  split at h
  · rename_i hx
    have hq : isQ d' = !effOp o.op := by
      revert hx
      cases isQ d' <;> cases effOp o.op <;> simp
    refine ⟨x, d', h1, h2, hq, ?_⟩
    cases hg : o.guard with
    | none => rw [hg] at h; cases h; exact .inl ⟨rfl, rfl⟩
    | some jb =>
      obtain ⟨j, b⟩ := jb
      rw [hg] at h
      obtain ⟨o', h3, h⟩ := bind_some h
      obtain ⟨t, h4, h⟩ := bind_some h
      split at h
      · rename_i y hy
        split at h
        · rename_i hb
          rw [Bool.and_eq_true] at hb
          have := Nat.eq_of_beq_eq_true hb.1
          subst this
          obtain ⟨u, h5, rfl⟩ := map_some h
          exact .inr ⟨y, b, u, t, o', rfl, h3, h4, hy, hb.2, h5, rfl⟩
        · cases h
      · cases h
  · cases h
theorem cDop_q {i : Nat} {pre : List Nat} {o : Oper} {d : DOp} {l : List Oper} (h : cDop P l W B nm i pre o = some d) : isQ d = !effOp o.op ∧ wfD d := by
  obtain ⟨x, d', h1, h2, h3, h4⟩ := cDop_inv h
  rcases h4 with ⟨_, rfl⟩ | ⟨j, b, u, t, o', _, _, _, _, _, _, rfl⟩
  · exact ⟨h3, toD_wf h2⟩
  · exact ⟨h3, (toD_wf h2 : wfD d')⟩
theorem effAt_eq {i : Nat} {o : Oper} (ho : ops[i]? = some o) : effAt ops.toList i = effOp o.op := by
  unfold effAt
  have : ops.toList[i]? = some o := by simpa using ho
  rw [this]

namespace Plan
variable (H : Plan P ft ih f nt nm ops W B ord ds S)
include H
theorem kind {c i : Nat} (hc : ord[c]? = some i) (he : effAt ops.toList i = false) : Still S c ∨ ∃ cs, NewAt S c cs := by
  obtain ⟨o, d, v, h1, h2, h3, h4, h5⟩ := H.at_ hc
  obtain ⟨q1, q2⟩ := cDop_q h3
  rw [← effAt_eq h1, he] at q1
  rcases h5.kind q2 q1 with h | h
  · exact .inl h
  · exact .inr h
theorem num {c : Nat} (hc : c < ord.length) : (S (c + 1)).n.length = (S c).n.length ∧ val (S c).n ≤ val (S (c + 1)).n := by
  obtain ⟨i, hc'⟩ := H.get hc
  cases he : effAt ops.toList i with
  | false =>
    rcases H.kind hc' he with h | ⟨cs, h⟩
    · rw [h.2]; exact ⟨rfl, Nat.le_refl _⟩
    · have := inc_spec _ _ h.1; exact ⟨this.2, by omega⟩
  | true =>
    obtain ⟨o, d, v, h1, h2, h3, h4, h5⟩ := H.at_ hc'
    obtain ⟨q1, q2⟩ := cDop_q h3
    rw [← effAt_eq h1, he] at q1
    exact h5.num q1
theorem mono {p : Nat} : ∀ {c : Nat}, p ≤ c → c ≤ ord.length → (S c).n.length = (S p).n.length ∧ val (S p).n ≤ val (S c).n
  | 0, h, _ => by have : p = 0 := by omega
                  subst this; exact ⟨rfl, Nat.le_refl _⟩
  | c + 1, h, hc => by
    by_cases e : p = c + 1
    · subst e; exact ⟨rfl, Nat.le_refl _⟩
    · obtain ⟨h1, h2⟩ := mono (p := p) (c := c) (by omega) (by omega)
      obtain ⟨h3, h4⟩ := H.num (c := c) (by omega)
      exact ⟨h3.trans h1, by omega⟩
end Plan
end Go.X

namespace Go.X
variable [Sym]
variable {P : Program} {ft : T Func} {ih : Ih} {f : Fr} {nt : Nat} {nm : List Nat} {ops : Array Oper} {W : List (Nat × Nat)} {B ord : List Nat} {ds : List DOp} {S : Nat → Rec}
variable {cX : Nat → List Nat → Array Oper → Option DR3} {E E' E0 : Env} {w w' w0 : World} {h h' : HT} {n n' m : Pa} {K : Loop → List Nat → List U → Code → Code → Prop}

/-! ### the world, looked at through another number -/
theorem In.len {p : Pa} (hp : In h n p) (hl : m.length = n.length) : In h m p := ⟨hp.1.trans hl.symm, hp.2⟩
theorem WRel.mono (hw : WRel K E w h n) (hl : m.length = n.length) (hv : val n ≤ val m) : WRel K E w h m where
  dom := fun p hp => Nat.lt_of_lt_of_le (hw.dom p (hp.len hl.symm)) hv
  blk := fun p b hp hb => let ⟨h1, h2⟩ := hw.blk p b (hp.trans hl) hb; ⟨h1, h2.mono fun q hq => ⟨hq.1.trans hl.symm, Nat.lt_of_lt_of_le hq.2 hv⟩⟩
  inj := fun p q hp hq => hw.inj p q (hp.len hl.symm) (hq.len hl.symm)
  arg := fun hh => ⟨(hw.arg hh).1, fun p hp => (hw.arg hh).2 p (hp.len hl.symm)⟩
/-- what was named stays so -/
theorem WRel.sub {h2 : HT} {E2 : Env} {w2 : World} (hw : WRel K E w h n) (hw2 : WRel K E2 w2 h2 m) (hl : m.length = n.length) (hs : ∀ p, In h n p → h2.get p = h.get p) : WRel K E2 w2 h n where
  dom := hw.dom
  blk := fun p b hp hb => ⟨(hw2.blk p b (hp.trans hl.symm) (by rw [hs p ⟨hp, by rw [hb]; simp⟩]; exact hb)).1, (hw.blk p b hp hb).2⟩
  inj := fun p q hp hq e => hw2.inj p q ⟨hp.1.trans hl.symm, by rw [hs p hp]; exact hp.2⟩ ⟨hq.1.trans hl.symm, by rw [hs q hq]; exact hq.2⟩ e
  arg := fun hh => ⟨(hw2.arg hh).1, fun p hp => (hw2.arg hh).2 p ⟨hp.1.trans hl.symm, by rw [hs p hp]; exact hp.2⟩⟩
theorem WRel.env_all (hw : WRel K E' w h n) (he : ∀ q, q.length = n.length → E.blk q = E'.blk q ∧ E.sz q = E'.sz q) : WRel K E w h n where
  dom := hw.dom
  blk := fun p b hp hb => let ⟨h1, h2⟩ := hw.blk p b hp hb; ⟨h1.env h2 (fun q hq => he q hq.1) (he p hp), h2⟩
  inj := fun p q hp hq e => hw.inj p q hp hq (by rw [← (he p hp.1).1, ← (he q hq.1).1]; exact e)
  arg := fun hh => ⟨(hw.arg hh).1, fun p hp => by rw [(he p hp.1).1]; exact (hw.arg hh).2 p hp⟩
theorem WRel.thereIn (hw : WRel K E w h n) {p : Pa} (hp : In h n p) : E.blk p < w.heap.size := (hw.blk p _ hp.1 (Option.ne_none_iff_exists'.1 hp.2).choose_spec).1.there
theorem ro_other {ls nm : List Nat} {x : Operand} {y : Opd} (hx : ∀ t, x ≠ .tmp t) (h : ro ls nm x = some y) (E : Env) (Sp : Pa → Prop) (a : Act) (l : List AV) (f : Fr) : a.eval x = den E (ev y l f) ∧ Sc Sp (ev y l f) := by
  cases x with
  | tmp t => exact absurd rfl (hx t)
  | const v =>
    simp only [ro] at h
    cases h1 : cv v with
    | none => rw [h1] at h; cases h
    | some x =>
      rw [h1] at h
      cases h
      exact ⟨((cv_sound h1).1 E).symm, (cv_sound h1).2 _⟩
  | global g => simp [ro] at h
  | func g =>
    simp only [ro] at h
    cases h1 : fpa g with
    | none => rw [h1] at h; cases h
    | some p =>
      rw [h1] at h
      cases h
      exact ⟨by simp [Act.eval, ev, den, denL, fpa_val h1], by simp [ev, Sc, ScL]⟩

/-- the blocks that have been named: the heap's up to a place, and those laid ahead of their time -/
def SD (ord : List Nat) (S : Nat → Rec) (D : List Nat) (p : Nat) (q : Pa) : Prop :=
  q.length = (S 0).n.length ∧ (val q < val (S p).n ∨ ∃ c i cs, p ≤ c ∧ ord[c]? = some i ∧ i ∈ D ∧ NewAt S c cs ∧ q = (S c).n)

/-- how far a run is -/
structure Inv (P : Program) (cX : Nat → List Nat → Array Oper → Option DR3) (f : Fr) (nt : Nat) (nm : List Nat) (ops : Array Oper) (W : List (Nat × Nat)) (B ord : List Nat) (S : Nat → Rec) (E0 : Env) (w0 : World) (dfs : Act) (D : List Nat) (E : Env) (a : Act) (w : World) (p : Nat) : Prop where
  pL : p ≤ ord.length
  pre : ∀ c i, c < p → ord[c]? = some i → i ∈ D
  post : ∀ c i, p ≤ c → ord[c]? = some i → effAt ops.toList i = true → i ∉ D
  front : p = 0 ∨ ∃ i, 0 < p ∧ ord[p - 1]? = some i ∧ effAt ops.toList i = true
  clos : ∀ i ∈ D, ∀ j, bit B i j = true → j ∈ D
  ntl : nt ≤ a.tmps.size ∧ a.tmps.size = dfs.tmps.size
  df : a.defers = dfs.defers
  wr : WRel (KLp P cX) E w (S p).h (S p).n
  st : Step E0 w0 (S 0).h (S 0).n E w (S p).h (S ord.length).n
  old : ∀ t i, fnd t nm = some i → (∀ y, assocN t W = some y → y ∉ D) → a.tmps.getD t undef = den E (nth i f)
  new : ∀ c i o t v, ord[c]? = some i → i ∈ D → ops[i]? = some o → o.dst = some t → (S (c + 1)).l = v :: (S c).l → a.tmps.getD t undef = den E v
  sc : ∀ c i v, ord[c]? = some i → i ∈ D → (S (c + 1)).l = v :: (S c).l → Sc (Up (S (c + 1)).n) v ∧ Sc (SD ord S D p) v
  pd : ∀ c i cs, p ≤ c → ord[c]? = some i → i ∈ D → NewAt S c cs → BRel (KLp P cX) E w (S c).n cs ∧ BSc (Up (S c).n) cs ∧ BSc (SD ord S D p) cs ∧ w0.heap.size ≤ E.blk (S c).n ∧ ∀ q, In (S p).h (S p).n q → E.blk q ≠ E.blk (S c).n
  pj : ∀ c c' i i' cs cs', p ≤ c → ord[c]? = some i → i ∈ D → NewAt S c cs → p ≤ c' → ord[c']? = some i' → i' ∈ D → NewAt S c' cs' → E.blk (S c).n = E.blk (S c').n → c = c'
  ab : Sym.has → Sym.ab < w0.heap.size

variable (H : Plan P ft ih f nt nm ops W B ord ds S) {dfs : Act} {D : List Nat} {a : Act} {p : Nat}
section
include H
theorem Plan.len0 {c : Nat} (hc : c ≤ ord.length) : (S c).n.length = (S 0).n.length := (H.mono (Nat.zero_le c) hc).1
omit H in
theorem NewAt.lt {c : Nat} {cs : Blk} (hn : NewAt S c cs) : val (S c).n < val (S (c + 1)).n := by
  have := (inc_spec _ _ hn.1).1; omega
omit H in
theorem ord_lt {c i : Nat} (hc : ord[c]? = some i) : c < ord.length := (List.getElem?_eq_some_iff.1 hc).1
theorem Plan.new_ne {c c' : Nat} {cs cs' : Blk} (hc : c < ord.length) (hc' : c' < ord.length) (h1 : NewAt S c cs) (h2 : NewAt S c' cs') (hne : c ≠ c') : (S c).n ≠ (S c').n := fun e => by
  have l1 := h1.lt
  have l2 := h2.lt
  rcases Nat.lt_or_gt_of_ne hne with h | h
  · have := (H.mono (p := c + 1) (c := c') h (by omega)).2
    rw [← e] at this; omega
  · have := (H.mono (p := c' + 1) (c := c) h (by omega)).2
    rw [e] at this; omega
omit H in
theorem SD.mono {D' : List Nat} (hD : ∀ i ∈ D, i ∈ D') {q : Pa} (hq : SD ord S D p q) : SD ord S D' p q :=
  ⟨hq.1, hq.2.imp id fun ⟨c, i, cs, h1, h2, h3, h4, h5⟩ => ⟨c, i, cs, h1, h2, hD i h3, h4, h5⟩⟩

variable (hf : ScL (Up (S 0).n) f) (I : Inv P cX f nt nm ops W B ord S E0 w0 dfs D E a w p)
include I
/-- a slot that has been written -/
theorem Inv.slot {c y : Nat} {u : U} {t : Nat} (hcl : c ≤ ord.length) (hy : assocN t W = some y) (hyD : y ∈ D) (hu : fnd y (preO ord c) = some u) :
    a.tmps.getD t undef = den E (nth u (S c).l) ∧ Sc (Up (S c).n) (nth u (S c).l) ∧ Sc (SD ord S D p) (nth u (S c).l) := by
  have h1 := fnd_some hu
  have hlen : (preO ord c).length = c := by simp [preO]; omega
  have hult : u.nat < c := by
    have := (List.getElem?_eq_some_iff.1 h1).1
    omega
  have h2 : ord[c - 1 - u.nat]? = some y := by
    unfold preO at h1
    rw [List.getElem?_reverse (by simp; omega)] at h1
    have hl2 : (ord.take c).length = c := by simp; omega
    rw [hl2, List.getElem?_take_of_lt (by omega)] at h1
    exact h1
  obtain ⟨o, ho, ht⟩ := H.writes hy
  obtain ⟨o2, d, v, h3, h4, h5, h6, h7⟩ := H.at_ h2
  have hval : nth u (S c).l = v := by
    have := H.lval h6 (c := c) (by omega) (by omega)
    rw [nth_eq, ← this]
    congr 1
    omega
  rw [hval]
  obtain ⟨s1, s2⟩ := I.sc _ y v h2 hyD h6
  have hm := H.mono (p := c - 1 - u.nat + 1) (c := c) (by omega) (by omega)
  exact ⟨I.new _ y o t v h2 hyD ho ht h6, Sc.mono (fun q hq => ⟨hq.1.trans hm.1.symm, Nat.lt_of_lt_of_le hq.2 hm.2⟩) v s1, s2⟩
include hf
theorem Inv.frame_sc {c : Nat} (hc : c ≤ ord.length) (i : U) : Sc (Up (S c).n) (nth i f) ∧ Sc (SD ord S D p) (nth i f) := by
  have h0 := sc_nth hf i
  have hm := H.mono (Nat.zero_le c) hc
  have hm' := H.mono (Nat.zero_le p) I.pL
  exact ⟨Sc.mono (fun q hq => ⟨hq.1.trans hm.1.symm, Nat.lt_of_lt_of_le hq.2 hm.2⟩) _ h0, Sc.mono (fun q hq => ⟨hq.1, .inl (Nat.lt_of_lt_of_le hq.2 hm'.2)⟩) _ h0⟩
theorem Inv.opd {c i : Nat} (hc : ord[c]? = some i) (hi : i ∉ D) (hb : ∀ j, bit B i j = true → j ∈ D) (x : Operand) (y : Opd) (hx : roI W B nm i (preO ord c) x = some y) :
    a.eval x = den E (ev y (S c).l f) ∧ Sc (Up (S c).n) (ev y (S c).l f) ∧ Sc (SD ord S D p) (ev y (S c).l f) := by
  have hcl := ord_lt hc
  cases x with
  | tmp t =>
    simp only [roI] at hx
    cases hy : assocN t W with
    | none =>
      rw [hy] at hx
      obtain ⟨s, hs, rfl⟩ := map_some hx
      exact ⟨I.old t s hs fun y h => (by rw [hy] at h; cases h), I.frame_sc H hf (by omega) s⟩
    | some z =>
      rw [hy] at hx
      simp only at hx
      cases hbz : bit B i z with
      | true =>
        rw [hbz] at hx
        obtain ⟨u, hu, rfl⟩ := map_some hx
        exact I.slot H (Nat.le_of_lt hcl) hy (hb z hbz) hu
      | false =>
        rw [hbz] at hx
        simp only at hx
        cases hbi : bit B z i with
        | false => rw [hbi] at hx; cases hx
        | true =>
          rw [hbi] at hx
          obtain ⟨s, hs, rfl⟩ := map_some hx
          refine ⟨I.old t s hs fun y h hyD => ?_, I.frame_sc H hf (by omega) s⟩
          rw [hy] at h
          cases h
          exact hi (I.clos _ hyD i hbi)
  | const v =>
    have hx' : ro [] nm (.const v) = some y := hx
    have key := fun Sp => ro_other (fun t e => Operand.noConfusion e) hx' E Sp a (S c).l f
    exact ⟨(key fun _ => True).1, (key _).2, (key _).2⟩
  | global g => cases hx
  | func g =>
    have hx' : ro [] nm (.func g) = some y := hx
    have key := fun Sp => ro_other (fun t e => Operand.noConfusion e) hx' E Sp a (S c).l f
    exact ⟨(key fun _ => True).1, (key _).2, (key _).2⟩
end
end Go.X
