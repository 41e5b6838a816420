/- An executable reading of the model, its soundness over any program, and what it reads of this program. -/
import Derived.Test.YtfpdaeihlnlhcaaGreatUXO
import Derived.Test.YtfpdaeihlnlhcaaGreatProg
import Derived.WalkKit
import Derived.Laws.Externs
import Derived.KernelRfl
set_option linter.unusedSectionVars false
set_option linter.unusedVariables false
set_option linter.unusedSimpArgs false
set_option linter.constructorNameAsVariable false
namespace Go.X
open Go.Proofs
/-- a NaN's bits? -/
def nanB (n : Nat) : Bool := FloatKind.f64.format.order n n != some .eq
theorem ord_self (d : Ieee.Datum) : d.order d = none ∨ d.order d = some .eq := by
  cases d with
  | nan s t => exact .inl rfl
  | infinity s => right; cases s <;> rfl
  | number s m i => right; simp [Ieee.Datum.order]
theorem ord_none (d e : Ieee.Datum) : d.order e = none ↔ d.order d ≠ some .eq ∨ e.order e ≠ some .eq := by
  cases d <;> cases e <;> simp [Ieee.Datum.order]
theorem ord_nan (x y : Nat) : FloatKind.f64.format.order x y = none ↔ nanB x = true ∨ nanB y = true := by
  unfold nanB
  rw [bne_iff_ne, bne_iff_ne]
  exact ord_none _ _
theorem nearest_le (neg : Bool) (m : Nat) (p : Int) : Ieee.double.nearest neg m p ≤ 18446744073709551615 := by
  unfold Ieee.Format.nearest
  have h : ∀ r, r ≤ Ieee.double.infRung → Ieee.double.word neg r ≤ 18446744073709551615 := fun r hr => by
    have e1 : Ieee.double.infRung = 9218868437227405312 := by decide
    have e2 : Ieee.double.signWeight = 9223372036854775808 := by decide
    unfold Ieee.Format.word
    split <;> omega
  split
  · exact h 0 (Nat.zero_le _)
  · exact h _ (Nat.min_le_right _ _)
theorem write_le (d : Ieee.Datum) : Ieee.double.write d ≤ 18446744073709551615 := by
  have e1 : Ieee.double.infRung = 9218868437227405312 := by decide
  have e2 : Ieee.double.signWeight = 9223372036854775808 := by decide
  have e3 : Ieee.double.binade = 4503599627370496 := by decide
  cases d with
  | number s m p => exact nearest_le s m p
  | infinity s => simp only [Ieee.Format.write, Ieee.Format.word]; split <;> omega
  | nan s f =>
    have : f % Ieee.double.binade < 4503599627370496 := by rw [e3]; exact Nat.mod_lt _ (by decide)
    simp only [Ieee.Format.write, Ieee.Format.word]; split <;> omega
theorem map_le {o : Option Ieee.Datum} {r : Nat} (h : o.map Ieee.double.write = some r) : r ≤ 18446744073709551615 := by
  cases o with
  | none => cases h
  | some d => cases h; exact write_le d
/-- the NaN that a run draws -/
theorem nan_cut (t x y : Nat) : nanB ((Question.nanBits .f64 x y).cut t) = true := by
  have hq : ∃ b r, (Question.nanBits .f64 x y).cut t = b * 9223372036854775808 + 9218868437227405312 + 1 + r ∧ b < 2 ∧ r < 4503599627370495 := ⟨t % 2, t / 2 % 4503599627370495, rfl, Nat.mod_lt _ (by decide), Nat.mod_lt _ (by decide)⟩
  obtain ⟨b, r, e, hb, hr⟩ := hq
  generalize (Question.nanBits .f64 x y).cut t = n at e
  have e1 : Ieee.double.infRung = 9218868437227405312 := by decide
  have e2 : Ieee.double.signWeight = 9223372036854775808 := by decide
  have e3 : Ieee.double.binade = 4503599627370496 := by decide
  have h : ∃ s f, Ieee.double.read n = .nan s f := by
    unfold Ieee.Format.read
    rw [e1, e2, e3]
    have h1 : ¬ (n % 9223372036854775808 < 4503599627370496) := by omega
    have h2 : ¬ (n % 9223372036854775808 < 9218868437227405312) := by omega
    have h3 : ¬ (n % 9223372036854775808 = 9218868437227405312) := by omega
    simp only [h1, h2, h3, if_false]
    exact ⟨_, _, rfl⟩
  obtain ⟨s, f, h⟩ := h
  show ((Ieee.double.read n).order (Ieee.double.read n) != some .eq) = true
  rw [h]; rfl

theorem from_run (n : Nat) (w : World) : (callFunc 32 #[.int .u64 (n : Int)]).run Tryz.prog w = .ok (.value (.float .f64 n)) w := by
  rw [run_callFunc_extern Tryz.func32 (by kernel_rfl) (by kernel_rfl) (by kernel_rfl) (e := Extern.MathFloatBits.float64frombits) (by kernel_rfl)]
  rfl
theorem bits_run (n : Nat) (w : World) : (callFunc 86 #[.float .f64 n]).run Tryz.prog w = .ok (.value (.int .u64 (n : Int))) w := by
  rw [run_callFunc_extern Tryz.func86 (by kernel_rfl) (by kernel_rfl) (by kernel_rfl) (e := Extern.MathFloatBits.float64bits) (by kernel_rfl)]
  rfl
theorem ne_run (t : TypeId) (W : World) (n : Nat) : (binOp .neq t (.float .f64 n) (.float .f64 n)).run Tryz.prog W = .ok (.bool (nanB n)) W := by simp [binOp, Op.floatCmp, nanB]
set_option maxHeartbeats 2000000
set_option maxRecDepth 20000
theorem isnan (n : Nat) (w : World) : Calls Tryz.prog 209 #[.float .f64 n] w fun e w' => e = .returned (.bool (nanB n)) ∧ w' = w := by
  go_enter Tryz.func209, Tryz.ntmps209
  go_wp2_with (first | simp only [ne_run])
  go_ret
  exact ⟨rfl, rfl⟩

def arR : Option Nat → Nat
  | some r => if nanB r = true then 0x7ff8000000000000 else r
  | none => 0x7ff8000000000000
theorem arR_eq (o : Option Nat) : (match o with | some r => if FloatKind.f64.format.order r r == some .eq then r else 0x7ff8000000000000 | none => 0x7ff8000000000000) = arR o := by
  cases o with
  | none => rfl
  | some r => simp only [arR, nanB]; cases h : FloatKind.f64.format.order r r == some .eq <;> simp [h, bne]
theorem fbR_1 (x y : Nat) : fbR 1 x y = arR (FloatKind.f64.format.add x y) := arR_eq _
theorem fbR_2 (x y : Nat) : fbR 2 x y = arR (FloatKind.f64.format.sub x y) := arR_eq _
theorem fbR_3 (x y : Nat) : fbR 3 x y = arR (FloatKind.f64.format.mul x y) := arR_eq _
theorem fbR_4 (x y : Nat) : fbR 4 x y = arR (FloatKind.f64.format.div x y) := arR_eq _
theorem add_run (x y : Nat) : (∃ r, ∀ t W, (binOp .add t (.float .f64 x) (.float .f64 y)).run Tryz.prog W = .ok (.float .f64 r) W) ∨
    ∀ t W, (binOp .add t (.float .f64 x) (.float .f64 y)).run Tryz.prog W = .ok (.float .f64 ((Question.nanBits .f64 x y).cut (W.tape W.drawn (.nanBits .f64 x y)))) W.drew := by
  cases hr : FloatKind.f64.format.add x y with
  | some r => exact .inl ⟨r, fun t W => by simp [binOp, Op.floatArith, hr]⟩
  | none => exact .inr fun t W => by simp [binOp, Op.floatArith, hr, Question.forced]
def cmB (op : Nat) (o : Option Ordering) : Bool := match op with
  | 11 => o == some .eq
  | 12 => o != some .eq
  | 13 => o == some .lt
  | 14 => o == some .lt || o == some .eq
  | 15 => o == some .gt
  | _ => o == some .gt || o == some .eq
theorem fbR_c11 (x y : Nat) : fbR 11 x y = if cmB 11 (FloatKind.f64.format.order x y) = true then 1 else 0 := by
  unfold fbR cmB
  rfl
theorem fbR_c12 (x y : Nat) : fbR 12 x y = if cmB 12 (FloatKind.f64.format.order x y) = true then 1 else 0 := by
  unfold fbR cmB
  dsimp only; cases h : FloatKind.f64.format.order x y == some .eq <;> simp [h, bne]
theorem fbR_c13 (x y : Nat) : fbR 13 x y = if cmB 13 (FloatKind.f64.format.order x y) = true then 1 else 0 := by
  unfold fbR cmB
  rfl
theorem fbR_c14 (x y : Nat) : fbR 14 x y = if cmB 14 (FloatKind.f64.format.order x y) = true then 1 else 0 := by
  unfold fbR cmB
  rfl
theorem fbR_c15 (x y : Nat) : fbR 15 x y = if cmB 15 (FloatKind.f64.format.order x y) = true then 1 else 0 := by
  unfold fbR cmB
  rfl
theorem fbR_c16 (x y : Nat) : fbR 16 x y = if cmB 16 (FloatKind.f64.format.order x y) = true then 1 else 0 := by
  unfold fbR cmB
  rfl
theorem wfl1 (x y : Nat) (w : World) : Calls Tryz.prog 174 #[.int .i64 1, .int .u64 (x : Int), .int .u64 (y : Int)] w fun e w' => e = .returned (.int .u64 (fbR 1 x y : Int)) ∧ Same w w' := by
  rw [fbR_1]
  cases hr : FloatKind.f64.format.add x y with
  | some r =>
    have hb : ∀ t W, (binOp .add t (.float .f64 x) (.float .f64 y)).run Tryz.prog W = .ok (.float .f64 r) W := fun t W => by
      simp [binOp, Op.floatArith, hr]
    clear hr
    cases hn : nanB r with
    | false =>
      have hv : arR (some r) = r := by simp [arR, hn]
      rw [hv]
      have ha := hb
      go_enter Tryz.func174, Tryz.ntmps174
      go_wp2_with (first | simp only [from_run] | simp only [bits_run] | simp only [hb] | simp only [ha] | (go_at_call 209; refine (isnan _ _).mono ?_; rintro e w' ⟨rfl, rfl⟩; simp only [hn, nan_cut]) | simp only [ne_run, hn, nan_cut] | go_in)
      all_goals go_ret
      all_goals exact ⟨rfl, ⟨fun _ _ => rfl, Nat.le_refl _, rfl, rfl, rfl⟩⟩
    | true =>
      have hv : arR (some r) = 0x7ff8000000000000 := by simp [arR, hn]
      rw [hv]
      have ha := hb
      go_enter Tryz.func174, Tryz.ntmps174
      go_wp2_with (first | simp only [from_run] | simp only [bits_run] | simp only [hb] | simp only [ha] | (go_at_call 209; refine (isnan _ _).mono ?_; rintro e w' ⟨rfl, rfl⟩; simp only [hn, nan_cut]) | simp only [ne_run, hn, nan_cut] | go_in)
      all_goals go_ret
      all_goals exact ⟨rfl, ⟨fun _ _ => rfl, Nat.le_refl _, rfl, rfl, rfl⟩⟩
  | none =>
    have hb : ∀ t W, (binOp .add t (.float .f64 x) (.float .f64 y)).run Tryz.prog W = .ok (.float .f64 ((Question.nanBits .f64 x y).cut (W.tape W.drawn (.nanBits .f64 x y)))) W.drew := fun t W => by
      simp [binOp, Op.floatArith, hr, Question.forced]
    have hv : arR none = 0x7ff8000000000000 := rfl
    rw [hv]
    clear hr
    have hn : True := trivial
    have ha := hb
    go_enter Tryz.func174, Tryz.ntmps174
    go_wp2_with (first | simp only [from_run] | simp only [bits_run] | simp only [hb] | simp only [ha] | (go_at_call 209; refine (isnan _ _).mono ?_; rintro e w' ⟨rfl, rfl⟩; simp only [hn, nan_cut]) | simp only [ne_run, hn, nan_cut] | go_in)
    all_goals go_ret
    all_goals exact ⟨rfl, ⟨fun _ _ => rfl, Nat.le_refl _, rfl, rfl, rfl⟩⟩

theorem wfl2 (x y : Nat) (w : World) : Calls Tryz.prog 174 #[.int .i64 2, .int .u64 (x : Int), .int .u64 (y : Int)] w fun e w' => e = .returned (.int .u64 (fbR 2 x y : Int)) ∧ Same w w' := by
  rw [fbR_2]
  cases hr : FloatKind.f64.format.sub x y with
  | some r =>
    have hb : ∀ t W, (binOp .sub t (.float .f64 x) (.float .f64 y)).run Tryz.prog W = .ok (.float .f64 r) W := fun t W => by
      simp [binOp, Op.floatArith, hr]
    clear hr
    cases hn : nanB r with
    | false =>
      have hv : arR (some r) = r := by simp [arR, hn]
      rw [hv]
      rcases add_run x y with ⟨r0, ha⟩ | ha
      all_goals (
        go_enter Tryz.func174, Tryz.ntmps174
        go_wp2_with (first | simp only [from_run] | simp only [bits_run] | simp only [hb] | simp only [ha] | (go_at_call 209; refine (isnan _ _).mono ?_; rintro e w' ⟨rfl, rfl⟩; simp only [hn, nan_cut]) | simp only [ne_run, hn, nan_cut] | go_in)
        all_goals go_ret
        all_goals exact ⟨rfl, ⟨fun _ _ => rfl, Nat.le_refl _, rfl, rfl, rfl⟩⟩)
    | true =>
      have hv : arR (some r) = 0x7ff8000000000000 := by simp [arR, hn]
      rw [hv]
      rcases add_run x y with ⟨r0, ha⟩ | ha
      all_goals (
        go_enter Tryz.func174, Tryz.ntmps174
        go_wp2_with (first | simp only [from_run] | simp only [bits_run] | simp only [hb] | simp only [ha] | (go_at_call 209; refine (isnan _ _).mono ?_; rintro e w' ⟨rfl, rfl⟩; simp only [hn, nan_cut]) | simp only [ne_run, hn, nan_cut] | go_in)
        all_goals go_ret
        all_goals exact ⟨rfl, ⟨fun _ _ => rfl, Nat.le_refl _, rfl, rfl, rfl⟩⟩)
  | none =>
    have hb : ∀ t W, (binOp .sub t (.float .f64 x) (.float .f64 y)).run Tryz.prog W = .ok (.float .f64 ((Question.nanBits .f64 x y).cut (W.tape W.drawn (.nanBits .f64 x y)))) W.drew := fun t W => by
      simp [binOp, Op.floatArith, hr, Question.forced]
    have hv : arR none = 0x7ff8000000000000 := rfl
    rw [hv]
    clear hr
    have hn : True := trivial
    rcases add_run x y with ⟨r0, ha⟩ | ha
    all_goals (
      go_enter Tryz.func174, Tryz.ntmps174
      go_wp2_with (first | simp only [from_run] | simp only [bits_run] | simp only [hb] | simp only [ha] | (go_at_call 209; refine (isnan _ _).mono ?_; rintro e w' ⟨rfl, rfl⟩; simp only [hn, nan_cut]) | simp only [ne_run, hn, nan_cut] | go_in)
      all_goals go_ret
      all_goals exact ⟨rfl, ⟨fun _ _ => rfl, Nat.le_refl _, rfl, rfl, rfl⟩⟩)

theorem wfl3 (x y : Nat) (w : World) : Calls Tryz.prog 174 #[.int .i64 3, .int .u64 (x : Int), .int .u64 (y : Int)] w fun e w' => e = .returned (.int .u64 (fbR 3 x y : Int)) ∧ Same w w' := by
  rw [fbR_3]
  cases hr : FloatKind.f64.format.mul x y with
  | some r =>
    have hb : ∀ t W, (binOp .mul t (.float .f64 x) (.float .f64 y)).run Tryz.prog W = .ok (.float .f64 r) W := fun t W => by
      simp [binOp, Op.floatArith, hr]
    clear hr
    cases hn : nanB r with
    | false =>
      have hv : arR (some r) = r := by simp [arR, hn]
      rw [hv]
      rcases add_run x y with ⟨r0, ha⟩ | ha
      all_goals (
        go_enter Tryz.func174, Tryz.ntmps174
        go_wp2_with (first | simp only [from_run] | simp only [bits_run] | simp only [hb] | simp only [ha] | (go_at_call 209; refine (isnan _ _).mono ?_; rintro e w' ⟨rfl, rfl⟩; simp only [hn, nan_cut]) | simp only [ne_run, hn, nan_cut] | go_in)
        all_goals go_ret
        all_goals exact ⟨rfl, ⟨fun _ _ => rfl, Nat.le_refl _, rfl, rfl, rfl⟩⟩)
    | true =>
      have hv : arR (some r) = 0x7ff8000000000000 := by simp [arR, hn]
      rw [hv]
      rcases add_run x y with ⟨r0, ha⟩ | ha
      all_goals (
        go_enter Tryz.func174, Tryz.ntmps174
        go_wp2_with (first | simp only [from_run] | simp only [bits_run] | simp only [hb] | simp only [ha] | (go_at_call 209; refine (isnan _ _).mono ?_; rintro e w' ⟨rfl, rfl⟩; simp only [hn, nan_cut]) | simp only [ne_run, hn, nan_cut] | go_in)
        all_goals go_ret
        all_goals exact ⟨rfl, ⟨fun _ _ => rfl, Nat.le_refl _, rfl, rfl, rfl⟩⟩)
  | none =>
    have hb : ∀ t W, (binOp .mul t (.float .f64 x) (.float .f64 y)).run Tryz.prog W = .ok (.float .f64 ((Question.nanBits .f64 x y).cut (W.tape W.drawn (.nanBits .f64 x y)))) W.drew := fun t W => by
      simp [binOp, Op.floatArith, hr, Question.forced]
    have hv : arR none = 0x7ff8000000000000 := rfl
    rw [hv]
    clear hr
    have hn : True := trivial
    rcases add_run x y with ⟨r0, ha⟩ | ha
    all_goals (
      go_enter Tryz.func174, Tryz.ntmps174
      go_wp2_with (first | simp only [from_run] | simp only [bits_run] | simp only [hb] | simp only [ha] | (go_at_call 209; refine (isnan _ _).mono ?_; rintro e w' ⟨rfl, rfl⟩; simp only [hn, nan_cut]) | simp only [ne_run, hn, nan_cut] | go_in)
      all_goals go_ret
      all_goals exact ⟨rfl, ⟨fun _ _ => rfl, Nat.le_refl _, rfl, rfl, rfl⟩⟩)

theorem wfl4 (x y : Nat) (w : World) : Calls Tryz.prog 174 #[.int .i64 4, .int .u64 (x : Int), .int .u64 (y : Int)] w fun e w' => e = .returned (.int .u64 (fbR 4 x y : Int)) ∧ Same w w' := by
  rw [fbR_4]
  cases hr : FloatKind.f64.format.div x y with
  | some r =>
    have hb : ∀ t W, (binOp .quo t (.float .f64 x) (.float .f64 y)).run Tryz.prog W = .ok (.float .f64 r) W := fun t W => by
      simp [binOp, Op.floatArith, hr]
    clear hr
    cases hn : nanB r with
    | false =>
      have hv : arR (some r) = r := by simp [arR, hn]
      rw [hv]
      rcases add_run x y with ⟨r0, ha⟩ | ha
      all_goals (
        go_enter Tryz.func174, Tryz.ntmps174
        go_wp2_with (first | simp only [from_run] | simp only [bits_run] | simp only [hb] | simp only [ha] | (go_at_call 209; refine (isnan _ _).mono ?_; rintro e w' ⟨rfl, rfl⟩; simp only [hn, nan_cut]) | simp only [ne_run, hn, nan_cut] | go_in)
        all_goals go_ret
        all_goals exact ⟨rfl, ⟨fun _ _ => rfl, Nat.le_refl _, rfl, rfl, rfl⟩⟩)
    | true =>
      have hv : arR (some r) = 0x7ff8000000000000 := by simp [arR, hn]
      rw [hv]
      rcases add_run x y with ⟨r0, ha⟩ | ha
      all_goals (
        go_enter Tryz.func174, Tryz.ntmps174
        go_wp2_with (first | simp only [from_run] | simp only [bits_run] | simp only [hb] | simp only [ha] | (go_at_call 209; refine (isnan _ _).mono ?_; rintro e w' ⟨rfl, rfl⟩; simp only [hn, nan_cut]) | simp only [ne_run, hn, nan_cut] | go_in)
        all_goals go_ret
        all_goals exact ⟨rfl, ⟨fun _ _ => rfl, Nat.le_refl _, rfl, rfl, rfl⟩⟩)
  | none =>
    have hb : ∀ t W, (binOp .quo t (.float .f64 x) (.float .f64 y)).run Tryz.prog W = .ok (.float .f64 ((Question.nanBits .f64 x y).cut (W.tape W.drawn (.nanBits .f64 x y)))) W.drew := fun t W => by
      simp [binOp, Op.floatArith, hr, Question.forced]
    have hv : arR none = 0x7ff8000000000000 := rfl
    rw [hv]
    clear hr
    have hn : True := trivial
    rcases add_run x y with ⟨r0, ha⟩ | ha
    all_goals (
      go_enter Tryz.func174, Tryz.ntmps174
      go_wp2_with (first | simp only [from_run] | simp only [bits_run] | simp only [hb] | simp only [ha] | (go_at_call 209; refine (isnan _ _).mono ?_; rintro e w' ⟨rfl, rfl⟩; simp only [hn, nan_cut]) | simp only [ne_run, hn, nan_cut] | go_in)
      all_goals go_ret
      all_goals exact ⟨rfl, ⟨fun _ _ => rfl, Nat.le_refl _, rfl, rfl, rfl⟩⟩)

theorem wfl11 (x y : Nat) (w : World) : Calls Tryz.prog 174 #[.int .i64 11, .int .u64 (x : Int), .int .u64 (y : Int)] w fun e w' => e = .returned (.int .u64 (fbR 11 x y : Int)) ∧ Same w w' := by
  obtain ⟨od, hod⟩ : ∃ od, od = FloatKind.f64.format.order x y := ⟨_, rfl⟩
  have hlaw := ord_nan x y
  rw [← hod] at hlaw
  have hl : ∀ t W, (binOp .lss t (.float .f64 x) (.float .f64 y)).run Tryz.prog W = .ok (.bool (od == some .lt)) W := fun t W => by simp [binOp, Op.floatCmp, hod]
  have he : ∀ t W, (binOp .eql t (.float .f64 x) (.float .f64 y)).run Tryz.prog W = .ok (.bool (od == some .eq)) W := fun t W => by simp [binOp, Op.floatCmp, hod]
  have hc : ∀ t W, (binOp .eql t (.float .f64 x) (.float .f64 y)).run Tryz.prog W = .ok (.bool (cmB 11 od)) W := fun t W => by simp [binOp, Op.floatCmp, hod, cmB]
  have hv : fbR 11 x y = if cmB 11 od = true then 1 else 0 := by rw [hod]; exact fbR_c11 x y
  rw [hv]
  clear hv hod
  rcases od with _ | (_ | _ | _)
  · have hxy := hlaw.1 rfl
    clear hlaw
    simp only [show cmB 11 none = false from rfl]
    cases hx : nanB x with
    | true =>
      clear hxy
      have hy := hx
      go_enter Tryz.func174, Tryz.ntmps174
      go_wp2_with (first | simp only [from_run] | simp only [bits_run] | simp only [hl] | simp only [he] | simp only [hc] | (go_at_call 209; refine (isnan _ _).mono ?_; rintro e w' ⟨rfl, rfl⟩; simp only [hx, hy]) | go_in)
      all_goals go_ret
      all_goals exact ⟨rfl, ⟨fun _ _ => rfl, Nat.le_refl _, rfl, rfl, rfl⟩⟩
    | false =>
      have hy : nanB y = true := hxy.resolve_left (by rw [hx]; decide)
      clear hxy
      go_enter Tryz.func174, Tryz.ntmps174
      go_wp2_with (first | simp only [from_run] | simp only [bits_run] | simp only [hl] | simp only [he] | simp only [hc] | (go_at_call 209; refine (isnan _ _).mono ?_; rintro e w' ⟨rfl, rfl⟩; simp only [hx, hy]) | go_in)
      all_goals go_ret
      all_goals exact ⟨rfl, ⟨fun _ _ => rfl, Nat.le_refl _, rfl, rfl, rfl⟩⟩
  · have hx : nanB x = false := by cases h : nanB x with | false => rfl | true => exact absurd (hlaw.2 (.inl h)) (by simp)
    have hy : nanB y = false := by cases h : nanB y with | false => rfl | true => exact absurd (hlaw.2 (.inr h)) (by simp)
    clear hlaw
    simp only [show cmB 11 (some .lt) = false from rfl]
    simp only [show ((some Ordering.lt == some Ordering.lt) = true) from rfl] at hl
    simp only [show ((some Ordering.lt == some Ordering.eq) = false) from rfl] at he
    clear hc
    have hc := he
    go_enter Tryz.func174, Tryz.ntmps174
    go_wp2_with (first | simp only [from_run] | simp only [bits_run] | simp only [hl] | simp only [he] | simp only [hc] | (go_at_call 209; refine (isnan _ _).mono ?_; rintro e w' ⟨rfl, rfl⟩; simp only [hx, hy]) | go_in)
    all_goals go_ret
    all_goals exact ⟨rfl, ⟨fun b hb => (by first | exact heap_alloc_old _ _ b hb | exact heap_alloc_old _ _ hb), by simp, rfl, rfl, rfl⟩⟩
  · have hx : nanB x = false := by cases h : nanB x with | false => rfl | true => exact absurd (hlaw.2 (.inl h)) (by simp)
    have hy : nanB y = false := by cases h : nanB y with | false => rfl | true => exact absurd (hlaw.2 (.inr h)) (by simp)
    clear hlaw
    simp only [show cmB 11 (some .eq) = true from rfl]
    simp only [show ((some Ordering.eq == some Ordering.lt) = false) from rfl] at hl
    simp only [show ((some Ordering.eq == some Ordering.eq) = true) from rfl] at he
    clear hc
    have hc := he
    go_enter Tryz.func174, Tryz.ntmps174
    go_wp2_with (first | simp only [from_run] | simp only [bits_run] | simp only [hl] | simp only [he] | simp only [hc] | (go_at_call 209; refine (isnan _ _).mono ?_; rintro e w' ⟨rfl, rfl⟩; simp only [hx, hy]) | go_in)
    all_goals go_ret
    all_goals exact ⟨rfl, ⟨fun b hb => (by first | exact heap_alloc_old _ _ b hb | exact heap_alloc_old _ _ hb), by simp, rfl, rfl, rfl⟩⟩
  · have hx : nanB x = false := by cases h : nanB x with | false => rfl | true => exact absurd (hlaw.2 (.inl h)) (by simp)
    have hy : nanB y = false := by cases h : nanB y with | false => rfl | true => exact absurd (hlaw.2 (.inr h)) (by simp)
    clear hlaw
    simp only [show cmB 11 (some .gt) = false from rfl]
    simp only [show ((some Ordering.gt == some Ordering.lt) = false) from rfl] at hl
    simp only [show ((some Ordering.gt == some Ordering.eq) = false) from rfl] at he
    clear hc
    have hc := he
    go_enter Tryz.func174, Tryz.ntmps174
    go_wp2_with (first | simp only [from_run] | simp only [bits_run] | simp only [hl] | simp only [he] | simp only [hc] | (go_at_call 209; refine (isnan _ _).mono ?_; rintro e w' ⟨rfl, rfl⟩; simp only [hx, hy]) | go_in)
    all_goals go_ret
    all_goals exact ⟨rfl, ⟨fun b hb => (by first | exact heap_alloc_old _ _ b hb | exact heap_alloc_old _ _ hb), by simp, rfl, rfl, rfl⟩⟩

theorem wfl12 (x y : Nat) (w : World) : Calls Tryz.prog 174 #[.int .i64 12, .int .u64 (x : Int), .int .u64 (y : Int)] w fun e w' => e = .returned (.int .u64 (fbR 12 x y : Int)) ∧ Same w w' := by
  obtain ⟨od, hod⟩ : ∃ od, od = FloatKind.f64.format.order x y := ⟨_, rfl⟩
  have hlaw := ord_nan x y
  rw [← hod] at hlaw
  have hl : ∀ t W, (binOp .lss t (.float .f64 x) (.float .f64 y)).run Tryz.prog W = .ok (.bool (od == some .lt)) W := fun t W => by simp [binOp, Op.floatCmp, hod]
  have he : ∀ t W, (binOp .eql t (.float .f64 x) (.float .f64 y)).run Tryz.prog W = .ok (.bool (od == some .eq)) W := fun t W => by simp [binOp, Op.floatCmp, hod]
  have hc : ∀ t W, (binOp .neq t (.float .f64 x) (.float .f64 y)).run Tryz.prog W = .ok (.bool (cmB 12 od)) W := fun t W => by simp [binOp, Op.floatCmp, hod, cmB]
  have hv : fbR 12 x y = if cmB 12 od = true then 1 else 0 := by rw [hod]; exact fbR_c12 x y
  rw [hv]
  clear hv hod
  rcases od with _ | (_ | _ | _)
  · have hxy := hlaw.1 rfl
    clear hlaw
    simp only [show cmB 12 none = true from rfl]
    cases hx : nanB x with
    | true =>
      clear hxy
      have hy := hx
      go_enter Tryz.func174, Tryz.ntmps174
      go_wp2_with (first | simp only [from_run] | simp only [bits_run] | simp only [hl] | simp only [he] | simp only [hc] | (go_at_call 209; refine (isnan _ _).mono ?_; rintro e w' ⟨rfl, rfl⟩; simp only [hx, hy]) | go_in)
      all_goals go_ret
      all_goals exact ⟨rfl, ⟨fun _ _ => rfl, Nat.le_refl _, rfl, rfl, rfl⟩⟩
    | false =>
      have hy : nanB y = true := hxy.resolve_left (by rw [hx]; decide)
      clear hxy
      go_enter Tryz.func174, Tryz.ntmps174
      go_wp2_with (first | simp only [from_run] | simp only [bits_run] | simp only [hl] | simp only [he] | simp only [hc] | (go_at_call 209; refine (isnan _ _).mono ?_; rintro e w' ⟨rfl, rfl⟩; simp only [hx, hy]) | go_in)
      all_goals go_ret
      all_goals exact ⟨rfl, ⟨fun _ _ => rfl, Nat.le_refl _, rfl, rfl, rfl⟩⟩
  · have hx : nanB x = false := by cases h : nanB x with | false => rfl | true => exact absurd (hlaw.2 (.inl h)) (by simp)
    have hy : nanB y = false := by cases h : nanB y with | false => rfl | true => exact absurd (hlaw.2 (.inr h)) (by simp)
    clear hlaw
    simp only [show cmB 12 (some .lt) = true from rfl]
    simp only [show ((some Ordering.lt == some Ordering.lt) = true) from rfl] at hl
    simp only [show ((some Ordering.lt == some Ordering.eq) = false) from rfl] at he
    clear hc
    have hc := he
    go_enter Tryz.func174, Tryz.ntmps174
    go_wp2_with (first | simp only [from_run] | simp only [bits_run] | simp only [hl] | simp only [he] | simp only [hc] | (go_at_call 209; refine (isnan _ _).mono ?_; rintro e w' ⟨rfl, rfl⟩; simp only [hx, hy]) | go_in)
    all_goals go_ret
    all_goals exact ⟨rfl, ⟨fun b hb => (by first | exact heap_alloc_old _ _ b hb | exact heap_alloc_old _ _ hb), by simp, rfl, rfl, rfl⟩⟩
  · have hx : nanB x = false := by cases h : nanB x with | false => rfl | true => exact absurd (hlaw.2 (.inl h)) (by simp)
    have hy : nanB y = false := by cases h : nanB y with | false => rfl | true => exact absurd (hlaw.2 (.inr h)) (by simp)
    clear hlaw
    simp only [show cmB 12 (some .eq) = false from rfl]
    simp only [show ((some Ordering.eq == some Ordering.lt) = false) from rfl] at hl
    simp only [show ((some Ordering.eq == some Ordering.eq) = true) from rfl] at he
    clear hc
    have hc := he
    go_enter Tryz.func174, Tryz.ntmps174
    go_wp2_with (first | simp only [from_run] | simp only [bits_run] | simp only [hl] | simp only [he] | simp only [hc] | (go_at_call 209; refine (isnan _ _).mono ?_; rintro e w' ⟨rfl, rfl⟩; simp only [hx, hy]) | go_in)
    all_goals go_ret
    all_goals exact ⟨rfl, ⟨fun b hb => (by first | exact heap_alloc_old _ _ b hb | exact heap_alloc_old _ _ hb), by simp, rfl, rfl, rfl⟩⟩
  · have hx : nanB x = false := by cases h : nanB x with | false => rfl | true => exact absurd (hlaw.2 (.inl h)) (by simp)
    have hy : nanB y = false := by cases h : nanB y with | false => rfl | true => exact absurd (hlaw.2 (.inr h)) (by simp)
    clear hlaw
    simp only [show cmB 12 (some .gt) = true from rfl]
    simp only [show ((some Ordering.gt == some Ordering.lt) = false) from rfl] at hl
    simp only [show ((some Ordering.gt == some Ordering.eq) = false) from rfl] at he
    clear hc
    have hc := he
    go_enter Tryz.func174, Tryz.ntmps174
    go_wp2_with (first | simp only [from_run] | simp only [bits_run] | simp only [hl] | simp only [he] | simp only [hc] | (go_at_call 209; refine (isnan _ _).mono ?_; rintro e w' ⟨rfl, rfl⟩; simp only [hx, hy]) | go_in)
    all_goals go_ret
    all_goals exact ⟨rfl, ⟨fun b hb => (by first | exact heap_alloc_old _ _ b hb | exact heap_alloc_old _ _ hb), by simp, rfl, rfl, rfl⟩⟩

theorem wfl13 (x y : Nat) (w : World) : Calls Tryz.prog 174 #[.int .i64 13, .int .u64 (x : Int), .int .u64 (y : Int)] w fun e w' => e = .returned (.int .u64 (fbR 13 x y : Int)) ∧ Same w w' := by
  obtain ⟨od, hod⟩ : ∃ od, od = FloatKind.f64.format.order x y := ⟨_, rfl⟩
  have hlaw := ord_nan x y
  rw [← hod] at hlaw
  have hl : ∀ t W, (binOp .lss t (.float .f64 x) (.float .f64 y)).run Tryz.prog W = .ok (.bool (od == some .lt)) W := fun t W => by simp [binOp, Op.floatCmp, hod]
  have he : ∀ t W, (binOp .eql t (.float .f64 x) (.float .f64 y)).run Tryz.prog W = .ok (.bool (od == some .eq)) W := fun t W => by simp [binOp, Op.floatCmp, hod]
  have hc : ∀ t W, (binOp .lss t (.float .f64 x) (.float .f64 y)).run Tryz.prog W = .ok (.bool (cmB 13 od)) W := fun t W => by simp [binOp, Op.floatCmp, hod, cmB]
  have hv : fbR 13 x y = if cmB 13 od = true then 1 else 0 := by rw [hod]; exact fbR_c13 x y
  rw [hv]
  clear hv hod
  rcases od with _ | (_ | _ | _)
  · have hxy := hlaw.1 rfl
    clear hlaw
    simp only [show cmB 13 none = false from rfl]
    cases hx : nanB x with
    | true =>
      clear hxy
      have hy := hx
      go_enter Tryz.func174, Tryz.ntmps174
      go_wp2_with (first | simp only [from_run] | simp only [bits_run] | simp only [hl] | simp only [he] | simp only [hc] | (go_at_call 209; refine (isnan _ _).mono ?_; rintro e w' ⟨rfl, rfl⟩; simp only [hx, hy]) | go_in)
      all_goals go_ret
      all_goals exact ⟨rfl, ⟨fun _ _ => rfl, Nat.le_refl _, rfl, rfl, rfl⟩⟩
    | false =>
      have hy : nanB y = true := hxy.resolve_left (by rw [hx]; decide)
      clear hxy
      go_enter Tryz.func174, Tryz.ntmps174
      go_wp2_with (first | simp only [from_run] | simp only [bits_run] | simp only [hl] | simp only [he] | simp only [hc] | (go_at_call 209; refine (isnan _ _).mono ?_; rintro e w' ⟨rfl, rfl⟩; simp only [hx, hy]) | go_in)
      all_goals go_ret
      all_goals exact ⟨rfl, ⟨fun _ _ => rfl, Nat.le_refl _, rfl, rfl, rfl⟩⟩
  · have hx : nanB x = false := by cases h : nanB x with | false => rfl | true => exact absurd (hlaw.2 (.inl h)) (by simp)
    have hy : nanB y = false := by cases h : nanB y with | false => rfl | true => exact absurd (hlaw.2 (.inr h)) (by simp)
    clear hlaw
    simp only [show cmB 13 (some .lt) = true from rfl]
    simp only [show ((some Ordering.lt == some Ordering.lt) = true) from rfl] at hl
    simp only [show ((some Ordering.lt == some Ordering.eq) = false) from rfl] at he
    clear hc
    have hc := he
    go_enter Tryz.func174, Tryz.ntmps174
    go_wp2_with (first | simp only [from_run] | simp only [bits_run] | simp only [hl] | simp only [he] | simp only [hc] | (go_at_call 209; refine (isnan _ _).mono ?_; rintro e w' ⟨rfl, rfl⟩; simp only [hx, hy]) | go_in)
    all_goals go_ret
    all_goals exact ⟨rfl, ⟨fun b hb => (by first | exact heap_alloc_old _ _ b hb | exact heap_alloc_old _ _ hb), by simp, rfl, rfl, rfl⟩⟩
  · have hx : nanB x = false := by cases h : nanB x with | false => rfl | true => exact absurd (hlaw.2 (.inl h)) (by simp)
    have hy : nanB y = false := by cases h : nanB y with | false => rfl | true => exact absurd (hlaw.2 (.inr h)) (by simp)
    clear hlaw
    simp only [show cmB 13 (some .eq) = false from rfl]
    simp only [show ((some Ordering.eq == some Ordering.lt) = false) from rfl] at hl
    simp only [show ((some Ordering.eq == some Ordering.eq) = true) from rfl] at he
    clear hc
    have hc := he
    go_enter Tryz.func174, Tryz.ntmps174
    go_wp2_with (first | simp only [from_run] | simp only [bits_run] | simp only [hl] | simp only [he] | simp only [hc] | (go_at_call 209; refine (isnan _ _).mono ?_; rintro e w' ⟨rfl, rfl⟩; simp only [hx, hy]) | go_in)
    all_goals go_ret
    all_goals exact ⟨rfl, ⟨fun b hb => (by first | exact heap_alloc_old _ _ b hb | exact heap_alloc_old _ _ hb), by simp, rfl, rfl, rfl⟩⟩
  · have hx : nanB x = false := by cases h : nanB x with | false => rfl | true => exact absurd (hlaw.2 (.inl h)) (by simp)
    have hy : nanB y = false := by cases h : nanB y with | false => rfl | true => exact absurd (hlaw.2 (.inr h)) (by simp)
    clear hlaw
    simp only [show cmB 13 (some .gt) = false from rfl]
    simp only [show ((some Ordering.gt == some Ordering.lt) = false) from rfl] at hl
    simp only [show ((some Ordering.gt == some Ordering.eq) = false) from rfl] at he
    clear hc
    have hc := he
    go_enter Tryz.func174, Tryz.ntmps174
    go_wp2_with (first | simp only [from_run] | simp only [bits_run] | simp only [hl] | simp only [he] | simp only [hc] | (go_at_call 209; refine (isnan _ _).mono ?_; rintro e w' ⟨rfl, rfl⟩; simp only [hx, hy]) | go_in)
    all_goals go_ret
    all_goals exact ⟨rfl, ⟨fun b hb => (by first | exact heap_alloc_old _ _ b hb | exact heap_alloc_old _ _ hb), by simp, rfl, rfl, rfl⟩⟩

theorem wfl14 (x y : Nat) (w : World) : Calls Tryz.prog 174 #[.int .i64 14, .int .u64 (x : Int), .int .u64 (y : Int)] w fun e w' => e = .returned (.int .u64 (fbR 14 x y : Int)) ∧ Same w w' := by
  obtain ⟨od, hod⟩ : ∃ od, od = FloatKind.f64.format.order x y := ⟨_, rfl⟩
  have hlaw := ord_nan x y
  rw [← hod] at hlaw
  have hl : ∀ t W, (binOp .lss t (.float .f64 x) (.float .f64 y)).run Tryz.prog W = .ok (.bool (od == some .lt)) W := fun t W => by simp [binOp, Op.floatCmp, hod]
  have he : ∀ t W, (binOp .eql t (.float .f64 x) (.float .f64 y)).run Tryz.prog W = .ok (.bool (od == some .eq)) W := fun t W => by simp [binOp, Op.floatCmp, hod]
  have hc : ∀ t W, (binOp .leq t (.float .f64 x) (.float .f64 y)).run Tryz.prog W = .ok (.bool (cmB 14 od)) W := fun t W => by simp [binOp, Op.floatCmp, hod, cmB]
  have hv : fbR 14 x y = if cmB 14 od = true then 1 else 0 := by rw [hod]; exact fbR_c14 x y
  rw [hv]
  clear hv hod
  rcases od with _ | (_ | _ | _)
  · have hxy := hlaw.1 rfl
    clear hlaw
    simp only [show cmB 14 none = false from rfl]
    cases hx : nanB x with
    | true =>
      clear hxy
      have hy := hx
      go_enter Tryz.func174, Tryz.ntmps174
      go_wp2_with (first | simp only [from_run] | simp only [bits_run] | simp only [hl] | simp only [he] | simp only [hc] | (go_at_call 209; refine (isnan _ _).mono ?_; rintro e w' ⟨rfl, rfl⟩; simp only [hx, hy]) | go_in)
      all_goals go_ret
      all_goals exact ⟨rfl, ⟨fun _ _ => rfl, Nat.le_refl _, rfl, rfl, rfl⟩⟩
    | false =>
      have hy : nanB y = true := hxy.resolve_left (by rw [hx]; decide)
      clear hxy
      go_enter Tryz.func174, Tryz.ntmps174
      go_wp2_with (first | simp only [from_run] | simp only [bits_run] | simp only [hl] | simp only [he] | simp only [hc] | (go_at_call 209; refine (isnan _ _).mono ?_; rintro e w' ⟨rfl, rfl⟩; simp only [hx, hy]) | go_in)
      all_goals go_ret
      all_goals exact ⟨rfl, ⟨fun _ _ => rfl, Nat.le_refl _, rfl, rfl, rfl⟩⟩
  · have hx : nanB x = false := by cases h : nanB x with | false => rfl | true => exact absurd (hlaw.2 (.inl h)) (by simp)
    have hy : nanB y = false := by cases h : nanB y with | false => rfl | true => exact absurd (hlaw.2 (.inr h)) (by simp)
    clear hlaw
    simp only [show cmB 14 (some .lt) = true from rfl]
    simp only [show ((some Ordering.lt == some Ordering.lt) = true) from rfl] at hl
    simp only [show ((some Ordering.lt == some Ordering.eq) = false) from rfl] at he
    clear hc
    have hc := he
    go_enter Tryz.func174, Tryz.ntmps174
    go_wp2_with (first | simp only [from_run] | simp only [bits_run] | simp only [hl] | simp only [he] | simp only [hc] | (go_at_call 209; refine (isnan _ _).mono ?_; rintro e w' ⟨rfl, rfl⟩; simp only [hx, hy]) | go_in)
    all_goals go_ret
    all_goals exact ⟨rfl, ⟨fun b hb => (by first | exact heap_alloc_old _ _ b hb | exact heap_alloc_old _ _ hb), by simp, rfl, rfl, rfl⟩⟩
  · have hx : nanB x = false := by cases h : nanB x with | false => rfl | true => exact absurd (hlaw.2 (.inl h)) (by simp)
    have hy : nanB y = false := by cases h : nanB y with | false => rfl | true => exact absurd (hlaw.2 (.inr h)) (by simp)
    clear hlaw
    simp only [show cmB 14 (some .eq) = true from rfl]
    simp only [show ((some Ordering.eq == some Ordering.lt) = false) from rfl] at hl
    simp only [show ((some Ordering.eq == some Ordering.eq) = true) from rfl] at he
    clear hc
    have hc := he
    go_enter Tryz.func174, Tryz.ntmps174
    go_wp2_with (first | simp only [from_run] | simp only [bits_run] | simp only [hl] | simp only [he] | simp only [hc] | (go_at_call 209; refine (isnan _ _).mono ?_; rintro e w' ⟨rfl, rfl⟩; simp only [hx, hy]) | go_in)
    all_goals go_ret
    all_goals exact ⟨rfl, ⟨fun b hb => (by first | exact heap_alloc_old _ _ b hb | exact heap_alloc_old _ _ hb), by simp, rfl, rfl, rfl⟩⟩
  · have hx : nanB x = false := by cases h : nanB x with | false => rfl | true => exact absurd (hlaw.2 (.inl h)) (by simp)
    have hy : nanB y = false := by cases h : nanB y with | false => rfl | true => exact absurd (hlaw.2 (.inr h)) (by simp)
    clear hlaw
    simp only [show cmB 14 (some .gt) = false from rfl]
    simp only [show ((some Ordering.gt == some Ordering.lt) = false) from rfl] at hl
    simp only [show ((some Ordering.gt == some Ordering.eq) = false) from rfl] at he
    clear hc
    have hc := he
    go_enter Tryz.func174, Tryz.ntmps174
    go_wp2_with (first | simp only [from_run] | simp only [bits_run] | simp only [hl] | simp only [he] | simp only [hc] | (go_at_call 209; refine (isnan _ _).mono ?_; rintro e w' ⟨rfl, rfl⟩; simp only [hx, hy]) | go_in)
    all_goals go_ret
    all_goals exact ⟨rfl, ⟨fun b hb => (by first | exact heap_alloc_old _ _ b hb | exact heap_alloc_old _ _ hb), by simp, rfl, rfl, rfl⟩⟩

theorem wfl15 (x y : Nat) (w : World) : Calls Tryz.prog 174 #[.int .i64 15, .int .u64 (x : Int), .int .u64 (y : Int)] w fun e w' => e = .returned (.int .u64 (fbR 15 x y : Int)) ∧ Same w w' := by
  obtain ⟨od, hod⟩ : ∃ od, od = FloatKind.f64.format.order x y := ⟨_, rfl⟩
  have hlaw := ord_nan x y
  rw [← hod] at hlaw
  have hl : ∀ t W, (binOp .lss t (.float .f64 x) (.float .f64 y)).run Tryz.prog W = .ok (.bool (od == some .lt)) W := fun t W => by simp [binOp, Op.floatCmp, hod]
  have he : ∀ t W, (binOp .eql t (.float .f64 x) (.float .f64 y)).run Tryz.prog W = .ok (.bool (od == some .eq)) W := fun t W => by simp [binOp, Op.floatCmp, hod]
  have hc : ∀ t W, (binOp .gtr t (.float .f64 x) (.float .f64 y)).run Tryz.prog W = .ok (.bool (cmB 15 od)) W := fun t W => by simp [binOp, Op.floatCmp, hod, cmB]
  have hv : fbR 15 x y = if cmB 15 od = true then 1 else 0 := by rw [hod]; exact fbR_c15 x y
  rw [hv]
  clear hv hod
  rcases od with _ | (_ | _ | _)
  · have hxy := hlaw.1 rfl
    clear hlaw
    simp only [show cmB 15 none = false from rfl]
    cases hx : nanB x with
    | true =>
      clear hxy
      have hy := hx
      go_enter Tryz.func174, Tryz.ntmps174
      go_wp2_with (first | simp only [from_run] | simp only [bits_run] | simp only [hl] | simp only [he] | simp only [hc] | (go_at_call 209; refine (isnan _ _).mono ?_; rintro e w' ⟨rfl, rfl⟩; simp only [hx, hy]) | go_in)
      all_goals go_ret
      all_goals exact ⟨rfl, ⟨fun _ _ => rfl, Nat.le_refl _, rfl, rfl, rfl⟩⟩
    | false =>
      have hy : nanB y = true := hxy.resolve_left (by rw [hx]; decide)
      clear hxy
      go_enter Tryz.func174, Tryz.ntmps174
      go_wp2_with (first | simp only [from_run] | simp only [bits_run] | simp only [hl] | simp only [he] | simp only [hc] | (go_at_call 209; refine (isnan _ _).mono ?_; rintro e w' ⟨rfl, rfl⟩; simp only [hx, hy]) | go_in)
      all_goals go_ret
      all_goals exact ⟨rfl, ⟨fun _ _ => rfl, Nat.le_refl _, rfl, rfl, rfl⟩⟩
  · have hx : nanB x = false := by cases h : nanB x with | false => rfl | true => exact absurd (hlaw.2 (.inl h)) (by simp)
    have hy : nanB y = false := by cases h : nanB y with | false => rfl | true => exact absurd (hlaw.2 (.inr h)) (by simp)
    clear hlaw
    simp only [show cmB 15 (some .lt) = false from rfl]
    simp only [show ((some Ordering.lt == some Ordering.lt) = true) from rfl] at hl
    simp only [show ((some Ordering.lt == some Ordering.eq) = false) from rfl] at he
    clear hc
    have hc := he
    go_enter Tryz.func174, Tryz.ntmps174
    go_wp2_with (first | simp only [from_run] | simp only [bits_run] | simp only [hl] | simp only [he] | simp only [hc] | (go_at_call 209; refine (isnan _ _).mono ?_; rintro e w' ⟨rfl, rfl⟩; simp only [hx, hy]) | go_in)
    all_goals go_ret
    all_goals exact ⟨rfl, ⟨fun b hb => (by first | exact heap_alloc_old _ _ b hb | exact heap_alloc_old _ _ hb), by simp, rfl, rfl, rfl⟩⟩
  · have hx : nanB x = false := by cases h : nanB x with | false => rfl | true => exact absurd (hlaw.2 (.inl h)) (by simp)
    have hy : nanB y = false := by cases h : nanB y with | false => rfl | true => exact absurd (hlaw.2 (.inr h)) (by simp)
    clear hlaw
    simp only [show cmB 15 (some .eq) = false from rfl]
    simp only [show ((some Ordering.eq == some Ordering.lt) = false) from rfl] at hl
    simp only [show ((some Ordering.eq == some Ordering.eq) = true) from rfl] at he
    clear hc
    have hc := he
    go_enter Tryz.func174, Tryz.ntmps174
    go_wp2_with (first | simp only [from_run] | simp only [bits_run] | simp only [hl] | simp only [he] | simp only [hc] | (go_at_call 209; refine (isnan _ _).mono ?_; rintro e w' ⟨rfl, rfl⟩; simp only [hx, hy]) | go_in)
    all_goals go_ret
    all_goals exact ⟨rfl, ⟨fun b hb => (by first | exact heap_alloc_old _ _ b hb | exact heap_alloc_old _ _ hb), by simp, rfl, rfl, rfl⟩⟩
  · have hx : nanB x = false := by cases h : nanB x with | false => rfl | true => exact absurd (hlaw.2 (.inl h)) (by simp)
    have hy : nanB y = false := by cases h : nanB y with | false => rfl | true => exact absurd (hlaw.2 (.inr h)) (by simp)
    clear hlaw
    simp only [show cmB 15 (some .gt) = true from rfl]
    simp only [show ((some Ordering.gt == some Ordering.lt) = false) from rfl] at hl
    simp only [show ((some Ordering.gt == some Ordering.eq) = false) from rfl] at he
    clear hc
    have hc := he
    go_enter Tryz.func174, Tryz.ntmps174
    go_wp2_with (first | simp only [from_run] | simp only [bits_run] | simp only [hl] | simp only [he] | simp only [hc] | (go_at_call 209; refine (isnan _ _).mono ?_; rintro e w' ⟨rfl, rfl⟩; simp only [hx, hy]) | go_in)
    all_goals go_ret
    all_goals exact ⟨rfl, ⟨fun b hb => (by first | exact heap_alloc_old _ _ b hb | exact heap_alloc_old _ _ hb), by simp, rfl, rfl, rfl⟩⟩

theorem wfl16 (x y : Nat) (w : World) : Calls Tryz.prog 174 #[.int .i64 16, .int .u64 (x : Int), .int .u64 (y : Int)] w fun e w' => e = .returned (.int .u64 (fbR 16 x y : Int)) ∧ Same w w' := by
  obtain ⟨od, hod⟩ : ∃ od, od = FloatKind.f64.format.order x y := ⟨_, rfl⟩
  have hlaw := ord_nan x y
  rw [← hod] at hlaw
  have hl : ∀ t W, (binOp .lss t (.float .f64 x) (.float .f64 y)).run Tryz.prog W = .ok (.bool (od == some .lt)) W := fun t W => by simp [binOp, Op.floatCmp, hod]
  have he : ∀ t W, (binOp .eql t (.float .f64 x) (.float .f64 y)).run Tryz.prog W = .ok (.bool (od == some .eq)) W := fun t W => by simp [binOp, Op.floatCmp, hod]
  have hc : ∀ t W, (binOp .geq t (.float .f64 x) (.float .f64 y)).run Tryz.prog W = .ok (.bool (cmB 16 od)) W := fun t W => by simp [binOp, Op.floatCmp, hod, cmB]
  have hv : fbR 16 x y = if cmB 16 od = true then 1 else 0 := by rw [hod]; exact fbR_c16 x y
  rw [hv]
  clear hv hod
  rcases od with _ | (_ | _ | _)
  · have hxy := hlaw.1 rfl
    clear hlaw
    simp only [show cmB 16 none = false from rfl]
    cases hx : nanB x with
    | true =>
      clear hxy
      have hy := hx
      go_enter Tryz.func174, Tryz.ntmps174
      go_wp2_with (first | simp only [from_run] | simp only [bits_run] | simp only [hl] | simp only [he] | simp only [hc] | (go_at_call 209; refine (isnan _ _).mono ?_; rintro e w' ⟨rfl, rfl⟩; simp only [hx, hy]) | go_in)
      all_goals go_ret
      all_goals exact ⟨rfl, ⟨fun _ _ => rfl, Nat.le_refl _, rfl, rfl, rfl⟩⟩
    | false =>
      have hy : nanB y = true := hxy.resolve_left (by rw [hx]; decide)
      clear hxy
      go_enter Tryz.func174, Tryz.ntmps174
      go_wp2_with (first | simp only [from_run] | simp only [bits_run] | simp only [hl] | simp only [he] | simp only [hc] | (go_at_call 209; refine (isnan _ _).mono ?_; rintro e w' ⟨rfl, rfl⟩; simp only [hx, hy]) | go_in)
      all_goals go_ret
      all_goals exact ⟨rfl, ⟨fun _ _ => rfl, Nat.le_refl _, rfl, rfl, rfl⟩⟩
  · have hx : nanB x = false := by cases h : nanB x with | false => rfl | true => exact absurd (hlaw.2 (.inl h)) (by simp)
    have hy : nanB y = false := by cases h : nanB y with | false => rfl | true => exact absurd (hlaw.2 (.inr h)) (by simp)
    clear hlaw
    simp only [show cmB 16 (some .lt) = false from rfl]
    simp only [show ((some Ordering.lt == some Ordering.lt) = true) from rfl] at hl
    simp only [show ((some Ordering.lt == some Ordering.eq) = false) from rfl] at he
    clear hc
    have hc := he
    go_enter Tryz.func174, Tryz.ntmps174
    go_wp2_with (first | simp only [from_run] | simp only [bits_run] | simp only [hl] | simp only [he] | simp only [hc] | (go_at_call 209; refine (isnan _ _).mono ?_; rintro e w' ⟨rfl, rfl⟩; simp only [hx, hy]) | go_in)
    all_goals go_ret
    all_goals exact ⟨rfl, ⟨fun b hb => (by first | exact heap_alloc_old _ _ b hb | exact heap_alloc_old _ _ hb), by simp, rfl, rfl, rfl⟩⟩
  · have hx : nanB x = false := by cases h : nanB x with | false => rfl | true => exact absurd (hlaw.2 (.inl h)) (by simp)
    have hy : nanB y = false := by cases h : nanB y with | false => rfl | true => exact absurd (hlaw.2 (.inr h)) (by simp)
    clear hlaw
    simp only [show cmB 16 (some .eq) = true from rfl]
    simp only [show ((some Ordering.eq == some Ordering.lt) = false) from rfl] at hl
    simp only [show ((some Ordering.eq == some Ordering.eq) = true) from rfl] at he
    clear hc
    have hc := he
    go_enter Tryz.func174, Tryz.ntmps174
    go_wp2_with (first | simp only [from_run] | simp only [bits_run] | simp only [hl] | simp only [he] | simp only [hc] | (go_at_call 209; refine (isnan _ _).mono ?_; rintro e w' ⟨rfl, rfl⟩; simp only [hx, hy]) | go_in)
    all_goals go_ret
    all_goals exact ⟨rfl, ⟨fun b hb => (by first | exact heap_alloc_old _ _ b hb | exact heap_alloc_old _ _ hb), by simp, rfl, rfl, rfl⟩⟩
  · have hx : nanB x = false := by cases h : nanB x with | false => rfl | true => exact absurd (hlaw.2 (.inl h)) (by simp)
    have hy : nanB y = false := by cases h : nanB y with | false => rfl | true => exact absurd (hlaw.2 (.inr h)) (by simp)
    clear hlaw
    simp only [show cmB 16 (some .gt) = true from rfl]
    simp only [show ((some Ordering.gt == some Ordering.lt) = false) from rfl] at hl
    simp only [show ((some Ordering.gt == some Ordering.eq) = false) from rfl] at he
    clear hc
    have hc := he
    go_enter Tryz.func174, Tryz.ntmps174
    go_wp2_with (first | simp only [from_run] | simp only [bits_run] | simp only [hl] | simp only [he] | simp only [hc] | (go_at_call 209; refine (isnan _ _).mono ?_; rintro e w' ⟨rfl, rfl⟩; simp only [hx, hy]) | go_in)
    all_goals go_ret
    all_goals exact ⟨rfl, ⟨fun b hb => (by first | exact heap_alloc_old _ _ b hb | exact heap_alloc_old _ _ hb), by simp, rfl, rfl, rfl⟩⟩

theorem rfl_1 (x y : Nat) (w : World) : Calls Tryz.prog 31 #[.int .i64 1, .float .f64 x, .float .f64 y] w fun e w' => e = .returned (.int .u64 (fbR 1 x y : Int)) ∧ Same w w' := by
  rw [fbR_1]
  cases hr : FloatKind.f64.format.add x y with
  | some r =>
    have hb : ∀ t W, (binOp .add t (.float .f64 x) (.float .f64 y)).run Tryz.prog W = .ok (.float .f64 r) W := fun t W => by
      simp [binOp, Op.floatArith, hr]
    clear hr
    cases hn : nanB r with
    | false =>
      have hv : arR (some r) = r := by simp [arR, hn]
      rw [hv]
      have ha := hb
      go_enter Tryz.func31, Tryz.ntmps31
      go_wp2_with (first | simp only [from_run] | simp only [bits_run] | simp only [hb] | simp only [ha] | (go_at_call 209; refine (isnan _ _).mono ?_; rintro e w' ⟨rfl, rfl⟩; simp only [hn, nan_cut]) | simp only [ne_run, hn, nan_cut] | go_in)
      all_goals go_ret
      all_goals exact ⟨rfl, ⟨fun _ _ => rfl, Nat.le_refl _, rfl, rfl, rfl⟩⟩
    | true =>
      have hv : arR (some r) = 0x7ff8000000000000 := by simp [arR, hn]
      rw [hv]
      have ha := hb
      go_enter Tryz.func31, Tryz.ntmps31
      go_wp2_with (first | simp only [from_run] | simp only [bits_run] | simp only [hb] | simp only [ha] | (go_at_call 209; refine (isnan _ _).mono ?_; rintro e w' ⟨rfl, rfl⟩; simp only [hn, nan_cut]) | simp only [ne_run, hn, nan_cut] | go_in)
      all_goals go_ret
      all_goals exact ⟨rfl, ⟨fun _ _ => rfl, Nat.le_refl _, rfl, rfl, rfl⟩⟩
  | none =>
    have hb : ∀ t W, (binOp .add t (.float .f64 x) (.float .f64 y)).run Tryz.prog W = .ok (.float .f64 ((Question.nanBits .f64 x y).cut (W.tape W.drawn (.nanBits .f64 x y)))) W.drew := fun t W => by
      simp [binOp, Op.floatArith, hr, Question.forced]
    have hv : arR none = 0x7ff8000000000000 := rfl
    rw [hv]
    clear hr
    have hn : True := trivial
    have ha := hb
    go_enter Tryz.func31, Tryz.ntmps31
    go_wp2_with (first | simp only [from_run] | simp only [bits_run] | simp only [hb] | simp only [ha] | (go_at_call 209; refine (isnan _ _).mono ?_; rintro e w' ⟨rfl, rfl⟩; simp only [hn, nan_cut]) | simp only [ne_run, hn, nan_cut] | go_in)
    all_goals go_ret
    all_goals exact ⟨rfl, ⟨fun _ _ => rfl, Nat.le_refl _, rfl, rfl, rfl⟩⟩

theorem rfl_2 (x y : Nat) (w : World) : Calls Tryz.prog 31 #[.int .i64 2, .float .f64 x, .float .f64 y] w fun e w' => e = .returned (.int .u64 (fbR 2 x y : Int)) ∧ Same w w' := by
  rw [fbR_2]
  cases hr : FloatKind.f64.format.sub x y with
  | some r =>
    have hb : ∀ t W, (binOp .sub t (.float .f64 x) (.float .f64 y)).run Tryz.prog W = .ok (.float .f64 r) W := fun t W => by
      simp [binOp, Op.floatArith, hr]
    clear hr
    cases hn : nanB r with
    | false =>
      have hv : arR (some r) = r := by simp [arR, hn]
      rw [hv]
      have ha := hb
      go_enter Tryz.func31, Tryz.ntmps31
      go_wp2_with (first | simp only [from_run] | simp only [bits_run] | simp only [hb] | simp only [ha] | (go_at_call 209; refine (isnan _ _).mono ?_; rintro e w' ⟨rfl, rfl⟩; simp only [hn, nan_cut]) | simp only [ne_run, hn, nan_cut] | go_in)
      all_goals go_ret
      all_goals exact ⟨rfl, ⟨fun _ _ => rfl, Nat.le_refl _, rfl, rfl, rfl⟩⟩
    | true =>
      have hv : arR (some r) = 0x7ff8000000000000 := by simp [arR, hn]
      rw [hv]
      have ha := hb
      go_enter Tryz.func31, Tryz.ntmps31
      go_wp2_with (first | simp only [from_run] | simp only [bits_run] | simp only [hb] | simp only [ha] | (go_at_call 209; refine (isnan _ _).mono ?_; rintro e w' ⟨rfl, rfl⟩; simp only [hn, nan_cut]) | simp only [ne_run, hn, nan_cut] | go_in)
      all_goals go_ret
      all_goals exact ⟨rfl, ⟨fun _ _ => rfl, Nat.le_refl _, rfl, rfl, rfl⟩⟩
  | none =>
    have hb : ∀ t W, (binOp .sub t (.float .f64 x) (.float .f64 y)).run Tryz.prog W = .ok (.float .f64 ((Question.nanBits .f64 x y).cut (W.tape W.drawn (.nanBits .f64 x y)))) W.drew := fun t W => by
      simp [binOp, Op.floatArith, hr, Question.forced]
    have hv : arR none = 0x7ff8000000000000 := rfl
    rw [hv]
    clear hr
    have hn : True := trivial
    have ha := hb
    go_enter Tryz.func31, Tryz.ntmps31
    go_wp2_with (first | simp only [from_run] | simp only [bits_run] | simp only [hb] | simp only [ha] | (go_at_call 209; refine (isnan _ _).mono ?_; rintro e w' ⟨rfl, rfl⟩; simp only [hn, nan_cut]) | simp only [ne_run, hn, nan_cut] | go_in)
    all_goals go_ret
    all_goals exact ⟨rfl, ⟨fun _ _ => rfl, Nat.le_refl _, rfl, rfl, rfl⟩⟩

theorem rfl_3 (x y : Nat) (w : World) : Calls Tryz.prog 31 #[.int .i64 3, .float .f64 x, .float .f64 y] w fun e w' => e = .returned (.int .u64 (fbR 3 x y : Int)) ∧ Same w w' := by
  rw [fbR_3]
  cases hr : FloatKind.f64.format.mul x y with
  | some r =>
    have hb : ∀ t W, (binOp .mul t (.float .f64 x) (.float .f64 y)).run Tryz.prog W = .ok (.float .f64 r) W := fun t W => by
      simp [binOp, Op.floatArith, hr]
    clear hr
    cases hn : nanB r with
    | false =>
      have hv : arR (some r) = r := by simp [arR, hn]
      rw [hv]
      have ha := hb
      go_enter Tryz.func31, Tryz.ntmps31
      go_wp2_with (first | simp only [from_run] | simp only [bits_run] | simp only [hb] | simp only [ha] | (go_at_call 209; refine (isnan _ _).mono ?_; rintro e w' ⟨rfl, rfl⟩; simp only [hn, nan_cut]) | simp only [ne_run, hn, nan_cut] | go_in)
      all_goals go_ret
      all_goals exact ⟨rfl, ⟨fun _ _ => rfl, Nat.le_refl _, rfl, rfl, rfl⟩⟩
    | true =>
      have hv : arR (some r) = 0x7ff8000000000000 := by simp [arR, hn]
      rw [hv]
      have ha := hb
      go_enter Tryz.func31, Tryz.ntmps31
      go_wp2_with (first | simp only [from_run] | simp only [bits_run] | simp only [hb] | simp only [ha] | (go_at_call 209; refine (isnan _ _).mono ?_; rintro e w' ⟨rfl, rfl⟩; simp only [hn, nan_cut]) | simp only [ne_run, hn, nan_cut] | go_in)
      all_goals go_ret
      all_goals exact ⟨rfl, ⟨fun _ _ => rfl, Nat.le_refl _, rfl, rfl, rfl⟩⟩
  | none =>
    have hb : ∀ t W, (binOp .mul t (.float .f64 x) (.float .f64 y)).run Tryz.prog W = .ok (.float .f64 ((Question.nanBits .f64 x y).cut (W.tape W.drawn (.nanBits .f64 x y)))) W.drew := fun t W => by
      simp [binOp, Op.floatArith, hr, Question.forced]
    have hv : arR none = 0x7ff8000000000000 := rfl
    rw [hv]
    clear hr
    have hn : True := trivial
    have ha := hb
    go_enter Tryz.func31, Tryz.ntmps31
    go_wp2_with (first | simp only [from_run] | simp only [bits_run] | simp only [hb] | simp only [ha] | (go_at_call 209; refine (isnan _ _).mono ?_; rintro e w' ⟨rfl, rfl⟩; simp only [hn, nan_cut]) | simp only [ne_run, hn, nan_cut] | go_in)
    all_goals go_ret
    all_goals exact ⟨rfl, ⟨fun _ _ => rfl, Nat.le_refl _, rfl, rfl, rfl⟩⟩

theorem rfl_4 (x y : Nat) (w : World) : Calls Tryz.prog 31 #[.int .i64 4, .float .f64 x, .float .f64 y] w fun e w' => e = .returned (.int .u64 (fbR 4 x y : Int)) ∧ Same w w' := by
  rw [fbR_4]
  cases hr : FloatKind.f64.format.div x y with
  | some r =>
    have hb : ∀ t W, (binOp .quo t (.float .f64 x) (.float .f64 y)).run Tryz.prog W = .ok (.float .f64 r) W := fun t W => by
      simp [binOp, Op.floatArith, hr]
    clear hr
    cases hn : nanB r with
    | false =>
      have hv : arR (some r) = r := by simp [arR, hn]
      rw [hv]
      have ha := hb
      go_enter Tryz.func31, Tryz.ntmps31
      go_wp2_with (first | simp only [from_run] | simp only [bits_run] | simp only [hb] | simp only [ha] | (go_at_call 209; refine (isnan _ _).mono ?_; rintro e w' ⟨rfl, rfl⟩; simp only [hn, nan_cut]) | simp only [ne_run, hn, nan_cut] | go_in)
      all_goals go_ret
      all_goals exact ⟨rfl, ⟨fun _ _ => rfl, Nat.le_refl _, rfl, rfl, rfl⟩⟩
    | true =>
      have hv : arR (some r) = 0x7ff8000000000000 := by simp [arR, hn]
      rw [hv]
      have ha := hb
      go_enter Tryz.func31, Tryz.ntmps31
      go_wp2_with (first | simp only [from_run] | simp only [bits_run] | simp only [hb] | simp only [ha] | (go_at_call 209; refine (isnan _ _).mono ?_; rintro e w' ⟨rfl, rfl⟩; simp only [hn, nan_cut]) | simp only [ne_run, hn, nan_cut] | go_in)
      all_goals go_ret
      all_goals exact ⟨rfl, ⟨fun _ _ => rfl, Nat.le_refl _, rfl, rfl, rfl⟩⟩
  | none =>
    have hb : ∀ t W, (binOp .quo t (.float .f64 x) (.float .f64 y)).run Tryz.prog W = .ok (.float .f64 ((Question.nanBits .f64 x y).cut (W.tape W.drawn (.nanBits .f64 x y)))) W.drew := fun t W => by
      simp [binOp, Op.floatArith, hr, Question.forced]
    have hv : arR none = 0x7ff8000000000000 := rfl
    rw [hv]
    clear hr
    have hn : True := trivial
    have ha := hb
    go_enter Tryz.func31, Tryz.ntmps31
    go_wp2_with (first | simp only [from_run] | simp only [bits_run] | simp only [hb] | simp only [ha] | (go_at_call 209; refine (isnan _ _).mono ?_; rintro e w' ⟨rfl, rfl⟩; simp only [hn, nan_cut]) | simp only [ne_run, hn, nan_cut] | go_in)
    all_goals go_ret
    all_goals exact ⟨rfl, ⟨fun _ _ => rfl, Nat.le_refl _, rfl, rfl, rfl⟩⟩

theorem rfl_11 (x y : Nat) (w : World) : Calls Tryz.prog 31 #[.int .i64 11, .float .f64 x, .float .f64 y] w fun e w' => e = .returned (.int .u64 (fbR 11 x y : Int)) ∧ Same w w' := by
  obtain ⟨od, hod⟩ : ∃ od, od = FloatKind.f64.format.order x y := ⟨_, rfl⟩
  have hlaw := ord_nan x y
  rw [← hod] at hlaw
  have hl : ∀ t W, (binOp .lss t (.float .f64 x) (.float .f64 y)).run Tryz.prog W = .ok (.bool (od == some .lt)) W := fun t W => by simp [binOp, Op.floatCmp, hod]
  have he : ∀ t W, (binOp .eql t (.float .f64 x) (.float .f64 y)).run Tryz.prog W = .ok (.bool (od == some .eq)) W := fun t W => by simp [binOp, Op.floatCmp, hod]
  have hc : ∀ t W, (binOp .eql t (.float .f64 x) (.float .f64 y)).run Tryz.prog W = .ok (.bool (cmB 11 od)) W := fun t W => by simp [binOp, Op.floatCmp, hod, cmB]
  have hv : fbR 11 x y = if cmB 11 od = true then 1 else 0 := by rw [hod]; exact fbR_c11 x y
  rw [hv]
  clear hv hod
  clear hlaw hl he
  have hl := hc
  have he := hc
  have hx := hc
  have hy := hc
  cases hcm : cmB 11 od <;> simp only [hcm] at hc hl he
  all_goals (
    go_enter Tryz.func31, Tryz.ntmps31
    go_wp2_with (first | simp only [hc] | go_in)
    all_goals go_ret
    all_goals exact ⟨rfl, ⟨fun _ _ => rfl, Nat.le_refl _, rfl, rfl, rfl⟩⟩)

theorem rfl_12 (x y : Nat) (w : World) : Calls Tryz.prog 31 #[.int .i64 12, .float .f64 x, .float .f64 y] w fun e w' => e = .returned (.int .u64 (fbR 12 x y : Int)) ∧ Same w w' := by
  obtain ⟨od, hod⟩ : ∃ od, od = FloatKind.f64.format.order x y := ⟨_, rfl⟩
  have hlaw := ord_nan x y
  rw [← hod] at hlaw
  have hl : ∀ t W, (binOp .lss t (.float .f64 x) (.float .f64 y)).run Tryz.prog W = .ok (.bool (od == some .lt)) W := fun t W => by simp [binOp, Op.floatCmp, hod]
  have he : ∀ t W, (binOp .eql t (.float .f64 x) (.float .f64 y)).run Tryz.prog W = .ok (.bool (od == some .eq)) W := fun t W => by simp [binOp, Op.floatCmp, hod]
  have hc : ∀ t W, (binOp .neq t (.float .f64 x) (.float .f64 y)).run Tryz.prog W = .ok (.bool (cmB 12 od)) W := fun t W => by simp [binOp, Op.floatCmp, hod, cmB]
  have hv : fbR 12 x y = if cmB 12 od = true then 1 else 0 := by rw [hod]; exact fbR_c12 x y
  rw [hv]
  clear hv hod
  clear hlaw hl he
  have hl := hc
  have he := hc
  have hx := hc
  have hy := hc
  cases hcm : cmB 12 od <;> simp only [hcm] at hc hl he
  all_goals (
    go_enter Tryz.func31, Tryz.ntmps31
    go_wp2_with (first | simp only [hc] | go_in)
    all_goals go_ret
    all_goals exact ⟨rfl, ⟨fun _ _ => rfl, Nat.le_refl _, rfl, rfl, rfl⟩⟩)

theorem rfl_13 (x y : Nat) (w : World) : Calls Tryz.prog 31 #[.int .i64 13, .float .f64 x, .float .f64 y] w fun e w' => e = .returned (.int .u64 (fbR 13 x y : Int)) ∧ Same w w' := by
  obtain ⟨od, hod⟩ : ∃ od, od = FloatKind.f64.format.order x y := ⟨_, rfl⟩
  have hlaw := ord_nan x y
  rw [← hod] at hlaw
  have hl : ∀ t W, (binOp .lss t (.float .f64 x) (.float .f64 y)).run Tryz.prog W = .ok (.bool (od == some .lt)) W := fun t W => by simp [binOp, Op.floatCmp, hod]
  have he : ∀ t W, (binOp .eql t (.float .f64 x) (.float .f64 y)).run Tryz.prog W = .ok (.bool (od == some .eq)) W := fun t W => by simp [binOp, Op.floatCmp, hod]
  have hc : ∀ t W, (binOp .lss t (.float .f64 x) (.float .f64 y)).run Tryz.prog W = .ok (.bool (cmB 13 od)) W := fun t W => by simp [binOp, Op.floatCmp, hod, cmB]
  have hv : fbR 13 x y = if cmB 13 od = true then 1 else 0 := by rw [hod]; exact fbR_c13 x y
  rw [hv]
  clear hv hod
  clear hlaw hl he
  have hl := hc
  have he := hc
  have hx := hc
  have hy := hc
  cases hcm : cmB 13 od <;> simp only [hcm] at hc hl he
  all_goals (
    go_enter Tryz.func31, Tryz.ntmps31
    go_wp2_with (first | simp only [hc] | go_in)
    all_goals go_ret
    all_goals exact ⟨rfl, ⟨fun _ _ => rfl, Nat.le_refl _, rfl, rfl, rfl⟩⟩)

theorem rfl_14 (x y : Nat) (w : World) : Calls Tryz.prog 31 #[.int .i64 14, .float .f64 x, .float .f64 y] w fun e w' => e = .returned (.int .u64 (fbR 14 x y : Int)) ∧ Same w w' := by
  obtain ⟨od, hod⟩ : ∃ od, od = FloatKind.f64.format.order x y := ⟨_, rfl⟩
  have hlaw := ord_nan x y
  rw [← hod] at hlaw
  have hl : ∀ t W, (binOp .lss t (.float .f64 x) (.float .f64 y)).run Tryz.prog W = .ok (.bool (od == some .lt)) W := fun t W => by simp [binOp, Op.floatCmp, hod]
  have he : ∀ t W, (binOp .eql t (.float .f64 x) (.float .f64 y)).run Tryz.prog W = .ok (.bool (od == some .eq)) W := fun t W => by simp [binOp, Op.floatCmp, hod]
  have hc : ∀ t W, (binOp .leq t (.float .f64 x) (.float .f64 y)).run Tryz.prog W = .ok (.bool (cmB 14 od)) W := fun t W => by simp [binOp, Op.floatCmp, hod, cmB]
  have hv : fbR 14 x y = if cmB 14 od = true then 1 else 0 := by rw [hod]; exact fbR_c14 x y
  rw [hv]
  clear hv hod
  clear hlaw hl he
  have hl := hc
  have he := hc
  have hx := hc
  have hy := hc
  cases hcm : cmB 14 od <;> simp only [hcm] at hc hl he
  all_goals (
    go_enter Tryz.func31, Tryz.ntmps31
    go_wp2_with (first | simp only [hc] | go_in)
    all_goals go_ret
    all_goals exact ⟨rfl, ⟨fun _ _ => rfl, Nat.le_refl _, rfl, rfl, rfl⟩⟩)

theorem rfl_15 (x y : Nat) (w : World) : Calls Tryz.prog 31 #[.int .i64 15, .float .f64 x, .float .f64 y] w fun e w' => e = .returned (.int .u64 (fbR 15 x y : Int)) ∧ Same w w' := by
  obtain ⟨od, hod⟩ : ∃ od, od = FloatKind.f64.format.order x y := ⟨_, rfl⟩
  have hlaw := ord_nan x y
  rw [← hod] at hlaw
  have hl : ∀ t W, (binOp .lss t (.float .f64 x) (.float .f64 y)).run Tryz.prog W = .ok (.bool (od == some .lt)) W := fun t W => by simp [binOp, Op.floatCmp, hod]
  have he : ∀ t W, (binOp .eql t (.float .f64 x) (.float .f64 y)).run Tryz.prog W = .ok (.bool (od == some .eq)) W := fun t W => by simp [binOp, Op.floatCmp, hod]
  have hc : ∀ t W, (binOp .gtr t (.float .f64 x) (.float .f64 y)).run Tryz.prog W = .ok (.bool (cmB 15 od)) W := fun t W => by simp [binOp, Op.floatCmp, hod, cmB]
  have hv : fbR 15 x y = if cmB 15 od = true then 1 else 0 := by rw [hod]; exact fbR_c15 x y
  rw [hv]
  clear hv hod
  clear hlaw hl he
  have hl := hc
  have he := hc
  have hx := hc
  have hy := hc
  cases hcm : cmB 15 od <;> simp only [hcm] at hc hl he
  all_goals (
    go_enter Tryz.func31, Tryz.ntmps31
    go_wp2_with (first | simp only [hc] | go_in)
    all_goals go_ret
    all_goals exact ⟨rfl, ⟨fun _ _ => rfl, Nat.le_refl _, rfl, rfl, rfl⟩⟩)

theorem rfl_16 (x y : Nat) (w : World) : Calls Tryz.prog 31 #[.int .i64 16, .float .f64 x, .float .f64 y] w fun e w' => e = .returned (.int .u64 (fbR 16 x y : Int)) ∧ Same w w' := by
  obtain ⟨od, hod⟩ : ∃ od, od = FloatKind.f64.format.order x y := ⟨_, rfl⟩
  have hlaw := ord_nan x y
  rw [← hod] at hlaw
  have hl : ∀ t W, (binOp .lss t (.float .f64 x) (.float .f64 y)).run Tryz.prog W = .ok (.bool (od == some .lt)) W := fun t W => by simp [binOp, Op.floatCmp, hod]
  have he : ∀ t W, (binOp .eql t (.float .f64 x) (.float .f64 y)).run Tryz.prog W = .ok (.bool (od == some .eq)) W := fun t W => by simp [binOp, Op.floatCmp, hod]
  have hc : ∀ t W, (binOp .geq t (.float .f64 x) (.float .f64 y)).run Tryz.prog W = .ok (.bool (cmB 16 od)) W := fun t W => by simp [binOp, Op.floatCmp, hod, cmB]
  have hv : fbR 16 x y = if cmB 16 od = true then 1 else 0 := by rw [hod]; exact fbR_c16 x y
  rw [hv]
  clear hv hod
  clear hlaw hl he
  have hl := hc
  have he := hc
  have hx := hc
  have hy := hc
  cases hcm : cmB 16 od <;> simp only [hcm] at hc hl he
  all_goals (
    go_enter Tryz.func31, Tryz.ntmps31
    go_wp2_with (first | simp only [hc] | go_in)
    all_goals go_ret
    all_goals exact ⟨rfl, ⟨fun _ _ => rfl, Nat.le_refl _, rfl, rfl, rfl⟩⟩)

end Go.X
