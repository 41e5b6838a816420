/- An executable reading of the model, its soundness over any program, and what it reads of this program. -/
import Derived.Test.YtfpdaeihlnlhcaaGreatUWF
import Derived.Test.YtfpdaeihlnlhcaaGreatUXK
set_option linter.unusedSectionVars false
set_option linter.unusedVariables false
set_option linter.unusedSimpArgs false
set_option linter.constructorNameAsVariable false
namespace Go.X
open Go.Proofs
set_option maxHeartbeats 400000
set_option maxRecDepth 20000
theorem widthw (w : World) : Calls Tryz.prog 29 #[.int .i64 10] w fun e w' => e = .returned (.int .i64 64) ∧ w' = w := by
  go_enter Tryz.func29, Tryz.ntmps29
  go_wp2
  all_goals go_ret
  all_goals exact ⟨rfl, rfl⟩
theorem canonw (x : Nat) (w : World) (hx : IntKind.u64.wrap (x : Int) = x) : Calls Tryz.prog 130 #[.int .i64 10, .int .u64 (x : Int)] w fun e w' => e = .returned (.int .u64 (x : Int)) ∧ w' = w := by
  go_enter Tryz.func130, Tryz.ntmps130
  go_wp2_with (first | (go_at_call 29; refine (widthw _).mono ?_; rintro e w' ⟨rfl, rfl⟩) | go_in)
  all_goals go_ret
  all_goals exact ⟨by simp [hx], rfl⟩
theorem isw (x : Nat) (w : World) (hx : IntKind.u64.wrap (x : Int) = x) : Calls Tryz.prog 164 #[.int .i64 10, .int .u64 (x : Int)] w fun e w' => e = .returned (.bool true) ∧ w' = w := by
  go_enter Tryz.func164, Tryz.ntmps164
  go_wp2_with (first | (go_at_call 29; refine (widthw _).mono ?_; rintro e w' ⟨rfl, rfl⟩) | (go_at_call 130; refine (canonw _ _ hx).mono ?_; rintro e w' ⟨rfl, rfl⟩) | go_in)
  all_goals go_ret
  all_goals exact ⟨rfl, rfl⟩
theorem widthr (w : World) : Calls Tryz.prog 42 #[.int .i64 10] w fun e w' => e = .returned (.int .i64 64) ∧ w' = w := by
  go_enter Tryz.func42, Tryz.ntmps42
  go_wp2
  all_goals go_ret
  all_goals exact ⟨rfl, rfl⟩
theorem canonr (x : Nat) (w : World) (hx : IntKind.u64.wrap (x : Int) = x) : Calls Tryz.prog 19 #[.int .i64 10, .int .u64 (x : Int)] w fun e w' => e = .returned (.int .u64 (x : Int)) ∧ w' = w := by
  go_enter Tryz.func19, Tryz.ntmps19
  go_wp2_with (first | (go_at_call 42; refine (widthr _).mono ?_; rintro e w' ⟨rfl, rfl⟩) | go_in)
  all_goals go_ret
  all_goals exact ⟨by simp [hx], rfl⟩
theorem isr (x : Nat) (w : World) (hx : IntKind.u64.wrap (x : Int) = x) : Calls Tryz.prog 30 #[.int .i64 10, .int .u64 (x : Int)] w fun e w' => e = .returned (.bool true) ∧ w' = w := by
  go_enter Tryz.func30, Tryz.ntmps30
  go_wp2_with (first | (go_at_call 42; refine (widthr _).mono ?_; rintro e w' ⟨rfl, rfl⟩) | (go_at_call 19; refine (canonr _ _ hx).mono ?_; rintro e w' ⟨rfl, rfl⟩) | go_in)
  all_goals go_ret
  all_goals exact ⟨rfl, rfl⟩
theorem binw1 (x y : Nat) (w : World) (hx : IntKind.u64.wrap (x : Int) = x) (hy : IntKind.u64.wrap (y : Int) = y) :
    Calls Tryz.prog 128 #[.int .i64 1, .int .i64 10, .int .u64 (x : Int), .int .u64 (y : Int)] w fun e w' => e = .returned (.tuple #[.int .u64 (fbR 1 x y : Int), .int .i64 0]) ∧ Same w w' := by
  have hI := isw
  go_enter Tryz.func128, Tryz.ntmps128
  go_wp2_with (first | simp only [from_run] | (go_at_call 164; refine (hI _ _ (by first | exact hx | exact hy)).mono ?_; rintro e w' ⟨rfl, rfl⟩) | (go_at_call 174; refine (wfl1 x y _).mono ?_; rintro e w' ⟨rfl, hS⟩) | go_in)
  all_goals go_ret2
  all_goals exact ⟨rfl, hS⟩
theorem binw2 (x y : Nat) (w : World) (hx : IntKind.u64.wrap (x : Int) = x) (hy : IntKind.u64.wrap (y : Int) = y) :
    Calls Tryz.prog 128 #[.int .i64 2, .int .i64 10, .int .u64 (x : Int), .int .u64 (y : Int)] w fun e w' => e = .returned (.tuple #[.int .u64 (fbR 2 x y : Int), .int .i64 0]) ∧ Same w w' := by
  have hI := isw
  go_enter Tryz.func128, Tryz.ntmps128
  go_wp2_with (first | simp only [from_run] | (go_at_call 164; refine (hI _ _ (by first | exact hx | exact hy)).mono ?_; rintro e w' ⟨rfl, rfl⟩) | (go_at_call 174; refine (wfl2 x y _).mono ?_; rintro e w' ⟨rfl, hS⟩) | go_in)
  all_goals go_ret2
  all_goals exact ⟨rfl, hS⟩
theorem binw3 (x y : Nat) (w : World) (hx : IntKind.u64.wrap (x : Int) = x) (hy : IntKind.u64.wrap (y : Int) = y) :
    Calls Tryz.prog 128 #[.int .i64 3, .int .i64 10, .int .u64 (x : Int), .int .u64 (y : Int)] w fun e w' => e = .returned (.tuple #[.int .u64 (fbR 3 x y : Int), .int .i64 0]) ∧ Same w w' := by
  have hI := isw
  go_enter Tryz.func128, Tryz.ntmps128
  go_wp2_with (first | simp only [from_run] | (go_at_call 164; refine (hI _ _ (by first | exact hx | exact hy)).mono ?_; rintro e w' ⟨rfl, rfl⟩) | (go_at_call 174; refine (wfl3 x y _).mono ?_; rintro e w' ⟨rfl, hS⟩) | go_in)
  all_goals go_ret2
  all_goals exact ⟨rfl, hS⟩
theorem binw4 (x y : Nat) (w : World) (hx : IntKind.u64.wrap (x : Int) = x) (hy : IntKind.u64.wrap (y : Int) = y) :
    Calls Tryz.prog 128 #[.int .i64 4, .int .i64 10, .int .u64 (x : Int), .int .u64 (y : Int)] w fun e w' => e = .returned (.tuple #[.int .u64 (fbR 4 x y : Int), .int .i64 0]) ∧ Same w w' := by
  have hI := isw
  go_enter Tryz.func128, Tryz.ntmps128
  go_wp2_with (first | simp only [from_run] | (go_at_call 164; refine (hI _ _ (by first | exact hx | exact hy)).mono ?_; rintro e w' ⟨rfl, rfl⟩) | (go_at_call 174; refine (wfl4 x y _).mono ?_; rintro e w' ⟨rfl, hS⟩) | go_in)
  all_goals go_ret2
  all_goals exact ⟨rfl, hS⟩
theorem binw11 (x y : Nat) (w : World) (hx : IntKind.u64.wrap (x : Int) = x) (hy : IntKind.u64.wrap (y : Int) = y) :
    Calls Tryz.prog 128 #[.int .i64 11, .int .i64 10, .int .u64 (x : Int), .int .u64 (y : Int)] w fun e w' => e = .returned (.tuple #[.int .u64 (fbR 11 x y : Int), .int .i64 0]) ∧ Same w w' := by
  have hI := isw
  go_enter Tryz.func128, Tryz.ntmps128
  go_wp2_with (first | simp only [from_run] | (go_at_call 164; refine (hI _ _ (by first | exact hx | exact hy)).mono ?_; rintro e w' ⟨rfl, rfl⟩) | (go_at_call 174; refine (wfl11 x y _).mono ?_; rintro e w' ⟨rfl, hS⟩) | go_in)
  all_goals go_ret2
  all_goals exact ⟨rfl, hS⟩
theorem binw12 (x y : Nat) (w : World) (hx : IntKind.u64.wrap (x : Int) = x) (hy : IntKind.u64.wrap (y : Int) = y) :
    Calls Tryz.prog 128 #[.int .i64 12, .int .i64 10, .int .u64 (x : Int), .int .u64 (y : Int)] w fun e w' => e = .returned (.tuple #[.int .u64 (fbR 12 x y : Int), .int .i64 0]) ∧ Same w w' := by
  have hI := isw
  go_enter Tryz.func128, Tryz.ntmps128
  go_wp2_with (first | simp only [from_run] | (go_at_call 164; refine (hI _ _ (by first | exact hx | exact hy)).mono ?_; rintro e w' ⟨rfl, rfl⟩) | (go_at_call 174; refine (wfl12 x y _).mono ?_; rintro e w' ⟨rfl, hS⟩) | go_in)
  all_goals go_ret2
  all_goals exact ⟨rfl, hS⟩
theorem binw13 (x y : Nat) (w : World) (hx : IntKind.u64.wrap (x : Int) = x) (hy : IntKind.u64.wrap (y : Int) = y) :
    Calls Tryz.prog 128 #[.int .i64 13, .int .i64 10, .int .u64 (x : Int), .int .u64 (y : Int)] w fun e w' => e = .returned (.tuple #[.int .u64 (fbR 13 x y : Int), .int .i64 0]) ∧ Same w w' := by
  have hI := isw
  go_enter Tryz.func128, Tryz.ntmps128
  go_wp2_with (first | simp only [from_run] | (go_at_call 164; refine (hI _ _ (by first | exact hx | exact hy)).mono ?_; rintro e w' ⟨rfl, rfl⟩) | (go_at_call 174; refine (wfl13 x y _).mono ?_; rintro e w' ⟨rfl, hS⟩) | go_in)
  all_goals go_ret2
  all_goals exact ⟨rfl, hS⟩
theorem binw14 (x y : Nat) (w : World) (hx : IntKind.u64.wrap (x : Int) = x) (hy : IntKind.u64.wrap (y : Int) = y) :
    Calls Tryz.prog 128 #[.int .i64 14, .int .i64 10, .int .u64 (x : Int), .int .u64 (y : Int)] w fun e w' => e = .returned (.tuple #[.int .u64 (fbR 14 x y : Int), .int .i64 0]) ∧ Same w w' := by
  have hI := isw
  go_enter Tryz.func128, Tryz.ntmps128
  go_wp2_with (first | simp only [from_run] | (go_at_call 164; refine (hI _ _ (by first | exact hx | exact hy)).mono ?_; rintro e w' ⟨rfl, rfl⟩) | (go_at_call 174; refine (wfl14 x y _).mono ?_; rintro e w' ⟨rfl, hS⟩) | go_in)
  all_goals go_ret2
  all_goals exact ⟨rfl, hS⟩
theorem binw15 (x y : Nat) (w : World) (hx : IntKind.u64.wrap (x : Int) = x) (hy : IntKind.u64.wrap (y : Int) = y) :
    Calls Tryz.prog 128 #[.int .i64 15, .int .i64 10, .int .u64 (x : Int), .int .u64 (y : Int)] w fun e w' => e = .returned (.tuple #[.int .u64 (fbR 15 x y : Int), .int .i64 0]) ∧ Same w w' := by
  have hI := isw
  go_enter Tryz.func128, Tryz.ntmps128
  go_wp2_with (first | simp only [from_run] | (go_at_call 164; refine (hI _ _ (by first | exact hx | exact hy)).mono ?_; rintro e w' ⟨rfl, rfl⟩) | (go_at_call 174; refine (wfl15 x y _).mono ?_; rintro e w' ⟨rfl, hS⟩) | go_in)
  all_goals go_ret2
  all_goals exact ⟨rfl, hS⟩
theorem binw16 (x y : Nat) (w : World) (hx : IntKind.u64.wrap (x : Int) = x) (hy : IntKind.u64.wrap (y : Int) = y) :
    Calls Tryz.prog 128 #[.int .i64 16, .int .i64 10, .int .u64 (x : Int), .int .u64 (y : Int)] w fun e w' => e = .returned (.tuple #[.int .u64 (fbR 16 x y : Int), .int .i64 0]) ∧ Same w w' := by
  have hI := isw
  go_enter Tryz.func128, Tryz.ntmps128
  go_wp2_with (first | simp only [from_run] | (go_at_call 164; refine (hI _ _ (by first | exact hx | exact hy)).mono ?_; rintro e w' ⟨rfl, rfl⟩) | (go_at_call 174; refine (wfl16 x y _).mono ?_; rintro e w' ⟨rfl, hS⟩) | go_in)
  all_goals go_ret2
  all_goals exact ⟨rfl, hS⟩
theorem binr1 (x y : Nat) (w : World) (hx : IntKind.u64.wrap (x : Int) = x) (hy : IntKind.u64.wrap (y : Int) = y) :
    Calls Tryz.prog 12 #[.int .i64 1, .int .i64 10, .int .u64 (x : Int), .int .u64 (y : Int)] w fun e w' => e = .returned (.tuple #[.int .u64 (fbR 1 x y : Int), .int .i64 0]) ∧ Same w w' := by
  have hI := isr
  go_enter Tryz.func12, Tryz.ntmps12
  go_wp2_with (first | simp only [from_run] | (go_at_call 30; refine (hI _ _ (by first | exact hx | exact hy)).mono ?_; rintro e w' ⟨rfl, rfl⟩) | (go_at_call 31; refine (rfl_1 x y _).mono ?_; rintro e w' ⟨rfl, hS⟩) | go_in)
  all_goals go_ret2
  all_goals exact ⟨rfl, hS⟩
theorem binr2 (x y : Nat) (w : World) (hx : IntKind.u64.wrap (x : Int) = x) (hy : IntKind.u64.wrap (y : Int) = y) :
    Calls Tryz.prog 12 #[.int .i64 2, .int .i64 10, .int .u64 (x : Int), .int .u64 (y : Int)] w fun e w' => e = .returned (.tuple #[.int .u64 (fbR 2 x y : Int), .int .i64 0]) ∧ Same w w' := by
  have hI := isr
  go_enter Tryz.func12, Tryz.ntmps12
  go_wp2_with (first | simp only [from_run] | (go_at_call 30; refine (hI _ _ (by first | exact hx | exact hy)).mono ?_; rintro e w' ⟨rfl, rfl⟩) | (go_at_call 31; refine (rfl_2 x y _).mono ?_; rintro e w' ⟨rfl, hS⟩) | go_in)
  all_goals go_ret2
  all_goals exact ⟨rfl, hS⟩
theorem binr3 (x y : Nat) (w : World) (hx : IntKind.u64.wrap (x : Int) = x) (hy : IntKind.u64.wrap (y : Int) = y) :
    Calls Tryz.prog 12 #[.int .i64 3, .int .i64 10, .int .u64 (x : Int), .int .u64 (y : Int)] w fun e w' => e = .returned (.tuple #[.int .u64 (fbR 3 x y : Int), .int .i64 0]) ∧ Same w w' := by
  have hI := isr
  go_enter Tryz.func12, Tryz.ntmps12
  go_wp2_with (first | simp only [from_run] | (go_at_call 30; refine (hI _ _ (by first | exact hx | exact hy)).mono ?_; rintro e w' ⟨rfl, rfl⟩) | (go_at_call 31; refine (rfl_3 x y _).mono ?_; rintro e w' ⟨rfl, hS⟩) | go_in)
  all_goals go_ret2
  all_goals exact ⟨rfl, hS⟩
theorem binr4 (x y : Nat) (w : World) (hx : IntKind.u64.wrap (x : Int) = x) (hy : IntKind.u64.wrap (y : Int) = y) :
    Calls Tryz.prog 12 #[.int .i64 4, .int .i64 10, .int .u64 (x : Int), .int .u64 (y : Int)] w fun e w' => e = .returned (.tuple #[.int .u64 (fbR 4 x y : Int), .int .i64 0]) ∧ Same w w' := by
  have hI := isr
  go_enter Tryz.func12, Tryz.ntmps12
  go_wp2_with (first | simp only [from_run] | (go_at_call 30; refine (hI _ _ (by first | exact hx | exact hy)).mono ?_; rintro e w' ⟨rfl, rfl⟩) | (go_at_call 31; refine (rfl_4 x y _).mono ?_; rintro e w' ⟨rfl, hS⟩) | go_in)
  all_goals go_ret2
  all_goals exact ⟨rfl, hS⟩
theorem binr11 (x y : Nat) (w : World) (hx : IntKind.u64.wrap (x : Int) = x) (hy : IntKind.u64.wrap (y : Int) = y) :
    Calls Tryz.prog 12 #[.int .i64 11, .int .i64 10, .int .u64 (x : Int), .int .u64 (y : Int)] w fun e w' => e = .returned (.tuple #[.int .u64 (fbR 11 x y : Int), .int .i64 0]) ∧ Same w w' := by
  have hI := isr
  go_enter Tryz.func12, Tryz.ntmps12
  go_wp2_with (first | simp only [from_run] | (go_at_call 30; refine (hI _ _ (by first | exact hx | exact hy)).mono ?_; rintro e w' ⟨rfl, rfl⟩) | (go_at_call 31; refine (rfl_11 x y _).mono ?_; rintro e w' ⟨rfl, hS⟩) | go_in)
  all_goals go_ret2
  all_goals exact ⟨rfl, hS⟩
theorem binr12 (x y : Nat) (w : World) (hx : IntKind.u64.wrap (x : Int) = x) (hy : IntKind.u64.wrap (y : Int) = y) :
    Calls Tryz.prog 12 #[.int .i64 12, .int .i64 10, .int .u64 (x : Int), .int .u64 (y : Int)] w fun e w' => e = .returned (.tuple #[.int .u64 (fbR 12 x y : Int), .int .i64 0]) ∧ Same w w' := by
  have hI := isr
  go_enter Tryz.func12, Tryz.ntmps12
  go_wp2_with (first | simp only [from_run] | (go_at_call 30; refine (hI _ _ (by first | exact hx | exact hy)).mono ?_; rintro e w' ⟨rfl, rfl⟩) | (go_at_call 31; refine (rfl_12 x y _).mono ?_; rintro e w' ⟨rfl, hS⟩) | go_in)
  all_goals go_ret2
  all_goals exact ⟨rfl, hS⟩
theorem binr13 (x y : Nat) (w : World) (hx : IntKind.u64.wrap (x : Int) = x) (hy : IntKind.u64.wrap (y : Int) = y) :
    Calls Tryz.prog 12 #[.int .i64 13, .int .i64 10, .int .u64 (x : Int), .int .u64 (y : Int)] w fun e w' => e = .returned (.tuple #[.int .u64 (fbR 13 x y : Int), .int .i64 0]) ∧ Same w w' := by
  have hI := isr
  go_enter Tryz.func12, Tryz.ntmps12
  go_wp2_with (first | simp only [from_run] | (go_at_call 30; refine (hI _ _ (by first | exact hx | exact hy)).mono ?_; rintro e w' ⟨rfl, rfl⟩) | (go_at_call 31; refine (rfl_13 x y _).mono ?_; rintro e w' ⟨rfl, hS⟩) | go_in)
  all_goals go_ret2
  all_goals exact ⟨rfl, hS⟩
theorem binr14 (x y : Nat) (w : World) (hx : IntKind.u64.wrap (x : Int) = x) (hy : IntKind.u64.wrap (y : Int) = y) :
    Calls Tryz.prog 12 #[.int .i64 14, .int .i64 10, .int .u64 (x : Int), .int .u64 (y : Int)] w fun e w' => e = .returned (.tuple #[.int .u64 (fbR 14 x y : Int), .int .i64 0]) ∧ Same w w' := by
  have hI := isr
  go_enter Tryz.func12, Tryz.ntmps12
  go_wp2_with (first | simp only [from_run] | (go_at_call 30; refine (hI _ _ (by first | exact hx | exact hy)).mono ?_; rintro e w' ⟨rfl, rfl⟩) | (go_at_call 31; refine (rfl_14 x y _).mono ?_; rintro e w' ⟨rfl, hS⟩) | go_in)
  all_goals go_ret2
  all_goals exact ⟨rfl, hS⟩
theorem binr15 (x y : Nat) (w : World) (hx : IntKind.u64.wrap (x : Int) = x) (hy : IntKind.u64.wrap (y : Int) = y) :
    Calls Tryz.prog 12 #[.int .i64 15, .int .i64 10, .int .u64 (x : Int), .int .u64 (y : Int)] w fun e w' => e = .returned (.tuple #[.int .u64 (fbR 15 x y : Int), .int .i64 0]) ∧ Same w w' := by
  have hI := isr
  go_enter Tryz.func12, Tryz.ntmps12
  go_wp2_with (first | simp only [from_run] | (go_at_call 30; refine (hI _ _ (by first | exact hx | exact hy)).mono ?_; rintro e w' ⟨rfl, rfl⟩) | (go_at_call 31; refine (rfl_15 x y _).mono ?_; rintro e w' ⟨rfl, hS⟩) | go_in)
  all_goals go_ret2
  all_goals exact ⟨rfl, hS⟩
theorem binr16 (x y : Nat) (w : World) (hx : IntKind.u64.wrap (x : Int) = x) (hy : IntKind.u64.wrap (y : Int) = y) :
    Calls Tryz.prog 12 #[.int .i64 16, .int .i64 10, .int .u64 (x : Int), .int .u64 (y : Int)] w fun e w' => e = .returned (.tuple #[.int .u64 (fbR 16 x y : Int), .int .i64 0]) ∧ Same w w' := by
  have hI := isr
  go_enter Tryz.func12, Tryz.ntmps12
  go_wp2_with (first | simp only [from_run] | (go_at_call 30; refine (hI _ _ (by first | exact hx | exact hy)).mono ?_; rintro e w' ⟨rfl, rfl⟩) | (go_at_call 31; refine (rfl_16 x y _).mono ?_; rintro e w' ⟨rfl, hS⟩) | go_in)
  all_goals go_ret2
  all_goals exact ⟨rfl, hS⟩
theorem fbR_le (o x y : Nat) : fbR o x y ≤ 18446744073709551615 := by
  have ar : ∀ p : Option Nat, (∀ r, p = some r → r ≤ 18446744073709551615) → arR p ≤ 18446744073709551615 := fun p hp => by
    cases p with
    | none => decide
    | some r => simp only [arR]; split; decide; exact hp r rfl
  unfold fbR
  split
  · show fbR 1 x y ≤ _; rw [fbR_1]; exact ar _ fun r hr => map_le hr
  · show fbR 2 x y ≤ _; rw [fbR_2]; exact ar _ fun r hr => map_le hr
  · show fbR 3 x y ≤ _; rw [fbR_3]; exact ar _ fun r hr => map_le hr
  · show fbR 4 x y ≤ _; rw [fbR_4]; exact ar _ fun r hr => map_le hr
  all_goals first | decide | (dsimp only; split <;> decide)
theorem fbF_eq (o x y : Nat) : fbF o x y = fbR o x y := if_pos (fbR_le o x y)
theorem inU_fit [Sym] {t : Tm} (h : inU t = true) : ∃ n : Nat, tmv t = (n : Int) ∧ IntKind.u64.wrap (n : Int) = n := by
  have hw : IntKind.u64.wrap (tmv t) = tmv t := by
    unfold inU at h
    split at h
    · rename_i n hn
      rw [litP_some hn]
      exact word_fits (Nat.le_of_ble_eq_true h)
    · exact tk_ok _ _ (isKO_some h)
  have h0 := (wrap_fix .u64 _).1 hw
  have h1 : IntKind.u64.min = 0 := by decide
  rw [h1] at h0
  refine ⟨(tmv t).toNat, (Int.toNat_of_nonneg h0.1).symm, ?_⟩
  rw [Int.toNat_of_nonneg h0.1]; exact hw
theorem fOp_mem {o : Nat} (h : fOp o = true) : o = 1 ∨ o = 2 ∨ o = 3 ∨ o = 4 ∨ o = 11 ∨ o = 12 ∨ o = 13 ∨ o = 14 ∨ o = 15 ∨ o = 16 := by
  unfold fOp at h
  simp only [ifB_eq] at h
  split at h
  · rename_i h1
    have h1 := Nat.le_of_ble_eq_true h1
    split at h
    · rename_i h2
      have h2 := Nat.le_of_ble_eq_true h2
      omega
    · split at h
      · rename_i h3
        have h3 := Nat.le_of_ble_eq_true h3
        have h4 := Nat.le_of_ble_eq_true h
        omega
      · cases h
  · cases h
theorem spF_ok {fid : Nat} (H : ∀ (o x y : Nat) (w : World), fOp o = true → IntKind.u64.wrap (x : Int) = x → IntKind.u64.wrap (y : Int) = y →
    Calls Tryz.prog fid #[.int .i64 (o : Int), .int .i64 10, .int .u64 (x : Int), .int .u64 (y : Int)] w fun e w' => e = .returned (.tuple #[.int .u64 (fbR o x y : Int), .int .i64 0]) ∧ Same w w') : SpOk Tryz.prog fid spF := by
  intro inst al v h
  unfold spF at h
  split at h
  · rename_i o x y
    unfold spF2 at h
    split at h
    · rename_i a b ha hb
      simp only [ifB_eq] at h
      split at h
      · rename_i ho
        split at h
        · rename_i hia
          split at h
          · rename_i hib
            cases h
            obtain ⟨m, e1, f1⟩ := inU_fit hia
            obtain ⟨n, e2, f2⟩ := inU_fit hib
            refine ⟨fun S _ => by simp [Sc, ScL, XOk], fun E w => ?_⟩
            have hd : (denL E [.i .i64 (.ofNat o), .i .i64 (.ofNat 10), x, y]).toArray = #[.int .i64 (o : Int), .int .i64 10, .int .u64 (m : Int), .int .u64 (n : Int)] := by
              simp only [denL, (asT_num ha).den, (asT_num hb).den, e1, e2]
              simp [den]
            rw [hd]
            refine (H o m n w ho f1 f2).mono fun e w' ⟨q1, q2⟩ => ⟨?_, q2⟩
            rw [q1]
            simp [den, denL, denX, tmv, e1, e2, fbF_eq]
          · cases h
        · cases h
      · cases h
    · cases h
  · cases h
theorem spF_ok128 : SpOk Tryz.prog 128 spF := spF_ok fun o x y w ho hx hy => by
  rcases fOp_mem ho with rfl | rfl | rfl | rfl | rfl | rfl | rfl | rfl | rfl | rfl
  · exact binw1 x y w hx hy
  · exact binw2 x y w hx hy
  · exact binw3 x y w hx hy
  · exact binw4 x y w hx hy
  · exact binw11 x y w hx hy
  · exact binw12 x y w hx hy
  · exact binw13 x y w hx hy
  · exact binw14 x y w hx hy
  · exact binw15 x y w hx hy
  · exact binw16 x y w hx hy
theorem spF_ok12 : SpOk Tryz.prog 12 spF := spF_ok fun o x y w ho hx hy => by
  rcases fOp_mem ho with rfl | rfl | rfl | rfl | rfl | rfl | rfl | rfl | rfl | rfl
  · exact binr1 x y w hx hy
  · exact binr2 x y w hx hy
  · exact binr3 x y w hx hy
  · exact binr4 x y w hx hy
  · exact binr11 x y w hx hy
  · exact binr12 x y w hx hy
  · exact binr13 x y w hx hy
  · exact binr14 x y w hx hy
  · exact binr15 x y w hx hy
  · exact binr16 x y w hx hy
end Go.X
