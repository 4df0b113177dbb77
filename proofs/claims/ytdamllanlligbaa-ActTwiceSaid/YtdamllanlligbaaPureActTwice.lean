/- The plain law behind ActTwice: what the functions compute answers as the statement says, for every input. No condition. -/
import Derived.Test.YtdamllanlligbaaPActTwicex3
import Derived.Laws.BitsAllLaws
namespace Go.Proofs.Ytdamllanlligbaa.Pure
open Go.RowKit Go.Proofs.Ytdamllanlligbaa.PActTwice Go.Proofs.YtdamllanlligbaaW.PrintWords Go.Proofs.YtdamllanlligbaaW.PrintLast
set_option linter.unusedVariables false
set_option linter.unusedSimpArgs false
theorem wf_i64 {x : Int} (h : (Lit.int .i64 x).wf = true) : -9223372036854775808 ≤ x ∧ x ≤ 9223372036854775807 := by
  simp only [Lit.wf, Bool.and_eq_true, decide_eq_true_eq] at h
  have h1 : IntKind.i64.min = -9223372036854775808 := rfl
  have h2 : IntKind.i64.max = 9223372036854775807 := rfl
  omega
theorem wrap64_id {x : Int} (h1 : -9223372036854775808 ≤ x) (h2 : x ≤ 9223372036854775807) : wrap64 x = x := by
  unfold wrap64
  omega
theorem awake9 (k : Nat) : carousellaw9_awake.f (k + 2) = some true := by
  rfl
theorem within_eq (x l h : Int) : act_within.f x l h = some (min (max x l) h) := by
  simp only [act_within.f, mn, mx]
  congr 1
  split <;> split <;> omega
theorem neg_eq (x : Int) (h1 : -9223372036854775808 ≤ x) (h2 : x ≤ 9223372036854775807) : fix_Neg.f x = some (if x = -9223372036854775808 then 9223372036854775807 else -x) := by
  unfold fix_Neg.f
  split
  · rfl
  · rw [wrap64_id (by omega) (by omega)]
theorem of_ramp (k : Nat) (x : Int) : act_Of.f k 1 x = some (max x 0, 0) := by
  unfold act_Of.f
  rw [if_pos rfl]
  simp only [mx]
  congr 2
  split <;> omega
theorem of_hold (k : Nat) (x : Int) : act_Of.f k 3 x = some (min (max x (-4294967296)) 4294967296, 0) := by
  simp [act_Of.f, within_eq]
theorem of_size (k : Nat) (x : Int) (h1 : -9223372036854775808 ≤ x) (h2 : x ≤ 9223372036854775807) : act_Of.f k 4 x = some (if x < 0 then (if x = -9223372036854775808 then 9223372036854775807 else -x) else x, 0) := by
  unfold act_Of.f
  rw [if_neg (by omega), if_neg (by omega), if_neg (by omega), if_pos rfl]
  split
  · rw [neg_eq x h1 h2]; rfl
  · rfl
theorem ATwice_all (a x : Int) (h1 : -9223372036854775808 ≤ x) (h2 : x ≤ 9223372036854775807) : ∃ k, carousellaw9_ActTwice.f k a x = some true := by
  refine ⟨4, ?_⟩
  unfold carousellaw9_ActTwice.f
  rw [awake9]
  simp only [Option.bind_some, if_true]
  by_cases a1 : a = 1
  · subst a1
    rw [if_pos rfl]
    simp only [carousellaw9_ActTwice.j0, of_ramp, Option.bind_some]
    simp
    try omega
  · rw [if_neg a1]
    by_cases a3 : a = 3
    · subst a3
      rw [if_pos rfl]
      simp only [carousellaw9_ActTwice.j0, of_hold, Option.bind_some]
      simp
      try omega
    · rw [if_neg a3]
      by_cases a4 : a = 4
      · subst a4
        simp only [carousellaw9_ActTwice.j0]
        rw [if_neg (by simp), of_size 3 x h1 h2]
        simp only [Option.bind_some]
        rw [of_size 3 _ (by split <;> (try split) <;> omega) (by split <;> (try split) <;> omega)]
        simp only [Option.bind_some]
        simp
        repeat' split
        all_goals omega
      · simp only [carousellaw9_ActTwice.j0]
        rw [if_pos (by simp; exact a4)]
theorem ActTwice : carousellaw9_ActTwice.Pure := by
  intro a x ha hx
  exact ATwice_all a x (wf_i64 hx).1 (wf_i64 hx).2
end Go.Proofs.Ytdamllanlligbaa.Pure
