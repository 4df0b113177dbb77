/- The plain law behind FixHeld: what the functions compute answers as the statement says, for every input. No condition. -/
import Derived.Test.YtjiloachlemlcaaDoorPFixHeldx5
import Derived.Laws.BitsAllLaws
import Derived.Test.YtjiloachlemlcaaDoorFixMath
import Derived.Test.YtjiloachlemlcaaDoorBigMath
import Derived.Test.YtjiloachlemlcaaDoorWideMath
namespace Go.Proofs.YtjiloachlemlcaaDoor.Pure
open Go.RowKit Go.Proofs.YtjiloachlemlcaaDoor.PFixHeld Go.Proofs.YtjiloachlemlcaaDoorW.PrintWords Go.Proofs.YtjiloachlemlcaaDoorW.PrintLast
set_option linter.unusedVariables false
set_option linter.unusedSimpArgs false
theorem wf_i64 {x : Int} (h : (Lit.int .i64 x).wf = true) : -9223372036854775808 ≤ x ∧ x ≤ 9223372036854775807 := by
  simp only [Lit.wf, Bool.and_eq_true, decide_eq_true_eq] at h
  have h1 : IntKind.i64.min = -9223372036854775808 := rfl
  have h2 : IntKind.i64.max = 9223372036854775807 := rfl
  omega
theorem fadd_f (a b : Int) (ha : Fx.ok a) (hb : Fx.ok b) (k : Nat) : fix_Add.f (k + 1) a b = some (Fx.add a b) := by
  unfold fix_Add.f Fx.add Fx.clamp
  unfold Fx.ok at ha hb
  by_cases c : a < 0
  · by_cases d : b < 0
    · by_cases e : wrap64 (a + b) < 0
      · simp only [fix_Add.j0, c, d, e, decide_true]
        simp
        unfold wrap64 at *; omega
      · simp only [fix_Add.j0, c, d, e, decide_true, decide_false]
        simp
        unfold wrap64 at *; omega
    · simp only [fix_Add.j0, c, d, decide_true, decide_false]
      simp
      unfold wrap64 at *; omega
  · by_cases d : b < 0
    · simp only [fix_Add.j0, c, d, decide_true, decide_false]
      simp
      unfold wrap64 at *; omega
    · by_cases e : wrap64 (a + b) < 0
      · simp only [fix_Add.j0, c, d, e, decide_true, decide_false]
        simp
        unfold wrap64 at *; omega
      · simp only [fix_Add.j0, c, d, e, decide_true, decide_false]
        simp
        unfold wrap64 at *; omega
theorem awake1 : carousellaw1_awake.f 1000 = some true := by decide +kernel
theorem FHeld_all (a b : Int) (ha : Fx.ok a) (hb : Fx.ok b) : ∃ k, carousellaw1_FixHeld.f k a b = some true := by
  refine ⟨1000, ?_⟩
  unfold carousellaw1_FixHeld.f
  rw [awake1, Option.bind_some, if_pos rfl, fadd_f a b ha hb, Option.bind_some]
  unfold Fx.ok at ha hb
  unfold Fx.add Fx.clamp
  by_cases c1 : a ≥ 0
  · rw [if_pos c1]
    simp only [carousellaw1_FixHeld.j0]
    by_cases c2 : b ≥ 0
    · rw [if_pos (decide_eq_true c2), if_pos (by omega), decide_eq_true (by omega)]
    · rw [if_neg (by simp; omega)]
      by_cases c3 : a ≤ 0
      · rw [if_pos c3, if_pos (by omega), if_pos (by omega), decide_eq_true (by omega)]
      · rw [if_neg c3]
        congr 1
        rw [beq_iff_eq]
        unfold wrap64; omega
  · rw [if_neg c1]
    simp only [carousellaw1_FixHeld.j0]
    rw [if_neg (by simp), if_pos (by omega)]
    by_cases c2 : b ≤ 0
    · rw [if_pos c2, if_pos (by omega), decide_eq_true (by omega)]
    · rw [if_neg c2]
      congr 1
      rw [beq_iff_eq]
      unfold wrap64; omega
theorem FixHeld : carousellaw1_FixHeld.Pure := by
  intro a b ha hb
  exact FHeld_all a b (wf_i64 ha) (wf_i64 hb)
end Go.Proofs.YtjiloachlemlcaaDoor.Pure
