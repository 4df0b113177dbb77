/- Plain mathematics for this seat (WideMath): no program in sight. -/
set_option linter.unusedVariables false
set_option linter.unusedSimpArgs false
namespace Go.Proofs.YtjiloachlemlcaaDoor.Wd
/-- sixty-four bits with a sign -/
def w64 (n : Int) : Int := (n + 9223372036854775808) % 18446744073709551616 - 9223372036854775808
/-- a number in two words -/
def wr (x : Int) : Int × Int := (w64 (x / 18446744073709551616), x % 18446744073709551616)
/-- two words' number -/
def vl (h l : Int) : Int := h * 18446744073709551616 + l
def ok (h l : Int) : Prop := -9223372036854775808 ≤ h ∧ h ≤ 9223372036854775807 ∧ 0 ≤ l ∧ l ≤ 18446744073709551615
theorem w64_id {x : Int} (h1 : -9223372036854775808 ≤ x) (h2 : x ≤ 9223372036854775807) : w64 x = x := by unfold w64; omega
theorem w64_bd (x : Int) : -9223372036854775808 ≤ w64 x ∧ w64 x ≤ 9223372036854775807 := by unfold w64; omega
theorem wr_ok (x : Int) : ok (wr x).1 (wr x).2 := by
  have := w64_bd (x / 18446744073709551616)
  unfold ok wr; simp only; omega
theorem wr_vl {h l : Int} (k : ok h l) : wr (vl h l) = (h, l) := by
  obtain ⟨h1, h2, h3, h4⟩ := k
  unfold wr vl w64
  rw [Prod.mk.injEq]; omega
theorem vl_wr (x : Int) : ∃ m, vl (wr x).1 (wr x).2 = x + m * 340282366920938463463374607431768211456 := by
  unfold vl wr w64; simp only
  exact ⟨-((x / 18446744073709551616 + 9223372036854775808) / 18446744073709551616), by omega⟩
theorem wr_congr {x y : Int} (m : Int) (h : x = y + m * 340282366920938463463374607431768211456) : wr x = wr y := by
  subst h; unfold wr w64; rw [Prod.mk.injEq]; omega
theorem vl_wr_id {x : Int} (h1 : -170141183460469231731687303715884105728 ≤ x) (h2 : x ≤ 170141183460469231731687303715884105727) : vl (wr x).1 (wr x).2 = x := by
  unfold vl wr w64; simp only; omega
theorem vl_bd {h l : Int} (k : ok h l) : -170141183460469231731687303715884105728 ≤ vl h l ∧ vl h l ≤ 170141183460469231731687303715884105727 := by
  obtain ⟨h1, h2, h3, h4⟩ := k; unfold vl; omega
/-- divided, rounded to the nearest, of two the even one -/
def rnd (x P : Int) : Int := if 2 * (x % P) > P ∨ (2 * (x % P) = P ∧ x / P % 2 = 1) then x / P + 1 else x / P
theorem rnd_near (x P : Int) (hP : 0 < P) : 2 * (x - rnd x P * P) ≤ P ∧ -P ≤ 2 * (x - rnd x P * P) := by
  have e := Int.emod_add_mul_ediv x P
  have e1 := Int.emod_nonneg x (show P ≠ 0 by omega)
  have e2 := Int.emod_lt_of_pos x hP
  have e3 : (x / P + 1) * P = P * (x / P) + P := by rw [Int.add_mul, Int.one_mul, Int.mul_comm]
  have e4 : (x / P) * P = P * (x / P) := Int.mul_comm _ _
  unfold rnd; split
  · rw [e3]; omega
  · rw [e4]; omega
theorem rnd_mul (a P : Int) (hP : 0 < P) : rnd (a * P) P = a := by
  unfold rnd
  rw [Int.mul_emod_left, Int.mul_ediv_cancel _ (by omega), if_neg]
  omega
theorem rnd_bd (x P : Int) (hP : 2 ≤ P) {B : Int} (hB : 1 ≤ B) (h1 : -B ≤ x) (h2 : x ≤ B) : -B ≤ rnd x P ∧ rnd x P ≤ B := by
  have e := Int.emod_add_mul_ediv x P
  have e1 := Int.emod_nonneg x (show P ≠ 0 by omega)
  have e2 := Int.emod_lt_of_pos x (show 0 < P by omega)
  have a1 : x / P ≤ B / 2 := by
    have : x / P ≤ B / P := Int.ediv_le_ediv (by omega) h2
    have : B / P ≤ B / 2 := by
      apply Int.le_ediv_of_mul_le (by omega)
      have h := Int.ediv_mul_le B (show P ≠ 0 by omega)
      have h0 : 0 ≤ B / P := Int.ediv_nonneg (by omega) (by omega)
      have := Int.mul_le_mul_of_nonneg_left hP h0
      omega
    omega
  have a2 : -B ≤ x / P := by
    apply Int.le_ediv_of_mul_le (by omega)
    have : -B * P ≤ -B * 1 := Int.mul_le_mul_of_nonpos_left (by omega) (by omega)
    omega
  unfold rnd; split
  · omega
  · omega
end Go.Proofs.YtjiloachlemlcaaDoor.Wd
