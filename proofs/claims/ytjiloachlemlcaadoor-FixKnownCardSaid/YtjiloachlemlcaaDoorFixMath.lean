/- Plain mathematics for this seat (FixMath): no program in sight. -/
set_option linter.unusedVariables false
set_option linter.unusedSimpArgs false
/- Plain numbers of a fixed point: no program in sight. -/
namespace Go.Proofs.YtjiloachlemlcaaDoor.Fx
/-- the nearest whole number to N / n, of two the even one -/
def rhe (N n : Int) : Int := N / n + (if 2 * (N % n) > n ∨ (2 * (N % n) = n ∧ N / n % 2 = 1) then 1 else 0)
def clamp (x : Int) : Int := max (-9223372036854775808) (min 9223372036854775807 x)
def sg (b : Bool) (x : Int) : Int := if b = true then -x else x
def ab (x : Int) : Int := if x < 0 then -x else x
def ok (x : Int) : Prop := -9223372036854775808 ≤ x ∧ x ≤ 9223372036854775807
def neq (a b : Int) : Bool := (decide (a < 0)) != (decide (b < 0))
def add (a b : Int) : Int := clamp (a + b)
def sub (a b : Int) : Int := clamp (a - b)
def mul (a b : Int) : Int := clamp (sg (neq a b) (rhe (ab a * ab b) 4294967296))
def div (a b : Int) : Int := if b = 0 then (if a > 0 then 9223372036854775807 else if a < 0 then -9223372036854775808 else 0) else clamp (sg (neq a b) (rhe (ab a * 4294967296) (ab b)))
theorem clamp_ok (x : Int) : ok (clamp x) := by unfold ok clamp; omega
theorem clamp_id {x : Int} (h : ok x) : clamp x = x := by unfold ok clamp at *; omega
theorem clamp_mono {x y : Int} (h : x ≤ y) : clamp x ≤ clamp y := by unfold clamp; omega
theorem ab_nonneg (x : Int) : 0 ≤ ab x := by unfold ab; split <;> omega
theorem ab_le {x : Int} (h : ok x) : ab x ≤ 9223372036854775808 := by unfold ab ok at *; split <;> omega
theorem rhe_range (N n : Int) : N / n ≤ rhe N n ∧ rhe N n ≤ N / n + 1 := by unfold rhe; split <;> omega
theorem rhe_mono {N M n : Int} (hn : 0 < n) (h : N ≤ M) : rhe N n ≤ rhe M n := by
  have hd : N / n ≤ M / n := Int.ediv_le_ediv hn h
  have h1 := rhe_range N n
  have h2 := rhe_range M n
  by_cases e : N / n = M / n
  · have a := Int.mul_ediv_add_emod N n
    have b := Int.mul_ediv_add_emod M n
    unfold rhe
    rw [e] at a ⊢
    generalize n * (M / n) = A at *
    have : N % n ≤ M % n := by omega
    clear h1 h2 a b
    generalize N % n = r at *
    generalize M % n = s at *
    generalize M / n = q at *
    split <;> split <;> omega
  · omega
theorem rhe_nonneg {N n : Int} (hn : 0 ≤ n) (h : 0 ≤ N) : 0 ≤ rhe N n := by
  have := rhe_range N n
  have := Int.ediv_nonneg h hn
  omega
theorem neq_comm (a b : Int) : neq a b = neq b a := by
  unfold neq
  cases decide (a < 0) <;> cases decide (b < 0) <;> rfl
theorem mul_comm (a b : Int) : mul a b = mul b a := by unfold mul; rw [neq_comm, Int.mul_comm]
theorem add_comm (a b : Int) : add a b = add b a := by unfold add; rw [Int.add_comm]
/-- a whole multiple is no rounding -/
theorem rhe_whole (q n : Int) (hn : 0 < n) : rhe (q * n) n = q := by
  unfold rhe
  rw [Int.mul_emod_left, Int.mul_ediv_cancel _ (by omega), if_neg (by omega)]
  omega
theorem mul_one {a : Int} (h : ok a) : mul a 4294967296 = a := by
  unfold mul
  have : ab (4294967296 : Int) = 4294967296 := rfl
  rw [this, rhe_whole _ _ (by omega)]
  have e : sg (neq a 4294967296) (ab a) = a := by
    unfold neq ab sg
    by_cases c : a < 0 <;> simp [c]
  rw [e, clamp_id h]
theorem mul_zero (a : Int) : mul a 0 = 0 := by
  unfold mul
  have : ab a * ab 0 = 0 * 4294967296 := by show ab a * 0 = _; simp
  rw [this, rhe_whole _ _ (by omega)]
  unfold sg clamp
  split <;> omega
end Go.Proofs.YtjiloachlemlcaaDoor.Fx
namespace Go.Proofs.YtjiloachlemlcaaDoor.Fx
theorem div_pos {a b : Int} (hb : 0 < b) : div a b = if a < 0 then clamp (-(rhe (-a * 4294967296) b)) else clamp (rhe (a * 4294967296) b) := by
  unfold div neq ab sg
  rw [if_neg (by omega), if_neg (show ¬ b < 0 by omega)]
  have hb' : decide (b < 0) = false := decide_eq_false (by omega)
  by_cases c : a < 0
  · rw [hb', decide_eq_true c]
    simp [c]
  · rw [hb', decide_eq_false c]
    simp [c]
theorem div_mono {a c b : Int} (hb : 0 < b) (h : a ≤ c) : div a b ≤ div c b := by
  rw [div_pos hb, div_pos hb]
  by_cases x : a < 0
  · rw [if_pos x]
    by_cases y : c < 0
    · rw [if_pos y]
      refine clamp_mono ?_
      have := rhe_mono hb (show -c * 4294967296 ≤ -a * 4294967296 by omega)
      omega
    · rw [if_neg y]
      refine clamp_mono ?_
      have h1 := rhe_nonneg (n := b) (N := -a * 4294967296) (by omega) (by omega)
      have h2 := rhe_nonneg (n := b) (N := c * 4294967296) (by omega) (by omega)
      omega
  · rw [if_neg x, if_neg (show ¬ c < 0 by omega)]
    exact clamp_mono (rhe_mono hb (by omega))
theorem div_nonpos {a b : Int} (hb : 0 < b) (h : a ≤ 0) : div a b ≤ 0 := by
  have := div_mono hb h
  have e : div 0 b = 0 := by
    rw [div_pos hb]
    have := rhe_whole 0 b hb
    simp at this ⊢
    rw [this]; rfl
  omega
theorem div_ok (a b : Int) : ok (div a b) := by
  unfold div
  split
  · split
    · unfold ok; omega
    · split <;> (unfold ok; omega)
  · exact clamp_ok _
/-- a line, bent -/
def bend (kind x : Int) : Int :=
  if kind = 1 then max x 0 else if kind = 2 then (if x > 0 then x else div x 34359738368) else if kind = 3 then min (max x (-4294967296)) 4294967296
  else if kind = 4 then (if x < 0 then (if x = -9223372036854775808 then 9223372036854775807 else -x) else x) else min (max (add (div x 8589934592) 2147483648) 0) 4294967296
theorem bend_mono {kind a b : Int} (h4 : kind ≠ 4) (h : a ≤ b) : bend kind a ≤ bend kind b := by
  unfold bend
  rw [if_neg h4, if_neg h4]
  split
  · omega
  · split
    · have := div_mono (b := 34359738368) (by omega) h
      have := div_nonpos (a := a) (b := 34359738368) (by omega)
      split <;> split <;> omega
    · split
      · omega
      · have := clamp_mono (show div a 8589934592 + 2147483648 ≤ div b 8589934592 + 2147483648 by have := div_mono (b := 8589934592) (by omega) h; omega)
        unfold add
        omega
end Go.Proofs.YtjiloachlemlcaaDoor.Fx
namespace Go.Proofs.YtjiloachlemlcaaDoor.Fx
/-- how steep a line is -/
def slope (kind x : Int) : Int :=
  if kind = 1 then (if x > 0 then 4294967296 else 0) else if kind = 2 then (if x > 0 then 4294967296 else 536870912) else if kind = 3 then (if -4294967296 < x ∧ x < 4294967296 then 4294967296 else 0)
  else if kind = 4 then (if x < 0 then -4294967296 else if x > 0 then 4294967296 else 0) else (if -4294967296 < x ∧ x < 4294967296 then 2147483648 else 0)
theorem slope_ok (kind x : Int) : ok (slope kind x) := by
  unfold slope ok
  repeat' split
  all_goals omega
end Go.Proofs.YtjiloachlemlcaaDoor.Fx
