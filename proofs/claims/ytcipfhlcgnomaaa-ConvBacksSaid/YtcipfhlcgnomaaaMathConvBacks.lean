/- Plain mathematics for the law ConvBacks: no program in sight. -/
set_option linter.unusedVariables false
set_option linter.unusedSimpArgs false
namespace Go.Proofs.Ytcipfhlcgnomaaa.Fx
/-- the nearest whole number to N / n, of two the even one -/
def rhe (N n : Int) : Int := N / n + (if 2 * (N % n) > n ∨ (2 * (N % n) = n ∧ N / n % 2 = 1) then 1 else 0)
def clamp (x : Int) : Int := max (-9223372036854775808) (min 9223372036854775807 x)
def sg (b : Bool) (x : Int) : Int := if b = true then -x else x
def ab (x : Int) : Int := if x < 0 then -x else x
def ok (x : Int) : Prop := -9223372036854775808 ≤ x ∧ x ≤ 9223372036854775807
def neq (a b : Int) : Bool := (decide (a < 0)) != (decide (b < 0))
def add (a b : Int) : Int := clamp (a + b)
def mul (a b : Int) : Int := clamp (sg (neq a b) (rhe (ab a * ab b) 4294967296))
theorem clamp_id {x : Int} (h : ok x) : clamp x = x := by unfold ok clamp at *; omega
theorem ab_nonneg (x : Int) : 0 ≤ ab x := by unfold ab; split <;> omega
theorem ab_le {x : Int} (h : ok x) : ab x ≤ 9223372036854775808 := by unfold ab ok at *; split <;> omega
theorem neq_comm (a b : Int) : neq a b = neq b a := by
  unfold neq
  cases decide (a < 0) <;> cases decide (b < 0) <;> rfl
theorem mul_comm (a b : Int) : mul a b = mul b a := by unfold mul; rw [neq_comm, Int.mul_comm]
theorem add_comm (a b : Int) : add a b = add b a := by unfold add; rw [Int.add_comm]
/-- a whole multiple is no rounding -/
theorem rhe_whole (q n : Int) (hn : 0 < n) : rhe (q * n) n = q := by
  unfold rhe
  rw [Int.mul_emod_left, Int.mul_ediv_cancel _ (by omega), if_neg (by omega)]
  omega
theorem mul_one {a : Int} (h : ok a) : mul a 4294967296 = a := by
  unfold mul
  have : ab (4294967296 : Int) = 4294967296 := rfl
  rw [this, rhe_whole _ _ (by omega)]
  have e : sg (neq a 4294967296) (ab a) = a := by
    unfold neq ab sg
    by_cases c : a < 0 <;> simp [c]
  rw [e, clamp_id h]
theorem mul_zero (a : Int) : mul a 0 = 0 := by
  unfold mul
  have : ab a * ab 0 = 0 * 4294967296 := by show ab a * 0 = _; simp
  rw [this, rhe_whole _ _ (by omega)]
  unfold sg clamp
  split <;> omega
end Go.Proofs.Ytcipfhlcgnomaaa.Fx
namespace Go.Proofs.Ytcipfhlcgnomaaa.Wd
/-- sixty-four bits with a sign -/
def w64 (n : Int) : Int := (n + 9223372036854775808) % 18446744073709551616 - 9223372036854775808
/-- a number in two words -/
def wr (x : Int) : Int × Int := (w64 (x / 18446744073709551616), x % 18446744073709551616)
/-- two words' number -/
def vl (h l : Int) : Int := h * 18446744073709551616 + l
def ok (h l : Int) : Prop := -9223372036854775808 ≤ h ∧ h ≤ 9223372036854775807 ∧ 0 ≤ l ∧ l ≤ 18446744073709551615
theorem w64_id {x : Int} (h1 : -9223372036854775808 ≤ x) (h2 : x ≤ 9223372036854775807) : w64 x = x := by unfold w64; omega
theorem w64_bd (x : Int) : -9223372036854775808 ≤ w64 x ∧ w64 x ≤ 9223372036854775807 := by unfold w64; omega
theorem wr_ok (x : Int) : ok (wr x).1 (wr x).2 := by
  have := w64_bd (x / 18446744073709551616)
  unfold ok wr; simp only; omega
theorem wr_vl {h l : Int} (k : ok h l) : wr (vl h l) = (h, l) := by
  obtain ⟨h1, h2, h3, h4⟩ := k
  unfold wr vl w64
  rw [Prod.mk.injEq]; omega
theorem vl_wr_id {x : Int} (h1 : -170141183460469231731687303715884105728 ≤ x) (h2 : x ≤ 170141183460469231731687303715884105727) : vl (wr x).1 (wr x).2 = x := by
  unfold vl wr w64; simp only; omega
theorem vl_bd {h l : Int} (k : ok h l) : -170141183460469231731687303715884105728 ≤ vl h l ∧ vl h l ≤ 170141183460469231731687303715884105727 := by
  obtain ⟨h1, h2, h3, h4⟩ := k; unfold vl; omega
/-- divided, rounded to the nearest, of two the even one -/
def rnd (x P : Int) : Int := if 2 * (x % P) > P ∨ (2 * (x % P) = P ∧ x / P % 2 = 1) then x / P + 1 else x / P
theorem rnd_bd (x P : Int) (hP : 2 ≤ P) {B : Int} (hB : 1 ≤ B) (h1 : -B ≤ x) (h2 : x ≤ B) : -B ≤ rnd x P ∧ rnd x P ≤ B := by
  have e := Int.emod_add_mul_ediv x P
  have e1 := Int.emod_nonneg x (show P ≠ 0 by omega)
  have e2 := Int.emod_lt_of_pos x (show 0 < P by omega)
  have a1 : x / P ≤ B / 2 := by
    have : x / P ≤ B / P := Int.ediv_le_ediv (by omega) h2
    have : B / P ≤ B / 2 := by
      apply Int.le_ediv_of_mul_le (by omega)
      have h := Int.ediv_mul_le B (show P ≠ 0 by omega)
      have h0 : 0 ≤ B / P := Int.ediv_nonneg (by omega) (by omega)
      have := Int.mul_le_mul_of_nonneg_left hP h0
      omega
    omega
  have a2 : -B ≤ x / P := by
    apply Int.le_ediv_of_mul_le (by omega)
    have : -B * P ≤ -B * 1 := Int.mul_le_mul_of_nonpos_left (by omega) (by omega)
    omega
  unfold rnd; split
  · omega
  · omega
end Go.Proofs.Ytcipfhlcgnomaaa.Wd
namespace Go.Proofs.Ytcipfhlcgnomaaa.Shp
def pl : List Int → Int
  | [] => 1
  | x :: r => x * pl r
def gp (n : Int) : List Int → Int
  | [] => n
  | x :: r => if x < 1 then 0 else if 4096 < x then 0 else if 4096 < n * x then 0 else gp (n * x) r
def good (l : List Int) : Bool := decide (l.length ≤ 4) && l.all (fun x => decide (1 ≤ x)) && decide (pl l ≤ 4096)
theorem good_iff {l : List Int} : good l = true ↔ l.length ≤ 4 ∧ (∀ x ∈ l, 1 ≤ x) ∧ pl l ≤ 4096 := by
  simp [good, and_assoc]
theorem mul_le1 {a b : Int} (h1 : 1 ≤ a) (h2 : 1 ≤ b) : a ≤ a * b ∧ b ≤ a * b := by
  have : a * 1 ≤ a * b := Int.mul_le_mul_of_nonneg_left h2 (by omega)
  have : 1 * b ≤ a * b := Int.mul_le_mul_of_nonneg_right h1 (by omega)
  omega
theorem pl_pos : ∀ {l : List Int}, (∀ x ∈ l, 1 ≤ x) → 1 ≤ pl l
  | [], _ => by simp [pl]
  | x :: r, h => by
    have h1 := pl_pos (l := r) (fun y hy => h y (List.mem_cons_of_mem _ hy))
    have h2 := h x (List.mem_cons_self ..)
    have := mul_le1 h2 h1
    unfold pl; omega
theorem gp_eq (l : List Int) : ∀ n, 1 ≤ n → n ≤ 4096 → gp n l = if (∀ x ∈ l, 1 ≤ x) ∧ n * pl l ≤ 4096 then n * pl l else 0 := by
  induction l with
  | nil => intro n h1 h2; simp [gp, pl, h2]
  | cons x r ih =>
    intro n h1 h2
    unfold gp
    by_cases c1 : x < 1
    · rw [if_pos c1, if_neg]
      intro h; have := h.1 x (List.mem_cons_self ..); omega
    rw [if_neg c1]
    have hx : 1 ≤ x := by omega
    have hnx := mul_le1 h1 hx
    by_cases c2 : 4096 < x
    · rw [if_pos c2, if_neg]
      intro h
      have h3 := pl_pos (l := r) (fun y hy => h.1 y (List.mem_cons_of_mem _ hy))
      have h4 := mul_le1 (by omega : 1 ≤ n * x) h3
      have : n * pl (x :: r) = n * x * pl r := (Int.mul_assoc n x (pl r)).symm
      omega
    rw [if_neg c2]
    by_cases c3 : 4096 < n * x
    · rw [if_pos c3, if_neg]
      intro h
      have h3 := pl_pos (l := r) (fun y hy => h.1 y (List.mem_cons_of_mem _ hy))
      have h4 := mul_le1 (by omega : 1 ≤ n * x) h3
      have : n * pl (x :: r) = n * x * pl r := (Int.mul_assoc n x (pl r)).symm
      omega
    rw [if_neg c3, ih (n * x) (by omega) (by omega)]
    have : n * pl (x :: r) = n * x * pl r := (Int.mul_assoc n x (pl r)).symm
    rw [this]
    have : (∀ y ∈ x :: r, 1 ≤ y) ↔ (∀ y ∈ r, 1 ≤ y) := by simp [hx]
    simp only [this]
/-- the size -/
def siz (l : List Int) : Int := if good l = true then pl l else 0
theorem gp_siz (l : List Int) (h : l.length ≤ 4) : gp 1 l = siz l := by
  rw [gp_eq l 1 (by omega) (by omega), siz]
  have : good l = true ↔ (∀ x ∈ l, 1 ≤ x) ∧ 1 * pl l ≤ 4096 := by rw [good_iff, Int.one_mul]; simp [h]
  simp only [this, Int.one_mul]
theorem siz_long (l : List Int) (h : ¬ l.length ≤ 4) : siz l = 0 := by
  rw [siz, if_neg]; rw [good_iff]; intro k; exact h k.1
theorem siz_pos (l : List Int) : decide (siz l > 0) = good l := by
  unfold siz
  by_cases h : good l = true
  · rw [if_pos h, h]
    have := pl_pos (good_iff.mp h).2.1
    simp; omega
  · rw [if_neg h]; simp at h; simp [h]
theorem siz_good {l : List Int} (h : good l = true) : siz l = pl l := by rw [siz, if_pos h]
theorem siz_bad {l : List Int} (h : good l = false) : siz l = 0 := by rw [siz, h]; simp
theorem siz_nonneg (l : List Int) : 0 ≤ siz l := by
  unfold siz; split
  · rename_i h; have := pl_pos (good_iff.mp h).2.1; omega
  · omega
theorem siz_le (l : List Int) : siz l ≤ 4096 := by
  unfold siz; split
  · rename_i h; exact (good_iff.mp h).2.2
  · omega
end Go.Proofs.Ytcipfhlcgnomaaa.Shp
namespace Go.Proofs.Ytcipfhlcgnomaaa.Bn
def bv (a0 a1 a2 a3 : Int) : Int := a0 + a1 * 18446744073709551616 + a2 * 340282366920938463463374607431768211456 + a3 * 6277101735386680763835789423207666416102355444464034512896
def ok (a0 a1 a2 a3 : Int) : Prop := 0 ≤ a0 ∧ a0 < 18446744073709551616 ∧ 0 ≤ a1 ∧ a1 < 18446744073709551616 ∧ 0 ≤ a2 ∧ a2 < 18446744073709551616 ∧ 0 ≤ a3 ∧ a3 < 18446744073709551616
def nv (n : Bool) (a0 a1 a2 a3 : Int) : Int := if n = true then -bv a0 a1 a2 a3 else bv a0 a1 a2 a3
theorem bv_range {a0 a1 a2 a3 : Int} (h : ok a0 a1 a2 a3) : 0 ≤ bv a0 a1 a2 a3 ∧ bv a0 a1 a2 a3 < 115792089237316195423570985008687907853269984665640564039457584007913129639936 := by
  unfold ok at h; unfold bv; omega
theorem bv_small {x : Int} : bv x 0 0 0 = x := by unfold bv; omega
end Go.Proofs.Ytcipfhlcgnomaaa.Bn
