/- The plain law behind FixWhole: what the functions compute answers as the statement says, for every input. No condition. -/
import Derived.Test.YtjiloachlemlcaaDoorPFixWholex5
import Derived.Laws.BitsAllLaws
import Derived.Test.YtjiloachlemlcaaDoorFixMath
import Derived.Test.YtjiloachlemlcaaDoorBigMath
import Derived.Test.YtjiloachlemlcaaDoorWideMath
namespace Go.Proofs.YtjiloachlemlcaaDoor.Pure
open Go.RowKit Go.Proofs.YtjiloachlemlcaaDoor.PFixWhole Go.Proofs.YtjiloachlemlcaaDoorW.PrintWords Go.Proofs.YtjiloachlemlcaaDoorW.PrintLast
set_option linter.unusedVariables false
set_option linter.unusedSimpArgs false
theorem w64 {x : Int} (h1 : -9223372036854775808 ≤ x) (h2 : x ≤ 9223372036854775807) : wrap64 x = x := by unfold wrap64; omega
theorem mul_bd {a b A B : Int} (h0 : 0 ≤ a) (h1 : a ≤ A) (h2 : 0 ≤ b) (h3 : b ≤ B) : 0 ≤ a * b ∧ a * b ≤ A * B :=
  ⟨Int.mul_nonneg h0 h2, Int.mul_le_mul h1 h3 h2 (by omega)⟩
theorem u64w (n : Int) : IntKind.u64.wrap n = n % 18446744073709551616 := by simp [IntKind.wrap, IntKind.bits, IntKind.signed]
theorem and32 (x : Int) (h0 : 0 ≤ x) (h1 : x ≤ 18446744073709551615) : Go.bits .and .u64 x 4294967295 = x % 4294967296 := by
  rw [Go.u64_and x 4294967295 h0 (by omega) (by omega) (by omega)]
  have : (4294967295 : Int).toNat = 2 ^ 32 - 1 := rfl
  rw [this, Nat.and_two_pow_sub_one_eq_mod]
  omega
theorem and1 (x : Int) (h0 : 0 ≤ x) (h1 : x ≤ 18446744073709551615) : Go.bits .and .u64 x 1 = x % 2 := by
  rw [Go.u64_and x 1 h0 (by omega) (by omega) (by omega)]
  have : (1 : Int).toNat = 2 ^ 1 - 1 := rfl
  rw [this, Nat.and_two_pow_sub_one_eq_mod]
  omega
theorem mul_le {a b A B : Int} (h0 : 0 ≤ a) (h1 : a ≤ A) (h2 : 0 ≤ b) (h3 : b ≤ B) : 0 ≤ a * b ∧ a * b ≤ A * B :=
  ⟨Int.mul_nonneg h0 h2, Int.mul_le_mul h1 h3 h2 (by omega)⟩
theorem split_mul (x0 x1 y0 y1 : Int) : (x1 * 4294967296 + x0) * (y1 * 4294967296 + y0) = (x1 * y1) * 18446744073709551616 + ((x1 * y0) + (x0 * y1)) * 4294967296 + x0 * y0 := by grind
theorem Mul64_f (a b : Int) (a0 : 0 ≤ a) (a1 : a ≤ 18446744073709551615) (b0 : 0 ≤ b) (b1 : b ≤ 18446744073709551615) : bits_Mul64.f a b = some (a * b / 18446744073709551616, a * b % 18446744073709551616) := by
  unfold bits_Mul64.f
  rw [and32 a a0 a1, and32 b b0 b1]
  simp only [u64w]
  have ea : a = (a / 4294967296) * 4294967296 + a % 4294967296 := by omega
  have eb : b = (b / 4294967296) * 4294967296 + b % 4294967296 := by omega
  have es := split_mul (a % 4294967296) (a / 4294967296) (b % 4294967296) (b / 4294967296)
  rw [← ea, ← eb] at es
  have h1 : 0 ≤ a / 4294967296 ∧ a / 4294967296 ≤ 4294967295 := by omega
  have h2 : 0 ≤ a % 4294967296 ∧ a % 4294967296 ≤ 4294967295 := by omega
  have h3 : 0 ≤ b / 4294967296 ∧ b / 4294967296 ≤ 4294967295 := by omega
  have h4 : 0 ≤ b % 4294967296 ∧ b % 4294967296 ≤ 4294967295 := by omega
  have p00 := mul_le h2.1 h2.2 h4.1 h4.2
  have p10 := mul_le h1.1 h1.2 h4.1 h4.2
  have p01 := mul_le h2.1 h2.2 h3.1 h3.2
  have p11 := mul_le h1.1 h1.2 h3.1 h3.2
  clear ea eb a0 a1 b0 b1
  generalize a / 4294967296 * (b / 4294967296) = P11 at *
  generalize a / 4294967296 * (b % 4294967296) = P10 at *
  generalize a % 4294967296 * (b / 4294967296) = P01 at *
  generalize a % 4294967296 * (b % 4294967296) = P00 at *
  generalize a * b = S at *
  clear h1 h2 h3 h4
  simp only [Int.reduceMul] at p00 p10 p01 p11
  have r1 : (P10 % 18446744073709551616 + P00 % 18446744073709551616 / 4294967296) % 18446744073709551616 = P10 + P00 / 4294967296 := by omega
  rw [r1, and32 _ (by omega) (by omega)]
  congr 1
  rw [Prod.mk.injEq]
  constructor
  · omega
  · rfl
theorem pow_split (n : Nat) (h : n ≤ 64) : (2 : Int) ^ n * 2 ^ (64 - n) = 18446744073709551616 := by
  rw [← Int.pow_add, show n + (64 - n) = 64 by omega]; rfl
theorem pow_pos (n : Nat) : (1 : Int) ≤ 2 ^ n := by
  have : (0 : Int) < 2 ^ n := Int.pow_pos (by decide)
  omega
/-- a word that is shifted up beside one that fills what it leaves -/
theorem or_fill (c d : Int) (n : Nat) (hn : n ≤ 64) (c0 : 0 ≤ c) (c1 : c < 2 ^ n) (d0 : 0 ≤ d) (d1 : d < 2 ^ (64 - n)) : Go.bits .or .u64 (c * 2 ^ (64 - n)) d = c * 2 ^ (64 - n) + d := by
  have hp := pow_split n hn
  have p1 := pow_pos n
  have p2 := pow_pos (64 - n)
  have e1 : (c + 1) * 2 ^ (64 - n) ≤ 2 ^ n * 2 ^ (64 - n) := Int.mul_le_mul_of_nonneg_right (by omega) (by omega)
  rw [Int.add_mul, Int.one_mul, hp] at e1
  have e0 : 0 ≤ c * 2 ^ (64 - n) := Int.mul_nonneg c0 (by omega)
  rw [Go.u64_or _ _ e0 (by omega) d0 (by omega)]
  obtain ⟨C, rfl⟩ := Int.eq_ofNat_of_zero_le c0
  obtain ⟨D, rfl⟩ := Int.eq_ofNat_of_zero_le d0
  have hD : D < 2 ^ (64 - n) := by
    have : ((2 ^ (64 - n) : Nat) : Int) = 2 ^ (64 - n) := by simp
    omega
  have hC : ((C : Int) * 2 ^ (64 - n)).toNat = C * 2 ^ (64 - n) := by
    have : (C : Int) * 2 ^ (64 - n) = ((C * 2 ^ (64 - n) : Nat) : Int) := by simp
    rw [this]; rfl
  rw [hC, Int.toNat_natCast, ← Nat.shiftLeft_eq, ← Nat.shiftLeft_add_eq_or_of_lt hD, Nat.shiftLeft_eq]
  simp
theorem shl_u64 (x : Int) (n : Nat) (hn : n ≤ 64) (h : Int) (hh : h = (n : Int)) : shl .u64 x h = (x * 2 ^ n) % 18446744073709551616 := by
  subst hh
  unfold shl
  rw [u64w, show min ((n : Int)).toNat IntKind.u64.bits = n by simp [IntKind.bits]; omega]
theorem shr_u64 (x : Int) (n : Nat) (hn : n ≤ 64) (h : Int) (hh : h = (n : Int)) : shr .u64 x h = x / 2 ^ n := by
  subst hh
  unfold shr
  rw [show min ((n : Int)).toNat IntKind.u64.bits = n by simp [IntKind.bits]; omega]
/-- (x * Q) mod (P * Q) -/
theorem mul_mod (x P Q : Int) (hQ : 0 < Q) : (x * Q) % (P * Q) = (x % P) * Q := by
  rw [Int.mul_comm x Q, Int.mul_comm P Q, Int.mul_emod_mul_of_pos x P hQ, Int.mul_comm]
@[irreducible]
def lenTab : ByteArray := (⟨#[0, 1, 2, 2, 3, 3, 3, 3, 4, 4, 4, 4, 4, 4, 4, 4, 5, 5, 5, 5, 5, 5, 5, 5, 5, 5, 5, 5, 5, 5, 5, 5, 6, 6, 6, 6, 6, 6, 6, 6, 6, 6, 6, 6, 6, 6, 6, 6, 6, 6, 6, 6, 6, 6, 6, 6, 6, 6, 6, 6, 6, 6, 6, 6, 7, 7, 7, 7, 7, 7, 7, 7, 7, 7, 7, 7, 7, 7, 7, 7, 7, 7, 7, 7, 7, 7, 7, 7, 7, 7, 7, 7, 7, 7, 7, 7, 7, 7, 7, 7, 7, 7, 7, 7, 7, 7, 7, 7, 7, 7, 7, 7, 7, 7, 7, 7, 7, 7, 7, 7, 7, 7, 7, 7, 7, 7, 7, 7, 8, 8, 8, 8, 8, 8, 8, 8, 8, 8, 8, 8, 8, 8, 8, 8, 8, 8, 8, 8, 8, 8, 8, 8, 8, 8, 8, 8, 8, 8, 8, 8, 8, 8, 8, 8, 8, 8, 8, 8, 8, 8, 8, 8, 8, 8, 8, 8, 8, 8, 8, 8, 8, 8, 8, 8, 8, 8, 8, 8, 8, 8, 8, 8, 8, 8, 8, 8, 8, 8, 8, 8, 8, 8, 8, 8, 8, 8, 8, 8, 8, 8, 8, 8, 8, 8, 8, 8, 8, 8, 8, 8, 8, 8, 8, 8, 8, 8, 8, 8, 8, 8, 8, 8, 8, 8, 8, 8, 8, 8, 8, 8, 8, 8, 8, 8, 8, 8, 8, 8, 8, 8, 8, 8, 8, 8, 8, 8]⟩ : ByteArray)
theorem Len_j0 (k : Nat) (x0 x2 : Int) : bits_Len64.j0 (k + 1) x0 x2 = ( if x0 ≥ 65536 then (if (x0 / 65536) ≥ 256 then (if 0 ≤ (((x0 / 65536) / 256) % 256) then (if (((x0 / 65536) / 256) % 256) < 256 then (some (wrap64 ((wrap64 ((wrap64 (x2 + 16)) + 8)) + (wrap64 (bt lenTab (((x0 / 65536) / 256) % 256)))))) else (none)) else (none)) else (if 0 ≤ ((x0 / 65536) % 256) then (if ((x0 / 65536) % 256) < 256 then (some (wrap64 ((wrap64 (x2 + 16)) + (wrap64 (bt lenTab ((x0 / 65536) % 256)))))) else (none)) else (none))) else (if x0 ≥ 256 then (if 0 ≤ ((x0 / 256) % 256) then (if ((x0 / 256) % 256) < 256 then (some (wrap64 ((wrap64 (x2 + 8)) + (wrap64 (bt lenTab ((x0 / 256) % 256)))))) else (none)) else (none)) else (if 0 ≤ ((x0) % 256) then (if ((x0) % 256) < 256 then (some (wrap64 (x2 + (wrap64 (bt lenTab ((x0) % 256)))))) else (none)) else (none)))) := by unfold lenTab; rfl
theorem lenTab_all : ∀ i : Fin 256, 0 < i.val → (∃ t : Fin 9, bt lenTab (i.val : Int) = (t.val : Int) ∧ 0 < t.val ∧ 2 ^ (t.val - 1) ≤ i.val ∧ i.val < 2 ^ t.val) := by unfold lenTab; decide +kernel
theorem lenTab_spec (i : Int) (h0 : 0 < i) (h1 : i < 256) : ∃ t : Nat, bt lenTab i = t ∧ 1 ≤ t ∧ t ≤ 8 ∧ 2 ^ (t - 1) ≤ i ∧ i < 2 ^ t := by
  obtain ⟨n, rfl⟩ := Int.eq_ofNat_of_zero_le (show 0 ≤ i by omega)
  obtain ⟨t, e, t0, a, b⟩ := lenTab_all ⟨n, by omega⟩ (by show 0 < n; omega)
  refine ⟨t.val, e, t0, by omega, ?_, ?_⟩
  · have : ((2 ^ (t.val - 1) : Nat) : Int) ≤ (n : Int) := Int.ofNat_le.mpr a
    simpa using this
  · have : (n : Int) < ((2 ^ t.val : Nat) : Int) := Int.ofNat_lt.mpr b
    simpa using this
/-- the length of x, told by a digit y of eight bits that stands w bits up -/
theorem len_lift (x y : Int) (w : Nat) (hy : y = x / 2 ^ w) (t : Nat) (t1 : 1 ≤ t) (a : 2 ^ (t - 1) ≤ y) (b : y < 2 ^ t) : 2 ^ (w + t - 1) ≤ x ∧ x < 2 ^ (w + t) := by
  have pw : (0 : Int) < 2 ^ w := Int.pow_pos (by decide)
  have e1 : (2 : Int) ^ (w + t - 1) = 2 ^ (t - 1) * 2 ^ w := by rw [← Int.pow_add]; congr 1; omega
  have e2 : (2 : Int) ^ (w + t) = 2 ^ t * 2 ^ w := by rw [← Int.pow_add]; congr 1; omega
  subst hy
  refine ⟨?_, ?_⟩
  · rw [e1]; exact (Int.le_ediv_iff_mul_le pw).mp a
  · rw [e2]; exact (Int.ediv_lt_iff_lt_mul pw).mp b
theorem len_end (x y z B : Int) (w : Nat) (hw : w ≤ 56) (hz : z = w) (hy : y = x / 2 ^ w) (y0 : 0 < y) (y1 : y < 256) (hB : B = y % 256) :
    ∃ L : Nat, (if 0 ≤ B then (if B < 256 then some (wrap64 (z + (wrap64 (bt lenTab B)))) else none) else none) = some (L : Int) ∧ 1 ≤ L ∧ L ≤ 64 ∧ 2 ^ (L - 1) ≤ x ∧ x < 2 ^ L := by
  have hB' : B = y := by omega
  subst hB'
  obtain ⟨t, e, t1, t8, a, b⟩ := lenTab_spec B y0 y1
  have := len_lift x B w hy t t1 a b
  refine ⟨w + t, ?_, by omega, by omega, this.1, this.2⟩
  rw [if_pos (by omega), if_pos y1, e, hz]
  congr 1
  clear e this
  unfold wrap64
  omega
theorem Len_spec (x : Int) (h0 : 0 < x) (h1 : x ≤ 18446744073709551615) (k : Nat) : ∃ L : Nat, bits_Len64.f (k + 1) x = some (L : Int) ∧ 1 ≤ L ∧ L ≤ 64 ∧ 2 ^ (L - 1) ≤ x ∧ x < 2 ^ L := by
  unfold bits_Len64.f
  rw [Len_j0, Len_j0]
  by_cases c : x ≥ 4294967296
  · rw [if_pos c]
    by_cases c1 : x / 4294967296 ≥ 65536
    · rw [if_pos c1]
      by_cases c2 : x / 4294967296 / 65536 ≥ 256
      · rw [if_pos c2]; exact len_end x (x / 4294967296 / 65536 / 256) _ _ 56 (by omega) (by simp [wrap64]) (by simp <;> omega) (by omega) (by omega) rfl
      · rw [if_neg c2]; exact len_end x (x / 4294967296 / 65536) _ _ 48 (by omega) (by simp [wrap64]) (by simp <;> omega) (by omega) (by omega) rfl
    · rw [if_neg c1]
      by_cases c2 : x / 4294967296 ≥ 256
      · rw [if_pos c2]; exact len_end x (x / 4294967296 / 256) _ _ 40 (by omega) (by simp [wrap64]) (by simp <;> omega) (by omega) (by omega) rfl
      · rw [if_neg c2]; exact len_end x (x / 4294967296) _ _ 32 (by omega) (by simp [wrap64]) (by simp <;> omega) (by omega) (by omega) rfl
  · rw [if_neg c]
    by_cases c1 : x ≥ 65536
    · rw [if_pos c1]
      by_cases c2 : x / 65536 ≥ 256
      · rw [if_pos c2]; exact len_end x (x / 65536 / 256) _ _ 24 (by omega) (by simp [wrap64]) (by simp <;> omega) (by omega) (by omega) rfl
      · rw [if_neg c2]; exact len_end x (x / 65536) _ _ 16 (by omega) (by simp [wrap64]) (by simp <;> omega) (by omega) (by omega) rfl
    · rw [if_neg c1]
      by_cases c2 : x ≥ 256
      · rw [if_pos c2]; exact len_end x (x / 256) _ _ 8 (by omega) (by simp [wrap64]) (by simp <;> omega) (by omega) (by omega) rfl
      · rw [if_neg c2]; exact len_end x x _ _ 0 (by omega) (by simp [wrap64]) (by simp <;> omega) (by omega) (by omega) rfl
/-- u * 2^32 + n by v -/
def dq (u n v : Int) : Int := (u * 4294967296 + n) / v
theorem dq_stop {v a b u n q r : Int} (hv : v = a * 4294967296 + b) (pv : 0 < v) (e : q * a + r = u) (hq : dq u n v ≤ q) (c : q * b ≤ 4294967296 * r + n) : q = dq u n v := by
  have : q ≤ dq u n v := by
    unfold dq
    rw [Int.le_ediv_iff_mul_le pv]
    have : q * v = q * a * 4294967296 + q * b := by rw [hv, Int.mul_add, Int.mul_assoc]
    rw [this, ← e]
    generalize q * a = A at *
    generalize q * b = C at *
    omega
  omega
theorem dq_big {v u n q : Int} (pv : 0 < v) (hu : u < v) (hn : n < 4294967296) (hq : 4294967296 ≤ q) : dq u n v ≤ q - 1 := by
  have : dq u n v < 4294967296 := by
    unfold dq
    rw [Int.ediv_lt_iff_lt_mul pv]
    omega
  omega
theorem dq_less {v a b u n q r : Int} (hv : v = a * 4294967296 + b) (pv : 0 < v) (e : q * a + r = u) (c : 4294967296 * r + n < q * b) : dq u n v ≤ q - 1 := by
  have : dq u n v < q := by
    unfold dq
    rw [Int.ediv_lt_iff_lt_mul pv]
    have : q * v = q * a * 4294967296 + q * b := by rw [hv, Int.mul_add, Int.mul_assoc]
    rw [this, ← e]
    generalize q * a = A at *
    generalize q * b = C at *
    omega
  omega
theorem dq_break {v a b u n q r : Int} (hv : v = a * 4294967296 + b) (pv : 0 < v) (b0 : 0 ≤ b) (b1 : b < 4294967296) (n0 : 0 ≤ n) (e : q * a + r = u) (q0 : 0 ≤ q) (q1 : q ≤ 4294967296) (hr : 4294967296 ≤ r) (hq : dq u n v ≤ q) : q = dq u n v := by
  refine dq_stop hv pv e hq ?_
  have : q * b ≤ 4294967296 * 4294967296 := Int.mul_le_mul q1 (by omega) b0 (by omega)
  omega
theorem dq_nonneg {u n v : Int} (pv : 0 < v) (u0 : 0 ≤ u) (n0 : 0 ≤ n) : 0 ≤ dq u n v := Int.ediv_nonneg (by omega) (by omega)
theorem mul_lt64 {q b : Int} (q0 : 0 ≤ q) (q1 : q < 4294967296) (b0 : 0 ≤ b) (b1 : b < 4294967296) : 0 ≤ q * b ∧ q * b < 18446744073709551616 := by
  have h : q * b ≤ 4294967295 * 4294967295 := Int.mul_le_mul (by omega) (by omega) b0 (by omega)
  exact ⟨Int.mul_nonneg q0 b0, by omega⟩
theorem q_back {q a r u : Int} (e : q * a + r = u) : (q - 1) * a + (r + a) = u := by
  rw [Int.sub_mul, Int.one_mul]; omega
theorem Div_l1 {v a b u n : Int} (hv : v = a * 4294967296 + b) (a0 : 2147483648 ≤ a) (a1 : a < 4294967296) (b0 : 0 ≤ b) (b1 : b < 4294967296) (u0 : 0 ≤ u) (u1 : u < v) (n0 : 0 ≤ n) (n1 : n < 4294967296) (s q1 : Int) (s0 : 0 ≤ s) : ∀ (m : Nat) (q r : Int) (k : Nat), q * a + r = u → 0 ≤ r → r < 4294967296 → dq u n v ≤ q → q ≤ 4294967297 → 4294967296 ≤ r + m * 2147483648 → 2 * m + 2 ≤ k →
    bits_Div64.l1 k v s a b n q1 r u q = some (IntKind.u64.wrap (IntKind.u64.wrap (q1 * 4294967296) + dq u n v), shr .u64 (IntKind.u64.wrap (IntKind.u64.wrap (IntKind.u64.wrap (u * 4294967296) + n) - IntKind.u64.wrap (dq u n v * v))) s)
  | 0, q, r, k, e, r0, r1, hq, q1, hm, hk => by omega
  | m + 1, q, r, k, e, r0, r1, hq, hq1, hm, hk => by
    obtain ⟨k, rfl⟩ : ∃ j, k = j + 2 := ⟨k - 2, by omega⟩
    have pv : 0 < v := by omega
    have d0 := dq_nonneg pv u0 n0
    have step : dq u n v ≤ q - 1 → bits_Div64.j4 (k + 1) v s a b n q1 r u q true = some (IntKind.u64.wrap (IntKind.u64.wrap (q1 * 4294967296) + dq u n v), shr .u64 (IntKind.u64.wrap (IntKind.u64.wrap (IntKind.u64.wrap (u * 4294967296) + n) - IntKind.u64.wrap (dq u n v * v))) s) := by
      intro hs
      simp only [bits_Div64.j4]
      rw [if_pos trivial]
      have w1 : IntKind.u64.wrap (r + a) = r + a := by rw [u64w]; omega
      have w2 : IntKind.u64.wrap (q - 1) = q - 1 := by rw [u64w]; omega
      rw [w1, w2]
      by_cases c : r + a ≥ 4294967296
      · rw [if_pos c, if_pos s0]
        rw [← dq_break hv pv b0 b1 n0 (q_back e) (by omega) (by omega) c hs]
      · rw [if_neg c]
        exact Div_l1 hv a0 a1 b0 b1 u0 u1 n0 n1 s q1 s0 m (q - 1) (r + a) k (q_back e) (by omega) (by omega) hs (by omega) (by omega) (by omega)
    simp only [bits_Div64.l1]
    by_cases c : q ≥ 4294967296
    · rw [if_pos c]
      exact step (dq_big pv u1 n1 c)
    · rw [if_neg c]
      have qb := mul_lt64 (show 0 ≤ q by omega) (by omega) b0 b1
      have w1 : IntKind.u64.wrap (q * b) = q * b := by rw [u64w]; omega
      have w2 : IntKind.u64.wrap (IntKind.u64.wrap (4294967296 * r) + n) = 4294967296 * r + n := by rw [u64w, u64w]; omega
      rw [w1, w2]
      by_cases c2 : q * b > 4294967296 * r + n
      · rw [decide_eq_true c2]
        exact step (dq_less hv pv e c2)
      · rw [decide_eq_false c2]
        simp only [bits_Div64.j4]
        rw [if_neg (by decide), if_pos s0]
        rw [← dq_stop hv pv e hq (by omega)]
theorem Div_l0 {v a b u n : Int} (hv : v = a * 4294967296 + b) (a0 : 2147483648 ≤ a) (a1 : a < 4294967296) (b0 : 0 ≤ b) (b1 : b < 4294967296) (u0 : 0 ≤ u) (u1 : u < v) (n0 : 0 ≤ n) (n1 : n < 4294967296) (s x11 x13 : Int) : ∀ (m : Nat) (q r : Int) (k : Nat), q * a + r = u → 0 ≤ r → r < 4294967296 → dq u n v ≤ q → q ≤ 4294967297 → 4294967296 ≤ r + m * 2147483648 → 2 * m + 2 ≤ k →
    ∃ j, k ≤ j + 2 * m + 2 ∧ bits_Div64.l0 k v s a b x11 n x13 q r = bits_Div64.j2 j v s a b x11 n x13 (dq u n v)
  | 0, q, r, k, e, r0, r1, hq, q1, hm, hk => by omega
  | m + 1, q, r, k, e, r0, r1, hq, hq1, hm, hk => by
    obtain ⟨k, rfl⟩ : ∃ j, k = j + 2 := ⟨k - 2, by omega⟩
    have pv : 0 < v := by omega
    have d0 := dq_nonneg pv u0 n0
    have step : dq u n v ≤ q - 1 → ∃ j, k + 2 ≤ j + 2 * (m + 1) + 2 ∧ bits_Div64.j1 (k + 1) v s a b x11 n x13 q r true = bits_Div64.j2 j v s a b x11 n x13 (dq u n v) := by
      intro hs
      simp only [bits_Div64.j1]
      rw [if_pos trivial]
      have w1 : IntKind.u64.wrap (r + a) = r + a := by rw [u64w]; omega
      have w2 : IntKind.u64.wrap (q - 1) = q - 1 := by rw [u64w]; omega
      rw [w1, w2]
      by_cases c : r + a ≥ 4294967296
      · rw [if_pos c]
        rw [← dq_break hv pv b0 b1 n0 (q_back e) (by omega) (by omega) c hs]
        exact ⟨k, by omega, rfl⟩
      · rw [if_neg c]
        obtain ⟨j, hj, h⟩ := Div_l0 hv a0 a1 b0 b1 u0 u1 n0 n1 s x11 x13 m (q - 1) (r + a) k (q_back e) (by omega) (by omega) hs (by omega) (by omega) (by omega)
        exact ⟨j, by omega, h⟩
    simp only [bits_Div64.l0]
    by_cases c : q ≥ 4294967296
    · rw [if_pos c]
      exact step (dq_big pv u1 n1 c)
    · rw [if_neg c]
      have qb := mul_lt64 (show 0 ≤ q by omega) (by omega) b0 b1
      have w1 : IntKind.u64.wrap (q * b) = q * b := by rw [u64w]; omega
      have w2 : IntKind.u64.wrap (IntKind.u64.wrap (4294967296 * r) + n) = 4294967296 * r + n := by rw [u64w, u64w]; omega
      rw [w1, w2]
      by_cases c2 : q * b > 4294967296 * r + n
      · rw [decide_eq_true c2]
        exact step (dq_less hv pv e c2)
      · rw [decide_eq_false c2]
        simp only [bits_Div64.j1]
        rw [if_neg (by decide)]
        rw [← dq_stop hv pv e hq (by omega)]
        exact ⟨k, by omega, rfl⟩
/-- the first guess: by the upper half alone -/
theorem guess {v a b u n : Int} (hv : v = a * 4294967296 + b) (a0 : 2147483648 ≤ a) (a1 : a < 4294967296) (b0 : 0 ≤ b) (b1 : b < 4294967296) (u0 : 0 ≤ u) (u1 : u < v) (n0 : 0 ≤ n) (n1 : n < 4294967296) : dq u n v ≤ u / a ∧ u / a ≤ 4294967297 ∧ u / a * a + u % a = u ∧ 0 ≤ u % a ∧ u % a < a ∧ 0 ≤ u / a := by
  have pv : 0 < v := by omega
  have pa : 0 < a := by omega
  have e : u / a * a + u % a = u := by have := Int.mul_ediv_add_emod u a; rw [Int.mul_comm a] at this; exact this
  have m0 := Int.emod_nonneg u (show a ≠ 0 by omega)
  have m1 := Int.emod_lt_of_pos u pa
  refine ⟨?_, ?_, e, m0, m1, Int.ediv_nonneg u0 (by omega)⟩
  · have : dq u n v < u / a + 1 := by
      unfold dq
      rw [Int.ediv_lt_iff_lt_mul pv, hv]
      have h1 : u < (u / a + 1) * a := by rw [Int.add_mul, Int.one_mul]; omega
      have h2 : 0 ≤ (u / a + 1) * b := Int.mul_nonneg (by have := Int.ediv_nonneg u0 (show 0 ≤ a by omega); omega) b0
      have h3 : (u / a + 1) * (a * 4294967296 + b) = (u / a + 1) * a * 4294967296 + (u / a + 1) * b := by rw [Int.mul_add, Int.mul_assoc]
      rw [h3]
      generalize (u / a + 1) * a = A at *
      generalize (u / a + 1) * b = C at *
      omega
    omega
  · have : u / a < 4294967298 := by
      rw [Int.ediv_lt_iff_lt_mul pa]
      omega
    omega
/-- two steps of a division, put together: plain -/
theorem Div_two {v U1 n0 : Int} (pv : 0 < v) : (U1 * 4294967296 + n0) / v = U1 / v * 4294967296 + (U1 % v * 4294967296 + n0) / v ∧ (U1 * 4294967296 + n0) % v = (U1 % v * 4294967296 + n0) % v := by
  have e : U1 * 4294967296 + n0 = (U1 % v * 4294967296 + n0) + v * (U1 / v * 4294967296) := by
    have := Int.mul_ediv_add_emod U1 v
    have h : v * (U1 / v * 4294967296) = v * (U1 / v) * 4294967296 := by rw [Int.mul_assoc]
    rw [h]
    generalize v * (U1 / v) = A at *
    omega
  rw [e, Int.add_mul_ediv_left _ _ (by omega), Int.add_mul_emod_self_left]
  omega
theorem scale_div (X n P : Int) (hP : 0 < P) : X * P / (n * P) = X / n := Int.mul_ediv_mul_of_pos_left X n hP
theorem scale_mod (X n P : Int) (hP : 0 < P) : X * P % (n * P) = X % n * P := by
  rw [Int.mul_comm X, Int.mul_comm n, Int.mul_emod_mul_of_pos X n hP, Int.mul_comm]
theorem Div_j2 {v a b u n : Int} (hv : v = a * 4294967296 + b) (a0 : 2147483648 ≤ a) (a1 : a < 4294967296) (b0 : 0 ≤ b) (b1 : b < 4294967296) (U N1 : Int) (u0 : 0 ≤ U) (u1 : U < v) (n0 : 0 ≤ n) (n1 : n < 4294967296) (m0 : 0 ≤ N1) (m1 : N1 < 4294967296) (s : Int) (s0 : 0 ≤ s) (k : Nat) (hk : 8 ≤ k) :
    bits_Div64.j2 k v s a b U N1 n (dq U N1 v) = some (((U * 4294967296 + N1) * 4294967296 + n) / v, shr .u64 (((U * 4294967296 + N1) * 4294967296 + n) % v) s) := by
  obtain ⟨k, rfl⟩ : ∃ j, k = j + 1 := ⟨k - 1, by omega⟩
  have pv : 0 < v := by omega
  have d0 := dq_nonneg pv u0 m0
  have d1 : dq U N1 v < 4294967296 := by unfold dq; rw [Int.ediv_lt_iff_lt_mul pv]; omega
  have r0 := Int.emod_nonneg (U * 4294967296 + N1) (show v ≠ 0 by omega)
  have r1 := Int.emod_lt_of_pos (U * 4294967296 + N1) pv
  have re : (U * 4294967296 + N1) - dq U N1 v * v = (U * 4294967296 + N1) % v := by
    have := Int.mul_ediv_add_emod (U * 4294967296 + N1) v
    unfold dq
    rw [Int.mul_comm (_ / v) v]
    omega
  have w : IntKind.u64.wrap (IntKind.u64.wrap (IntKind.u64.wrap (U * 4294967296) + N1) - IntKind.u64.wrap (dq U N1 v * v)) = (U * 4294967296 + N1) % v := by
    rw [u64w, u64w, u64w, u64w]
    generalize dq U N1 v * v = D at *
    generalize (U * 4294967296 + N1) % v = R at *
    omega
  simp only [bits_Div64.j2]
  rw [if_neg (by omega), w]
  have dt : dq ((U * 4294967296 + N1) % v) n v = ((U * 4294967296 + N1) % v * 4294967296 + n) / v := rfl
  have dt0 := dq_nonneg pv r0 n0
  have dt1 : dq ((U * 4294967296 + N1) % v) n v < 4294967296 := by unfold dq; rw [Int.ediv_lt_iff_lt_mul pv]; omega
  have two := @Div_two v (U * 4294967296 + N1) n pv
  have qd : (U * 4294967296 + N1) / v = dq U N1 v := rfl
  generalize hR : (U * 4294967296 + N1) % v = R at *
  obtain ⟨g1, g2, g3, g4, g5, g6⟩ := guess hv a0 a1 b0 b1 r0 r1 n0 n1
  have t1 : IntKind.u64.wrap (Int.tdiv R a) = R / a := by rw [Int.tdiv_eq_ediv_of_nonneg r0, u64w]; omega
  have t2 : IntKind.u64.wrap (R - IntKind.u64.wrap (R / a * a)) = R % a := by
    rw [u64w, u64w]
    generalize R / a * a = A at *
    omega
  rw [t1, t2, Div_l1 hv a0 a1 b0 b1 r0 r1 n0 n1 s _ s0 2 (R / a) (R % a) k g3 g4 (by omega) g1 g2 (by omega) (by omega)]
  have re2 : (R * 4294967296 + n) - dq R n v * v = (R * 4294967296 + n) % v := by
    have := Int.mul_ediv_add_emod (R * 4294967296 + n) v
    unfold dq
    rw [Int.mul_comm (_ / v) v]
    omega
  have f0 := Int.emod_nonneg (R * 4294967296 + n) (show v ≠ 0 by omega)
  have f1 := Int.emod_lt_of_pos (R * 4294967296 + n) pv
  have w2 : IntKind.u64.wrap (IntKind.u64.wrap (IntKind.u64.wrap (R * 4294967296) + n) - IntKind.u64.wrap (dq R n v * v)) = (R * 4294967296 + n) % v := by
    rw [u64w, u64w, u64w, u64w]
    generalize dq R n v * v = D at *
    generalize (R * 4294967296 + n) % v = R' at *
    omega
  have w3 : IntKind.u64.wrap (IntKind.u64.wrap (dq U N1 v * 4294967296) + dq R n v) = dq U N1 v * 4294967296 + dq R n v := by rw [u64w, u64w]; omega
  rw [w2, w3, two.1, two.2, qd, ← dt]
theorem Div64_f (hi lo n : Int) (h0 : 0 ≤ hi) (h1 : hi < n) (l0 : 0 ≤ lo) (l1 : lo ≤ 18446744073709551615) (n1 : n ≤ 18446744073709551615) (k : Nat) (hk : 20 ≤ k) :
    bits_Div64.f k hi lo n = some ((hi * 18446744073709551616 + lo) / n, (hi * 18446744073709551616 + lo) % n) := by
  unfold bits_Div64.f
  rw [if_neg (by omega), if_neg (by omega)]
  by_cases z : hi = 0
  · rw [if_pos z]
    subst z
    have a := Int.ediv_nonneg l0 (show 0 ≤ n by omega)
    have b : lo / n ≤ lo := Int.ediv_le_self n l0
    rw [Int.tdiv_eq_ediv_of_nonneg l0, Int.tmod_eq_emod_of_nonneg l0, u64w, Int.emod_eq_of_lt a (by omega)]
    simp
  · rw [if_neg z]
    obtain ⟨k, rfl⟩ : ∃ j, k = j + 1 := ⟨k - 1, by omega⟩
    obtain ⟨L, eL, L1, L64, x0, x1⟩ := Len_spec n (by omega) n1 k
    have lz : bits_LeadingZeros64.f (k + 1) n = some ((64 - L : Nat) : Int) := by
      simp only [bits_LeadingZeros64.f, eL, Option.bind_some]
      congr 1
      unfold wrap64
      omega
    rw [lz]
    simp only [Option.bind_some]
    obtain ⟨s, rfl⟩ : ∃ s : Nat, L = 64 - s := ⟨64 - L, by omega⟩
    have hs : s < 64 := by omega
    rw [show 64 - (64 - s) = s by omega]
    have ws : IntKind.u64.wrap (s : Int) = (s : Int) := by rw [u64w]; omega
    have ws2 : IntKind.u64.wrap (64 - (s : Int)) = ((64 - s : Nat) : Int) := by rw [u64w]; omega
    rw [ws, ws2, if_pos (by omega), if_pos (by omega)]
    rw [shl_u64 n s (by omega) _ rfl, shl_u64 hi s (by omega) _ rfl, shl_u64 lo s (by omega) _ rfl, shr_u64 lo (64 - s) (by omega) _ rfl]
    have pp := pow_split s (by omega)
    have P1 := pow_pos s
    have P2 := pow_pos (64 - s)
    have x0' : (2 : Int) ^ (64 - s - 1) * 2 ^ s = 9223372036854775808 := by rw [← Int.pow_add, show 64 - s - 1 + s = 63 by omega]; rfl
    have v0 : 9223372036854775808 ≤ n * 2 ^ s := by rw [← x0']; exact Int.mul_le_mul_of_nonneg_right x0 (by omega)
    have v1 : n * 2 ^ s < 18446744073709551616 := by
      have := Int.mul_lt_mul_of_pos_right x1 (show (0 : Int) < 2 ^ s by omega)
      rw [Int.mul_comm (2 ^ (64 - s)), pp] at this
      exact this
    have hv1 : (hi + 1) * 2 ^ s ≤ n * 2 ^ s := Int.mul_le_mul_of_nonneg_right (by omega) (by omega)
    have hv2 : (hi + 1) * 2 ^ s = hi * 2 ^ s + 2 ^ s := by rw [Int.add_mul, Int.one_mul]
    have hv3 : 0 ≤ hi * 2 ^ s := Int.mul_nonneg h0 (by omega)
    rw [Int.emod_eq_of_lt (show 0 ≤ n * 2 ^ s by omega) v1, Int.emod_eq_of_lt hv3 (by omega)]
    have d0 : 0 ≤ lo / 2 ^ (64 - s) := Int.ediv_nonneg l0 (by omega)
    have d1 : lo / 2 ^ (64 - s) < 2 ^ s := by rw [Int.ediv_lt_iff_lt_mul (by omega), pp]; omega
    have hx : hi < 2 ^ (64 - s) := by omega
    have or1 : Go.bits .or .u64 (hi * 2 ^ s) (lo / 2 ^ (64 - s)) = hi * 2 ^ s + lo / 2 ^ (64 - s) := by
      have := or_fill hi (lo / 2 ^ (64 - s)) (64 - s) (by omega) h0 hx d0 (by rw [show 64 - (64 - s) = s by omega]; exact d1)
      rw [show 64 - (64 - s) = s by omega] at this
      exact this
    rw [or1]
    have lm : lo * 2 ^ s % 18446744073709551616 = lo % 2 ^ (64 - s) * 2 ^ s := by
      rw [← pp, Int.mul_comm (2 ^ s) (2 ^ (64 - s))]
      exact mul_mod lo (2 ^ (64 - s)) (2 ^ s) (by omega)
    have tot : (hi * 18446744073709551616 + lo) * 2 ^ s = (hi * 2 ^ s + lo / 2 ^ (64 - s)) * 18446744073709551616 + lo * 2 ^ s % 18446744073709551616 := by
      rw [lm]
      have e := Int.mul_ediv_add_emod lo (2 ^ (64 - s))
      have e2 : lo * 2 ^ s = lo / 2 ^ (64 - s) * 18446744073709551616 + lo % 2 ^ (64 - s) * 2 ^ s := by
        rw [← pp]
        conv => lhs; rw [← e]
        rw [Int.add_mul]
        congr 1
        rw [Int.mul_comm (2 ^ (64 - s)), Int.mul_assoc, Int.mul_comm (2 ^ (64 - s))]
      rw [Int.add_mul, e2]
      have : hi * 18446744073709551616 * 2 ^ s = hi * 2 ^ s * 18446744073709551616 := by rw [Int.mul_assoc, Int.mul_comm 18446744073709551616, ← Int.mul_assoc]
      rw [this]
      omega
    have lo0 := Int.emod_nonneg (lo * 2 ^ s) (show (18446744073709551616 : Int) ≠ 0 by decide)
    have lo1 := Int.emod_lt_of_pos (lo * 2 ^ s) (show (0 : Int) < 18446744073709551616 by decide)
    have fd : (hi * 18446744073709551616 + lo) / n = (hi * 18446744073709551616 + lo) * 2 ^ s / (n * 2 ^ s) := (scale_div _ n (2 ^ s) (by omega)).symm
    have fm : (hi * 18446744073709551616 + lo) * 2 ^ s % (n * 2 ^ s) = (hi * 18446744073709551616 + lo) % n * 2 ^ s := scale_mod _ n (2 ^ s) (by omega)
    have fin : shr .u64 ((hi * 18446744073709551616 + lo) % n * 2 ^ s) s = (hi * 18446744073709551616 + lo) % n := by
      rw [shr_u64 _ s (by omega) _ rfl, Int.mul_ediv_cancel _ (by omega)]
    rw [fd, ← fin, ← fm, tot]
    generalize hU : hi * 2 ^ s + lo / 2 ^ (64 - s) = U at *
    generalize lo * 2 ^ s % 18446744073709551616 = W at *
    have U1 : U < n * 2 ^ s := by omega
    have U0 : 0 ≤ U := by omega
    clear tot fd fm fin lm or1 hU d0 d1 hx hv1 hv2 hv3 x0' x0 x1 pp lz eL
    generalize n * 2 ^ s = v at *
    rw [and32 v (by omega) (by omega), and32 W (by omega) (by omega)]
    rw [if_neg (by omega)]
    have hv : v = v / 4294967296 * 4294967296 + v % 4294967296 := by omega
    have a0 : 2147483648 ≤ v / 4294967296 := by omega
    have a1 : v / 4294967296 < 4294967296 := by omega
    have b0 : 0 ≤ v % 4294967296 := by omega
    have b1 : v % 4294967296 < 4294967296 := by omega
    generalize v / 4294967296 = a at *
    generalize v % 4294967296 = b at *
    obtain ⟨g1, g2, g3, g4, g5, g6⟩ := guess hv a0 a1 b0 b1 U0 U1 (show 0 ≤ W / 4294967296 by omega) (by omega)
    have t1 : IntKind.u64.wrap (Int.tdiv U a) = U / a := by rw [Int.tdiv_eq_ediv_of_nonneg U0, u64w]; omega
    have t2 : IntKind.u64.wrap (U - IntKind.u64.wrap (U / a * a)) = U % a := by
      rw [u64w, u64w]
      generalize U / a * a = A at *
      omega
    rw [t1, t2]
    obtain ⟨j, hj, h⟩ := Div_l0 hv a0 a1 b0 b1 U0 U1 (show 0 ≤ W / 4294967296 by omega) (by omega) s U (W % 4294967296) 2 (U / a) (U % a) (k + 1) g3 g4 (by omega) g1 g2 (by omega) (by omega)
    rw [h, Div_j2 (n := W % 4294967296) hv a0 a1 b0 b1 U (W / 4294967296) U0 U1 (by omega) (by omega) (by omega) (by omega) s (by omega) j (by omega)]
    have hW : (U * 4294967296 + W / 4294967296) * 4294967296 + W % 4294967296 = U * 18446744073709551616 + W := by omega
    rw [hW]
    exact 0
theorem add64w (x c : Int) (h0 : 0 ≤ x) (h1 : 0 ≤ c) (h2 : c ≤ 1) : bits_Add64.f x c 0 = some ((x + c) % 18446744073709551616, (x + c) / 18446744073709551616) := by
  unfold bits_Add64.f
  rw [if_pos ⟨h0, h1, by omega, by omega⟩]
  simp
theorem fsize_f (a : Int) (h : Fx.ok a) : fix_size.f a = some (Fx.ab a) := by
  unfold fix_size.f Fx.ab
  unfold Fx.ok at h
  split
  · rw [u64w, u64w]; congr 1; omega
  · rw [u64w]; congr 1; omega
theorem fheld_f (hi lo : Int) (b : Bool) (h0 : 0 ≤ hi) (l0 : 0 ≤ lo) (l1 : lo < 18446744073709551616) (k : Nat) : fix_held.f (k + 1) hi lo b = some (Fx.clamp (Fx.sg b (hi * 18446744073709551616 + lo))) := by
  unfold fix_held.f Fx.clamp Fx.sg
  cases b
  · simp only [fix_held.j0, Bool.false_eq_true, if_false]
    split
    · congr 1; omega
    · split
      · congr 1; omega
      · congr 1; unfold wrap64; omega
  · simp only [if_true]
    split
    · simp only [fix_held.j0, if_true]; congr 1; omega
    · by_cases c : lo ≥ 9223372036854775808
      · rw [decide_eq_true c]
        simp only [fix_held.j0, if_true]; congr 1; omega
      · rw [decide_eq_false c]
        simp only [fix_held.j0, if_true, Bool.false_eq_true, if_false]
        congr 1; unfold wrap64; omega
theorem fadd_f (a b : Int) (ha : Fx.ok a) (hb : Fx.ok b) (k : Nat) : fix_Add.f (k + 1) a b = some (Fx.add a b) := by
  unfold fix_Add.f Fx.add Fx.clamp
  unfold Fx.ok at ha hb
  by_cases c : a < 0
  · by_cases d : b < 0
    · by_cases e : wrap64 (a + b) < 0
      · simp only [fix_Add.j0, c, d, e, decide_true]
        simp
        unfold wrap64 at *; omega
      · simp only [fix_Add.j0, c, d, e, decide_true, decide_false]
        simp
        unfold wrap64 at *; omega
    · simp only [fix_Add.j0, c, d, decide_true, decide_false]
      simp
      unfold wrap64 at *; omega
  · by_cases d : b < 0
    · simp only [fix_Add.j0, c, d, decide_true, decide_false]
      simp
      unfold wrap64 at *; omega
    · by_cases e : wrap64 (a + b) < 0
      · simp only [fix_Add.j0, c, d, e, decide_true, decide_false]
        simp
        unfold wrap64 at *; omega
      · simp only [fix_Add.j0, c, d, e, decide_true, decide_false]
        simp
        unfold wrap64 at *; omega
theorem fdiv_f (a b : Int) (ha : Fx.ok a) (hb : Fx.ok b) (k : Nat) (hk : 30 ≤ k) : fix_Div.f k a b = some (Fx.div a b) := by
  unfold fix_Div.f Fx.div
  by_cases z : b = 0
  · rw [if_pos z, if_pos z]
    split
    · rfl
    · split <;> rfl
  · rw [if_neg z, if_neg z, fsize_f a ha, fsize_f b hb]
    simp only [Option.bind_some]
    have x0 := Fx.ab_nonneg a
    have x1 := Fx.ab_le ha
    have y0 : 0 < Fx.ab b := by unfold Fx.ab; split <;> omega
    have y1 := Fx.ab_le hb
    show _ = some (Fx.clamp (Fx.sg ((decide (a < 0)) != (decide (b < 0))) _))
    generalize Fx.ab a = x at *
    generalize Fx.ab b = y at *
    generalize ((decide (a < 0)) != (decide (b < 0))) = bl
    obtain ⟨k, rfl⟩ : ∃ j, k = j + 2 := ⟨k - 2, by omega⟩
    by_cases c : x / 4294967296 ≥ y
    · rw [if_pos c, fheld_f 1 0 bl (by omega) (by omega) (by omega)]
      simp only [Option.bind_some]
      have : 18446744073709551616 ≤ x * 4294967296 / y := by
        rw [Int.le_ediv_iff_mul_le y0]; omega
      have := (Fx.rhe_range (x * 4294967296) y).1
      congr 1
      generalize Fx.rhe (x * 4294967296) y = R at *
      unfold Fx.clamp Fx.sg
      split <;> omega
    · rw [if_neg c]
      have w : IntKind.u64.wrap (x * 4294967296) = x * 4294967296 % 18446744073709551616 := u64w _
      rw [w, Div64_f (x / 4294967296) (x * 4294967296 % 18446744073709551616) y (by omega) (by omega) (by omega) (by omega) (by omega) (k + 2) (by omega)]
      simp only [Option.bind_some]
      have e : x / 4294967296 * 18446744073709551616 + x * 4294967296 % 18446744073709551616 = x * 4294967296 := by omega
      rw [e]
      have q0 : 0 ≤ x * 4294967296 / y := Int.ediv_nonneg (by omega) (by omega)
      have q1 : x * 4294967296 / y < 18446744073709551616 := by rw [Int.ediv_lt_iff_lt_mul y0]; omega
      have r0 := Int.emod_nonneg (x * 4294967296) (show y ≠ 0 by omega)
      have r1 := Int.emod_lt_of_pos (x * 4294967296) y0
      have hr : Fx.rhe (x * 4294967296) y = x * 4294967296 / y + (if 2 * (x * 4294967296 % y) > y ∨ (2 * (x * 4294967296 % y) = y ∧ x * 4294967296 / y % 2 = 1) then 1 else 0) := rfl
      rw [hr]
      clear hr e w c
      generalize x * 4294967296 / y = q at *
      generalize x * 4294967296 % y = r at *
      have w : IntKind.u64.wrap (y - r) = y - r := by rw [u64w]; omega
      rw [w]
      have up : ∀ z, z = Fx.clamp (Fx.sg bl (q + 1)) → fix_Div.j0 (k + 2) bl q 0 true = some z := by
        intro z hz
        simp only [fix_Div.j0]
        rw [if_pos trivial, add64w q 1 q0 (by omega) (by omega)]
        simp only [Option.bind_some]
        rw [fheld_f _ _ bl (by omega) (by omega) (by omega)]
        simp only [Option.bind_some]
        rw [hz]
        congr 3
        omega
      have down : ∀ z, z = Fx.clamp (Fx.sg bl q) → fix_Div.j0 (k + 2) bl q 0 false = some z := by
        intro z hz
        simp only [fix_Div.j0]
        rw [if_neg (by decide), fheld_f _ _ bl (by omega) (by omega) (by omega)]
        simp only [Option.bind_some]
        rw [hz]
        congr 3
        omega
      by_cases c1 : r > y - r
      · rw [if_pos c1, if_pos (by omega)]
        exact up _ rfl
      · rw [if_neg c1]
        by_cases c2 : r = y - r
        · rw [if_pos c2, and1 q q0 (by omega)]
          by_cases c3 : q % 2 = 1
          · rw [if_pos (by omega), c3]
            exact up _ rfl
          · rw [if_neg (by omega), show q % 2 = 0 by omega]
            refine down _ ?_
            simp
        · rw [if_neg c2, if_neg (by omega)]
          refine down _ ?_
          simp
theorem fmul_f (a b : Int) (ha : Fx.ok a) (hb : Fx.ok b) (k : Nat) (hk : 2 ≤ k) : fix_Mul.f k a b = some (Fx.mul a b) := by
  unfold fix_Mul.f Fx.mul
  rw [fsize_f a ha, fsize_f b hb]
  simp only [Option.bind_some]
  have x0 := Fx.ab_nonneg a
  have x1 := Fx.ab_le ha
  have y0 := Fx.ab_nonneg b
  have y1 := Fx.ab_le hb
  rw [Mul64_f _ _ x0 (by omega) y0 (by omega)]
  simp only [Option.bind_some]
  have p0 : 0 ≤ Fx.ab a * Fx.ab b := Int.mul_nonneg x0 y0
  have p1 : Fx.ab a * Fx.ab b ≤ 9223372036854775808 * 9223372036854775808 := Int.mul_le_mul x1 y1 y0 (by omega)
  show _ = some (Fx.clamp (Fx.sg ((decide (a < 0)) != (decide (b < 0))) _))
  generalize hP : Fx.ab a * Fx.ab b = P at *
  have hbl : ∀ (z : Bool) (x8 x9 : Int) (k : Nat), fix_Mul.j0 (k + 1) a b x8 x9 z = if z = true then ((bits_Add64.f x8 1 0).bind fun bt152 => ((fix_held.f k (IntKind.u64.wrap (x9 + bt152.2)) bt152.1 ((decide (a < 0)) != (decide (b < 0)))).bind fun t154 => (some t154))) else ((fix_held.f k x9 x8 ((decide (a < 0)) != (decide (b < 0)))).bind fun t155 => (some t155)) := fun _ _ _ _ => rfl
  obtain ⟨k, rfl⟩ : ∃ j, k = j + 2 := ⟨k - 2, by omega⟩
  simp only [hbl]
  generalize ((decide (a < 0)) != (decide (b < 0))) = bl
  rw [and32 _ (by omega) (by omega)]
  have w : IntKind.u64.wrap (P / 18446744073709551616 * 4294967296) = (P / 79228162514264337593543950336) * 0 + P / 18446744073709551616 % 4294967296 * 2 ^ (64 - 32) := by
    rw [u64w]
    have : (2 : Int) ^ (64 - 32) = 4294967296 := by decide
    rw [this]
    omega
  rw [w, Int.mul_zero, Int.zero_add, or_fill (P / 18446744073709551616 % 4294967296) (P % 18446744073709551616 / 4294967296) 32 (by omega) (by omega) (by omega) (by omega) (by omega)]
  have hq : P / 18446744073709551616 % 4294967296 * 2 ^ (64 - 32) + P % 18446744073709551616 / 4294967296 = P / 4294967296 % 18446744073709551616 := by
    have : (2 : Int) ^ (64 - 32) = 4294967296 := by decide
    rw [this]
    omega
  rw [hq]
  have hr : P % 18446744073709551616 % 4294967296 = P % 4294967296 := by omega
  have ho : P / 18446744073709551616 / 4294967296 = P / 4294967296 / 18446744073709551616 := by omega
  rw [hr, ho]
  have he : Fx.rhe P 4294967296 = P / 4294967296 + (if 2 * (P % 4294967296) > 4294967296 ∨ (2 * (P % 4294967296) = 4294967296 ∧ P / 4294967296 % 2 = 1) then 1 else 0) := rfl
  rw [he]
  have q0 : 0 ≤ P / 4294967296 := by omega
  have q1 : P / 4294967296 ≤ 19807040628566084398385987584 := by omega
  have r0 : 0 ≤ P % 4294967296 := by omega
  have r1 : P % 4294967296 < 4294967296 := by omega
  clear he hr ho hq w hP p0 p1 hbl
  generalize P / 4294967296 = q at *
  generalize P % 4294967296 = r at *
  rw [and1 (q % 18446744073709551616) (by omega) (by omega)]
  have up : ∀ z, z = Fx.clamp (Fx.sg bl (q + 1)) → ((bits_Add64.f (q % 18446744073709551616) 1 0).bind fun bt152 => ((fix_held.f (k + 1) (IntKind.u64.wrap (q / 18446744073709551616 + bt152.2)) bt152.1 bl).bind fun t154 => (some t154))) = some z := by
    intro z hz
    rw [add64w _ 1 (by omega) (by omega) (by omega)]
    simp only [Option.bind_some]
    rw [u64w, fheld_f _ _ bl (by omega) (by omega) (by omega)]
    simp only [Option.bind_some]
    rw [hz]
    congr 3
    omega
  have down : ∀ z, z = Fx.clamp (Fx.sg bl q) → ((fix_held.f (k + 1) (q / 18446744073709551616) (q % 18446744073709551616) bl).bind fun t155 => (some t155)) = some z := by
    intro z hz
    rw [fheld_f _ _ bl (by omega) (by omega) (by omega)]
    simp only [Option.bind_some]
    rw [hz]
    congr 3
    omega
  by_cases c1 : r > 2147483648
  · rw [if_pos c1, if_pos trivial, if_pos (by omega)]
    exact up _ rfl
  · rw [if_neg c1]
    by_cases c2 : r = 2147483648
    · rw [if_pos c2]
      by_cases c3 : q % 2 = 1
      · rw [show q % 18446744073709551616 % 2 = 1 by omega, if_pos (show ((1 : Int) == 1) = true by rfl), if_pos (by omega)]
        exact up _ rfl
      · rw [show q % 18446744073709551616 % 2 = 0 by omega, if_neg (show ¬ (((0 : Int) == 1) = true) by decide), if_neg (by omega)]
        refine down _ ?_
        simp
    · rw [if_neg c2, if_neg (show ¬ (false = true) by decide), if_neg (by omega)]
      refine down _ ?_
      simp
theorem fsub_f (a b : Int) (ha : Fx.ok a) (hb : Fx.ok b) (k : Nat) : fix_Sub.f (k + 1) a b = some (Fx.sub a b) := by
  unfold fix_Sub.f Fx.sub Fx.clamp
  unfold Fx.ok at ha hb
  by_cases c : a < 0
  · by_cases d : b < 0
    · simp only [fix_Sub.j0, c, d, decide_true, decide_false]
      simp
      unfold wrap64 at *; omega
    · by_cases e : wrap64 (a - b) < 0
      · simp only [fix_Sub.j0, c, d, e, decide_true, decide_false]
        simp
        unfold wrap64 at *; omega
      · simp only [fix_Sub.j0, c, d, e, decide_true, decide_false]
        simp
        unfold wrap64 at *; omega
  · by_cases d : b < 0
    · by_cases e : wrap64 (a - b) < 0
      · simp only [fix_Sub.j0, c, d, e, decide_true, decide_false]
        simp
        unfold wrap64 at *; omega
      · simp only [fix_Sub.j0, c, d, e, decide_true, decide_false]
        simp
        unfold wrap64 at *; omega
    · simp only [fix_Sub.j0, c, d, decide_true, decide_false]
      simp
      unfold wrap64 at *; omega
theorem ab_mul (a b : Int) : Fx.ab a * Fx.ab b = if ((decide (a < 0)) != (decide (b < 0))) = true then -(a * b) else a * b := by
  unfold Fx.ab
  by_cases c : a < 0 <;> by_cases d : b < 0 <;> simp [c, d, Int.neg_mul, Int.mul_neg]
theorem rhe_rnd (v P : Int) (hP : 0 < P) : Fx.sg (decide (v < 0)) (Fx.rhe (Fx.ab v) P) = Wd.rnd v P := by
  have e := Int.mul_ediv_add_emod v P
  have r0 := Int.emod_nonneg v (show P ≠ 0 by omega)
  have r1 := Int.emod_lt_of_pos v hP
  by_cases c : v < 0
  · have ha : Fx.ab v = -v := by unfold Fx.ab; rw [if_pos c]
    rw [ha, decide_eq_true c]
    unfold Fx.sg
    rw [if_pos rfl]
    by_cases z : v % P = 0
    · have e1 : -v = -(v / P) * P := by rw [Int.neg_mul, Int.mul_comm]; omega
      rw [e1, Fx.rhe_whole _ _ hP]
      unfold Wd.rnd
      rw [z, if_neg (by omega)]; omega
    · have e1 : -v = (P - v % P) + P * (-(v / P) - 1) := by rw [Int.mul_sub, Int.mul_neg, Int.mul_one]; omega
      have d1 : -v / P = -(v / P) - 1 := by rw [e1, Int.add_mul_ediv_left _ _ (by omega), Int.ediv_eq_zero_of_lt (by omega) (by omega)]; omega
      have m1 : -v % P = P - v % P := by rw [e1, Int.add_mul_emod_self_left, Int.emod_eq_of_lt (by omega) (by omega)]
      unfold Fx.rhe Wd.rnd
      rw [d1, m1]
      generalize v / P = q at *
      generalize v % P = r at *
      split <;> split <;> omega
  · have ha : Fx.ab v = v := by unfold Fx.ab; rw [if_neg c]
    rw [ha, decide_eq_false c]
    unfold Fx.sg Fx.rhe Wd.rnd
    rw [if_neg (by decide)]
    split <;> omega
theorem awake1 : carousellaw1_awake.f 1000 = some true := by decide +kernel
theorem Fx.mul_neg {a c : Int} (hc : c < 0) : Fx.mul a c = Fx.clamp (-(if a < 0 then -(Fx.rhe (-a * -c) 4294967296) else Fx.rhe (a * -c) 4294967296)) := by
  unfold Fx.mul Fx.neq Fx.ab Fx.sg
  rw [if_pos hc, decide_eq_true hc]
  by_cases k : a < 0
  · rw [if_pos k, if_pos k, decide_eq_true k]; simp
  · rw [if_neg k, if_neg k, decide_eq_false k]; rfl
theorem wf_i16 {x : Int} (h : (Lit.int .i16 x).wf = true) : -32768 ≤ x ∧ x ≤ 32767 := by
  simp only [Lit.wf, Bool.and_eq_true, decide_eq_true_eq] at h
  have h1 : IntKind.i16.min = -32768 := rfl
  have h2 : IntKind.i16.max = 32767 := rfl
  omega
theorem mul_sg (a b P : Int) (hP : 0 < P) : Fx.sg (Fx.neq a b) (Fx.rhe (Fx.ab a * Fx.ab b) P) = Fx.sg (decide (a * b < 0)) (Fx.rhe (Fx.ab (a * b)) P) := by
  have e := ab_mul a b
  have n1 := Int.mul_nonneg (Fx.ab_nonneg a) (Fx.ab_nonneg b)
  by_cases z : a * b = 0
  · have z0 : Fx.ab a * Fx.ab b = 0 := by rw [e]; split <;> omega
    have r0 : Fx.rhe 0 P = 0 := by
      have := Fx.rhe_whole 0 P hP
      simpa using this
    rw [z0, z, show Fx.ab 0 = 0 from rfl, r0]
    unfold Fx.sg; split <;> split <;> rfl
  · have e2 : Fx.ab a * Fx.ab b = Fx.ab (a * b) := by
      rw [e] at n1 ⊢
      unfold Fx.ab
      split <;> split <;> rename_i h1 h2 <;> simp only [h1] at n1 <;> first | omega | (simp at n1; omega)
    have e3 : Fx.neq a b = decide (a * b < 0) := by
      unfold Fx.neq
      rw [e] at n1
      cases hn : (decide (a < 0) != decide (b < 0))
      · rw [hn] at n1; simp at n1; rw [decide_eq_false (by omega)]
      · rw [hn] at n1; simp at n1; rw [decide_eq_true (by omega)]
    rw [e2, e3]
theorem Fx.mul_rnd (a b : Int) : Fx.mul a b = Fx.clamp (Wd.rnd (a * b) 4294967296) := by
  unfold Fx.mul
  rw [mul_sg a b _ (by omega), rhe_rnd _ _ (by omega)]
theorem Fx.div_rnd {a b : Int} (hb : 0 < b) : Fx.div a b = Fx.clamp (Wd.rnd (a * 4294967296) b) := by
  rw [Fx.div_pos hb, ← rhe_rnd _ _ hb]
  unfold Fx.sg Fx.ab
  by_cases c : a < 0
  · rw [if_pos c, if_pos (by simp; omega), if_pos (by omega), Int.neg_mul]
  · rw [if_neg c, if_neg (by simp; omega), if_neg (by omega)]
theorem of_w {n : Int} (h0 : -2147483648 ≤ n) (h1 : n < 2147483648) : fix_Of.f n = some (n * 4294967296) := by
  unfold fix_Of.f
  rw [if_neg (by omega), if_neg (by omega), w64 (by omega) (by omega)]
theorem rnd_w (q P : Int) (hP : 0 < P) : Wd.rnd (q * P) P = q := Wd.rnd_mul q P hP
theorem FWhole_all (a b : Int) (a0 : -32768 ≤ a) (a1 : a ≤ 32767) (b0 : -32768 ≤ b) (b1 : b ≤ 32767) : ∃ k, carousellaw1_FixWhole.f k a b = some true := by
  refine ⟨1000, ?_⟩
  have wa : wrap64 a = a := w64 (by omega) (by omega)
  have wb : wrap64 b = b := w64 (by omega) (by omega)
  have ws : wrap64 (a + b) = a + b := w64 (by omega) (by omega)
  have wd : wrap64 (a - b) = a - b := w64 (by omega) (by omega)
  have hx : -1073741824 ≤ a * b ∧ a * b ≤ 1073741824 := by
    clear wa wb ws wd
    have e := ab_mul a b
    have h1 : Fx.ab a ≤ 32768 := by unfold Fx.ab; split <;> omega
    have h2 : Fx.ab b ≤ 32768 := by unfold Fx.ab; split <;> omega
    have h3 := mul_bd (Fx.ab_nonneg a) h1 (Fx.ab_nonneg b) h2
    rw [e] at h3
    split at h3 <;> omega
  have wm : wrap64 (a * b) = a * b := w64 (by clear wa wb ws wd; omega) (by clear wa wb ws wd; omega)
  have oa : Fx.ok (a * 4294967296) := by clear wa wb ws wd wm; unfold Fx.ok; omega
  have ob : Fx.ok (b * 4294967296) := by clear wa wb ws wd wm; unfold Fx.ok; omega
  have om : Fx.ok (a * b * 4294967296) := by clear wa wb ws wd wm; unfold Fx.ok; omega
  have f1 : fix_Of.f a = some (a * 4294967296) := of_w (by clear wa wb ws wd wm; omega) (by clear wa wb ws wd wm; omega)
  have f2 : fix_Of.f b = some (b * 4294967296) := of_w (by clear wa wb ws wd wm; omega) (by clear wa wb ws wd wm; omega)
  have f3 : fix_Of.f (a + b) = some ((a + b) * 4294967296) := of_w (by clear wa wb ws wd wm; omega) (by clear wa wb ws wd wm; omega)
  have f4 : fix_Of.f (a - b) = some ((a - b) * 4294967296) := of_w (by clear wa wb ws wd wm; omega) (by clear wa wb ws wd wm; omega)
  have f5 : fix_Of.f (a * b) = some (a * b * 4294967296) := of_w (by clear wa wb ws wd wm; omega) (by clear wa wb ws wd wm; omega)
  have g1 : fix_Add.f 1000 (a * 4294967296) (b * 4294967296) = some ((a + b) * 4294967296) := by
    rw [fadd_f _ _ oa ob]
    unfold Fx.add
    rw [← Int.add_mul, Fx.clamp_id (by clear wa wb ws wd wm; unfold Fx.ok; omega)]
  have g2 : fix_Sub.f 1000 (a * 4294967296) (b * 4294967296) = some ((a - b) * 4294967296) := by
    rw [fsub_f _ _ oa ob]
    unfold Fx.sub
    rw [← Int.sub_mul, Fx.clamp_id (by clear wa wb ws wd wm; unfold Fx.ok; omega)]
  have g3 : fix_Mul.f 1000 (a * 4294967296) (b * 4294967296) = some (a * b * 4294967296) := by
    rw [fmul_f _ _ oa ob _ (by omega), Fx.mul_rnd, show a * 4294967296 * (b * 4294967296) = a * b * 4294967296 * 4294967296 by rw [Int.mul_assoc a, Int.mul_left_comm 4294967296, ← Int.mul_assoc a, ← Int.mul_assoc], rnd_w _ _ (by omega), Fx.clamp_id om]
  have hc : fix_Cmp.f (a * 4294967296) (b * 4294967296) = carousellaw1_cmp.f a b := by
    unfold fix_Cmp.f carousellaw1_cmp.f
    clear wa wb ws wd wm f1 f2 f3 f4 f5 g1 g2 g3
    by_cases c1 : a < b
    · rw [if_pos c1, if_pos (by omega)]
    · rw [if_neg c1, if_neg (by omega)]
      by_cases c2 : a > b
      · rw [if_pos c2, if_pos (by omega)]
      · rw [if_neg c2, if_neg (by omega)]
  have hcs : ∃ z, carousellaw1_cmp.f a b = some z := by
    unfold carousellaw1_cmp.f
    split
    · exact ⟨_, rfl⟩
    · split <;> exact ⟨_, rfl⟩
  obtain ⟨z, hz⟩ := hcs
  rw [hz] at hc
  unfold carousellaw1_FixWhole.f
  rw [awake1, Option.bind_some, if_pos rfl, wa, wb, ws, wd, wm, f1, f2, f3, f4, f5]
  simp only [Option.bind_some]
  rw [g1, g2, g3]
  simp only [Option.bind_some, if_true]
  by_cases c : b = 0
  · rw [if_pos c, hc, hz]
    simp
  · have g4 : fix_Div.f 1000 (a * b * 4294967296) (b * 4294967296) = some (a * 4294967296) := by
      rw [fdiv_f _ _ om ob _ (by omega)]
      congr 1
      clear wa wb ws wd wm f1 f2 f3 f4 f5 g1 g2 g3 hc hz
      by_cases p : 0 < b
      · rw [Fx.div_rnd (by omega), show a * b * 4294967296 * 4294967296 = a * 4294967296 * (b * 4294967296) by rw [Int.mul_assoc a 4294967296, Int.mul_left_comm 4294967296, ← Int.mul_assoc a, ← Int.mul_assoc], rnd_w _ _ (by omega), Fx.clamp_id oa]
      · have hn : Fx.div (a * b * 4294967296) (b * 4294967296) = Fx.clamp (Fx.sg (Fx.neq (a * b * 4294967296) (b * 4294967296)) (Fx.rhe (Fx.ab (a * b * 4294967296) * 4294967296) (Fx.ab (b * 4294967296)))) := by
          unfold Fx.div; rw [if_neg (by omega)]
        have e2 : Fx.ab (b * 4294967296) = -(b * 4294967296) := by unfold Fx.ab; rw [if_pos (by omega)]
        have e3 : Fx.neq (a * b * 4294967296) (b * 4294967296) = !(decide (a * b < 0)) := by
          unfold Fx.neq
          rw [decide_eq_true (show b * 4294967296 < 0 by omega)]
          by_cases q : a * b < 0
          · rw [decide_eq_true q, decide_eq_true (by omega)]; rfl
          · rw [decide_eq_false q, decide_eq_false (by omega)]; rfl
        rw [hn, e2, e3]
        have e4 : a * b * 4294967296 * 4294967296 = -(a * 4294967296) * -(b * 4294967296) := by
          rw [Int.neg_mul_neg, Int.mul_assoc a 4294967296, Int.mul_left_comm 4294967296, ← Int.mul_assoc a, ← Int.mul_assoc]
        by_cases q : a * b < 0
        · rw [decide_eq_true q, show Fx.ab (a * b * 4294967296) = -(a * b * 4294967296) by unfold Fx.ab; rw [if_pos (by omega)], Int.neg_mul, e4, ← Int.neg_mul, Int.neg_neg, Fx.rhe_whole _ _ (by omega)]
          exact Fx.clamp_id oa
        · rw [decide_eq_false q, show Fx.ab (a * b * 4294967296) = a * b * 4294967296 by unfold Fx.ab; rw [if_neg (by omega)], e4, Fx.rhe_whole _ _ (by omega)]
          show Fx.clamp (-(-(a * 4294967296))) = _
          rw [Int.neg_neg]; exact Fx.clamp_id oa
    rw [if_neg c, g4]
    simp only [Option.bind_some, if_true]
    rw [hc, hz]
    simp
theorem FixWhole : carousellaw1_FixWhole.Pure := by
  intro a b ha hb
  exact FWhole_all a b (wf_i16 ha).1 (wf_i16 ha).2 (wf_i16 hb).1 (wf_i16 hb).2
end Go.Proofs.YtjiloachlemlcaaDoor.Pure
