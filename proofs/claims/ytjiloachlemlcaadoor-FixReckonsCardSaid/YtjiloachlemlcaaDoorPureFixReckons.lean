/- The plain law behind FixReckons: what the functions compute answers as the statement says, for every input. No condition. -/
import Derived.Test.YtjiloachlemlcaaDoorPFixReckonsx8
import Derived.Laws.BitsAllLaws
import Derived.Test.YtjiloachlemlcaaDoorFixMath
import Derived.Test.YtjiloachlemlcaaDoorBigMath
import Derived.Test.YtjiloachlemlcaaDoorWideMath
namespace Go.Proofs.YtjiloachlemlcaaDoor.Pure
open Go.RowKit Go.Proofs.YtjiloachlemlcaaDoor.PFixReckons Go.Proofs.YtjiloachlemlcaaDoorW.PrintWords Go.Proofs.YtjiloachlemlcaaDoorW.PrintLast
set_option linter.unusedVariables false
set_option linter.unusedSimpArgs false
theorem wf_i64 {x : Int} (h : (Lit.int .i64 x).wf = true) : -9223372036854775808 ≤ x ∧ x ≤ 9223372036854775807 := by
  simp only [Lit.wf, Bool.and_eq_true, decide_eq_true_eq] at h
  have h1 : IntKind.i64.min = -9223372036854775808 := rfl
  have h2 : IntKind.i64.max = 9223372036854775807 := rfl
  omega
theorem u64w (n : Int) : IntKind.u64.wrap n = n % 18446744073709551616 := by simp [IntKind.wrap, IntKind.bits, IntKind.signed]
theorem and32 (x : Int) (h0 : 0 ≤ x) (h1 : x ≤ 18446744073709551615) : Go.bits .and .u64 x 4294967295 = x % 4294967296 := by
  rw [Go.u64_and x 4294967295 h0 (by omega) (by omega) (by omega)]
  have : (4294967295 : Int).toNat = 2 ^ 32 - 1 := rfl
  rw [this, Nat.and_two_pow_sub_one_eq_mod]
  omega
theorem and1 (x : Int) (h0 : 0 ≤ x) (h1 : x ≤ 18446744073709551615) : Go.bits .and .u64 x 1 = x % 2 := by
  rw [Go.u64_and x 1 h0 (by omega) (by omega) (by omega)]
  have : (1 : Int).toNat = 2 ^ 1 - 1 := rfl
  rw [this, Nat.and_two_pow_sub_one_eq_mod]
  omega
theorem mul_le {a b A B : Int} (h0 : 0 ≤ a) (h1 : a ≤ A) (h2 : 0 ≤ b) (h3 : b ≤ B) : 0 ≤ a * b ∧ a * b ≤ A * B :=
  ⟨Int.mul_nonneg h0 h2, Int.mul_le_mul h1 h3 h2 (by omega)⟩
theorem split_mul (x0 x1 y0 y1 : Int) : (x1 * 4294967296 + x0) * (y1 * 4294967296 + y0) = (x1 * y1) * 18446744073709551616 + ((x1 * y0) + (x0 * y1)) * 4294967296 + x0 * y0 := by grind
theorem Mul64_f (a b : Int) (a0 : 0 ≤ a) (a1 : a ≤ 18446744073709551615) (b0 : 0 ≤ b) (b1 : b ≤ 18446744073709551615) : bits_Mul64.f a b = some (a * b / 18446744073709551616, a * b % 18446744073709551616) := by
  unfold bits_Mul64.f
  rw [and32 a a0 a1, and32 b b0 b1]
  simp only [u64w]
  have ea : a = (a / 4294967296) * 4294967296 + a % 4294967296 := by omega
  have eb : b = (b / 4294967296) * 4294967296 + b % 4294967296 := by omega
  have es := split_mul (a % 4294967296) (a / 4294967296) (b % 4294967296) (b / 4294967296)
  rw [← ea, ← eb] at es
  have h1 : 0 ≤ a / 4294967296 ∧ a / 4294967296 ≤ 4294967295 := by omega
  have h2 : 0 ≤ a % 4294967296 ∧ a % 4294967296 ≤ 4294967295 := by omega
  have h3 : 0 ≤ b / 4294967296 ∧ b / 4294967296 ≤ 4294967295 := by omega
  have h4 : 0 ≤ b % 4294967296 ∧ b % 4294967296 ≤ 4294967295 := by omega
  have p00 := mul_le h2.1 h2.2 h4.1 h4.2
  have p10 := mul_le h1.1 h1.2 h4.1 h4.2
  have p01 := mul_le h2.1 h2.2 h3.1 h3.2
  have p11 := mul_le h1.1 h1.2 h3.1 h3.2
  clear ea eb a0 a1 b0 b1
  generalize a / 4294967296 * (b / 4294967296) = P11 at *
  generalize a / 4294967296 * (b % 4294967296) = P10 at *
  generalize a % 4294967296 * (b / 4294967296) = P01 at *
  generalize a % 4294967296 * (b % 4294967296) = P00 at *
  generalize a * b = S at *
  clear h1 h2 h3 h4
  simp only [Int.reduceMul] at p00 p10 p01 p11
  have r1 : (P10 % 18446744073709551616 + P00 % 18446744073709551616 / 4294967296) % 18446744073709551616 = P10 + P00 / 4294967296 := by omega
  rw [r1, and32 _ (by omega) (by omega)]
  congr 1
  rw [Prod.mk.injEq]
  constructor
  · omega
  · rfl
theorem pow_split (n : Nat) (h : n ≤ 64) : (2 : Int) ^ n * 2 ^ (64 - n) = 18446744073709551616 := by
  rw [← Int.pow_add, show n + (64 - n) = 64 by omega]; rfl
theorem pow_pos (n : Nat) : (1 : Int) ≤ 2 ^ n := by
  have : (0 : Int) < 2 ^ n := Int.pow_pos (by decide)
  omega
/-- a word that is shifted up beside one that fills what it leaves -/
theorem or_fill (c d : Int) (n : Nat) (hn : n ≤ 64) (c0 : 0 ≤ c) (c1 : c < 2 ^ n) (d0 : 0 ≤ d) (d1 : d < 2 ^ (64 - n)) : Go.bits .or .u64 (c * 2 ^ (64 - n)) d = c * 2 ^ (64 - n) + d := by
  have hp := pow_split n hn
  have p1 := pow_pos n
  have p2 := pow_pos (64 - n)
  have e1 : (c + 1) * 2 ^ (64 - n) ≤ 2 ^ n * 2 ^ (64 - n) := Int.mul_le_mul_of_nonneg_right (by omega) (by omega)
  rw [Int.add_mul, Int.one_mul, hp] at e1
  have e0 : 0 ≤ c * 2 ^ (64 - n) := Int.mul_nonneg c0 (by omega)
  rw [Go.u64_or _ _ e0 (by omega) d0 (by omega)]
  obtain ⟨C, rfl⟩ := Int.eq_ofNat_of_zero_le c0
  obtain ⟨D, rfl⟩ := Int.eq_ofNat_of_zero_le d0
  have hD : D < 2 ^ (64 - n) := by
    have : ((2 ^ (64 - n) : Nat) : Int) = 2 ^ (64 - n) := by simp
    omega
  have hC : ((C : Int) * 2 ^ (64 - n)).toNat = C * 2 ^ (64 - n) := by
    have : (C : Int) * 2 ^ (64 - n) = ((C * 2 ^ (64 - n) : Nat) : Int) := by simp
    rw [this]; rfl
  rw [hC, Int.toNat_natCast, ← Nat.shiftLeft_eq, ← Nat.shiftLeft_add_eq_or_of_lt hD, Nat.shiftLeft_eq]
  simp
theorem shl_u64 (x : Int) (n : Nat) (hn : n ≤ 64) (h : Int) (hh : h = (n : Int)) : shl .u64 x h = (x * 2 ^ n) % 18446744073709551616 := by
  subst hh
  unfold shl
  rw [u64w, show min ((n : Int)).toNat IntKind.u64.bits = n by simp [IntKind.bits]; omega]
theorem shr_u64 (x : Int) (n : Nat) (hn : n ≤ 64) (h : Int) (hh : h = (n : Int)) : shr .u64 x h = x / 2 ^ n := by
  subst hh
  unfold shr
  rw [show min ((n : Int)).toNat IntKind.u64.bits = n by simp [IntKind.bits]; omega]
/-- (x * Q) mod (P * Q) -/
theorem mul_mod (x P Q : Int) (hQ : 0 < Q) : (x * Q) % (P * Q) = (x % P) * Q := by
  rw [Int.mul_comm x Q, Int.mul_comm P Q, Int.mul_emod_mul_of_pos x P hQ, Int.mul_comm]
@[irreducible]
def lenTab : ByteArray := (⟨#[0, 1, 2, 2, 3, 3, 3, 3, 4, 4, 4, 4, 4, 4, 4, 4, 5, 5, 5, 5, 5, 5, 5, 5, 5, 5, 5, 5, 5, 5, 5, 5, 6, 6, 6, 6, 6, 6, 6, 6, 6, 6, 6, 6, 6, 6, 6, 6, 6, 6, 6, 6, 6, 6, 6, 6, 6, 6, 6, 6, 6, 6, 6, 6, 7, 7, 7, 7, 7, 7, 7, 7, 7, 7, 7, 7, 7, 7, 7, 7, 7, 7, 7, 7, 7, 7, 7, 7, 7, 7, 7, 7, 7, 7, 7, 7, 7, 7, 7, 7, 7, 7, 7, 7, 7, 7, 7, 7, 7, 7, 7, 7, 7, 7, 7, 7, 7, 7, 7, 7, 7, 7, 7, 7, 7, 7, 7, 7, 8, 8, 8, 8, 8, 8, 8, 8, 8, 8, 8, 8, 8, 8, 8, 8, 8, 8, 8, 8, 8, 8, 8, 8, 8, 8, 8, 8, 8, 8, 8, 8, 8, 8, 8, 8, 8, 8, 8, 8, 8, 8, 8, 8, 8, 8, 8, 8, 8, 8, 8, 8, 8, 8, 8, 8, 8, 8, 8, 8, 8, 8, 8, 8, 8, 8, 8, 8, 8, 8, 8, 8, 8, 8, 8, 8, 8, 8, 8, 8, 8, 8, 8, 8, 8, 8, 8, 8, 8, 8, 8, 8, 8, 8, 8, 8, 8, 8, 8, 8, 8, 8, 8, 8, 8, 8, 8, 8, 8, 8, 8, 8, 8, 8, 8, 8, 8, 8, 8, 8, 8, 8, 8, 8, 8, 8, 8, 8]⟩ : ByteArray)
theorem Len_j0 (k : Nat) (x0 x2 : Int) : bits_Len64.j0 (k + 1) x0 x2 = ( if x0 ≥ 65536 then (if (x0 / 65536) ≥ 256 then (if 0 ≤ (((x0 / 65536) / 256) % 256) then (if (((x0 / 65536) / 256) % 256) < 256 then (some (wrap64 ((wrap64 ((wrap64 (x2 + 16)) + 8)) + (wrap64 (bt lenTab (((x0 / 65536) / 256) % 256)))))) else (none)) else (none)) else (if 0 ≤ ((x0 / 65536) % 256) then (if ((x0 / 65536) % 256) < 256 then (some (wrap64 ((wrap64 (x2 + 16)) + (wrap64 (bt lenTab ((x0 / 65536) % 256)))))) else (none)) else (none))) else (if x0 ≥ 256 then (if 0 ≤ ((x0 / 256) % 256) then (if ((x0 / 256) % 256) < 256 then (some (wrap64 ((wrap64 (x2 + 8)) + (wrap64 (bt lenTab ((x0 / 256) % 256)))))) else (none)) else (none)) else (if 0 ≤ ((x0) % 256) then (if ((x0) % 256) < 256 then (some (wrap64 (x2 + (wrap64 (bt lenTab ((x0) % 256)))))) else (none)) else (none)))) := by unfold lenTab; rfl
theorem lenTab_all : ∀ i : Fin 256, 0 < i.val → (∃ t : Fin 9, bt lenTab (i.val : Int) = (t.val : Int) ∧ 0 < t.val ∧ 2 ^ (t.val - 1) ≤ i.val ∧ i.val < 2 ^ t.val) := by unfold lenTab; decide +kernel
theorem lenTab_spec (i : Int) (h0 : 0 < i) (h1 : i < 256) : ∃ t : Nat, bt lenTab i = t ∧ 1 ≤ t ∧ t ≤ 8 ∧ 2 ^ (t - 1) ≤ i ∧ i < 2 ^ t := by
  obtain ⟨n, rfl⟩ := Int.eq_ofNat_of_zero_le (show 0 ≤ i by omega)
  obtain ⟨t, e, t0, a, b⟩ := lenTab_all ⟨n, by omega⟩ (by show 0 < n; omega)
  refine ⟨t.val, e, t0, by omega, ?_, ?_⟩
  · have : ((2 ^ (t.val - 1) : Nat) : Int) ≤ (n : Int) := Int.ofNat_le.mpr a
    simpa using this
  · have : (n : Int) < ((2 ^ t.val : Nat) : Int) := Int.ofNat_lt.mpr b
    simpa using this
/-- the length of x, told by a digit y of eight bits that stands w bits up -/
theorem len_lift (x y : Int) (w : Nat) (hy : y = x / 2 ^ w) (t : Nat) (t1 : 1 ≤ t) (a : 2 ^ (t - 1) ≤ y) (b : y < 2 ^ t) : 2 ^ (w + t - 1) ≤ x ∧ x < 2 ^ (w + t) := by
  have pw : (0 : Int) < 2 ^ w := Int.pow_pos (by decide)
  have e1 : (2 : Int) ^ (w + t - 1) = 2 ^ (t - 1) * 2 ^ w := by rw [← Int.pow_add]; congr 1; omega
  have e2 : (2 : Int) ^ (w + t) = 2 ^ t * 2 ^ w := by rw [← Int.pow_add]; congr 1; omega
  subst hy
  refine ⟨?_, ?_⟩
  · rw [e1]; exact (Int.le_ediv_iff_mul_le pw).mp a
  · rw [e2]; exact (Int.ediv_lt_iff_lt_mul pw).mp b
theorem len_end (x y z B : Int) (w : Nat) (hw : w ≤ 56) (hz : z = w) (hy : y = x / 2 ^ w) (y0 : 0 < y) (y1 : y < 256) (hB : B = y % 256) :
    ∃ L : Nat, (if 0 ≤ B then (if B < 256 then some (wrap64 (z + (wrap64 (bt lenTab B)))) else none) else none) = some (L : Int) ∧ 1 ≤ L ∧ L ≤ 64 ∧ 2 ^ (L - 1) ≤ x ∧ x < 2 ^ L := by
  have hB' : B = y := by omega
  subst hB'
  obtain ⟨t, e, t1, t8, a, b⟩ := lenTab_spec B y0 y1
  have := len_lift x B w hy t t1 a b
  refine ⟨w + t, ?_, by omega, by omega, this.1, this.2⟩
  rw [if_pos (by omega), if_pos y1, e, hz]
  congr 1
  clear e this
  unfold wrap64
  omega
theorem Len_spec (x : Int) (h0 : 0 < x) (h1 : x ≤ 18446744073709551615) (k : Nat) : ∃ L : Nat, bits_Len64.f (k + 1) x = some (L : Int) ∧ 1 ≤ L ∧ L ≤ 64 ∧ 2 ^ (L - 1) ≤ x ∧ x < 2 ^ L := by
  unfold bits_Len64.f
  rw [Len_j0, Len_j0]
  by_cases c : x ≥ 4294967296
  · rw [if_pos c]
    by_cases c1 : x / 4294967296 ≥ 65536
    · rw [if_pos c1]
      by_cases c2 : x / 4294967296 / 65536 ≥ 256
      · rw [if_pos c2]; exact len_end x (x / 4294967296 / 65536 / 256) _ _ 56 (by omega) (by simp [wrap64]) (by simp <;> omega) (by omega) (by omega) rfl
      · rw [if_neg c2]; exact len_end x (x / 4294967296 / 65536) _ _ 48 (by omega) (by simp [wrap64]) (by simp <;> omega) (by omega) (by omega) rfl
    · rw [if_neg c1]
      by_cases c2 : x / 4294967296 ≥ 256
      · rw [if_pos c2]; exact len_end x (x / 4294967296 / 256) _ _ 40 (by omega) (by simp [wrap64]) (by simp <;> omega) (by omega) (by omega) rfl
      · rw [if_neg c2]; exact len_end x (x / 4294967296) _ _ 32 (by omega) (by simp [wrap64]) (by simp <;> omega) (by omega) (by omega) rfl
  · rw [if_neg c]
    by_cases c1 : x ≥ 65536
    · rw [if_pos c1]
      by_cases c2 : x / 65536 ≥ 256
      · rw [if_pos c2]; exact len_end x (x / 65536 / 256) _ _ 24 (by omega) (by simp [wrap64]) (by simp <;> omega) (by omega) (by omega) rfl
      · rw [if_neg c2]; exact len_end x (x / 65536) _ _ 16 (by omega) (by simp [wrap64]) (by simp <;> omega) (by omega) (by omega) rfl
    · rw [if_neg c1]
      by_cases c2 : x ≥ 256
      · rw [if_pos c2]; exact len_end x (x / 256) _ _ 8 (by omega) (by simp [wrap64]) (by simp <;> omega) (by omega) (by omega) rfl
      · rw [if_neg c2]; exact len_end x x _ _ 0 (by omega) (by simp [wrap64]) (by simp <;> omega) (by omega) (by omega) rfl
/-- u * 2^32 + n by v -/
def dq (u n v : Int) : Int := (u * 4294967296 + n) / v
theorem dq_stop {v a b u n q r : Int} (hv : v = a * 4294967296 + b) (pv : 0 < v) (e : q * a + r = u) (hq : dq u n v ≤ q) (c : q * b ≤ 4294967296 * r + n) : q = dq u n v := by
  have : q ≤ dq u n v := by
    unfold dq
    rw [Int.le_ediv_iff_mul_le pv]
    have : q * v = q * a * 4294967296 + q * b := by rw [hv, Int.mul_add, Int.mul_assoc]
    rw [this, ← e]
    generalize q * a = A at *
    generalize q * b = C at *
    omega
  omega
theorem dq_big {v u n q : Int} (pv : 0 < v) (hu : u < v) (hn : n < 4294967296) (hq : 4294967296 ≤ q) : dq u n v ≤ q - 1 := by
  have : dq u n v < 4294967296 := by
    unfold dq
    rw [Int.ediv_lt_iff_lt_mul pv]
    omega
  omega
theorem dq_less {v a b u n q r : Int} (hv : v = a * 4294967296 + b) (pv : 0 < v) (e : q * a + r = u) (c : 4294967296 * r + n < q * b) : dq u n v ≤ q - 1 := by
  have : dq u n v < q := by
    unfold dq
    rw [Int.ediv_lt_iff_lt_mul pv]
    have : q * v = q * a * 4294967296 + q * b := by rw [hv, Int.mul_add, Int.mul_assoc]
    rw [this, ← e]
    generalize q * a = A at *
    generalize q * b = C at *
    omega
  omega
theorem dq_break {v a b u n q r : Int} (hv : v = a * 4294967296 + b) (pv : 0 < v) (b0 : 0 ≤ b) (b1 : b < 4294967296) (n0 : 0 ≤ n) (e : q * a + r = u) (q0 : 0 ≤ q) (q1 : q ≤ 4294967296) (hr : 4294967296 ≤ r) (hq : dq u n v ≤ q) : q = dq u n v := by
  refine dq_stop hv pv e hq ?_
  have : q * b ≤ 4294967296 * 4294967296 := Int.mul_le_mul q1 (by omega) b0 (by omega)
  omega
theorem dq_nonneg {u n v : Int} (pv : 0 < v) (u0 : 0 ≤ u) (n0 : 0 ≤ n) : 0 ≤ dq u n v := Int.ediv_nonneg (by omega) (by omega)
theorem mul_lt64 {q b : Int} (q0 : 0 ≤ q) (q1 : q < 4294967296) (b0 : 0 ≤ b) (b1 : b < 4294967296) : 0 ≤ q * b ∧ q * b < 18446744073709551616 := by
  have h : q * b ≤ 4294967295 * 4294967295 := Int.mul_le_mul (by omega) (by omega) b0 (by omega)
  exact ⟨Int.mul_nonneg q0 b0, by omega⟩
theorem q_back {q a r u : Int} (e : q * a + r = u) : (q - 1) * a + (r + a) = u := by
  rw [Int.sub_mul, Int.one_mul]; omega
theorem Div_l1 {v a b u n : Int} (hv : v = a * 4294967296 + b) (a0 : 2147483648 ≤ a) (a1 : a < 4294967296) (b0 : 0 ≤ b) (b1 : b < 4294967296) (u0 : 0 ≤ u) (u1 : u < v) (n0 : 0 ≤ n) (n1 : n < 4294967296) (s q1 : Int) (s0 : 0 ≤ s) : ∀ (m : Nat) (q r : Int) (k : Nat), q * a + r = u → 0 ≤ r → r < 4294967296 → dq u n v ≤ q → q ≤ 4294967297 → 4294967296 ≤ r + m * 2147483648 → 2 * m + 2 ≤ k →
    bits_Div64.l1 k v s a b n q1 r u q = some (IntKind.u64.wrap (IntKind.u64.wrap (q1 * 4294967296) + dq u n v), shr .u64 (IntKind.u64.wrap (IntKind.u64.wrap (IntKind.u64.wrap (u * 4294967296) + n) - IntKind.u64.wrap (dq u n v * v))) s)
  | 0, q, r, k, e, r0, r1, hq, q1, hm, hk => by omega
  | m + 1, q, r, k, e, r0, r1, hq, hq1, hm, hk => by
    obtain ⟨k, rfl⟩ : ∃ j, k = j + 2 := ⟨k - 2, by omega⟩
    have pv : 0 < v := by omega
    have d0 := dq_nonneg pv u0 n0
    have step : dq u n v ≤ q - 1 → bits_Div64.j4 (k + 1) v s a b n q1 r u q true = some (IntKind.u64.wrap (IntKind.u64.wrap (q1 * 4294967296) + dq u n v), shr .u64 (IntKind.u64.wrap (IntKind.u64.wrap (IntKind.u64.wrap (u * 4294967296) + n) - IntKind.u64.wrap (dq u n v * v))) s) := by
      intro hs
      simp only [bits_Div64.j4]
      rw [if_pos trivial]
      have w1 : IntKind.u64.wrap (r + a) = r + a := by rw [u64w]; omega
      have w2 : IntKind.u64.wrap (q - 1) = q - 1 := by rw [u64w]; omega
      rw [w1, w2]
      by_cases c : r + a ≥ 4294967296
      · rw [if_pos c, if_pos s0]
        rw [← dq_break hv pv b0 b1 n0 (q_back e) (by omega) (by omega) c hs]
      · rw [if_neg c]
        exact Div_l1 hv a0 a1 b0 b1 u0 u1 n0 n1 s q1 s0 m (q - 1) (r + a) k (q_back e) (by omega) (by omega) hs (by omega) (by omega) (by omega)
    simp only [bits_Div64.l1]
    by_cases c : q ≥ 4294967296
    · rw [if_pos c]
      exact step (dq_big pv u1 n1 c)
    · rw [if_neg c]
      have qb := mul_lt64 (show 0 ≤ q by omega) (by omega) b0 b1
      have w1 : IntKind.u64.wrap (q * b) = q * b := by rw [u64w]; omega
      have w2 : IntKind.u64.wrap (IntKind.u64.wrap (4294967296 * r) + n) = 4294967296 * r + n := by rw [u64w, u64w]; omega
      rw [w1, w2]
      by_cases c2 : q * b > 4294967296 * r + n
      · rw [decide_eq_true c2]
        exact step (dq_less hv pv e c2)
      · rw [decide_eq_false c2]
        simp only [bits_Div64.j4]
        rw [if_neg (by decide), if_pos s0]
        rw [← dq_stop hv pv e hq (by omega)]
theorem Div_l0 {v a b u n : Int} (hv : v = a * 4294967296 + b) (a0 : 2147483648 ≤ a) (a1 : a < 4294967296) (b0 : 0 ≤ b) (b1 : b < 4294967296) (u0 : 0 ≤ u) (u1 : u < v) (n0 : 0 ≤ n) (n1 : n < 4294967296) (s x11 x13 : Int) : ∀ (m : Nat) (q r : Int) (k : Nat), q * a + r = u → 0 ≤ r → r < 4294967296 → dq u n v ≤ q → q ≤ 4294967297 → 4294967296 ≤ r + m * 2147483648 → 2 * m + 2 ≤ k →
    ∃ j, k ≤ j + 2 * m + 2 ∧ bits_Div64.l0 k v s a b x11 n x13 q r = bits_Div64.j2 j v s a b x11 n x13 (dq u n v)
  | 0, q, r, k, e, r0, r1, hq, q1, hm, hk => by omega
  | m + 1, q, r, k, e, r0, r1, hq, hq1, hm, hk => by
    obtain ⟨k, rfl⟩ : ∃ j, k = j + 2 := ⟨k - 2, by omega⟩
    have pv : 0 < v := by omega
    have d0 := dq_nonneg pv u0 n0
    have step : dq u n v ≤ q - 1 → ∃ j, k + 2 ≤ j + 2 * (m + 1) + 2 ∧ bits_Div64.j1 (k + 1) v s a b x11 n x13 q r true = bits_Div64.j2 j v s a b x11 n x13 (dq u n v) := by
      intro hs
      simp only [bits_Div64.j1]
      rw [if_pos trivial]
      have w1 : IntKind.u64.wrap (r + a) = r + a := by rw [u64w]; omega
      have w2 : IntKind.u64.wrap (q - 1) = q - 1 := by rw [u64w]; omega
      rw [w1, w2]
      by_cases c : r + a ≥ 4294967296
      · rw [if_pos c]
        rw [← dq_break hv pv b0 b1 n0 (q_back e) (by omega) (by omega) c hs]
        exact ⟨k, by omega, rfl⟩
      · rw [if_neg c]
        obtain ⟨j, hj, h⟩ := Div_l0 hv a0 a1 b0 b1 u0 u1 n0 n1 s x11 x13 m (q - 1) (r + a) k (q_back e) (by omega) (by omega) hs (by omega) (by omega) (by omega)
        exact ⟨j, by omega, h⟩
    simp only [bits_Div64.l0]
    by_cases c : q ≥ 4294967296
    · rw [if_pos c]
      exact step (dq_big pv u1 n1 c)
    · rw [if_neg c]
      have qb := mul_lt64 (show 0 ≤ q by omega) (by omega) b0 b1
      have w1 : IntKind.u64.wrap (q * b) = q * b := by rw [u64w]; omega
      have w2 : IntKind.u64.wrap (IntKind.u64.wrap (4294967296 * r) + n) = 4294967296 * r + n := by rw [u64w, u64w]; omega
      rw [w1, w2]
      by_cases c2 : q * b > 4294967296 * r + n
      · rw [decide_eq_true c2]
        exact step (dq_less hv pv e c2)
      · rw [decide_eq_false c2]
        simp only [bits_Div64.j1]
        rw [if_neg (by decide)]
        rw [← dq_stop hv pv e hq (by omega)]
        exact ⟨k, by omega, rfl⟩
/-- the first guess: by the upper half alone -/
theorem guess {v a b u n : Int} (hv : v = a * 4294967296 + b) (a0 : 2147483648 ≤ a) (a1 : a < 4294967296) (b0 : 0 ≤ b) (b1 : b < 4294967296) (u0 : 0 ≤ u) (u1 : u < v) (n0 : 0 ≤ n) (n1 : n < 4294967296) : dq u n v ≤ u / a ∧ u / a ≤ 4294967297 ∧ u / a * a + u % a = u ∧ 0 ≤ u % a ∧ u % a < a ∧ 0 ≤ u / a := by
  have pv : 0 < v := by omega
  have pa : 0 < a := by omega
  have e : u / a * a + u % a = u := by have := Int.mul_ediv_add_emod u a; rw [Int.mul_comm a] at this; exact this
  have m0 := Int.emod_nonneg u (show a ≠ 0 by omega)
  have m1 := Int.emod_lt_of_pos u pa
  refine ⟨?_, ?_, e, m0, m1, Int.ediv_nonneg u0 (by omega)⟩
  · have : dq u n v < u / a + 1 := by
      unfold dq
      rw [Int.ediv_lt_iff_lt_mul pv, hv]
      have h1 : u < (u / a + 1) * a := by rw [Int.add_mul, Int.one_mul]; omega
      have h2 : 0 ≤ (u / a + 1) * b := Int.mul_nonneg (by have := Int.ediv_nonneg u0 (show 0 ≤ a by omega); omega) b0
      have h3 : (u / a + 1) * (a * 4294967296 + b) = (u / a + 1) * a * 4294967296 + (u / a + 1) * b := by rw [Int.mul_add, Int.mul_assoc]
      rw [h3]
      generalize (u / a + 1) * a = A at *
      generalize (u / a + 1) * b = C at *
      omega
    omega
  · have : u / a < 4294967298 := by
      rw [Int.ediv_lt_iff_lt_mul pa]
      omega
    omega
/-- two steps of a division, put together: plain -/
theorem Div_two {v U1 n0 : Int} (pv : 0 < v) : (U1 * 4294967296 + n0) / v = U1 / v * 4294967296 + (U1 % v * 4294967296 + n0) / v ∧ (U1 * 4294967296 + n0) % v = (U1 % v * 4294967296 + n0) % v := by
  have e : U1 * 4294967296 + n0 = (U1 % v * 4294967296 + n0) + v * (U1 / v * 4294967296) := by
    have := Int.mul_ediv_add_emod U1 v
    have h : v * (U1 / v * 4294967296) = v * (U1 / v) * 4294967296 := by rw [Int.mul_assoc]
    rw [h]
    generalize v * (U1 / v) = A at *
    omega
  rw [e, Int.add_mul_ediv_left _ _ (by omega), Int.add_mul_emod_self_left]
  omega
theorem scale_div (X n P : Int) (hP : 0 < P) : X * P / (n * P) = X / n := Int.mul_ediv_mul_of_pos_left X n hP
theorem scale_mod (X n P : Int) (hP : 0 < P) : X * P % (n * P) = X % n * P := by
  rw [Int.mul_comm X, Int.mul_comm n, Int.mul_emod_mul_of_pos X n hP, Int.mul_comm]
theorem Div_j2 {v a b u n : Int} (hv : v = a * 4294967296 + b) (a0 : 2147483648 ≤ a) (a1 : a < 4294967296) (b0 : 0 ≤ b) (b1 : b < 4294967296) (U N1 : Int) (u0 : 0 ≤ U) (u1 : U < v) (n0 : 0 ≤ n) (n1 : n < 4294967296) (m0 : 0 ≤ N1) (m1 : N1 < 4294967296) (s : Int) (s0 : 0 ≤ s) (k : Nat) (hk : 8 ≤ k) :
    bits_Div64.j2 k v s a b U N1 n (dq U N1 v) = some (((U * 4294967296 + N1) * 4294967296 + n) / v, shr .u64 (((U * 4294967296 + N1) * 4294967296 + n) % v) s) := by
  obtain ⟨k, rfl⟩ : ∃ j, k = j + 1 := ⟨k - 1, by omega⟩
  have pv : 0 < v := by omega
  have d0 := dq_nonneg pv u0 m0
  have d1 : dq U N1 v < 4294967296 := by unfold dq; rw [Int.ediv_lt_iff_lt_mul pv]; omega
  have r0 := Int.emod_nonneg (U * 4294967296 + N1) (show v ≠ 0 by omega)
  have r1 := Int.emod_lt_of_pos (U * 4294967296 + N1) pv
  have re : (U * 4294967296 + N1) - dq U N1 v * v = (U * 4294967296 + N1) % v := by
    have := Int.mul_ediv_add_emod (U * 4294967296 + N1) v
    unfold dq
    rw [Int.mul_comm (_ / v) v]
    omega
  have w : IntKind.u64.wrap (IntKind.u64.wrap (IntKind.u64.wrap (U * 4294967296) + N1) - IntKind.u64.wrap (dq U N1 v * v)) = (U * 4294967296 + N1) % v := by
    rw [u64w, u64w, u64w, u64w]
    generalize dq U N1 v * v = D at *
    generalize (U * 4294967296 + N1) % v = R at *
    omega
  simp only [bits_Div64.j2]
  rw [if_neg (by omega), w]
  have dt : dq ((U * 4294967296 + N1) % v) n v = ((U * 4294967296 + N1) % v * 4294967296 + n) / v := rfl
  have dt0 := dq_nonneg pv r0 n0
  have dt1 : dq ((U * 4294967296 + N1) % v) n v < 4294967296 := by unfold dq; rw [Int.ediv_lt_iff_lt_mul pv]; omega
  have two := @Div_two v (U * 4294967296 + N1) n pv
  have qd : (U * 4294967296 + N1) / v = dq U N1 v := rfl
  generalize hR : (U * 4294967296 + N1) % v = R at *
  obtain ⟨g1, g2, g3, g4, g5, g6⟩ := guess hv a0 a1 b0 b1 r0 r1 n0 n1
  have t1 : IntKind.u64.wrap (Int.tdiv R a) = R / a := by rw [Int.tdiv_eq_ediv_of_nonneg r0, u64w]; omega
  have t2 : IntKind.u64.wrap (R - IntKind.u64.wrap (R / a * a)) = R % a := by
    rw [u64w, u64w]
    generalize R / a * a = A at *
    omega
  rw [t1, t2, Div_l1 hv a0 a1 b0 b1 r0 r1 n0 n1 s _ s0 2 (R / a) (R % a) k g3 g4 (by omega) g1 g2 (by omega) (by omega)]
  have re2 : (R * 4294967296 + n) - dq R n v * v = (R * 4294967296 + n) % v := by
    have := Int.mul_ediv_add_emod (R * 4294967296 + n) v
    unfold dq
    rw [Int.mul_comm (_ / v) v]
    omega
  have f0 := Int.emod_nonneg (R * 4294967296 + n) (show v ≠ 0 by omega)
  have f1 := Int.emod_lt_of_pos (R * 4294967296 + n) pv
  have w2 : IntKind.u64.wrap (IntKind.u64.wrap (IntKind.u64.wrap (R * 4294967296) + n) - IntKind.u64.wrap (dq R n v * v)) = (R * 4294967296 + n) % v := by
    rw [u64w, u64w, u64w, u64w]
    generalize dq R n v * v = D at *
    generalize (R * 4294967296 + n) % v = R' at *
    omega
  have w3 : IntKind.u64.wrap (IntKind.u64.wrap (dq U N1 v * 4294967296) + dq R n v) = dq U N1 v * 4294967296 + dq R n v := by rw [u64w, u64w]; omega
  rw [w2, w3, two.1, two.2, qd, ← dt]
theorem Div64_f (hi lo n : Int) (h0 : 0 ≤ hi) (h1 : hi < n) (l0 : 0 ≤ lo) (l1 : lo ≤ 18446744073709551615) (n1 : n ≤ 18446744073709551615) (k : Nat) (hk : 20 ≤ k) :
    bits_Div64.f k hi lo n = some ((hi * 18446744073709551616 + lo) / n, (hi * 18446744073709551616 + lo) % n) := by
  unfold bits_Div64.f
  rw [if_neg (by omega), if_neg (by omega)]
  by_cases z : hi = 0
  · rw [if_pos z]
    subst z
    have a := Int.ediv_nonneg l0 (show 0 ≤ n by omega)
    have b : lo / n ≤ lo := Int.ediv_le_self n l0
    rw [Int.tdiv_eq_ediv_of_nonneg l0, Int.tmod_eq_emod_of_nonneg l0, u64w, Int.emod_eq_of_lt a (by omega)]
    simp
  · rw [if_neg z]
    obtain ⟨k, rfl⟩ : ∃ j, k = j + 1 := ⟨k - 1, by omega⟩
    obtain ⟨L, eL, L1, L64, x0, x1⟩ := Len_spec n (by omega) n1 k
    have lz : bits_LeadingZeros64.f (k + 1) n = some ((64 - L : Nat) : Int) := by
      simp only [bits_LeadingZeros64.f, eL, Option.bind_some]
      congr 1
      unfold wrap64
      omega
    rw [lz]
    simp only [Option.bind_some]
    obtain ⟨s, rfl⟩ : ∃ s : Nat, L = 64 - s := ⟨64 - L, by omega⟩
    have hs : s < 64 := by omega
    rw [show 64 - (64 - s) = s by omega]
    have ws : IntKind.u64.wrap (s : Int) = (s : Int) := by rw [u64w]; omega
    have ws2 : IntKind.u64.wrap (64 - (s : Int)) = ((64 - s : Nat) : Int) := by rw [u64w]; omega
    rw [ws, ws2, if_pos (by omega), if_pos (by omega)]
    rw [shl_u64 n s (by omega) _ rfl, shl_u64 hi s (by omega) _ rfl, shl_u64 lo s (by omega) _ rfl, shr_u64 lo (64 - s) (by omega) _ rfl]
    have pp := pow_split s (by omega)
    have P1 := pow_pos s
    have P2 := pow_pos (64 - s)
    have x0' : (2 : Int) ^ (64 - s - 1) * 2 ^ s = 9223372036854775808 := by rw [← Int.pow_add, show 64 - s - 1 + s = 63 by omega]; rfl
    have v0 : 9223372036854775808 ≤ n * 2 ^ s := by rw [← x0']; exact Int.mul_le_mul_of_nonneg_right x0 (by omega)
    have v1 : n * 2 ^ s < 18446744073709551616 := by
      have := Int.mul_lt_mul_of_pos_right x1 (show (0 : Int) < 2 ^ s by omega)
      rw [Int.mul_comm (2 ^ (64 - s)), pp] at this
      exact this
    have hv1 : (hi + 1) * 2 ^ s ≤ n * 2 ^ s := Int.mul_le_mul_of_nonneg_right (by omega) (by omega)
    have hv2 : (hi + 1) * 2 ^ s = hi * 2 ^ s + 2 ^ s := by rw [Int.add_mul, Int.one_mul]
    have hv3 : 0 ≤ hi * 2 ^ s := Int.mul_nonneg h0 (by omega)
    rw [Int.emod_eq_of_lt (show 0 ≤ n * 2 ^ s by omega) v1, Int.emod_eq_of_lt hv3 (by omega)]
    have d0 : 0 ≤ lo / 2 ^ (64 - s) := Int.ediv_nonneg l0 (by omega)
    have d1 : lo / 2 ^ (64 - s) < 2 ^ s := by rw [Int.ediv_lt_iff_lt_mul (by omega), pp]; omega
    have hx : hi < 2 ^ (64 - s) := by omega
    have or1 : Go.bits .or .u64 (hi * 2 ^ s) (lo / 2 ^ (64 - s)) = hi * 2 ^ s + lo / 2 ^ (64 - s) := by
      have := or_fill hi (lo / 2 ^ (64 - s)) (64 - s) (by omega) h0 hx d0 (by rw [show 64 - (64 - s) = s by omega]; exact d1)
      rw [show 64 - (64 - s) = s by omega] at this
      exact this
    rw [or1]
    have lm : lo * 2 ^ s % 18446744073709551616 = lo % 2 ^ (64 - s) * 2 ^ s := by
      rw [← pp, Int.mul_comm (2 ^ s) (2 ^ (64 - s))]
      exact mul_mod lo (2 ^ (64 - s)) (2 ^ s) (by omega)
    have tot : (hi * 18446744073709551616 + lo) * 2 ^ s = (hi * 2 ^ s + lo / 2 ^ (64 - s)) * 18446744073709551616 + lo * 2 ^ s % 18446744073709551616 := by
      rw [lm]
      have e := Int.mul_ediv_add_emod lo (2 ^ (64 - s))
      have e2 : lo * 2 ^ s = lo / 2 ^ (64 - s) * 18446744073709551616 + lo % 2 ^ (64 - s) * 2 ^ s := by
        rw [← pp]
        conv => lhs; rw [← e]
        rw [Int.add_mul]
        congr 1
        rw [Int.mul_comm (2 ^ (64 - s)), Int.mul_assoc, Int.mul_comm (2 ^ (64 - s))]
      rw [Int.add_mul, e2]
      have : hi * 18446744073709551616 * 2 ^ s = hi * 2 ^ s * 18446744073709551616 := by rw [Int.mul_assoc, Int.mul_comm 18446744073709551616, ← Int.mul_assoc]
      rw [this]
      omega
    have lo0 := Int.emod_nonneg (lo * 2 ^ s) (show (18446744073709551616 : Int) ≠ 0 by decide)
    have lo1 := Int.emod_lt_of_pos (lo * 2 ^ s) (show (0 : Int) < 18446744073709551616 by decide)
    have fd : (hi * 18446744073709551616 + lo) / n = (hi * 18446744073709551616 + lo) * 2 ^ s / (n * 2 ^ s) := (scale_div _ n (2 ^ s) (by omega)).symm
    have fm : (hi * 18446744073709551616 + lo) * 2 ^ s % (n * 2 ^ s) = (hi * 18446744073709551616 + lo) % n * 2 ^ s := scale_mod _ n (2 ^ s) (by omega)
    have fin : shr .u64 ((hi * 18446744073709551616 + lo) % n * 2 ^ s) s = (hi * 18446744073709551616 + lo) % n := by
      rw [shr_u64 _ s (by omega) _ rfl, Int.mul_ediv_cancel _ (by omega)]
    rw [fd, ← fin, ← fm, tot]
    generalize hU : hi * 2 ^ s + lo / 2 ^ (64 - s) = U at *
    generalize lo * 2 ^ s % 18446744073709551616 = W at *
    have U1 : U < n * 2 ^ s := by omega
    have U0 : 0 ≤ U := by omega
    clear tot fd fm fin lm or1 hU d0 d1 hx hv1 hv2 hv3 x0' x0 x1 pp lz eL
    generalize n * 2 ^ s = v at *
    rw [and32 v (by omega) (by omega), and32 W (by omega) (by omega)]
    rw [if_neg (by omega)]
    have hv : v = v / 4294967296 * 4294967296 + v % 4294967296 := by omega
    have a0 : 2147483648 ≤ v / 4294967296 := by omega
    have a1 : v / 4294967296 < 4294967296 := by omega
    have b0 : 0 ≤ v % 4294967296 := by omega
    have b1 : v % 4294967296 < 4294967296 := by omega
    generalize v / 4294967296 = a at *
    generalize v % 4294967296 = b at *
    obtain ⟨g1, g2, g3, g4, g5, g6⟩ := guess hv a0 a1 b0 b1 U0 U1 (show 0 ≤ W / 4294967296 by omega) (by omega)
    have t1 : IntKind.u64.wrap (Int.tdiv U a) = U / a := by rw [Int.tdiv_eq_ediv_of_nonneg U0, u64w]; omega
    have t2 : IntKind.u64.wrap (U - IntKind.u64.wrap (U / a * a)) = U % a := by
      rw [u64w, u64w]
      generalize U / a * a = A at *
      omega
    rw [t1, t2]
    obtain ⟨j, hj, h⟩ := Div_l0 hv a0 a1 b0 b1 U0 U1 (show 0 ≤ W / 4294967296 by omega) (by omega) s U (W % 4294967296) 2 (U / a) (U % a) (k + 1) g3 g4 (by omega) g1 g2 (by omega) (by omega)
    rw [h, Div_j2 (n := W % 4294967296) hv a0 a1 b0 b1 U (W / 4294967296) U0 U1 (by omega) (by omega) (by omega) (by omega) s (by omega) j (by omega)]
    have hW : (U * 4294967296 + W / 4294967296) * 4294967296 + W % 4294967296 = U * 18446744073709551616 + W := by omega
    rw [hW]
    exact 0
theorem add64w (x c : Int) (h0 : 0 ≤ x) (h1 : 0 ≤ c) (h2 : c ≤ 1) : bits_Add64.f x c 0 = some ((x + c) % 18446744073709551616, (x + c) / 18446744073709551616) := by
  unfold bits_Add64.f
  rw [if_pos ⟨h0, h1, by omega, by omega⟩]
  simp
theorem fsize_f (a : Int) (h : Fx.ok a) : fix_size.f a = some (Fx.ab a) := by
  unfold fix_size.f Fx.ab
  unfold Fx.ok at h
  split
  · rw [u64w, u64w]; congr 1; omega
  · rw [u64w]; congr 1; omega
theorem fheld_f (hi lo : Int) (b : Bool) (h0 : 0 ≤ hi) (l0 : 0 ≤ lo) (l1 : lo < 18446744073709551616) (k : Nat) : fix_held.f (k + 1) hi lo b = some (Fx.clamp (Fx.sg b (hi * 18446744073709551616 + lo))) := by
  unfold fix_held.f Fx.clamp Fx.sg
  cases b
  · simp only [fix_held.j0, Bool.false_eq_true, if_false]
    split
    · congr 1; omega
    · split
      · congr 1; omega
      · congr 1; unfold wrap64; omega
  · simp only [if_true]
    split
    · simp only [fix_held.j0, if_true]; congr 1; omega
    · by_cases c : lo ≥ 9223372036854775808
      · rw [decide_eq_true c]
        simp only [fix_held.j0, if_true]; congr 1; omega
      · rw [decide_eq_false c]
        simp only [fix_held.j0, if_true, Bool.false_eq_true, if_false]
        congr 1; unfold wrap64; omega
theorem fadd_f (a b : Int) (ha : Fx.ok a) (hb : Fx.ok b) (k : Nat) : fix_Add.f (k + 1) a b = some (Fx.add a b) := by
  unfold fix_Add.f Fx.add Fx.clamp
  unfold Fx.ok at ha hb
  by_cases c : a < 0
  · by_cases d : b < 0
    · by_cases e : wrap64 (a + b) < 0
      · simp only [fix_Add.j0, c, d, e, decide_true]
        simp
        unfold wrap64 at *; omega
      · simp only [fix_Add.j0, c, d, e, decide_true, decide_false]
        simp
        unfold wrap64 at *; omega
    · simp only [fix_Add.j0, c, d, decide_true, decide_false]
      simp
      unfold wrap64 at *; omega
  · by_cases d : b < 0
    · simp only [fix_Add.j0, c, d, decide_true, decide_false]
      simp
      unfold wrap64 at *; omega
    · by_cases e : wrap64 (a + b) < 0
      · simp only [fix_Add.j0, c, d, e, decide_true, decide_false]
        simp
        unfold wrap64 at *; omega
      · simp only [fix_Add.j0, c, d, e, decide_true, decide_false]
        simp
        unfold wrap64 at *; omega
theorem fdiv_f (a b : Int) (ha : Fx.ok a) (hb : Fx.ok b) (k : Nat) (hk : 30 ≤ k) : fix_Div.f k a b = some (Fx.div a b) := by
  unfold fix_Div.f Fx.div
  by_cases z : b = 0
  · rw [if_pos z, if_pos z]
    split
    · rfl
    · split <;> rfl
  · rw [if_neg z, if_neg z, fsize_f a ha, fsize_f b hb]
    simp only [Option.bind_some]
    have x0 := Fx.ab_nonneg a
    have x1 := Fx.ab_le ha
    have y0 : 0 < Fx.ab b := by unfold Fx.ab; split <;> omega
    have y1 := Fx.ab_le hb
    show _ = some (Fx.clamp (Fx.sg ((decide (a < 0)) != (decide (b < 0))) _))
    generalize Fx.ab a = x at *
    generalize Fx.ab b = y at *
    generalize ((decide (a < 0)) != (decide (b < 0))) = bl
    obtain ⟨k, rfl⟩ : ∃ j, k = j + 2 := ⟨k - 2, by omega⟩
    by_cases c : x / 4294967296 ≥ y
    · rw [if_pos c, fheld_f 1 0 bl (by omega) (by omega) (by omega)]
      simp only [Option.bind_some]
      have : 18446744073709551616 ≤ x * 4294967296 / y := by
        rw [Int.le_ediv_iff_mul_le y0]; omega
      have := (Fx.rhe_range (x * 4294967296) y).1
      congr 1
      generalize Fx.rhe (x * 4294967296) y = R at *
      unfold Fx.clamp Fx.sg
      split <;> omega
    · rw [if_neg c]
      have w : IntKind.u64.wrap (x * 4294967296) = x * 4294967296 % 18446744073709551616 := u64w _
      rw [w, Div64_f (x / 4294967296) (x * 4294967296 % 18446744073709551616) y (by omega) (by omega) (by omega) (by omega) (by omega) (k + 2) (by omega)]
      simp only [Option.bind_some]
      have e : x / 4294967296 * 18446744073709551616 + x * 4294967296 % 18446744073709551616 = x * 4294967296 := by omega
      rw [e]
      have q0 : 0 ≤ x * 4294967296 / y := Int.ediv_nonneg (by omega) (by omega)
      have q1 : x * 4294967296 / y < 18446744073709551616 := by rw [Int.ediv_lt_iff_lt_mul y0]; omega
      have r0 := Int.emod_nonneg (x * 4294967296) (show y ≠ 0 by omega)
      have r1 := Int.emod_lt_of_pos (x * 4294967296) y0
      have hr : Fx.rhe (x * 4294967296) y = x * 4294967296 / y + (if 2 * (x * 4294967296 % y) > y ∨ (2 * (x * 4294967296 % y) = y ∧ x * 4294967296 / y % 2 = 1) then 1 else 0) := rfl
      rw [hr]
      clear hr e w c
      generalize x * 4294967296 / y = q at *
      generalize x * 4294967296 % y = r at *
      have w : IntKind.u64.wrap (y - r) = y - r := by rw [u64w]; omega
      rw [w]
      have up : ∀ z, z = Fx.clamp (Fx.sg bl (q + 1)) → fix_Div.j0 (k + 2) bl q 0 true = some z := by
        intro z hz
        simp only [fix_Div.j0]
        rw [if_pos trivial, add64w q 1 q0 (by omega) (by omega)]
        simp only [Option.bind_some]
        rw [fheld_f _ _ bl (by omega) (by omega) (by omega)]
        simp only [Option.bind_some]
        rw [hz]
        congr 3
        omega
      have down : ∀ z, z = Fx.clamp (Fx.sg bl q) → fix_Div.j0 (k + 2) bl q 0 false = some z := by
        intro z hz
        simp only [fix_Div.j0]
        rw [if_neg (by decide), fheld_f _ _ bl (by omega) (by omega) (by omega)]
        simp only [Option.bind_some]
        rw [hz]
        congr 3
        omega
      by_cases c1 : r > y - r
      · rw [if_pos c1, if_pos (by omega)]
        exact up _ rfl
      · rw [if_neg c1]
        by_cases c2 : r = y - r
        · rw [if_pos c2, and1 q q0 (by omega)]
          by_cases c3 : q % 2 = 1
          · rw [if_pos (by omega), c3]
            exact up _ rfl
          · rw [if_neg (by omega), show q % 2 = 0 by omega]
            refine down _ ?_
            simp
        · rw [if_neg c2, if_neg (by omega)]
          refine down _ ?_
          simp
theorem fmul_f (a b : Int) (ha : Fx.ok a) (hb : Fx.ok b) (k : Nat) (hk : 2 ≤ k) : fix_Mul.f k a b = some (Fx.mul a b) := by
  unfold fix_Mul.f Fx.mul
  rw [fsize_f a ha, fsize_f b hb]
  simp only [Option.bind_some]
  have x0 := Fx.ab_nonneg a
  have x1 := Fx.ab_le ha
  have y0 := Fx.ab_nonneg b
  have y1 := Fx.ab_le hb
  rw [Mul64_f _ _ x0 (by omega) y0 (by omega)]
  simp only [Option.bind_some]
  have p0 : 0 ≤ Fx.ab a * Fx.ab b := Int.mul_nonneg x0 y0
  have p1 : Fx.ab a * Fx.ab b ≤ 9223372036854775808 * 9223372036854775808 := Int.mul_le_mul x1 y1 y0 (by omega)
  show _ = some (Fx.clamp (Fx.sg ((decide (a < 0)) != (decide (b < 0))) _))
  generalize hP : Fx.ab a * Fx.ab b = P at *
  have hbl : ∀ (z : Bool) (x8 x9 : Int) (k : Nat), fix_Mul.j0 (k + 1) a b x8 x9 z = if z = true then ((bits_Add64.f x8 1 0).bind fun bt152 => ((fix_held.f k (IntKind.u64.wrap (x9 + bt152.2)) bt152.1 ((decide (a < 0)) != (decide (b < 0)))).bind fun t154 => (some t154))) else ((fix_held.f k x9 x8 ((decide (a < 0)) != (decide (b < 0)))).bind fun t155 => (some t155)) := fun _ _ _ _ => rfl
  obtain ⟨k, rfl⟩ : ∃ j, k = j + 2 := ⟨k - 2, by omega⟩
  simp only [hbl]
  generalize ((decide (a < 0)) != (decide (b < 0))) = bl
  rw [and32 _ (by omega) (by omega)]
  have w : IntKind.u64.wrap (P / 18446744073709551616 * 4294967296) = (P / 79228162514264337593543950336) * 0 + P / 18446744073709551616 % 4294967296 * 2 ^ (64 - 32) := by
    rw [u64w]
    have : (2 : Int) ^ (64 - 32) = 4294967296 := by decide
    rw [this]
    omega
  rw [w, Int.mul_zero, Int.zero_add, or_fill (P / 18446744073709551616 % 4294967296) (P % 18446744073709551616 / 4294967296) 32 (by omega) (by omega) (by omega) (by omega) (by omega)]
  have hq : P / 18446744073709551616 % 4294967296 * 2 ^ (64 - 32) + P % 18446744073709551616 / 4294967296 = P / 4294967296 % 18446744073709551616 := by
    have : (2 : Int) ^ (64 - 32) = 4294967296 := by decide
    rw [this]
    omega
  rw [hq]
  have hr : P % 18446744073709551616 % 4294967296 = P % 4294967296 := by omega
  have ho : P / 18446744073709551616 / 4294967296 = P / 4294967296 / 18446744073709551616 := by omega
  rw [hr, ho]
  have he : Fx.rhe P 4294967296 = P / 4294967296 + (if 2 * (P % 4294967296) > 4294967296 ∨ (2 * (P % 4294967296) = 4294967296 ∧ P / 4294967296 % 2 = 1) then 1 else 0) := rfl
  rw [he]
  have q0 : 0 ≤ P / 4294967296 := by omega
  have q1 : P / 4294967296 ≤ 19807040628566084398385987584 := by omega
  have r0 : 0 ≤ P % 4294967296 := by omega
  have r1 : P % 4294967296 < 4294967296 := by omega
  clear he hr ho hq w hP p0 p1 hbl
  generalize P / 4294967296 = q at *
  generalize P % 4294967296 = r at *
  rw [and1 (q % 18446744073709551616) (by omega) (by omega)]
  have up : ∀ z, z = Fx.clamp (Fx.sg bl (q + 1)) → ((bits_Add64.f (q % 18446744073709551616) 1 0).bind fun bt152 => ((fix_held.f (k + 1) (IntKind.u64.wrap (q / 18446744073709551616 + bt152.2)) bt152.1 bl).bind fun t154 => (some t154))) = some z := by
    intro z hz
    rw [add64w _ 1 (by omega) (by omega) (by omega)]
    simp only [Option.bind_some]
    rw [u64w, fheld_f _ _ bl (by omega) (by omega) (by omega)]
    simp only [Option.bind_some]
    rw [hz]
    congr 3
    omega
  have down : ∀ z, z = Fx.clamp (Fx.sg bl q) → ((fix_held.f (k + 1) (q / 18446744073709551616) (q % 18446744073709551616) bl).bind fun t155 => (some t155)) = some z := by
    intro z hz
    rw [fheld_f _ _ bl (by omega) (by omega) (by omega)]
    simp only [Option.bind_some]
    rw [hz]
    congr 3
    omega
  by_cases c1 : r > 2147483648
  · rw [if_pos c1, if_pos trivial, if_pos (by omega)]
    exact up _ rfl
  · rw [if_neg c1]
    by_cases c2 : r = 2147483648
    · rw [if_pos c2]
      by_cases c3 : q % 2 = 1
      · rw [show q % 18446744073709551616 % 2 = 1 by omega, if_pos (show ((1 : Int) == 1) = true by rfl), if_pos (by omega)]
        exact up _ rfl
      · rw [show q % 18446744073709551616 % 2 = 0 by omega, if_neg (show ¬ (((0 : Int) == 1) = true) by decide), if_neg (by omega)]
        refine down _ ?_
        simp
    · rw [if_neg c2, if_neg (show ¬ (false = true) by decide), if_neg (by omega)]
      refine down _ ?_
      simp
theorem fsub_f (a b : Int) (ha : Fx.ok a) (hb : Fx.ok b) (k : Nat) : fix_Sub.f (k + 1) a b = some (Fx.sub a b) := by
  unfold fix_Sub.f Fx.sub Fx.clamp
  unfold Fx.ok at ha hb
  by_cases c : a < 0
  · by_cases d : b < 0
    · simp only [fix_Sub.j0, c, d, decide_true, decide_false]
      simp
      unfold wrap64 at *; omega
    · by_cases e : wrap64 (a - b) < 0
      · simp only [fix_Sub.j0, c, d, e, decide_true, decide_false]
        simp
        unfold wrap64 at *; omega
      · simp only [fix_Sub.j0, c, d, e, decide_true, decide_false]
        simp
        unfold wrap64 at *; omega
  · by_cases d : b < 0
    · by_cases e : wrap64 (a - b) < 0
      · simp only [fix_Sub.j0, c, d, e, decide_true, decide_false]
        simp
        unfold wrap64 at *; omega
      · simp only [fix_Sub.j0, c, d, e, decide_true, decide_false]
        simp
        unfold wrap64 at *; omega
    · simp only [fix_Sub.j0, c, d, decide_true, decide_false]
      simp
      unfold wrap64 at *; omega
theorem ps_eq (a b c : Int) : carouselref1_plus.s a b c = (a + b + c) % 18446744073709551616 := by
  unfold carouselref1_plus.s; rw [u64w, u64w]; omega
theorem pc_eq (a b c : Int) (a0 : 0 ≤ a) (a1 : a < 18446744073709551616) (b0 : 0 ≤ b) (b1 : b < 18446744073709551616) (c0 : 0 ≤ c) (c1 : c ≤ 1) : carouselref1_plus.c a b c = (a + b + c) / 18446744073709551616 := by
  unfold carouselref1_plus.c; rw [ps_eq, u64w]; split <;> (try split) <;> omega
theorem ms_eq (a b c : Int) : carouselref1_minus.s a b c = (a - b - c) % 18446744073709551616 := by
  unfold carouselref1_minus.s; rw [u64w, u64w]; omega
theorem mc_eq (a b c : Int) (a0 : 0 ≤ a) (a1 : a < 18446744073709551616) (b0 : 0 ≤ b) (b1 : b < 18446744073709551616) (c0 : 0 ≤ c) (c1 : c ≤ 1) : carouselref1_minus.c a b c = -((a - b - c) / 18446744073709551616) := by
  unfold carouselref1_minus.c; rw [u64w]; split <;> (try split) <;> omega
theorem plus_f {a0 a1 a2 a3 b0 b1 b2 b3 : Int} (ha : Bn.ok a0 a1 a2 a3) (hb : Bn.ok b0 b1 b2 b3) : ∃ r0 r1 r2 r3, carouselref1_plus.f a0 a1 a2 a3 b0 b1 b2 b3 = some (r0, r1, r2, r3) ∧ Bn.ok r0 r1 r2 r3 ∧ Bn.bv r0 r1 r2 r3 = (Bn.bv a0 a1 a2 a3 + Bn.bv b0 b1 b2 b3) % 115792089237316195423570985008687907853269984665640564039457584007913129639936 := by
  refine ⟨_, _, _, _, rfl, ?_⟩
  unfold Bn.ok at ha hb
  simp only [ps_eq]
  have e1 := pc_eq a0 b0 0 (by omega) (by omega) (by omega) (by omega) (by omega) (by omega)
  generalize carouselref1_plus.c a0 b0 0 = c1 at *
  have e2 := pc_eq a1 b1 c1 (by omega) (by omega) (by omega) (by omega) (by omega) (by omega)
  generalize carouselref1_plus.c a1 b1 c1 = c2 at *
  have e3 := pc_eq a2 b2 c2 (by omega) (by omega) (by omega) (by omega) (by omega) (by omega)
  generalize carouselref1_plus.c a2 b2 c2 = c3 at *
  unfold Bn.ok Bn.bv
  omega
theorem minus_f {a0 a1 a2 a3 b0 b1 b2 b3 : Int} (ha : Bn.ok a0 a1 a2 a3) (hb : Bn.ok b0 b1 b2 b3) : ∃ r0 r1 r2 r3, carouselref1_minus.f a0 a1 a2 a3 b0 b1 b2 b3 = some (r0, r1, r2, r3) ∧ Bn.ok r0 r1 r2 r3 ∧ Bn.bv r0 r1 r2 r3 = (Bn.bv a0 a1 a2 a3 - Bn.bv b0 b1 b2 b3) % 115792089237316195423570985008687907853269984665640564039457584007913129639936 := by
  refine ⟨_, _, _, _, rfl, ?_⟩
  unfold Bn.ok at ha hb
  simp only [ms_eq]
  have e1 := mc_eq a0 b0 0 (by omega) (by omega) (by omega) (by omega) (by omega) (by omega)
  generalize carouselref1_minus.c a0 b0 0 = c1 at *
  have e2 := mc_eq a1 b1 c1 (by omega) (by omega) (by omega) (by omega) (by omega) (by omega)
  generalize carouselref1_minus.c a1 b1 c1 = c2 at *
  have e3 := mc_eq a2 b2 c2 (by omega) (by omega) (by omega) (by omega) (by omega) (by omega)
  generalize carouselref1_minus.c a2 b2 c2 = c3 at *
  unfold Bn.ok Bn.bv
  omega
theorem less_f {a0 a1 a2 a3 b0 b1 b2 b3 : Int} (ha : Bn.ok a0 a1 a2 a3) (hb : Bn.ok b0 b1 b2 b3) : carouselref1_less.f a0 a1 a2 a3 b0 b1 b2 b3 = some (decide (Bn.bv a0 a1 a2 a3 < Bn.bv b0 b1 b2 b3)) := by
  unfold carouselref1_less.f carouselref1_less.s
  unfold Bn.ok at ha hb
  unfold Bn.bv
  congr 1
  symm
  repeat' split
  · rw [decide_eq_false]; omega
  all_goals (apply decide_eq_decide.mpr; omega)
theorem Plus_f {n m : Bool} {a0 a1 a2 a3 b0 b1 b2 b3 : Int} (ha : Bn.ok a0 a1 a2 a3) (hb : Bn.ok b0 b1 b2 b3) (hs : Bn.bv a0 a1 a2 a3 + Bn.bv b0 b1 b2 b3 < 115792089237316195423570985008687907853269984665640564039457584007913129639936) :
    ∃ s r0 r1 r2 r3, carouselref1_Plus.f n a0 a1 a2 a3 m b0 b1 b2 b3 = some (s, r0, r1, r2, r3) ∧ Bn.ok r0 r1 r2 r3 ∧ Bn.nv s r0 r1 r2 r3 = Bn.nv n a0 a1 a2 a3 + Bn.nv m b0 b1 b2 b3 := by
  have A := Bn.bv_range ha
  have B := Bn.bv_range hb
  unfold carouselref1_Plus.f
  by_cases c : n = m
  · subst c
    obtain ⟨r0, r1, r2, r3, e, h, v⟩ := plus_f ha hb
    rw [if_pos (by simp), e]
    refine ⟨n, r0, r1, r2, r3, rfl, h, ?_⟩
    rw [Int.emod_eq_of_lt (by omega) hs] at v
    unfold Bn.nv
    split <;> omega
  · have c' : m = !n := by cases n <;> cases m <;> simp at c ⊢
    subst c'
    rw [if_neg (by simp), less_f ha hb]
    simp only [Option.bind_some]
    by_cases d : Bn.bv a0 a1 a2 a3 < Bn.bv b0 b1 b2 b3
    · rw [if_pos (decide_eq_true d)]
      obtain ⟨r0, r1, r2, r3, e, h, v⟩ := minus_f hb ha
      rw [e]
      refine ⟨!n, r0, r1, r2, r3, rfl, h, ?_⟩
      rw [Int.emod_eq_of_lt (by omega) (by omega)] at v
      unfold Bn.nv
      cases n <;> simp <;> omega
    · rw [if_neg (by simpa using d)]
      obtain ⟨r0, r1, r2, r3, e, h, v⟩ := minus_f ha hb
      rw [e]
      refine ⟨n, r0, r1, r2, r3, rfl, h, ?_⟩
      rw [Int.emod_eq_of_lt (by omega) (by omega)] at v
      unfold Bn.nv
      cases n <;> simp <;> omega
theorem rsize_f (a : Int) (h0 : -9223372036854775808 ≤ a) (h1 : a ≤ 9223372036854775807) : carouselref1_size.f a = some (if a < 0 then -a else a) := by
  unfold carouselref1_size.f
  split
  · rw [u64w, u64w]; congr 1; unfold wrap64; omega
  · rw [u64w]; congr 1; omega
theorem bFrom_f (a : Int) (h0 : -9223372036854775808 ≤ a) (h1 : a ≤ 9223372036854775807) : carouselref1_From.f a = some (decide (a < 0), if a < 0 then -a else a, 0, 0, 0) := by
  unfold carouselref1_From.f
  rw [rsize_f a h0 h1]; rfl
theorem or_zero {x y : Int} (x0 : 0 ≤ x) (x1 : x < 18446744073709551616) (y0 : 0 ≤ y) (y1 : y < 18446744073709551616) : (Go.bits .or .u64 x y = 0 ↔ x = 0 ∧ y = 0) ∧ 0 ≤ Go.bits .or .u64 x y ∧ Go.bits .or .u64 x y < 18446744073709551616 := by
  rw [Go.u64_or x y x0 (by omega) y0 (by omega)]
  obtain ⟨X, rfl⟩ := Int.eq_ofNat_of_zero_le x0
  obtain ⟨Y, rfl⟩ := Int.eq_ofNat_of_zero_le y0
  have hx : X < 2 ^ 64 := by omega
  have hy : Y < 2 ^ 64 := by omega
  have h := Nat.or_lt_two_pow hx hy
  simp only [Int.toNat_natCast]
  have z : X ||| Y = 0 ↔ X = 0 ∧ Y = 0 := Nat.or_eq_zero_iff
  refine ⟨?_, by omega, by omega⟩
  constructor
  · intro e
    have := z.mp (by omega)
    omega
  · intro e
    have := z.mpr (by omega)
    omega
theorem Held_f {n : Bool} {a0 a1 a2 a3 : Int} (h : Bn.ok a0 a1 a2 a3) (k : Nat) (hk : 1 ≤ k) : carouselref1_Held.f k n a0 a1 a2 a3 = some (Fx.clamp (Bn.nv n a0 a1 a2 a3)) := by
  obtain ⟨k, rfl⟩ : ∃ m, k = m + 1 := ⟨k - 1, by omega⟩
  unfold Bn.ok at h
  have o1 := or_zero (x := a1) (y := a2) (by omega) (by omega) (by omega) (by omega)
  have o2 := or_zero o1.2.1 o1.2.2 (y := a3) (by omega) (by omega)
  unfold carouselref1_Held.f Bn.nv Bn.bv Fx.clamp
  by_cases c : Go.bits .or .u64 (Go.bits .or .u64 a1 a2) a3 = 0
  · rw [if_pos c]
    have := o2.1.mp c
    have := o1.1.mp this.1
    clear o1 o2 c
    by_cases d : a0 ≥ 9223372036854775808
    · rw [decide_eq_true d]
      simp only [carouselref1_Held.j0, if_true]
      split <;> (congr 1; omega)
    · rw [decide_eq_false d]
      simp only [carouselref1_Held.j0, Bool.false_eq_true, if_false]
      split <;> (congr 1; unfold wrap64; omega)
  · rw [if_neg c]
    have : ¬ (a1 = 0 ∧ a2 = 0 ∧ a3 = 0) := fun e => c (o2.1.mpr ⟨o1.1.mpr ⟨e.1, e.2.1⟩, e.2.2⟩)
    clear o1 o2 c
    simp only [carouselref1_Held.j0, if_true]
    split <;> (congr 1; omega)
theorem Times_f (a b : Int) (a0 : -9223372036854775808 ≤ a) (a1 : a ≤ 9223372036854775807) (b0 : -9223372036854775808 ≤ b) (b1 : b ≤ 9223372036854775807) :
    ∃ q0 q1 q2 q3, carouselref1_Times.f a b = some ((decide (a < 0)) != (decide (b < 0)), q0, q1, q2, q3) ∧ Bn.ok q0 q1 q2 q3 ∧ Bn.bv q0 q1 q2 q3 ≤ 85070591730234615865843651857942052864 ∧ Bn.nv ((decide (a < 0)) != (decide (b < 0))) q0 q1 q2 q3 = a * b := by
  unfold carouselref1_Times.f
  rw [rsize_f a a0 a1, rsize_f b b0 b1]
  simp only [Option.bind_some]
  have hab : (if a < 0 then -a else a) * (if b < 0 then -b else b) = if ((decide (a < 0)) != (decide (b < 0))) = true then -(a * b) else a * b := by
    by_cases c : a < 0 <;> by_cases d : b < 0 <;> simp [c, d, Int.neg_mul, Int.mul_neg]
  have hx : 0 ≤ (if a < 0 then -a else a) ∧ (if a < 0 then -a else a) ≤ 9223372036854775808 := by split <;> omega
  have hy : 0 ≤ (if b < 0 then -b else b) ∧ (if b < 0 then -b else b) ≤ 9223372036854775808 := by split <;> omega
  generalize (if a < 0 then -a else a) = x at *
  generalize (if b < 0 then -b else b) = y at *
  rw [and32 x hx.1 (by omega), and32 y hy.1 (by omega)]
  have es := split_mul (x % 4294967296) (x / 4294967296) (y % 4294967296) (y / 4294967296)
  rw [show x / 4294967296 * 4294967296 + x % 4294967296 = x by omega, show y / 4294967296 * 4294967296 + y % 4294967296 = y by omega] at es
  have z0 : 0 ≤ x % 4294967296 ∧ x % 4294967296 ≤ 4294967295 := by omega
  have z1 : 0 ≤ x / 4294967296 ∧ x / 4294967296 ≤ 2147483648 := by omega
  have z2 : 0 ≤ y % 4294967296 ∧ y % 4294967296 ≤ 4294967295 := by omega
  have z3 : 0 ≤ y / 4294967296 ∧ y / 4294967296 ≤ 2147483648 := by omega
  have p00 := mul_le z0.1 z0.2 z2.1 z2.2
  have p01 := mul_le z0.1 z0.2 z3.1 z3.2
  have p10 := mul_le z1.1 z1.2 z2.1 z2.2
  have p11 := mul_le z1.1 z1.2 z3.1 z3.2
  have hxy := mul_le hx.1 hx.2 hy.1 hy.2
  generalize x * y = P at *
  generalize x % 4294967296 * (y % 4294967296) = A at *
  generalize x % 4294967296 * (y / 4294967296) = B at *
  generalize x / 4294967296 * (y % 4294967296) = C at *
  generalize x / 4294967296 * (y / 4294967296) = D at *
  simp only [u64w]
  rw [Int.emod_eq_of_lt p00.1 (by omega), Int.emod_eq_of_lt p01.1 (by omega), Int.emod_eq_of_lt p10.1 (by omega), Int.emod_eq_of_lt p11.1 (by omega)]
  obtain ⟨r0, r1, r2, r3, e1, o1, v1⟩ := plus_f (a0 := A) (a1 := D) (a2 := 0) (a3 := 0) (b0 := B * 4294967296 % 18446744073709551616) (b1 := B / 4294967296) (b2 := 0) (b3 := 0) (by unfold Bn.ok; omega) (by unfold Bn.ok; omega)
  rw [e1]
  simp only [Option.bind_some]
  obtain ⟨s0, s1, s2, s3, e2, o2, v2⟩ := plus_f (a0 := r0) (a1 := r1) (a2 := r2) (a3 := r3) (b0 := C * 4294967296 % 18446744073709551616) (b1 := C / 4294967296) (b2 := 0) (b3 := 0) o1 (by unfold Bn.ok; omega)
  rw [e2]
  simp only [Option.bind_some]
  have V : Bn.bv s0 s1 s2 s3 = P := by
    rw [v2, v1]
    unfold Bn.bv
    omega
  refine ⟨s0, s1, s2, s3, rfl, o2, by omega, ?_⟩
  unfold Bn.nv
  rw [V]
  split at hab <;> split <;> first | omega | contradiction
theorem lowbits_p (y : Int) (d : Nat) : y % 2 ^ (d + 1) = y % 2 ^ d + 2 ^ d * (y / 2 ^ d % 2) := by
  have p : (0 : Int) < 2 ^ d := Int.pow_pos (by decide)
  have e1 := Int.mul_ediv_add_emod y (2 ^ d)
  have e2 := Int.mul_ediv_add_emod (y / 2 ^ d) 2
  have m0 := Int.emod_nonneg y (show (2 : Int) ^ d ≠ 0 by omega)
  have m1 := Int.emod_lt_of_pos y p
  have e3 : y = (y % 2 ^ d + 2 ^ d * (y / 2 ^ d % 2)) + 2 ^ (d + 1) * (y / 2 ^ d / 2) := by
    rw [Int.pow_succ, Int.mul_assoc, Int.add_assoc, ← Int.mul_add, Int.add_comm (y / 2 ^ d % 2), e2]
    omega
  have hb : y / 2 ^ d % 2 = 0 ∨ y / 2 ^ d % 2 = 1 := by omega
  conv => lhs; rw [e3]
  rw [Int.add_mul_emod_self_left]
  refine Int.emod_eq_of_lt ?_ ?_
  · rcases hb with h | h <;> rw [h] <;> omega
  · rw [Int.pow_succ]
    rcases hb with h | h <;> rw [h] <;> omega
theorem words_ok (x : Int) : Bn.ok (w0_ x) (w1_ x) (w2_ x) (w3_ x) := by unfold Bn.ok w0_ w1_ w2_ w3_; omega
theorem words_bv (x : Int) (h0 : 0 ≤ x) (h1 : x < 115792089237316195423570985008687907853269984665640564039457584007913129639936) : Bn.bv (w0_ x) (w1_ x) (w2_ x) (w3_ x) = x := by unfold Bn.bv w0_ w1_ w2_ w3_; omega
theorem Halved_f {n : Bool} {a0 a1 a2 a3 : Int} (h : Bn.ok a0 a1 a2 a3) (m : Nat) (hm : m < 256) :
    ∃ r0 r1 r2 r3, carouselref1_Halved.f n a0 a1 a2 a3 m = some (n, r0, r1, r2, r3) ∧ Bn.ok r0 r1 r2 r3 ∧ Bn.bv r0 r1 r2 r3 = Fx.rhe (Bn.bv a0 a1 a2 a3) (2 ^ m) := by
  have V := Bn.bv_range h
  have eV : bv_ a0 a1 a2 a3 = Bn.bv a0 a1 a2 a3 := rfl
  unfold carouselref1_Halved.f
  rw [if_pos (c := ok_ a0 a1 a2 a3 ∧ _) ⟨h, by omega, by omega⟩, eV]
  generalize Bn.bv a0 a1 a2 a3 = v at *
  have pm : (0 : Int) < 2 ^ m := Int.pow_pos (by decide)
  have tot : (2 : Int) ^ (256 - m) * 2 ^ m = 115792089237316195423570985008687907853269984665640564039457584007913129639936 := by
    rw [← Int.pow_add, show 256 - m + m = 256 by omega]; rfl
  have q0 : 0 ≤ v / 2 ^ m := Int.ediv_nonneg V.1 (by omega)
  have q1 : v / 2 ^ m < 2 ^ (256 - m) := by rw [Int.ediv_lt_iff_lt_mul pm, tot]; exact V.2
  have q2 : v / 2 ^ m ≤ v := Int.ediv_le_self _ V.1
  have eX : v / 2 ^ ((m : Int)).toNat % 2 ^ (256 - (m : Int)).toNat = v / 2 ^ m := by
    rw [show ((m : Int)).toNat = m from rfl, show (256 - (m : Int)).toNat = 256 - m by omega, Int.emod_eq_of_lt q0 q1]
  rw [eX]
  by_cases z : (m : Int) = 0
  · rw [if_pos z]
    have z' : m = 0 := by omega
    subst z'
    refine ⟨_, _, _, _, rfl, words_ok _, ?_⟩
    rw [words_bv _ q0 (by omega)]
    simp [Fx.rhe]
  · rw [if_neg z]
    obtain ⟨d, rfl⟩ : ∃ d, m = d + 1 := ⟨m - 1, by omega⟩
    have hd : (((d + 1 : Nat) : Int) - 1).toNat = d := by omega
    have pd : (0 : Int) < 2 ^ d := Int.pow_pos (by decide)
    have lb := lowbits_p v d
    have n0 := Int.emod_nonneg v (show (2 : Int) ^ d ≠ 0 by omega)
    have n1 := Int.emod_lt_of_pos v pd
    have e2 : (2 : Int) ^ (d + 1) = 2 ^ d * 2 := Int.pow_succ ..
    have q3 : 2 * (v / 2 ^ (d + 1)) ≤ v := by
      have := Int.mul_ediv_add_emod v (2 ^ (d + 1))
      have m0 := Int.emod_nonneg v (show (2 : Int) ^ (d + 1) ≠ 0 by omega)
      have : 2 * (v / 2 ^ (d + 1)) ≤ 2 ^ (d + 1) * (v / 2 ^ (d + 1)) := Int.mul_le_mul_of_nonneg_right (by omega) q0
      omega
    by_cases b : bitOf_ v (((d + 1 : Nat) : Int) - 1) = 0
    · rw [if_pos b]
      refine ⟨_, _, _, _, rfl, words_ok _, ?_⟩
      rw [words_bv _ q0 (by omega)]
      unfold bitOf_ at b
      rw [hd] at b
      rw [b, Int.mul_zero, Int.add_zero] at lb
      unfold Fx.rhe
      rw [lb, if_neg (by omega)]
      omega
    · rw [if_neg b]
      unfold bitOf_ at b
      rw [hd] at b
      rw [show v / 2 ^ d % 2 = 1 by omega, Int.mul_one] at lb
      have w0 : w0_ (v / 2 ^ (d + 1)) % 2 = v / 2 ^ (d + 1) % 2 := by unfold w0_; omega
      by_cases mo : more_ v (v / 2 ^ (d + 1)) (((d + 1 : Nat) : Int) - 1) = true
      · rw [if_pos mo]
        obtain ⟨r0, r1, r2, r3, e, ho, hv⟩ := plus_f (words_ok (v / 2 ^ (d + 1))) (show Bn.ok 1 0 0 0 by unfold Bn.ok; omega)
        rw [e]
        refine ⟨r0, r1, r2, r3, rfl, ho, ?_⟩
        rw [hv, words_bv _ q0 (by omega), Bn.bv_small, Int.emod_eq_of_lt (by omega) (by omega)]
        unfold more_ at mo
        rw [hd, w0] at mo
        simp at mo
        unfold Fx.rhe
        rw [lb]
        generalize v % 2 ^ d = l at *
        generalize v / 2 ^ (d + 1) = q at *
        rw [if_pos (by omega)]
      · rw [if_neg mo]
        refine ⟨_, _, _, _, rfl, words_ok _, ?_⟩
        rw [words_bv _ q0 (by omega)]
        unfold more_ at mo
        rw [hd, w0] at mo
        simp at mo
        unfold Fx.rhe
        rw [lb]
        generalize v % 2 ^ d = l at *
        generalize v / 2 ^ (d + 1) = q at *
        rw [if_neg (by omega)]
        omega
theorem ab_mul (a b : Int) : Fx.ab a * Fx.ab b = if ((decide (a < 0)) != (decide (b < 0))) = true then -(a * b) else a * b := by
  unfold Fx.ab
  by_cases c : a < 0 <;> by_cases d : b < 0 <;> simp [c, d, Int.neg_mul, Int.mul_neg]
theorem rMul_f (a b : Int) (ha : Fx.ok a) (hb : Fx.ok b) (k : Nat) (hk : 1 ≤ k) : carouselref1_Mul.f k a b = some (Fx.mul a b) := by
  unfold carouselref1_Mul.f
  obtain ⟨q0, q1, q2, q3, e, o, -, v⟩ := Times_f a b ha.1 ha.2 hb.1 hb.2
  rw [e]
  simp only [Option.bind_some]
  obtain ⟨r0, r1, r2, r3, e2, o2, v2⟩ := Halved_f (n := (decide (a < 0)) != (decide (b < 0))) o 32 (by omega)
  rw [show ((32 : Nat) : Int) = 32 from rfl] at e2
  rw [e2]
  simp only [Option.bind_some]
  rw [Held_f o2 k hk]
  simp only [Option.bind_some]
  have hbv : Bn.bv q0 q1 q2 q3 = Fx.ab a * Fx.ab b := by
    rw [ab_mul]
    unfold Bn.nv at v
    split at v <;> rename_i hc <;> simp only [hc, if_true, Bool.false_eq_true, if_false] <;> omega
  unfold Fx.mul Bn.nv Fx.sg Fx.neq
  rw [v2, hbv]
  rfl
theorem from_nv (a : Int) : Bn.nv (decide (a < 0)) (if a < 0 then -a else a) 0 0 0 = a := by
  unfold Bn.nv
  rw [Bn.bv_small]
  by_cases c : a < 0 <;> simp [c]
theorem from_ok (a : Int) (h : Fx.ok a) : Bn.ok (if a < 0 then -a else a) 0 0 0 := by
  unfold Fx.ok at h; unfold Bn.ok; split <;> omega
theorem Shifted_f {n : Bool} {a0 a1 a2 a3 : Int} (h : Bn.ok a0 a1 a2 a3) (m : Nat) (hm : m < 256) (hb : Bn.bv a0 a1 a2 a3 * 2 ^ m < 115792089237316195423570985008687907853269984665640564039457584007913129639936) :
    ∃ r0 r1 r2 r3, carouselref1_Shifted.f n a0 a1 a2 a3 m = some (n, r0, r1, r2, r3) ∧ Bn.ok r0 r1 r2 r3 ∧ Bn.bv r0 r1 r2 r3 = Bn.bv a0 a1 a2 a3 * 2 ^ m := by
  have V := Bn.bv_range h
  have eV : bv_ a0 a1 a2 a3 = Bn.bv a0 a1 a2 a3 := rfl
  unfold carouselref1_Shifted.f
  rw [if_pos (c := ok_ a0 a1 a2 a3 ∧ _) ⟨h, by omega, by omega⟩, eV]
  generalize Bn.bv a0 a1 a2 a3 = v at *
  have pm : (0 : Int) < 2 ^ m := Int.pow_pos (by decide)
  have n0 : 0 ≤ v * 2 ^ m := Int.mul_nonneg V.1 (by omega)
  rw [show ((m : Int)).toNat = m from rfl, Int.emod_eq_of_lt n0 (by rw [show (2 : Int) ^ 256 = 115792089237316195423570985008687907853269984665640564039457584007913129639936 from rfl]; exact hb)]
  exact ⟨_, _, _, _, rfl, words_ok _, words_bv _ n0 hb⟩
theorem w0_and (q : Int) : (Go.bits .and .u64 (w0_ q) 1 = 1) ↔ q % 2 = 1 := by
  rw [and1 _ (by unfold w0_; omega) (by unfold w0_; omega)]
  unfold w0_; omega
theorem Divided_f {n : Bool} {a0 a1 a2 a3 : Int} (h : Bn.ok a0 a1 a2 a3) (m : Int) (hm : Fx.ok m) (hz : m ≠ 0) :
    ∃ r0 r1 r2 r3, carouselref1_Divided.f n a0 a1 a2 a3 m = some ((!(n == decide (m < 0))), r0, r1, r2, r3) ∧ Bn.ok r0 r1 r2 r3 ∧ Bn.bv r0 r1 r2 r3 = Fx.rhe (Bn.bv a0 a1 a2 a3) (Fx.ab m) := by
  have V := Bn.bv_range h
  have eV : bv_ a0 a1 a2 a3 = Bn.bv a0 a1 a2 a3 := rfl
  unfold carouselref1_Divided.f
  rw [rsize_f m hm.1 hm.2]
  simp only [Option.bind_some]
  rw [show (if m < 0 then -m else m) = Fx.ab m from rfl]
  have d0 : 0 < Fx.ab m ∧ Fx.ab m ≤ 9223372036854775808 := by unfold Fx.ab Fx.ok at *; split <;> omega
  rw [if_pos (c := ok_ a0 a1 a2 a3 ∧ _) ⟨h, d0.1, d0.2⟩, eV]
  generalize Bn.bv a0 a1 a2 a3 = v at *
  generalize Fx.ab m = D at *
  have r0 := Int.emod_nonneg v (show D ≠ 0 by omega)
  have r1 := Int.emod_lt_of_pos v d0.1
  have q0 := Int.ediv_nonneg V.1 (Int.le_of_lt d0.1)
  have q1 := Int.ediv_le_self D V.1
  have ew : IntKind.u64.wrap (D - v % D) = D - v % D := by rw [u64w]; omega
  rw [ew]
  have ww := w0_and (v / D)
  have qs : 2 ≤ D → 2 * (v / D) ≤ v := by
    intro h2
    have := Int.mul_ediv_add_emod v D
    have : 2 * (v / D) ≤ D * (v / D) := Int.mul_le_mul_of_nonneg_right h2 q0
    omega
  have up : (2 * (v % D) > D ∨ (2 * (v % D) = D ∧ v / D % 2 = 1)) → ∃ r0 r1 r2 r3, ((carouselref1_plus.f (w0_ (v / D)) (w1_ (v / D)) (w2_ (v / D)) (w3_ (v / D)) 1 0 0 0).bind fun p => some ((!(n == decide (m < 0))), p.1, p.2.1, p.2.2.1, p.2.2.2)) = some ((!(n == decide (m < 0))), r0, r1, r2, r3) ∧ Bn.ok r0 r1 r2 r3 ∧ Bn.bv r0 r1 r2 r3 = Fx.rhe v D := by
    intro hh
    obtain ⟨r0, r1, r2, r3, e, ho, hv⟩ := plus_f (words_ok (v / D)) (show Bn.ok 1 0 0 0 by unfold Bn.ok; omega)
    rw [e]
    refine ⟨r0, r1, r2, r3, rfl, ho, ?_⟩
    have := qs (by omega)
    rw [hv, words_bv _ q0 (by omega), Bn.bv_small, Int.emod_eq_of_lt (by omega) (by omega)]
    unfold Fx.rhe
    rw [if_pos hh]
  have down : ¬ (2 * (v % D) > D ∨ (2 * (v % D) = D ∧ v / D % 2 = 1)) → ∃ r0 r1 r2 r3, some ((!(n == decide (m < 0))), w0_ (v / D), w1_ (v / D), w2_ (v / D), w3_ (v / D)) = some ((!(n == decide (m < 0))), r0, r1, r2, r3) ∧ Bn.ok r0 r1 r2 r3 ∧ Bn.bv r0 r1 r2 r3 = Fx.rhe v D := by
    intro hh
    refine ⟨_, _, _, _, rfl, words_ok _, ?_⟩
    rw [words_bv _ q0 (by omega)]
    unfold Fx.rhe
    rw [if_neg hh, Int.add_zero]
  by_cases c1 : D - v % D < v % D
  · rw [if_pos c1]
    exact up (by omega)
  · rw [if_neg c1]
    by_cases c2 : v % D = D - v % D
    · rw [if_pos c2]
      by_cases c3 : Go.bits .and .u64 (w0_ (v / D)) 1 = 1
      · rw [if_pos c3]
        exact up (by have := ww.1 c3; omega)
      · rw [if_neg c3]
        exact down (by intro hh; exact c3 (ww.2 (by omega)))
    · rw [if_neg c2]
      exact down (by omega)
theorem neq_bool (a b : Int) : (!(decide (a < 0) == decide (b < 0))) = Fx.neq a b := by unfold Fx.neq; rfl
theorem from_bv (a : Int) : Bn.bv (if a < 0 then -a else a) 0 0 0 = Fx.ab a := by rw [Bn.bv_small]; rfl
theorem rDiv_f (a b : Int) (ha : Fx.ok a) (hb : Fx.ok b) (k : Nat) (hk : 1 ≤ k) : carouselref1_Div.f k a b = some (Fx.div a b) := by
  unfold carouselref1_Div.f Fx.div
  by_cases z : b = 0
  · rw [if_pos z, if_pos z]
    unfold carouselref1_byNought.f
    by_cases c : a = 0
    · subst c; simp
    · by_cases d : a < 0
      · rw [if_neg (by simp [c]), if_pos (by simp [d]), if_neg (by omega), if_pos d]; rfl
      · rw [if_neg (by simp [c]), if_neg (by simp [d]), if_pos (by omega)]; rfl
  · rw [if_neg z, if_neg z, bFrom_f a ha.1 ha.2]
    simp only [Option.bind_some]
    have sz := Fx.ab_le ha
    have sn := Fx.ab_nonneg a
    obtain ⟨s0, s1, s2, s3, e, o, v⟩ := Shifted_f (n := decide (a < 0)) (from_ok a ha) 32 (by omega) (by rw [from_bv]; omega)
    rw [show ((32 : Nat) : Int) = 32 from rfl] at e
    rw [e]
    simp only [Option.bind_some]
    obtain ⟨t0, t1, t2, t3, e2, o2, v2⟩ := Divided_f (n := decide (a < 0)) o b hb z
    rw [e2]
    simp only [Option.bind_some]
    rw [Held_f o2 k hk]
    simp only [Option.bind_some]
    rw [neq_bool]
    unfold Bn.nv Fx.sg
    rw [v2, v, from_bv]
    rfl
theorem rAdd_f (a b : Int) (ha : Fx.ok a) (hb : Fx.ok b) (k : Nat) (hk : 1 ≤ k) : carouselref1_Add.f k a b = some (Fx.add a b) := by
  unfold carouselref1_Add.f
  rw [bFrom_f a ha.1 ha.2, bFrom_f b hb.1 hb.2]
  simp only [Option.bind_some]
  have s1 := Fx.ab_le ha
  have s2 := Fx.ab_le hb
  obtain ⟨s, r0, r1, r2, r3, e, o, v⟩ := Plus_f (n := decide (a < 0)) (m := decide (b < 0)) (from_ok a ha) (from_ok b hb) (by rw [from_bv, from_bv]; omega)
  rw [e]
  simp only [Option.bind_some]
  rw [Held_f o k hk]
  simp only [Option.bind_some]
  rw [v, from_nv, from_nv]
  rfl
theorem turned_nv (n : Bool) (a0 a1 a2 a3 : Int) : Bn.nv (!n) a0 a1 a2 a3 = -Bn.nv n a0 a1 a2 a3 := by
  unfold Bn.nv
  cases n <;> simp
theorem rSub_f (a b : Int) (ha : Fx.ok a) (hb : Fx.ok b) (k : Nat) (hk : 1 ≤ k) : carouselref1_Sub.f k a b = some (Fx.sub a b) := by
  unfold carouselref1_Sub.f carouselref1_Turned.f
  rw [bFrom_f a ha.1 ha.2, bFrom_f b hb.1 hb.2]
  simp only [Option.bind_some]
  have s1 := Fx.ab_le ha
  have s2 := Fx.ab_le hb
  obtain ⟨s, r0, r1, r2, r3, e, o, v⟩ := Plus_f (n := decide (a < 0)) (m := !decide (b < 0)) (from_ok a ha) (from_ok b hb) (by rw [from_bv, from_bv]; omega)
  rw [e]
  simp only [Option.bind_some]
  rw [Held_f o k hk]
  simp only [Option.bind_some]
  rw [v, turned_nv, from_nv, from_nv]
  rfl
theorem rNeg_f (a : Int) (ha : Fx.ok a) (k : Nat) (hk : 1 ≤ k) : carouselref1_Neg.f k a = some (Fx.sub 0 a) := by
  unfold carouselref1_Neg.f
  rw [rSub_f 0 a (by unfold Fx.ok; omega) ha k hk]
  rfl
theorem awake1 : carousellaw1_awake.f 1000 = some true := by decide +kernel
theorem fneg_f (x : Int) (h : Fx.ok x) : fix_Neg.f x = some (Fx.sub 0 x) := by
  unfold fix_Neg.f Fx.sub Fx.clamp
  unfold Fx.ok at h
  by_cases c : x = -9223372036854775808
  · rw [if_pos c, c]; rfl
  · rw [if_neg c]
    congr 1
    unfold wrap64; omega
theorem Fx.mul_neg {a c : Int} (hc : c < 0) : Fx.mul a c = Fx.clamp (-(if a < 0 then -(Fx.rhe (-a * -c) 4294967296) else Fx.rhe (a * -c) 4294967296)) := by
  unfold Fx.mul Fx.neq Fx.ab Fx.sg
  rw [if_pos hc, decide_eq_true hc]
  by_cases k : a < 0
  · rw [if_pos k, if_pos k, decide_eq_true k]; simp
  · rw [if_neg k, if_neg k, decide_eq_false k]; rfl
theorem FReckons_all (a b : Int) (ha : Fx.ok a) (hb : Fx.ok b) : ∃ k, carousellaw1_FixReckons.f k a b = some true := by
  refine ⟨1000, ?_⟩
  have hn : fix_Neg.f a = some (Fx.sub 0 a) := fneg_f a ha
  unfold carousellaw1_FixReckons.f
  rw [awake1, Option.bind_some, if_pos rfl, fadd_f a b ha hb, Option.bind_some, rAdd_f a b ha hb _ (by omega), Option.bind_some, if_pos rfl, fsub_f a b ha hb, Option.bind_some, rSub_f a b ha hb _ (by omega), Option.bind_some, if_pos rfl,
    fmul_f a b ha hb _ (by omega), Option.bind_some, rMul_f a b ha hb _ (by omega), Option.bind_some, if_pos rfl, fdiv_f a b ha hb _ (by omega), Option.bind_some, rDiv_f a b ha hb _ (by omega), Option.bind_some, if_pos rfl, hn, Option.bind_some, rNeg_f a ha _ (by omega), Option.bind_some, if_pos rfl]
  have e : fix_Cmp.f a b = carouselref1_Cmp.f a b := rfl
  rw [e]
  unfold carouselref1_Cmp.f
  split
  · rfl
  · split <;> rfl
theorem FixReckons : carousellaw1_FixReckons.Pure := by
  intro a b ha hb
  exact FReckons_all a b (wf_i64 ha) (wf_i64 hb)
end Go.Proofs.YtjiloachlemlcaaDoor.Pure
