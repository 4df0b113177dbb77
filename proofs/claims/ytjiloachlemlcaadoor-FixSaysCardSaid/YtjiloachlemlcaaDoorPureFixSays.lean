/- The plain law behind FixSays: what the functions compute answers as the statement says, for every input. No condition. -/
import Derived.Test.YtjiloachlemlcaaDoorPFixSaysx9
import Derived.Laws.BitsAllLaws
import Derived.Test.YtjiloachlemlcaaDoorFixMath
import Derived.Test.YtjiloachlemlcaaDoorBigMath
import Derived.Test.YtjiloachlemlcaaDoorWideMath
namespace Go.Proofs.YtjiloachlemlcaaDoor.Pure
open Go.RowKit Go.Proofs.YtjiloachlemlcaaDoor.PFixSays Go.Proofs.YtjiloachlemlcaaDoorW.PrintWords Go.Proofs.YtjiloachlemlcaaDoorW.PrintLast
set_option linter.unusedVariables false
set_option linter.unusedSimpArgs false
theorem wf_i64 {x : Int} (h : (Lit.int .i64 x).wf = true) : -9223372036854775808 ≤ x ∧ x ≤ 9223372036854775807 := by
  simp only [Lit.wf, Bool.and_eq_true, decide_eq_true_eq] at h
  have h1 : IntKind.i64.min = -9223372036854775808 := rfl
  have h2 : IntKind.i64.max = 9223372036854775807 := rfl
  omega
theorem u64w (n : Int) : IntKind.u64.wrap n = n % 18446744073709551616 := by simp [IntKind.wrap, IntKind.bits, IntKind.signed]
theorem and32 (x : Int) (h0 : 0 ≤ x) (h1 : x ≤ 18446744073709551615) : Go.bits .and .u64 x 4294967295 = x % 4294967296 := by
  rw [Go.u64_and x 4294967295 h0 (by omega) (by omega) (by omega)]
  have : (4294967295 : Int).toNat = 2 ^ 32 - 1 := rfl
  rw [this, Nat.and_two_pow_sub_one_eq_mod]
  omega
theorem and1 (x : Int) (h0 : 0 ≤ x) (h1 : x ≤ 18446744073709551615) : Go.bits .and .u64 x 1 = x % 2 := by
  rw [Go.u64_and x 1 h0 (by omega) (by omega) (by omega)]
  have : (1 : Int).toNat = 2 ^ 1 - 1 := rfl
  rw [this, Nat.and_two_pow_sub_one_eq_mod]
  omega
theorem mul_le {a b A B : Int} (h0 : 0 ≤ a) (h1 : a ≤ A) (h2 : 0 ≤ b) (h3 : b ≤ B) : 0 ≤ a * b ∧ a * b ≤ A * B :=
  ⟨Int.mul_nonneg h0 h2, Int.mul_le_mul h1 h3 h2 (by omega)⟩
theorem split_mul (x0 x1 y0 y1 : Int) : (x1 * 4294967296 + x0) * (y1 * 4294967296 + y0) = (x1 * y1) * 18446744073709551616 + ((x1 * y0) + (x0 * y1)) * 4294967296 + x0 * y0 := by grind
theorem Mul64_f (a b : Int) (a0 : 0 ≤ a) (a1 : a ≤ 18446744073709551615) (b0 : 0 ≤ b) (b1 : b ≤ 18446744073709551615) : bits_Mul64.f a b = some (a * b / 18446744073709551616, a * b % 18446744073709551616) := by
  unfold bits_Mul64.f
  rw [and32 a a0 a1, and32 b b0 b1]
  simp only [u64w]
  have ea : a = (a / 4294967296) * 4294967296 + a % 4294967296 := by omega
  have eb : b = (b / 4294967296) * 4294967296 + b % 4294967296 := by omega
  have es := split_mul (a % 4294967296) (a / 4294967296) (b % 4294967296) (b / 4294967296)
  rw [← ea, ← eb] at es
  have h1 : 0 ≤ a / 4294967296 ∧ a / 4294967296 ≤ 4294967295 := by omega
  have h2 : 0 ≤ a % 4294967296 ∧ a % 4294967296 ≤ 4294967295 := by omega
  have h3 : 0 ≤ b / 4294967296 ∧ b / 4294967296 ≤ 4294967295 := by omega
  have h4 : 0 ≤ b % 4294967296 ∧ b % 4294967296 ≤ 4294967295 := by omega
  have p00 := mul_le h2.1 h2.2 h4.1 h4.2
  have p10 := mul_le h1.1 h1.2 h4.1 h4.2
  have p01 := mul_le h2.1 h2.2 h3.1 h3.2
  have p11 := mul_le h1.1 h1.2 h3.1 h3.2
  clear ea eb a0 a1 b0 b1
  generalize a / 4294967296 * (b / 4294967296) = P11 at *
  generalize a / 4294967296 * (b % 4294967296) = P10 at *
  generalize a % 4294967296 * (b / 4294967296) = P01 at *
  generalize a % 4294967296 * (b % 4294967296) = P00 at *
  generalize a * b = S at *
  clear h1 h2 h3 h4
  simp only [Int.reduceMul] at p00 p10 p01 p11
  have r1 : (P10 % 18446744073709551616 + P00 % 18446744073709551616 / 4294967296) % 18446744073709551616 = P10 + P00 / 4294967296 := by omega
  rw [r1, and32 _ (by omega) (by omega)]
  congr 1
  rw [Prod.mk.injEq]
  constructor
  · omega
  · rfl
theorem pow_split (n : Nat) (h : n ≤ 64) : (2 : Int) ^ n * 2 ^ (64 - n) = 18446744073709551616 := by
  rw [← Int.pow_add, show n + (64 - n) = 64 by omega]; rfl
theorem pow_pos (n : Nat) : (1 : Int) ≤ 2 ^ n := by
  have : (0 : Int) < 2 ^ n := Int.pow_pos (by decide)
  omega
/-- a word that is shifted up beside one that fills what it leaves -/
theorem or_fill (c d : Int) (n : Nat) (hn : n ≤ 64) (c0 : 0 ≤ c) (c1 : c < 2 ^ n) (d0 : 0 ≤ d) (d1 : d < 2 ^ (64 - n)) : Go.bits .or .u64 (c * 2 ^ (64 - n)) d = c * 2 ^ (64 - n) + d := by
  have hp := pow_split n hn
  have p1 := pow_pos n
  have p2 := pow_pos (64 - n)
  have e1 : (c + 1) * 2 ^ (64 - n) ≤ 2 ^ n * 2 ^ (64 - n) := Int.mul_le_mul_of_nonneg_right (by omega) (by omega)
  rw [Int.add_mul, Int.one_mul, hp] at e1
  have e0 : 0 ≤ c * 2 ^ (64 - n) := Int.mul_nonneg c0 (by omega)
  rw [Go.u64_or _ _ e0 (by omega) d0 (by omega)]
  obtain ⟨C, rfl⟩ := Int.eq_ofNat_of_zero_le c0
  obtain ⟨D, rfl⟩ := Int.eq_ofNat_of_zero_le d0
  have hD : D < 2 ^ (64 - n) := by
    have : ((2 ^ (64 - n) : Nat) : Int) = 2 ^ (64 - n) := by simp
    omega
  have hC : ((C : Int) * 2 ^ (64 - n)).toNat = C * 2 ^ (64 - n) := by
    have : (C : Int) * 2 ^ (64 - n) = ((C * 2 ^ (64 - n) : Nat) : Int) := by simp
    rw [this]; rfl
  rw [hC, Int.toNat_natCast, ← Nat.shiftLeft_eq, ← Nat.shiftLeft_add_eq_or_of_lt hD, Nat.shiftLeft_eq]
  simp
theorem wrap64_id {x : Int} (h1 : -9223372036854775808 ≤ x) (h2 : x ≤ 9223372036854775807) : wrap64 x = x := by
  unfold wrap64
  omega
theorem fsize_f (a : Int) (h : Fx.ok a) : fix_size.f a = some (Fx.ab a) := by
  unfold fix_size.f Fx.ab
  unfold Fx.ok at h
  split
  · rw [u64w, u64w]; congr 1; omega
  · rw [u64w]; congr 1; omega
theorem ps_eq (a b c : Int) : carouselref1_plus.s a b c = (a + b + c) % 18446744073709551616 := by
  unfold carouselref1_plus.s; rw [u64w, u64w]; omega
theorem pc_eq (a b c : Int) (a0 : 0 ≤ a) (a1 : a < 18446744073709551616) (b0 : 0 ≤ b) (b1 : b < 18446744073709551616) (c0 : 0 ≤ c) (c1 : c ≤ 1) : carouselref1_plus.c a b c = (a + b + c) / 18446744073709551616 := by
  unfold carouselref1_plus.c; rw [ps_eq, u64w]; split <;> (try split) <;> omega
theorem plus_f {a0 a1 a2 a3 b0 b1 b2 b3 : Int} (ha : Bn.ok a0 a1 a2 a3) (hb : Bn.ok b0 b1 b2 b3) : ∃ r0 r1 r2 r3, carouselref1_plus.f a0 a1 a2 a3 b0 b1 b2 b3 = some (r0, r1, r2, r3) ∧ Bn.ok r0 r1 r2 r3 ∧ Bn.bv r0 r1 r2 r3 = (Bn.bv a0 a1 a2 a3 + Bn.bv b0 b1 b2 b3) % 115792089237316195423570985008687907853269984665640564039457584007913129639936 := by
  refine ⟨_, _, _, _, rfl, ?_⟩
  unfold Bn.ok at ha hb
  simp only [ps_eq]
  have e1 := pc_eq a0 b0 0 (by omega) (by omega) (by omega) (by omega) (by omega) (by omega)
  generalize carouselref1_plus.c a0 b0 0 = c1 at *
  have e2 := pc_eq a1 b1 c1 (by omega) (by omega) (by omega) (by omega) (by omega) (by omega)
  generalize carouselref1_plus.c a1 b1 c1 = c2 at *
  have e3 := pc_eq a2 b2 c2 (by omega) (by omega) (by omega) (by omega) (by omega) (by omega)
  generalize carouselref1_plus.c a2 b2 c2 = c3 at *
  unfold Bn.ok Bn.bv
  omega
theorem rsize_f (a : Int) (h0 : -9223372036854775808 ≤ a) (h1 : a ≤ 9223372036854775807) : carouselref1_size.f a = some (if a < 0 then -a else a) := by
  unfold carouselref1_size.f
  split
  · rw [u64w, u64w]; congr 1; unfold wrap64; omega
  · rw [u64w]; congr 1; omega
theorem bFrom_f (a : Int) (h0 : -9223372036854775808 ≤ a) (h1 : a ≤ 9223372036854775807) : carouselref1_From.f a = some (decide (a < 0), if a < 0 then -a else a, 0, 0, 0) := by
  unfold carouselref1_From.f
  rw [rsize_f a h0 h1]; rfl
theorem or_zero {x y : Int} (x0 : 0 ≤ x) (x1 : x < 18446744073709551616) (y0 : 0 ≤ y) (y1 : y < 18446744073709551616) : (Go.bits .or .u64 x y = 0 ↔ x = 0 ∧ y = 0) ∧ 0 ≤ Go.bits .or .u64 x y ∧ Go.bits .or .u64 x y < 18446744073709551616 := by
  rw [Go.u64_or x y x0 (by omega) y0 (by omega)]
  obtain ⟨X, rfl⟩ := Int.eq_ofNat_of_zero_le x0
  obtain ⟨Y, rfl⟩ := Int.eq_ofNat_of_zero_le y0
  have hx : X < 2 ^ 64 := by omega
  have hy : Y < 2 ^ 64 := by omega
  have h := Nat.or_lt_two_pow hx hy
  simp only [Int.toNat_natCast]
  have z : X ||| Y = 0 ↔ X = 0 ∧ Y = 0 := Nat.or_eq_zero_iff
  refine ⟨?_, by omega, by omega⟩
  constructor
  · intro e
    have := z.mp (by omega)
    omega
  · intro e
    have := z.mpr (by omega)
    omega
theorem Held_f {n : Bool} {a0 a1 a2 a3 : Int} (h : Bn.ok a0 a1 a2 a3) (k : Nat) (hk : 1 ≤ k) : carouselref1_Held.f k n a0 a1 a2 a3 = some (Fx.clamp (Bn.nv n a0 a1 a2 a3)) := by
  obtain ⟨k, rfl⟩ : ∃ m, k = m + 1 := ⟨k - 1, by omega⟩
  unfold Bn.ok at h
  have o1 := or_zero (x := a1) (y := a2) (by omega) (by omega) (by omega) (by omega)
  have o2 := or_zero o1.2.1 o1.2.2 (y := a3) (by omega) (by omega)
  unfold carouselref1_Held.f Bn.nv Bn.bv Fx.clamp
  by_cases c : Go.bits .or .u64 (Go.bits .or .u64 a1 a2) a3 = 0
  · rw [if_pos c]
    have := o2.1.mp c
    have := o1.1.mp this.1
    clear o1 o2 c
    by_cases d : a0 ≥ 9223372036854775808
    · rw [decide_eq_true d]
      simp only [carouselref1_Held.j0, if_true]
      split <;> (congr 1; omega)
    · rw [decide_eq_false d]
      simp only [carouselref1_Held.j0, Bool.false_eq_true, if_false]
      split <;> (congr 1; unfold wrap64; omega)
  · rw [if_neg c]
    have : ¬ (a1 = 0 ∧ a2 = 0 ∧ a3 = 0) := fun e => c (o2.1.mpr ⟨o1.1.mpr ⟨e.1, e.2.1⟩, e.2.2⟩)
    clear o1 o2 c
    simp only [carouselref1_Held.j0, if_true]
    split <;> (congr 1; omega)
theorem Times_f (a b : Int) (a0 : -9223372036854775808 ≤ a) (a1 : a ≤ 9223372036854775807) (b0 : -9223372036854775808 ≤ b) (b1 : b ≤ 9223372036854775807) :
    ∃ q0 q1 q2 q3, carouselref1_Times.f a b = some ((decide (a < 0)) != (decide (b < 0)), q0, q1, q2, q3) ∧ Bn.ok q0 q1 q2 q3 ∧ Bn.bv q0 q1 q2 q3 ≤ 85070591730234615865843651857942052864 ∧ Bn.nv ((decide (a < 0)) != (decide (b < 0))) q0 q1 q2 q3 = a * b := by
  unfold carouselref1_Times.f
  rw [rsize_f a a0 a1, rsize_f b b0 b1]
  simp only [Option.bind_some]
  have hab : (if a < 0 then -a else a) * (if b < 0 then -b else b) = if ((decide (a < 0)) != (decide (b < 0))) = true then -(a * b) else a * b := by
    by_cases c : a < 0 <;> by_cases d : b < 0 <;> simp [c, d, Int.neg_mul, Int.mul_neg]
  have hx : 0 ≤ (if a < 0 then -a else a) ∧ (if a < 0 then -a else a) ≤ 9223372036854775808 := by split <;> omega
  have hy : 0 ≤ (if b < 0 then -b else b) ∧ (if b < 0 then -b else b) ≤ 9223372036854775808 := by split <;> omega
  generalize (if a < 0 then -a else a) = x at *
  generalize (if b < 0 then -b else b) = y at *
  rw [and32 x hx.1 (by omega), and32 y hy.1 (by omega)]
  have es := split_mul (x % 4294967296) (x / 4294967296) (y % 4294967296) (y / 4294967296)
  rw [show x / 4294967296 * 4294967296 + x % 4294967296 = x by omega, show y / 4294967296 * 4294967296 + y % 4294967296 = y by omega] at es
  have z0 : 0 ≤ x % 4294967296 ∧ x % 4294967296 ≤ 4294967295 := by omega
  have z1 : 0 ≤ x / 4294967296 ∧ x / 4294967296 ≤ 2147483648 := by omega
  have z2 : 0 ≤ y % 4294967296 ∧ y % 4294967296 ≤ 4294967295 := by omega
  have z3 : 0 ≤ y / 4294967296 ∧ y / 4294967296 ≤ 2147483648 := by omega
  have p00 := mul_le z0.1 z0.2 z2.1 z2.2
  have p01 := mul_le z0.1 z0.2 z3.1 z3.2
  have p10 := mul_le z1.1 z1.2 z2.1 z2.2
  have p11 := mul_le z1.1 z1.2 z3.1 z3.2
  have hxy := mul_le hx.1 hx.2 hy.1 hy.2
  generalize x * y = P at *
  generalize x % 4294967296 * (y % 4294967296) = A at *
  generalize x % 4294967296 * (y / 4294967296) = B at *
  generalize x / 4294967296 * (y % 4294967296) = C at *
  generalize x / 4294967296 * (y / 4294967296) = D at *
  simp only [u64w]
  rw [Int.emod_eq_of_lt p00.1 (by omega), Int.emod_eq_of_lt p01.1 (by omega), Int.emod_eq_of_lt p10.1 (by omega), Int.emod_eq_of_lt p11.1 (by omega)]
  obtain ⟨r0, r1, r2, r3, e1, o1, v1⟩ := plus_f (a0 := A) (a1 := D) (a2 := 0) (a3 := 0) (b0 := B * 4294967296 % 18446744073709551616) (b1 := B / 4294967296) (b2 := 0) (b3 := 0) (by unfold Bn.ok; omega) (by unfold Bn.ok; omega)
  rw [e1]
  simp only [Option.bind_some]
  obtain ⟨s0, s1, s2, s3, e2, o2, v2⟩ := plus_f (a0 := r0) (a1 := r1) (a2 := r2) (a3 := r3) (b0 := C * 4294967296 % 18446744073709551616) (b1 := C / 4294967296) (b2 := 0) (b3 := 0) o1 (by unfold Bn.ok; omega)
  rw [e2]
  simp only [Option.bind_some]
  have V : Bn.bv s0 s1 s2 s3 = P := by
    rw [v2, v1]
    unfold Bn.bv
    omega
  refine ⟨s0, s1, s2, s3, rfl, o2, by omega, ?_⟩
  unfold Bn.nv
  rw [V]
  split at hab <;> split <;> first | omega | contradiction
theorem words_ok (x : Int) : Bn.ok (w0_ x) (w1_ x) (w2_ x) (w3_ x) := by unfold Bn.ok w0_ w1_ w2_ w3_; omega
theorem words_bv (x : Int) (h0 : 0 ≤ x) (h1 : x < 115792089237316195423570985008687907853269984665640564039457584007913129639936) : Bn.bv (w0_ x) (w1_ x) (w2_ x) (w3_ x) = x := by unfold Bn.bv w0_ w1_ w2_ w3_; omega
theorem from_ok (a : Int) (h : Fx.ok a) : Bn.ok (if a < 0 then -a else a) 0 0 0 := by
  unfold Fx.ok at h; unfold Bn.ok; split <;> omega
theorem Shifted_f {n : Bool} {a0 a1 a2 a3 : Int} (h : Bn.ok a0 a1 a2 a3) (m : Nat) (hm : m < 256) (hb : Bn.bv a0 a1 a2 a3 * 2 ^ m < 115792089237316195423570985008687907853269984665640564039457584007913129639936) :
    ∃ r0 r1 r2 r3, carouselref1_Shifted.f n a0 a1 a2 a3 m = some (n, r0, r1, r2, r3) ∧ Bn.ok r0 r1 r2 r3 ∧ Bn.bv r0 r1 r2 r3 = Bn.bv a0 a1 a2 a3 * 2 ^ m := by
  have V := Bn.bv_range h
  have eV : bv_ a0 a1 a2 a3 = Bn.bv a0 a1 a2 a3 := rfl
  unfold carouselref1_Shifted.f
  rw [if_pos (c := ok_ a0 a1 a2 a3 ∧ _) ⟨h, by omega, by omega⟩, eV]
  generalize Bn.bv a0 a1 a2 a3 = v at *
  have pm : (0 : Int) < 2 ^ m := Int.pow_pos (by decide)
  have n0 : 0 ≤ v * 2 ^ m := Int.mul_nonneg V.1 (by omega)
  rw [show ((m : Int)).toNat = m from rfl, Int.emod_eq_of_lt n0 (by rw [show (2 : Int) ^ 256 = 115792089237316195423570985008687907853269984665640564039457584007913129639936 from rfl]; exact hb)]
  exact ⟨_, _, _, _, rfl, words_ok _, words_bv _ n0 hb⟩
theorem w0_and (q : Int) : (Go.bits .and .u64 (w0_ q) 1 = 1) ↔ q % 2 = 1 := by
  rw [and1 _ (by unfold w0_; omega) (by unfold w0_; omega)]
  unfold w0_; omega
theorem Divided_f {n : Bool} {a0 a1 a2 a3 : Int} (h : Bn.ok a0 a1 a2 a3) (m : Int) (hm : Fx.ok m) (hz : m ≠ 0) :
    ∃ r0 r1 r2 r3, carouselref1_Divided.f n a0 a1 a2 a3 m = some ((!(n == decide (m < 0))), r0, r1, r2, r3) ∧ Bn.ok r0 r1 r2 r3 ∧ Bn.bv r0 r1 r2 r3 = Fx.rhe (Bn.bv a0 a1 a2 a3) (Fx.ab m) := by
  have V := Bn.bv_range h
  have eV : bv_ a0 a1 a2 a3 = Bn.bv a0 a1 a2 a3 := rfl
  unfold carouselref1_Divided.f
  rw [rsize_f m hm.1 hm.2]
  simp only [Option.bind_some]
  rw [show (if m < 0 then -m else m) = Fx.ab m from rfl]
  have d0 : 0 < Fx.ab m ∧ Fx.ab m ≤ 9223372036854775808 := by unfold Fx.ab Fx.ok at *; split <;> omega
  rw [if_pos (c := ok_ a0 a1 a2 a3 ∧ _) ⟨h, d0.1, d0.2⟩, eV]
  generalize Bn.bv a0 a1 a2 a3 = v at *
  generalize Fx.ab m = D at *
  have r0 := Int.emod_nonneg v (show D ≠ 0 by omega)
  have r1 := Int.emod_lt_of_pos v d0.1
  have q0 := Int.ediv_nonneg V.1 (Int.le_of_lt d0.1)
  have q1 := Int.ediv_le_self D V.1
  have ew : IntKind.u64.wrap (D - v % D) = D - v % D := by rw [u64w]; omega
  rw [ew]
  have ww := w0_and (v / D)
  have qs : 2 ≤ D → 2 * (v / D) ≤ v := by
    intro h2
    have := Int.mul_ediv_add_emod v D
    have : 2 * (v / D) ≤ D * (v / D) := Int.mul_le_mul_of_nonneg_right h2 q0
    omega
  have up : (2 * (v % D) > D ∨ (2 * (v % D) = D ∧ v / D % 2 = 1)) → ∃ r0 r1 r2 r3, ((carouselref1_plus.f (w0_ (v / D)) (w1_ (v / D)) (w2_ (v / D)) (w3_ (v / D)) 1 0 0 0).bind fun p => some ((!(n == decide (m < 0))), p.1, p.2.1, p.2.2.1, p.2.2.2)) = some ((!(n == decide (m < 0))), r0, r1, r2, r3) ∧ Bn.ok r0 r1 r2 r3 ∧ Bn.bv r0 r1 r2 r3 = Fx.rhe v D := by
    intro hh
    obtain ⟨r0, r1, r2, r3, e, ho, hv⟩ := plus_f (words_ok (v / D)) (show Bn.ok 1 0 0 0 by unfold Bn.ok; omega)
    rw [e]
    refine ⟨r0, r1, r2, r3, rfl, ho, ?_⟩
    have := qs (by omega)
    rw [hv, words_bv _ q0 (by omega), Bn.bv_small, Int.emod_eq_of_lt (by omega) (by omega)]
    unfold Fx.rhe
    rw [if_pos hh]
  have down : ¬ (2 * (v % D) > D ∨ (2 * (v % D) = D ∧ v / D % 2 = 1)) → ∃ r0 r1 r2 r3, some ((!(n == decide (m < 0))), w0_ (v / D), w1_ (v / D), w2_ (v / D), w3_ (v / D)) = some ((!(n == decide (m < 0))), r0, r1, r2, r3) ∧ Bn.ok r0 r1 r2 r3 ∧ Bn.bv r0 r1 r2 r3 = Fx.rhe v D := by
    intro hh
    refine ⟨_, _, _, _, rfl, words_ok _, ?_⟩
    rw [words_bv _ q0 (by omega)]
    unfold Fx.rhe
    rw [if_neg hh, Int.add_zero]
  by_cases c1 : D - v % D < v % D
  · rw [if_pos c1]
    exact up (by omega)
  · rw [if_neg c1]
    by_cases c2 : v % D = D - v % D
    · rw [if_pos c2]
      by_cases c3 : Go.bits .and .u64 (w0_ (v / D)) 1 = 1
      · rw [if_pos c3]
        exact up (by have := ww.1 c3; omega)
      · rw [if_neg c3]
        exact down (by intro hh; exact c3 (ww.2 (by omega)))
    · rw [if_neg c2]
      exact down (by omega)
theorem from_bv (a : Int) : Bn.bv (if a < 0 then -a else a) 0 0 0 = Fx.ab a := by rw [Bn.bv_small]; rfl
theorem rOf_f (a : Int) (ha : Fx.ok a) (k : Nat) (hk : 1 ≤ k) : carouselref1_Of.f k a = some (Fx.clamp (a * 4294967296)) := by
  unfold carouselref1_Of.f
  rw [bFrom_f a ha.1 ha.2]
  simp only [Option.bind_some]
  have sz := Fx.ab_le ha
  have sn := Fx.ab_nonneg a
  obtain ⟨s0, s1, s2, s3, e, o, v⟩ := Shifted_f (n := decide (a < 0)) (from_ok a ha) 32 (by omega) (by rw [from_bv]; omega)
  rw [show ((32 : Nat) : Int) = 32 from rfl] at e
  rw [e]
  simp only [Option.bind_some]
  rw [Held_f o k hk]
  simp only [Option.bind_some]
  unfold Bn.nv
  rw [v, from_bv]
  unfold Fx.ab
  by_cases c : a < 0
  · simp only [c, decide_true, if_true]
    rw [Int.neg_mul, Int.neg_neg]; rfl
  · simp only [c, decide_false, Bool.false_eq_true, if_false]; rfl
theorem awake1 : carousellaw1_awake.f 1000 = some true := by decide +kernel
theorem Fx.mul_neg {a c : Int} (hc : c < 0) : Fx.mul a c = Fx.clamp (-(if a < 0 then -(Fx.rhe (-a * -c) 4294967296) else Fx.rhe (a * -c) 4294967296)) := by
  unfold Fx.mul Fx.neq Fx.ab Fx.sg
  rw [if_pos hc, decide_eq_true hc]
  by_cases k : a < 0
  · rw [if_pos k, if_pos k, decide_eq_true k]; simp
  · rw [if_neg k, if_neg k, decide_eq_false k]; rfl
/-- how many digits -/
def nn_ (x : Int) : Nat := if x < 10 then 1 else if x < 100 then 2 else (nd_ x).toNat
def txt_ (x : Int) : ByteArray := strOfNums (dec_ (nn_ x) x)
theorem nn_cases (x : Int) (h0 : 0 ≤ x) (h1 : x < 10000000000) : ∃ n : Nat, nn_ x = n ∧ 1 ≤ n ∧ n ≤ 10 ∧ x < 10 ^ n ∧ (n = 1 ∨ (10 : Int) ^ (n - 1) ≤ x) := by
  unfold nn_ nd_
  by_cases c1 : x < 10
  · exact ⟨1, if_pos c1, by omega, by omega, by omega, .inl rfl⟩
  by_cases c2 : x < 100
  · exact ⟨2, by rw [if_neg c1, if_pos c2], by omega, by omega, by omega, .inr (by simp; omega)⟩
  by_cases c3 : x < 1000
  · exact ⟨3, by rw [if_neg c1, if_neg c2, if_pos c3]; rfl, by omega, by omega, by omega, .inr (by simp; omega)⟩
  by_cases c4 : x < 10000
  · exact ⟨4, by rw [if_neg c1, if_neg c2, if_neg c3, if_pos c4]; rfl, by omega, by omega, by omega, .inr (by simp; omega)⟩
  by_cases c5 : x < 100000
  · exact ⟨5, by rw [if_neg c1, if_neg c2, if_neg c3, if_neg c4, if_pos c5]; rfl, by omega, by omega, by omega, .inr (by simp; omega)⟩
  by_cases c6 : x < 1000000
  · exact ⟨6, by rw [if_neg c1, if_neg c2, if_neg c3, if_neg c4, if_neg c5, if_pos c6]; rfl, by omega, by omega, by omega, .inr (by simp; omega)⟩
  by_cases c7 : x < 10000000
  · exact ⟨7, by rw [if_neg c1, if_neg c2, if_neg c3, if_neg c4, if_neg c5, if_neg c6, if_pos c7]; rfl, by omega, by omega, by omega, .inr (by simp; omega)⟩
  by_cases c8 : x < 100000000
  · exact ⟨8, by rw [if_neg c1, if_neg c2, if_neg c3, if_neg c4, if_neg c5, if_neg c6, if_neg c7, if_pos c8]; rfl, by omega, by omega, by omega, .inr (by simp; omega)⟩
  by_cases c9 : x < 1000000000
  · exact ⟨9, by rw [if_neg c1, if_neg c2, if_neg c3, if_neg c4, if_neg c5, if_neg c6, if_neg c7, if_neg c8, if_pos c9]; rfl, by omega, by omega, by omega, .inr (by simp; omega)⟩
  · exact ⟨10, by rw [if_neg c1, if_neg c2, if_neg c3, if_neg c4, if_neg c5, if_neg c6, if_neg c7, if_neg c8, if_neg c9]; rfl, by omega, by omega, by omega, .inr (by simp; omega)⟩
theorem dec_len : ∀ (n : Nat) (x : Int), (dec_ n x).length = n
  | 0, _ => rfl
  | n + 1, x => by unfold dec_; simp [dec_len n]
theorem sn_append (a b : List Int) : strOfNums (a ++ b) = strOfNums a ++ strOfNums b := by
  apply ByteArray.ext
  simp [strOfNums]
theorem sn_size (a : List Int) : (strOfNums a).size = a.length := by simp [strOfNums, ByteArray.size]
theorem txt_size (x : Int) (h0 : 0 ≤ x) (h1 : x < 10000000000) : 1 ≤ (txt_ x).size ∧ (txt_ x).size ≤ 10 := by
  obtain ⟨n, e, a, b, _⟩ := nn_cases x h0 h1
  unfold txt_
  rw [sn_size, dec_len, e]
  exact ⟨a, b⟩
theorem small_all : ∀ i : Fin 100, strconv_small.f (wrap64 (i.val : Int)) = some (txt_ i.val) := by decide +kernel
theorem fmtu_f (x : Int) (h0 : 0 ≤ x) (h1 : x < 10000000000) : strconv_FormatUint_34.f x 10 = some (txt_ x) := by
  unfold strconv_FormatUint_34.f strconv_FormatUint_48.f
  rw [if_pos rfl]
  by_cases c : x < 100
  · rw [if_pos c]
    obtain ⟨n, rfl⟩ := Int.eq_ofNat_of_zero_le h0
    have := small_all ⟨n, by omega⟩
    rw [show strconv_small.f (wrap64 (n : Int)) = some (txt_ n) from this]
    rfl
  · rw [if_neg c, if_pos h1]
    unfold txt_ nn_
    rw [if_neg (show ¬ x < 10 by omega), if_neg c]
    rfl
theorem digits_n : ∀ (n : Nat) (x : Int) (k : Nat), 1 ≤ n → n ≤ 10 → n ≤ k → 0 ≤ x → x < 10 ^ n → (n = 1 ∨ (10 : Int) ^ (n - 1) ≤ x) → carouselref1_Digits.f k x = some (strOfNums (dec_ n x))
  | 0, _, _, h, _, _, _, _, _ => by omega
  | n + 1, x, 0, _, _, hk, _, _, _ => by omega
  | n + 1, x, k + 1, h1, h2, hk, x0, x1, x2 => by
    have p1 : (10 : Int) ^ (n + 1) = 10 ^ n * 10 := Int.pow_succ 10 n
    have pb : (10 : Int) ^ (n + 1) ≤ 10 ^ 10 := by
      have := Nat.pow_le_pow_right (n := 10) (by omega) h2
      exact_mod_cast this
    have pz : (10 : Int) ^ 10 = 10000000000 := by decide
    unfold carouselref1_Digits.f
    by_cases c : x < 10
    · rw [if_pos c]
      have n0 : n = 0 := by
        rcases x2 with e | e
        · omega
        · cases n with
          | zero => rfl
          | succ m =>
            exfalso
            have : (10 : Int) ^ (m + 1 + 1 - 1) = 10 ^ m * 10 := Int.pow_succ 10 m
            have : (0 : Int) < 10 ^ m := Int.pow_pos (by decide)
            omega
      subst n0
      have e1 : IntKind.u64.wrap (48 + x) % 256 = 48 + x % 10 := by rw [u64w]; omega
      rw [e1]
      rfl
    · rw [if_neg c]
      have n1 : 1 ≤ n := by
        cases n with
        | zero => exfalso; omega
        | succ m => omega
      have x2' : (10 : Int) ^ n ≤ x := by
        rcases x2 with e | e
        · omega
        · exact e
      have pn : (10 : Int) ^ n = 10 ^ (n - 1) * 10 := by
        have : n = (n - 1) + 1 := by omega
        rw [this]
        exact Int.pow_succ 10 (n - 1)
      have e1 : IntKind.u64.wrap (Int.tdiv x 10) = x / 10 := by rw [Int.tdiv_eq_ediv_of_nonneg x0, u64w]; omega
      rw [e1, digits_n n (x / 10) k n1 (by omega) (by omega) (by omega) (by omega) (.inr (by omega))]
      simp only [Option.bind_some]
      have e2 : IntKind.u64.wrap (48 + Int.tmod x 10) % 256 = 48 + x % 10 := by rw [Int.tmod_eq_emod_of_nonneg x0, u64w]; omega
      rw [e2, sn_size, sn_size, dec_len, if_pos (by simp; omega), ← sn_append]
      rfl
theorem digits_f (x : Int) (h0 : 0 ≤ x) (h1 : x < 10000000000) (k : Nat) (hk : 10 ≤ k) : carouselref1_Digits.f k x = some (txt_ x) := by
  obtain ⟨n, e, a, b, c, d⟩ := nn_cases x h0 h1
  unfold txt_
  rw [e]
  exact digits_n n x k a b (by omega) h0 c d
def zer_ (n : Nat) : ByteArray := strOfNums (List.replicate n 48)
theorem repeat_all : ∀ i : Fin 11, strings_Repeat.f 997 (⟨#[48]⟩ : ByteArray) (i.val : Int) = some (zer_ i.val) := by decide +kernel
theorem zer_one (n : Nat) (t : ByteArray) : (⟨#[48]⟩ : ByteArray) ++ (zer_ n ++ t) = zer_ (n + 1) ++ t := by
  have h : (⟨#[48]⟩ : ByteArray) = strOfNums [48] := by decide
  rw [h, ← ByteArray.append_assoc]
  unfold zer_
  rw [← sn_append]
  rfl
theorem zer_nil (t : ByteArray) : zer_ 0 ++ t = t := by
  apply ByteArray.ext
  simp [zer_, strOfNums]
theorem zer_size (n : Nat) : (zer_ n).size = n := by unfold zer_; rw [sn_size, List.length_replicate]
/-- the reference: nought ahead of nought, till there are ten -/
theorem rtext_l0 (a W : Int) (w0 : 0 ≤ W) (w1 : W < 10000000000) (t : ByteArray) : ∀ (m n : Nat) (k : Nat), m + n + t.size = 10 → 1 ≤ t.size → m + 12 ≤ k →
    carouselref1_Text.l0 k a W (zer_ n ++ t) = some (if a < 0 then (⟨#[45]⟩ : ByteArray) ++ ((txt_ W ++ (⟨#[46]⟩ : ByteArray)) ++ (zer_ (m + n) ++ t)) else ((txt_ W ++ (⟨#[46]⟩ : ByteArray)) ++ (zer_ (m + n) ++ t)))
  | 0, n, 0, _, _, hk => by omega
  | m + 1, n, 0, _, _, hk => by omega
  | 0, n, k + 1, h, h1, hk => by
    have sz : (zer_ n ++ t).size = 10 := by rw [ByteArray.size_append, zer_size]; omega
    have ws := txt_size W w0 w1
    have s1 : (⟨#[46]⟩ : ByteArray).size = 1 := by decide
    unfold carouselref1_Text.l0
    rw [if_neg (by rw [sz]; omega), digits_f W w0 w1 k (by omega)]
    simp only [Option.bind_some]
    rw [if_pos (by omega), if_pos (by rw [ByteArray.size_append, s1, sz]; omega), Nat.zero_add]
    split
    · rw [if_pos (by rw [ByteArray.size_append, ByteArray.size_append, s1, sz]; omega)]
    · rfl
  | m + 1, n, k + 1, h, h1, hk => by
    have sz : (zer_ n ++ t).size = n + t.size := by rw [ByteArray.size_append, zer_size]
    unfold carouselref1_Text.l0
    rw [if_pos (by rw [sz]; omega), if_pos (by rw [sz]; omega), zer_one, rtext_l0 a W w0 w1 t m (n + 1) k (by omega) h1 (by omega), show m + (n + 1) = m + 1 + n by omega]
theorem rtext_j0 (a W R : Int) (w0 : 0 ≤ W) (w1 : W < 10000000000) (r0 : 0 ≤ R) (r1 : R < 10000000000) (k : Nat) (hk : 40 ≤ k) :
    carouselref1_Text.j0 k a W R = some (if a < 0 then (⟨#[45]⟩ : ByteArray) ++ ((txt_ W ++ (⟨#[46]⟩ : ByteArray)) ++ (zer_ (10 - (txt_ R).size) ++ txt_ R)) else ((txt_ W ++ (⟨#[46]⟩ : ByteArray)) ++ (zer_ (10 - (txt_ R).size) ++ txt_ R))) := by
  obtain ⟨k, rfl⟩ : ∃ j, k = j + 1 := ⟨k - 1, by omega⟩
  have rs := txt_size R r0 r1
  simp only [carouselref1_Text.j0]
  rw [digits_f R r0 r1 k (by omega)]
  simp only [Option.bind_some]
  have := rtext_l0 a W w0 w1 (txt_ R) (10 - (txt_ R).size) 0 k (by omega) rs.1 (by omega)
  rw [zer_nil, Nat.add_zero] at this
  exact this
theorem ftext_j2 (a W R : Int) (w0 : 0 ≤ W) (w1 : W < 10000000000) (r0 : 0 ≤ R) (r1 : R < 10000000000) :
    fix_Text.j2 998 a W R = some (if a < 0 then (⟨#[45]⟩ : ByteArray) ++ ((txt_ W ++ (⟨#[46]⟩ : ByteArray)) ++ (zer_ (10 - (txt_ R).size) ++ txt_ R)) else ((txt_ W ++ (⟨#[46]⟩ : ByteArray)) ++ (zer_ (10 - (txt_ R).size) ++ txt_ R))) := by
  have rs := txt_size R r0 r1
  have ws := txt_size W w0 w1
  have s1 : (⟨#[46]⟩ : ByteArray).size = 1 := by decide
  have hj : fix_Text.j2 998 a W R = fix_Text.j2 (997 + 1) a W R := rfl
  rw [hj]
  simp only [fix_Text.j2]
  rw [fmtu_f R r0 r1, Option.bind_some, fmtu_f W w0 w1, Option.bind_some, if_pos (by omega)]
  have e1 : wrap64 (10 - ((txt_ R).size : Int)) = ((10 - (txt_ R).size : Nat) : Int) := by rw [wrap64_id (by omega) (by omega)]; omega
  have hr : strings_Repeat.f 997 (⟨#[48]⟩ : ByteArray) ((10 - (txt_ R).size : Nat) : Int) = some (zer_ (10 - (txt_ R).size)) := repeat_all ⟨10 - (txt_ R).size, by omega⟩
  rw [e1, hr, Option.bind_some, if_pos (by rw [ByteArray.size_append, zer_size, s1]; omega), if_pos (by rw [ByteArray.size_append, ByteArray.size_append, zer_size, s1]; omega)]
  have e2 : (((txt_ W ++ (⟨#[46]⟩ : ByteArray)) ++ zer_ (10 - (txt_ R).size)) ++ txt_ R) = ((txt_ W ++ (⟨#[46]⟩ : ByteArray)) ++ (zer_ (10 - (txt_ R).size) ++ txt_ R)) := ByteArray.append_assoc
  rw [e2]
  split
  · rw [if_pos (by simp only [ByteArray.size_append, zer_size, s1]; omega)]
  · rfl
/-- whole and rest: what both write -/
def tw_ (a : Int) : Int := if Fx.rhe (Fx.ab a % 4294967296 * 10000000000) 4294967296 = 10000000000 then Fx.ab a / 4294967296 + 1 else Fx.ab a / 4294967296
def tr_ (a : Int) : Int := if Fx.rhe (Fx.ab a % 4294967296 * 10000000000) 4294967296 = 10000000000 then 0 else Fx.rhe (Fx.ab a % 4294967296 * 10000000000) 4294967296
theorem t_range (a : Int) (ha : Fx.ok a) : 0 ≤ tw_ a ∧ tw_ a < 10000000000 ∧ 0 ≤ tr_ a ∧ tr_ a < 10000000000 := by
  have x0 := Fx.ab_nonneg a
  have x1 := Fx.ab_le ha
  have m0 := Fx.rhe_nonneg (show (0 : Int) ≤ 4294967296 by omega) (show 0 ≤ Fx.ab a % 4294967296 * 10000000000 by omega)
  have m1 : Fx.rhe (Fx.ab a % 4294967296 * 10000000000) 4294967296 ≤ 10000000000 := by
    have := Fx.rhe_mono (show (0 : Int) < 4294967296 by omega) (show Fx.ab a % 4294967296 * 10000000000 ≤ 10000000000 * 4294967296 by omega)
    rw [Fx.rhe_whole 10000000000 4294967296 (by omega)] at this
    exact this
  unfold tw_ tr_
  split <;> omega
theorem rtext_f (a : Int) (ha : Fx.ok a) (k : Nat) (hk : 40 ≤ k) : carouselref1_Text.f k a = carouselref1_Text.j0 k a (tw_ a) (tr_ a) := by
  have x0 := Fx.ab_nonneg a
  have x1 := Fx.ab_le ha
  unfold carouselref1_Text.f
  rw [rsize_f a ha.1 ha.2, Option.bind_some, show (if a < 0 then -a else a) = Fx.ab a from rfl, and32 _ (by omega) (by omega), wrap64_id (by omega) (by omega)]
  obtain ⟨q0, q1, q2, q3, eT, hq, hle, hv⟩ := Times_f (Fx.ab a % 4294967296) 10000000000 (by omega) (by omega) (by omega) (by omega)
  have d1 : decide (Fx.ab a % 4294967296 < 0) = false := decide_eq_false (by omega)
  have d2 : decide ((10000000000 : Int) < 0) = false := by decide
  rw [d1, d2] at eT hv
  rw [eT, Option.bind_some, Option.bind_some]
  have hv' : Bn.bv q0 q1 q2 q3 = Fx.ab a % 4294967296 * 10000000000 := hv
  have z : Bn.bv q0 q1 0 0 = Fx.ab a % 4294967296 * 10000000000 ∧ Bn.ok q0 q1 0 0 := by
    unfold Bn.bv Bn.ok at *
    omega
  obtain ⟨r0, r1, r2, r3, eD, hr, hrv⟩ := Divided_f (n := false) z.2 4294967296 (by unfold Fx.ok; omega) (by omega)
  have e3 : Fx.ab (4294967296 : Int) = 4294967296 := by decide
  rw [e3, z.1] at hrv
  show (carouselref1_Divided.f false q0 q1 0 0 4294967296).bind _ = _
  rw [eD, Option.bind_some]
  have tr := t_range a ha
  have m1 : Fx.rhe (Fx.ab a % 4294967296 * 10000000000) 4294967296 ≤ 10000000000 := by
    have := Fx.rhe_mono (show (0 : Int) < 4294967296 by omega) (show Fx.ab a % 4294967296 * 10000000000 ≤ 10000000000 * 4294967296 by omega)
    rw [Fx.rhe_whole 10000000000 4294967296 (by omega)] at this
    exact this
  have er : r0 = Fx.rhe (Fx.ab a % 4294967296 * 10000000000) 4294967296 := by
    unfold Bn.bv Bn.ok at *
    omega
  show (if r0 = 10000000000 then _ else _) = _
  unfold tw_ tr_
  rw [← er]
  have uw : IntKind.u64.wrap (Fx.ab a / 4294967296 + 1) = Fx.ab a / 4294967296 + 1 := by rw [u64w]; omega
  rw [uw]
  split <;> rfl
theorem rhe_cases {α : Type} (F : Int → Bool → Option α) (T : Option α) (P : Int) (h : ∀ (R : Int) (b : Bool), R = P / 4294967296 → (if b = true then R + 1 else R) = Fx.rhe P 4294967296 → F R b = T) :
    (if P % 4294967296 > 2147483648 then F (P / 4294967296) true else (if P % 4294967296 = 2147483648 then F (P / 4294967296) (P / 4294967296 % 2 == 1) else F (P / 4294967296) false)) = T := by
  unfold Fx.rhe at h
  split
  · exact h _ _ rfl (by rw [if_pos rfl, if_pos (.inl (by omega))])
  · split
    · by_cases c : P / 4294967296 % 2 = 1
      · exact h _ _ rfl (by rw [if_pos (by simp [c]), if_pos (.inr ⟨by omega, c⟩)])
      · exact h _ _ rfl (by rw [if_neg (by simp [c]), if_neg (by omega)]; omega)
    · exact h _ _ rfl (by rw [if_neg (by simp), if_neg (by omega)]; omega)
set_option maxHeartbeats 1000000 in
theorem ftext_f (a : Int) (ha : Fx.ok a) (k : Nat) (hk : 110 ≤ k) : fix_Text.f k a = fix_Text.j2 (k - 2) a (tw_ a) (tr_ a) := by
  have x0 := Fx.ab_nonneg a
  have x1 := Fx.ab_le ha
  obtain ⟨k, rfl⟩ : ∃ j, k = j + 2 := ⟨k - 2, by omega⟩
  unfold fix_Text.f
  rw [fsize_f a ha, Option.bind_some, and32 _ (by omega) (by omega), Mul64_f _ _ (by omega) (by omega) (by omega) (by omega)]
  simp only [Option.bind_some]
  have tr := t_range a ha
  have m1 : Fx.rhe (Fx.ab a % 4294967296 * 10000000000) 4294967296 ≤ 10000000000 := by
    have := Fx.rhe_mono (show (0 : Int) < 4294967296 by omega) (show Fx.ab a % 4294967296 * 10000000000 ≤ 10000000000 * 4294967296 by omega)
    rw [Fx.rhe_whole 10000000000 4294967296 (by omega)] at this
    exact this
  have p0 : 0 ≤ Fx.ab a % 4294967296 * 10000000000 := by omega
  have p1 : Fx.ab a % 4294967296 * 10000000000 ≤ 4294967295 * 10000000000 := by omega
  have hj1 : ∀ (R : Int), fix_Text.j1 (k + 1) a (Fx.ab a / 4294967296) R = fix_Text.j2 k a (if R = 10000000000 then Fx.ab a / 4294967296 + 1 else Fx.ab a / 4294967296) (if R = 10000000000 then 0 else R) := by
    intro R
    simp only [fix_Text.j1]
    have uw : IntKind.u64.wrap (Fx.ab a / 4294967296 + 1) = Fx.ab a / 4294967296 + 1 := by rw [u64w]; omega
    rw [uw]
    split <;> rfl
  have hj0 : ∀ (R : Int) (b : Bool), 0 ≤ R → R ≤ 10000000000 → fix_Text.j0 (k + 2) a (Fx.ab a / 4294967296) R b = fix_Text.j1 (k + 1) a (Fx.ab a / 4294967296) (if b = true then R + 1 else R) := by
    intro R b h0 h1
    rw [show k + 2 = (k + 1) + 1 from rfl]
    simp only [fix_Text.j0]
    have uw : IntKind.u64.wrap (R + 1) = R + 1 := by rw [u64w]; omega
    rw [uw]
    split <;> rfl
  show _ = fix_Text.j2 k a (tw_ a) (tr_ a)
  have ht : ∀ R, R = Fx.rhe (Fx.ab a % 4294967296 * 10000000000) 4294967296 → fix_Text.j1 (k + 1) a (Fx.ab a / 4294967296) R = fix_Text.j2 k a (tw_ a) (tr_ a) := by
    intro R e
    rw [hj1, e]
    rfl
  generalize hP : Fx.ab a % 4294967296 * 10000000000 = P at *
  have w : IntKind.u64.wrap (P / 18446744073709551616 * 4294967296) = P / 18446744073709551616 * 2 ^ (64 - 32) := by
    rw [u64w]
    have : (2 : Int) ^ (64 - 32) = 4294967296 := by decide
    rw [this]
    omega
  have hor : Go.bits .or .u64 (P / 18446744073709551616 * 2 ^ (64 - 32)) (P % 18446744073709551616 / 4294967296) = P / 4294967296 := by
    have h := or_fill (P / 18446744073709551616) (P % 18446744073709551616 / 4294967296) 32 (by omega) (by omega) (by omega) (by omega) (by omega)
    rw [h]
    have : (2 : Int) ^ (64 - 32) = 4294967296 := by decide
    rw [this]
    omega
  have hl : Go.bits .and .u64 (P % 18446744073709551616) 4294967295 = P % 4294967296 := by rw [and32 _ (by omega) (by omega)]; omega
  have hb : Go.bits .and .u64 (P / 4294967296) 1 = P / 4294967296 % 2 := by
    rw [and1 _ (by omega) (by omega)]
  rw [w, hor, hl, hb]
  exact rhe_cases (fun R b => fix_Text.j0 (k + 2) a (Fx.ab a / 4294967296) R b) _ P (fun R b e1 e2 => by
    show fix_Text.j0 (k + 2) a (Fx.ab a / 4294967296) R b = _
    rw [hj0 R b (by omega) (by omega)]
    exact ht _ e2)
theorem fOf_f (n : Int) (h : Fx.ok n) : fix_Of.f n = some (Fx.clamp (n * 4294967296)) := by
  unfold fix_Of.f Fx.clamp Fx.ok at *
  split
  · congr 1; omega
  · split
    · congr 1; omega
    · rw [wrap64_id (by omega) (by omega)]; congr 1; omega
theorem FSays_all (n a : Int) (hn : Fx.ok n) (ha : Fx.ok a) : ∃ k, carousellaw1_FixSays.f k n a = some true := by
  refine ⟨1000, ?_⟩
  unfold carousellaw1_FixSays.f
  obtain ⟨w0, w1, r0, r1⟩ := t_range a ha
  rw [awake1, Option.bind_some, if_pos rfl, fOf_f n hn, Option.bind_some, rOf_f n hn _ (by omega), Option.bind_some, if_pos rfl, ftext_f a ha _ (by omega), ftext_j2 a _ _ w0 w1 r0 r1, Option.bind_some, rtext_f a ha _ (by omega), rtext_j0 a _ _ w0 w1 r0 r1 _ (by omega), Option.bind_some]
  simp
theorem FixSays : carousellaw1_FixSays.Pure := by
  intro a b ha hb
  exact FSays_all a b (wf_i64 ha) (wf_i64 hb)
end Go.Proofs.YtjiloachlemlcaaDoor.Pure
