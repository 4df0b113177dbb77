/- The plain law behind FixNear: what the functions compute answers as the statement says, for every input. No condition. -/
import Derived.Test.YtjiloachlemlcaaDoorPFixNearx5
import Derived.Laws.BitsAllLaws
import Derived.Test.YtjiloachlemlcaaDoorFixMath
import Derived.Test.YtjiloachlemlcaaDoorBigMath
import Derived.Test.YtjiloachlemlcaaDoorWideMath
namespace Go.Proofs.YtjiloachlemlcaaDoor.Pure
open Go.RowKit Go.Proofs.YtjiloachlemlcaaDoor.PFixNear Go.Proofs.YtjiloachlemlcaaDoorW.PrintWords Go.Proofs.YtjiloachlemlcaaDoorW.PrintLast
set_option linter.unusedVariables false
set_option linter.unusedSimpArgs false
theorem w64 {x : Int} (h1 : -9223372036854775808 ≤ x) (h2 : x ≤ 9223372036854775807) : wrap64 x = x := by unfold wrap64; omega
theorem mul_bd {a b A B : Int} (h0 : 0 ≤ a) (h1 : a ≤ A) (h2 : 0 ≤ b) (h3 : b ≤ B) : 0 ≤ a * b ∧ a * b ≤ A * B :=
  ⟨Int.mul_nonneg h0 h2, Int.mul_le_mul h1 h3 h2 (by omega)⟩
theorem u64w (n : Int) : IntKind.u64.wrap n = n % 18446744073709551616 := by simp [IntKind.wrap, IntKind.bits, IntKind.signed]
theorem and32 (x : Int) (h0 : 0 ≤ x) (h1 : x ≤ 18446744073709551615) : Go.bits .and .u64 x 4294967295 = x % 4294967296 := by
  rw [Go.u64_and x 4294967295 h0 (by omega) (by omega) (by omega)]
  have : (4294967295 : Int).toNat = 2 ^ 32 - 1 := rfl
  rw [this, Nat.and_two_pow_sub_one_eq_mod]
  omega
theorem and1 (x : Int) (h0 : 0 ≤ x) (h1 : x ≤ 18446744073709551615) : Go.bits .and .u64 x 1 = x % 2 := by
  rw [Go.u64_and x 1 h0 (by omega) (by omega) (by omega)]
  have : (1 : Int).toNat = 2 ^ 1 - 1 := rfl
  rw [this, Nat.and_two_pow_sub_one_eq_mod]
  omega
theorem mul_le {a b A B : Int} (h0 : 0 ≤ a) (h1 : a ≤ A) (h2 : 0 ≤ b) (h3 : b ≤ B) : 0 ≤ a * b ∧ a * b ≤ A * B :=
  ⟨Int.mul_nonneg h0 h2, Int.mul_le_mul h1 h3 h2 (by omega)⟩
theorem split_mul (x0 x1 y0 y1 : Int) : (x1 * 4294967296 + x0) * (y1 * 4294967296 + y0) = (x1 * y1) * 18446744073709551616 + ((x1 * y0) + (x0 * y1)) * 4294967296 + x0 * y0 := by grind
theorem Mul64_f (a b : Int) (a0 : 0 ≤ a) (a1 : a ≤ 18446744073709551615) (b0 : 0 ≤ b) (b1 : b ≤ 18446744073709551615) : bits_Mul64.f a b = some (a * b / 18446744073709551616, a * b % 18446744073709551616) := by
  unfold bits_Mul64.f
  rw [and32 a a0 a1, and32 b b0 b1]
  simp only [u64w]
  have ea : a = (a / 4294967296) * 4294967296 + a % 4294967296 := by omega
  have eb : b = (b / 4294967296) * 4294967296 + b % 4294967296 := by omega
  have es := split_mul (a % 4294967296) (a / 4294967296) (b % 4294967296) (b / 4294967296)
  rw [← ea, ← eb] at es
  have h1 : 0 ≤ a / 4294967296 ∧ a / 4294967296 ≤ 4294967295 := by omega
  have h2 : 0 ≤ a % 4294967296 ∧ a % 4294967296 ≤ 4294967295 := by omega
  have h3 : 0 ≤ b / 4294967296 ∧ b / 4294967296 ≤ 4294967295 := by omega
  have h4 : 0 ≤ b % 4294967296 ∧ b % 4294967296 ≤ 4294967295 := by omega
  have p00 := mul_le h2.1 h2.2 h4.1 h4.2
  have p10 := mul_le h1.1 h1.2 h4.1 h4.2
  have p01 := mul_le h2.1 h2.2 h3.1 h3.2
  have p11 := mul_le h1.1 h1.2 h3.1 h3.2
  clear ea eb a0 a1 b0 b1
  generalize a / 4294967296 * (b / 4294967296) = P11 at *
  generalize a / 4294967296 * (b % 4294967296) = P10 at *
  generalize a % 4294967296 * (b / 4294967296) = P01 at *
  generalize a % 4294967296 * (b % 4294967296) = P00 at *
  generalize a * b = S at *
  clear h1 h2 h3 h4
  simp only [Int.reduceMul] at p00 p10 p01 p11
  have r1 : (P10 % 18446744073709551616 + P00 % 18446744073709551616 / 4294967296) % 18446744073709551616 = P10 + P00 / 4294967296 := by omega
  rw [r1, and32 _ (by omega) (by omega)]
  congr 1
  rw [Prod.mk.injEq]
  constructor
  · omega
  · rfl
theorem pow_split (n : Nat) (h : n ≤ 64) : (2 : Int) ^ n * 2 ^ (64 - n) = 18446744073709551616 := by
  rw [← Int.pow_add, show n + (64 - n) = 64 by omega]; rfl
theorem pow_pos (n : Nat) : (1 : Int) ≤ 2 ^ n := by
  have : (0 : Int) < 2 ^ n := Int.pow_pos (by decide)
  omega
/-- a word that is shifted up beside one that fills what it leaves -/
theorem or_fill (c d : Int) (n : Nat) (hn : n ≤ 64) (c0 : 0 ≤ c) (c1 : c < 2 ^ n) (d0 : 0 ≤ d) (d1 : d < 2 ^ (64 - n)) : Go.bits .or .u64 (c * 2 ^ (64 - n)) d = c * 2 ^ (64 - n) + d := by
  have hp := pow_split n hn
  have p1 := pow_pos n
  have p2 := pow_pos (64 - n)
  have e1 : (c + 1) * 2 ^ (64 - n) ≤ 2 ^ n * 2 ^ (64 - n) := Int.mul_le_mul_of_nonneg_right (by omega) (by omega)
  rw [Int.add_mul, Int.one_mul, hp] at e1
  have e0 : 0 ≤ c * 2 ^ (64 - n) := Int.mul_nonneg c0 (by omega)
  rw [Go.u64_or _ _ e0 (by omega) d0 (by omega)]
  obtain ⟨C, rfl⟩ := Int.eq_ofNat_of_zero_le c0
  obtain ⟨D, rfl⟩ := Int.eq_ofNat_of_zero_le d0
  have hD : D < 2 ^ (64 - n) := by
    have : ((2 ^ (64 - n) : Nat) : Int) = 2 ^ (64 - n) := by simp
    omega
  have hC : ((C : Int) * 2 ^ (64 - n)).toNat = C * 2 ^ (64 - n) := by
    have : (C : Int) * 2 ^ (64 - n) = ((C * 2 ^ (64 - n) : Nat) : Int) := by simp
    rw [this]; rfl
  rw [hC, Int.toNat_natCast, ← Nat.shiftLeft_eq, ← Nat.shiftLeft_add_eq_or_of_lt hD, Nat.shiftLeft_eq]
  simp
theorem add64w (x c : Int) (h0 : 0 ≤ x) (h1 : 0 ≤ c) (h2 : c ≤ 1) : bits_Add64.f x c 0 = some ((x + c) % 18446744073709551616, (x + c) / 18446744073709551616) := by
  unfold bits_Add64.f
  rw [if_pos ⟨h0, h1, by omega, by omega⟩]
  simp
theorem fsize_f (a : Int) (h : Fx.ok a) : fix_size.f a = some (Fx.ab a) := by
  unfold fix_size.f Fx.ab
  unfold Fx.ok at h
  split
  · rw [u64w, u64w]; congr 1; omega
  · rw [u64w]; congr 1; omega
theorem fheld_f (hi lo : Int) (b : Bool) (h0 : 0 ≤ hi) (l0 : 0 ≤ lo) (l1 : lo < 18446744073709551616) (k : Nat) : fix_held.f (k + 1) hi lo b = some (Fx.clamp (Fx.sg b (hi * 18446744073709551616 + lo))) := by
  unfold fix_held.f Fx.clamp Fx.sg
  cases b
  · simp only [fix_held.j0, Bool.false_eq_true, if_false]
    split
    · congr 1; omega
    · split
      · congr 1; omega
      · congr 1; unfold wrap64; omega
  · simp only [if_true]
    split
    · simp only [fix_held.j0, if_true]; congr 1; omega
    · by_cases c : lo ≥ 9223372036854775808
      · rw [decide_eq_true c]
        simp only [fix_held.j0, if_true]; congr 1; omega
      · rw [decide_eq_false c]
        simp only [fix_held.j0, if_true, Bool.false_eq_true, if_false]
        congr 1; unfold wrap64; omega
theorem fmul_f (a b : Int) (ha : Fx.ok a) (hb : Fx.ok b) (k : Nat) (hk : 2 ≤ k) : fix_Mul.f k a b = some (Fx.mul a b) := by
  unfold fix_Mul.f Fx.mul
  rw [fsize_f a ha, fsize_f b hb]
  simp only [Option.bind_some]
  have x0 := Fx.ab_nonneg a
  have x1 := Fx.ab_le ha
  have y0 := Fx.ab_nonneg b
  have y1 := Fx.ab_le hb
  rw [Mul64_f _ _ x0 (by omega) y0 (by omega)]
  simp only [Option.bind_some]
  have p0 : 0 ≤ Fx.ab a * Fx.ab b := Int.mul_nonneg x0 y0
  have p1 : Fx.ab a * Fx.ab b ≤ 9223372036854775808 * 9223372036854775808 := Int.mul_le_mul x1 y1 y0 (by omega)
  show _ = some (Fx.clamp (Fx.sg ((decide (a < 0)) != (decide (b < 0))) _))
  generalize hP : Fx.ab a * Fx.ab b = P at *
  have hbl : ∀ (z : Bool) (x8 x9 : Int) (k : Nat), fix_Mul.j0 (k + 1) a b x8 x9 z = if z = true then ((bits_Add64.f x8 1 0).bind fun bt152 => ((fix_held.f k (IntKind.u64.wrap (x9 + bt152.2)) bt152.1 ((decide (a < 0)) != (decide (b < 0)))).bind fun t154 => (some t154))) else ((fix_held.f k x9 x8 ((decide (a < 0)) != (decide (b < 0)))).bind fun t155 => (some t155)) := fun _ _ _ _ => rfl
  obtain ⟨k, rfl⟩ : ∃ j, k = j + 2 := ⟨k - 2, by omega⟩
  simp only [hbl]
  generalize ((decide (a < 0)) != (decide (b < 0))) = bl
  rw [and32 _ (by omega) (by omega)]
  have w : IntKind.u64.wrap (P / 18446744073709551616 * 4294967296) = (P / 79228162514264337593543950336) * 0 + P / 18446744073709551616 % 4294967296 * 2 ^ (64 - 32) := by
    rw [u64w]
    have : (2 : Int) ^ (64 - 32) = 4294967296 := by decide
    rw [this]
    omega
  rw [w, Int.mul_zero, Int.zero_add, or_fill (P / 18446744073709551616 % 4294967296) (P % 18446744073709551616 / 4294967296) 32 (by omega) (by omega) (by omega) (by omega) (by omega)]
  have hq : P / 18446744073709551616 % 4294967296 * 2 ^ (64 - 32) + P % 18446744073709551616 / 4294967296 = P / 4294967296 % 18446744073709551616 := by
    have : (2 : Int) ^ (64 - 32) = 4294967296 := by decide
    rw [this]
    omega
  rw [hq]
  have hr : P % 18446744073709551616 % 4294967296 = P % 4294967296 := by omega
  have ho : P / 18446744073709551616 / 4294967296 = P / 4294967296 / 18446744073709551616 := by omega
  rw [hr, ho]
  have he : Fx.rhe P 4294967296 = P / 4294967296 + (if 2 * (P % 4294967296) > 4294967296 ∨ (2 * (P % 4294967296) = 4294967296 ∧ P / 4294967296 % 2 = 1) then 1 else 0) := rfl
  rw [he]
  have q0 : 0 ≤ P / 4294967296 := by omega
  have q1 : P / 4294967296 ≤ 19807040628566084398385987584 := by omega
  have r0 : 0 ≤ P % 4294967296 := by omega
  have r1 : P % 4294967296 < 4294967296 := by omega
  clear he hr ho hq w hP p0 p1 hbl
  generalize P / 4294967296 = q at *
  generalize P % 4294967296 = r at *
  rw [and1 (q % 18446744073709551616) (by omega) (by omega)]
  have up : ∀ z, z = Fx.clamp (Fx.sg bl (q + 1)) → ((bits_Add64.f (q % 18446744073709551616) 1 0).bind fun bt152 => ((fix_held.f (k + 1) (IntKind.u64.wrap (q / 18446744073709551616 + bt152.2)) bt152.1 bl).bind fun t154 => (some t154))) = some z := by
    intro z hz
    rw [add64w _ 1 (by omega) (by omega) (by omega)]
    simp only [Option.bind_some]
    rw [u64w, fheld_f _ _ bl (by omega) (by omega) (by omega)]
    simp only [Option.bind_some]
    rw [hz]
    congr 3
    omega
  have down : ∀ z, z = Fx.clamp (Fx.sg bl q) → ((fix_held.f (k + 1) (q / 18446744073709551616) (q % 18446744073709551616) bl).bind fun t155 => (some t155)) = some z := by
    intro z hz
    rw [fheld_f _ _ bl (by omega) (by omega) (by omega)]
    simp only [Option.bind_some]
    rw [hz]
    congr 3
    omega
  by_cases c1 : r > 2147483648
  · rw [if_pos c1, if_pos trivial, if_pos (by omega)]
    exact up _ rfl
  · rw [if_neg c1]
    by_cases c2 : r = 2147483648
    · rw [if_pos c2]
      by_cases c3 : q % 2 = 1
      · rw [show q % 18446744073709551616 % 2 = 1 by omega, if_pos (show ((1 : Int) == 1) = true by rfl), if_pos (by omega)]
        exact up _ rfl
      · rw [show q % 18446744073709551616 % 2 = 0 by omega, if_neg (show ¬ (((0 : Int) == 1) = true) by decide), if_neg (by omega)]
        refine down _ ?_
        simp
    · rw [if_neg c2, if_neg (show ¬ (false = true) by decide), if_neg (by omega)]
      refine down _ ?_
      simp
theorem ab_mul (a b : Int) : Fx.ab a * Fx.ab b = if ((decide (a < 0)) != (decide (b < 0))) = true then -(a * b) else a * b := by
  unfold Fx.ab
  by_cases c : a < 0 <;> by_cases d : b < 0 <;> simp [c, d, Int.neg_mul, Int.mul_neg]
theorem rhe_rnd (v P : Int) (hP : 0 < P) : Fx.sg (decide (v < 0)) (Fx.rhe (Fx.ab v) P) = Wd.rnd v P := by
  have e := Int.mul_ediv_add_emod v P
  have r0 := Int.emod_nonneg v (show P ≠ 0 by omega)
  have r1 := Int.emod_lt_of_pos v hP
  by_cases c : v < 0
  · have ha : Fx.ab v = -v := by unfold Fx.ab; rw [if_pos c]
    rw [ha, decide_eq_true c]
    unfold Fx.sg
    rw [if_pos rfl]
    by_cases z : v % P = 0
    · have e1 : -v = -(v / P) * P := by rw [Int.neg_mul, Int.mul_comm]; omega
      rw [e1, Fx.rhe_whole _ _ hP]
      unfold Wd.rnd
      rw [z, if_neg (by omega)]; omega
    · have e1 : -v = (P - v % P) + P * (-(v / P) - 1) := by rw [Int.mul_sub, Int.mul_neg, Int.mul_one]; omega
      have d1 : -v / P = -(v / P) - 1 := by rw [e1, Int.add_mul_ediv_left _ _ (by omega), Int.ediv_eq_zero_of_lt (by omega) (by omega)]; omega
      have m1 : -v % P = P - v % P := by rw [e1, Int.add_mul_emod_self_left, Int.emod_eq_of_lt (by omega) (by omega)]
      unfold Fx.rhe Wd.rnd
      rw [d1, m1]
      generalize v / P = q at *
      generalize v % P = r at *
      split <;> split <;> omega
  · have ha : Fx.ab v = v := by unfold Fx.ab; rw [if_neg c]
    rw [ha, decide_eq_false c]
    unfold Fx.sg Fx.rhe Wd.rnd
    rw [if_neg (by decide)]
    split <;> omega
theorem awake1 : carousellaw1_awake.f 1000 = some true := by decide +kernel
theorem Fx.mul_neg {a c : Int} (hc : c < 0) : Fx.mul a c = Fx.clamp (-(if a < 0 then -(Fx.rhe (-a * -c) 4294967296) else Fx.rhe (a * -c) 4294967296)) := by
  unfold Fx.mul Fx.neq Fx.ab Fx.sg
  rw [if_pos hc, decide_eq_true hc]
  by_cases k : a < 0
  · rw [if_pos k, if_pos k, decide_eq_true k]; simp
  · rw [if_neg k, if_neg k, decide_eq_false k]; rfl
theorem i64_and1 (n : Int) : Go.bits .and .i64 n 1 = n % 2 := by
  have h1 : (BitVec.ofInt 64 1).toNat = 2 ^ 1 - 1 := by decide
  have key : (BitVec.ofInt 64 n &&& BitVec.ofInt 64 1).toNat = (n % ((2 ^ 64 : Nat) : Int)).toNat % 2 ^ 1 := by
    rw [BitVec.toNat_and, BitVec.toNat_ofInt, h1, Nat.and_two_pow_sub_one_eq_mod]
  show IntKind.i64.wrap ((BitVec.ofInt 64 n &&& BitVec.ofInt 64 1).toNat : Nat) = n % 2
  rw [key, IntKind.wrap_i64]
  omega
theorem wf_i32 {x : Int} (h : (Lit.int .i32 x).wf = true) : -2147483648 ≤ x ∧ x ≤ 2147483647 := by
  simp only [Lit.wf, Bool.and_eq_true, decide_eq_true_eq] at h
  have h1 : IntKind.i32.min = -2147483648 := rfl
  have h2 : IntKind.i32.max = 2147483647 := rfl
  omega
theorem mul_sg (a b P : Int) (hP : 0 < P) : Fx.sg (Fx.neq a b) (Fx.rhe (Fx.ab a * Fx.ab b) P) = Fx.sg (decide (a * b < 0)) (Fx.rhe (Fx.ab (a * b)) P) := by
  have e := ab_mul a b
  have n1 := Int.mul_nonneg (Fx.ab_nonneg a) (Fx.ab_nonneg b)
  by_cases z : a * b = 0
  · have z0 : Fx.ab a * Fx.ab b = 0 := by rw [e]; split <;> omega
    have r0 : Fx.rhe 0 P = 0 := by
      have := Fx.rhe_whole 0 P hP
      simpa using this
    rw [z0, z, show Fx.ab 0 = 0 from rfl, r0]
    unfold Fx.sg; split <;> split <;> rfl
  · have e2 : Fx.ab a * Fx.ab b = Fx.ab (a * b) := by
      rw [e] at n1 ⊢
      unfold Fx.ab
      split <;> split <;> rename_i h1 h2 <;> simp only [h1] at n1 <;> first | omega | (simp at n1; omega)
    have e3 : Fx.neq a b = decide (a * b < 0) := by
      unfold Fx.neq
      rw [e] at n1
      cases hn : (decide (a < 0) != decide (b < 0))
      · rw [hn] at n1; simp at n1; rw [decide_eq_false (by omega)]
      · rw [hn] at n1; simp at n1; rw [decide_eq_true (by omega)]
    rw [e2, e3]
theorem Fx.mul_rnd (a b : Int) : Fx.mul a b = Fx.clamp (Wd.rnd (a * b) 4294967296) := by
  unfold Fx.mul
  rw [mul_sg a b _ (by omega), rhe_rnd _ _ (by omega)]
theorem FNear_all (a b : Int) (a0 : -2147483648 ≤ a) (a1 : a ≤ 2147483647) (b0 : -2147483648 ≤ b) (b1 : b ≤ 2147483647) : ∃ k, carousellaw1_FixNear.f k a b = some true := by
  refine ⟨1000, ?_⟩
  have wa : wrap64 a = a := w64 (by omega) (by omega)
  have wb : wrap64 b = b := w64 (by omega) (by omega)
  have ha : Fx.ok a := by unfold Fx.ok; omega
  have hb : Fx.ok b := by unfold Fx.ok; omega
  have hx : -4611686018427387904 ≤ a * b ∧ a * b ≤ 4611686018427387904 := by
    have e := ab_mul a b
    have h1 : Fx.ab a ≤ 2147483648 := by unfold Fx.ab; split <;> omega
    have h2 : Fx.ab b ≤ 2147483648 := by unfold Fx.ab; split <;> omega
    have h3 := mul_bd (Fx.ab_nonneg a) h1 (Fx.ab_nonneg b) h2
    rw [e] at h3
    split at h3 <;> omega
  unfold carousellaw1_FixNear.f
  rw [awake1, Option.bind_some, if_pos rfl, wa, wb, fmul_f a b ha hb _ (by omega), Option.bind_some, Fx.mul_rnd]
  clear wa wb
  generalize a * b = x at *
  have hd := Int.mul_ediv_add_emod x 4294967296
  have hr0 := Int.emod_nonneg x (show (4294967296 : Int) ≠ 0 by decide)
  have hr1 := Int.emod_lt_of_pos x (show (0 : Int) < 4294967296 by decide)
  have hy : Wd.rnd x 4294967296 = if 2 * (x % 4294967296) > 4294967296 ∨ (2 * (x % 4294967296) = 4294967296 ∧ x / 4294967296 % 2 = 1) then x / 4294967296 + 1 else x / 4294967296 := rfl
  have hb2 : -4611686018427387904 ≤ Wd.rnd x 4294967296 ∧ Wd.rnd x 4294967296 ≤ 4611686018427387904 := by
    rw [hy]; split <;> omega
  rw [Fx.clamp_id (by unfold Fx.ok; omega)]
  have key : 2 * (x - Wd.rnd x 4294967296 * 4294967296) ≤ 4294967296 ∧ -4294967296 ≤ 2 * (x - Wd.rnd x 4294967296 * 4294967296) ∧ ((2 * (x - Wd.rnd x 4294967296 * 4294967296) = 4294967296 ∨ 2 * (x - Wd.rnd x 4294967296 * 4294967296) = -4294967296) → Wd.rnd x 4294967296 % 2 = 0) := by
    rw [hy]
    split <;> omega
  clear hy hd hr0 hr1
  generalize Wd.rnd x 4294967296 = y at *
  rw [w64 (x := x) (by omega) (by omega), w64 (x := y * 4294967296) (by omega) (by omega), w64 (x := x - y * 4294967296) (by omega) (by omega), if_pos (by omega), if_pos (by omega), i64_and1]
  by_cases c1 : x - y * 4294967296 = 2147483648
  · rw [if_pos c1]
    have := key.2.2 (.inl (by omega))
    rw [this]; rfl
  · rw [if_neg c1]
    by_cases c2 : x - y * 4294967296 = -2147483648
    · rw [if_pos c2]
      have := key.2.2 (.inr (by omega))
      rw [this]; rfl
    · rw [if_neg c2]
theorem FixNear : carousellaw1_FixNear.Pure := by
  intro a b ha hb
  exact FNear_all a b (wf_i32 ha).1 (wf_i32 ha).2 (wf_i32 hb).1 (wf_i32 hb).2
end Go.Proofs.YtjiloachlemlcaaDoor.Pure
