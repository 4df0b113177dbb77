/- The plain law behind ActRamps: what the functions compute answers as the statement says, for every input. No condition. -/
import Derived.Test.YtdamllanlligbaaPActRampsx6
import Derived.Laws.BitsAllLaws
import Derived.Test.YtdamllanlligbaaFixMath
import Derived.Test.YtdamllanlligbaaShapeMath
namespace Go.Proofs.Ytdamllanlligbaa.Pure
open Go.RowKit Go.Proofs.Ytdamllanlligbaa.PActRamps Go.Proofs.YtdamllanlligbaaW.PrintWords Go.Proofs.YtdamllanlligbaaW.PrintLast
set_option linter.unusedVariables false
set_option linter.unusedSimpArgs false
theorem w64 {x : Int} (h1 : -9223372036854775808 ≤ x) (h2 : x ≤ 9223372036854775807) : wrap64 x = x := by unfold wrap64; omega
theorem drop_rd (l : List Int) (i : Nat) (h : i < l.length) : l.drop i = rd l i :: l.drop (i + 1) := by
  rw [List.drop_eq_getElem_cons h]
  congr 1
  unfold rd
  rw [show (i : Int).toNat = i from rfl, List.getD_eq_getElem?_getD, List.getElem?_eq_getElem h]; rfl
theorem rd_mem (l : List Int) (i : Nat) (h : i < l.length) : rd l i ∈ l := by
  have := drop_rd l i h
  exact List.mem_of_mem_drop (i := i) (by rw [this]; exact List.mem_cons_self ..)
theorem mul_bd {a b A B : Int} (h0 : 0 ≤ a) (h1 : a ≤ A) (h2 : 0 ≤ b) (h3 : b ≤ B) : 0 ≤ a * b ∧ a * b ≤ A * B :=
  ⟨Int.mul_nonneg h0 h2, Int.mul_le_mul h1 h3 h2 (by omega)⟩
theorem k_succ {k n : Nat} (h : n < k) : ∃ m, k = m + 1 ∧ n ≤ m := ⟨k - 1, by omega, by omega⟩
theorem product_l0 (l : List Int) (hl : l.length ≤ 4) : ∀ (d i : Nat) (n : Int) (k : Nat), i + d = l.length → 1 ≤ n → n ≤ 4096 → 2 * d < k →
    shape_product.l0 k n l l.length i = some (Shp.gp n (l.drop i)) := by
  intro d
  induction d with
  | zero =>
    intro i n k hi h1 h2 hk
    obtain ⟨k, rfl, -⟩ := k_succ hk
    simp only [shape_product.l0]
    rw [if_neg (by omega), List.drop_of_length_le (by omega)]; rfl
  | succ d ih =>
    intro i n k hi h1 h2 hk
    obtain ⟨k, rfl, hk⟩ := k_succ hk
    obtain ⟨k, rfl, hk⟩ := k_succ (n := 2 * d + 1) (k := k) (by omega)
    have e := drop_rd l i (by omega)
    simp only [shape_product.l0, shape_product.j1]
    rw [if_pos (by omega), if_pos (by omega), if_pos (by omega), e]
    generalize rd l i = x at *
    simp only [Shp.gp]
    by_cases c1 : x < 1
    · simp [c1]
    by_cases c2 : 4096 < x
    · simp [c1, c2]
    have hb := mul_bd (a := n) (b := x) (by omega) h2 (by omega) (show x ≤ 4096 by omega)
    have hb1 := Shp.mul_le1 h1 (show 1 ≤ x by omega)
    rw [w64 (x := n * x) (by omega) (by omega), w64 (x := (i : Int) + 1) (by omega) (by omega)]
    simp only [if_neg c1, if_neg c2, show ¬ (x > 4096) from c2, decide_false]
    by_cases c3 : 4096 < n * x
    · simp [c3]
    · simp only [if_neg c3, show ¬ (n * x > 4096) from c3, if_false]
      have := ih (i + 1) (n * x) k (by omega) (by omega) (by omega) (by omega)
      rw [Int.natCast_add] at this
      simpa using this
theorem product_f (l : List Int) (k : Nat) (hk : 10 ≤ k) : shape_product.f k l = some (Shp.siz l) := by
  unfold shape_product.f
  by_cases h : l.length ≤ 4
  · rw [if_neg (by omega), ← Shp.gp_siz l h]
    have := product_l0 l h l.length 0 1 k (by omega) (by omega) (by omega) (by omega)
    simpa using this
  · rw [if_pos (by omega), Shp.siz_long l h]
theorem Good_f (l : List Int) (k : Nat) (hk : 10 ≤ k) : shape_Good.f k l = some (Shp.good l) := by
  unfold shape_Good.f; rw [product_f l k hk, ← Shp.siz_pos]; rfl
theorem Size_f (l : List Int) (k : Nat) (hk : 10 ≤ k) : shape_Size.f k l = some (Shp.siz l) := by
  unfold shape_Size.f; rw [product_f l k hk]; rfl
theorem eq_drop {a b : List Int} {i : Nat} (ha : i < a.length) (hb : i < b.length) : decide (a.drop i = b.drop i) = (decide (rd a i = rd b i) && decide (a.drop (i + 1) = b.drop (i + 1))) := by
  rw [drop_rd a i ha, drop_rd b i hb]; simp
theorem Equal_l0 (a b : List Int) (h : a.length = b.length) (hm : a.length ≤ 9223372036854775000) : ∀ (d i k : Nat), i + d = a.length → d < k →
    slices_Equal_int_int.l0 k a b a.length i = some (decide (a.drop i = b.drop i)) := by
  intro d
  induction d with
  | zero =>
    intro i k hi hk
    obtain ⟨k, rfl, -⟩ := k_succ hk
    simp only [slices_Equal_int_int.l0]
    rw [if_neg (by omega), List.drop_of_length_le (by omega), List.drop_of_length_le (by omega)]; simp
  | succ d ih =>
    intro i k hi hk
    obtain ⟨k, rfl, hk⟩ := k_succ hk
    simp only [slices_Equal_int_int.l0]
    rw [if_pos (by omega), if_pos (by omega), if_pos (by omega), if_pos (by omega), eq_drop (by omega) (by omega), w64 (x := (i : Int) + 1) (by omega) (by omega)]
    have := ih (i + 1) k (by omega) (by omega)
    rw [Int.natCast_add] at this
    by_cases c : rd a i = rd b i
    · rw [if_pos c]; simpa [c] using this
    · rw [if_neg c]; simp [c]
theorem Same_f (a b : List Int) (hm : a.length ≤ 9223372036854775000) (k : Nat) (hk : a.length < k) : shape_Same.f k a b = some (decide (a = b)) := by
  unfold shape_Same.f slices_Equal_int_int.f
  by_cases h : a.length = b.length
  · rw [if_pos (by omega)]
    have := Equal_l0 a b h hm a.length 0 k (by omega) hk
    simp at this; simp [this]
  · rw [if_neg (by omega)]
    have : a ≠ b := fun e => h (by rw [e])
    simp [this]
theorem wf_i64 {x : Int} (h : (Lit.int .i64 x).wf = true) : -9223372036854775808 ≤ x ∧ x ≤ 9223372036854775807 := by
  simp only [Lit.wf, Bool.and_eq_true, decide_eq_true_eq] at h
  have h1 : IntKind.i64.min = -9223372036854775808 := rfl
  have h2 : IntKind.i64.max = 9223372036854775807 := rfl
  omega
theorem u64w (n : Int) : IntKind.u64.wrap n = n % 18446744073709551616 := by simp [IntKind.wrap, IntKind.bits, IntKind.signed]
theorem and32 (x : Int) (h0 : 0 ≤ x) (h1 : x ≤ 18446744073709551615) : Go.bits .and .u64 x 4294967295 = x % 4294967296 := by
  rw [Go.u64_and x 4294967295 h0 (by omega) (by omega) (by omega)]
  have : (4294967295 : Int).toNat = 2 ^ 32 - 1 := rfl
  rw [this, Nat.and_two_pow_sub_one_eq_mod]
  omega
theorem and1 (x : Int) (h0 : 0 ≤ x) (h1 : x ≤ 18446744073709551615) : Go.bits .and .u64 x 1 = x % 2 := by
  rw [Go.u64_and x 1 h0 (by omega) (by omega) (by omega)]
  have : (1 : Int).toNat = 2 ^ 1 - 1 := rfl
  rw [this, Nat.and_two_pow_sub_one_eq_mod]
  omega
theorem mul_le {a b A B : Int} (h0 : 0 ≤ a) (h1 : a ≤ A) (h2 : 0 ≤ b) (h3 : b ≤ B) : 0 ≤ a * b ∧ a * b ≤ A * B :=
  ⟨Int.mul_nonneg h0 h2, Int.mul_le_mul h1 h3 h2 (by omega)⟩
theorem split_mul (x0 x1 y0 y1 : Int) : (x1 * 4294967296 + x0) * (y1 * 4294967296 + y0) = (x1 * y1) * 18446744073709551616 + ((x1 * y0) + (x0 * y1)) * 4294967296 + x0 * y0 := by grind
theorem Mul64_f (a b : Int) (a0 : 0 ≤ a) (a1 : a ≤ 18446744073709551615) (b0 : 0 ≤ b) (b1 : b ≤ 18446744073709551615) : bits_Mul64.f a b = some (a * b / 18446744073709551616, a * b % 18446744073709551616) := by
  unfold bits_Mul64.f
  rw [and32 a a0 a1, and32 b b0 b1]
  simp only [u64w]
  have ea : a = (a / 4294967296) * 4294967296 + a % 4294967296 := by omega
  have eb : b = (b / 4294967296) * 4294967296 + b % 4294967296 := by omega
  have es := split_mul (a % 4294967296) (a / 4294967296) (b % 4294967296) (b / 4294967296)
  rw [← ea, ← eb] at es
  have h1 : 0 ≤ a / 4294967296 ∧ a / 4294967296 ≤ 4294967295 := by omega
  have h2 : 0 ≤ a % 4294967296 ∧ a % 4294967296 ≤ 4294967295 := by omega
  have h3 : 0 ≤ b / 4294967296 ∧ b / 4294967296 ≤ 4294967295 := by omega
  have h4 : 0 ≤ b % 4294967296 ∧ b % 4294967296 ≤ 4294967295 := by omega
  have p00 := mul_le h2.1 h2.2 h4.1 h4.2
  have p10 := mul_le h1.1 h1.2 h4.1 h4.2
  have p01 := mul_le h2.1 h2.2 h3.1 h3.2
  have p11 := mul_le h1.1 h1.2 h3.1 h3.2
  clear ea eb a0 a1 b0 b1
  generalize a / 4294967296 * (b / 4294967296) = P11 at *
  generalize a / 4294967296 * (b % 4294967296) = P10 at *
  generalize a % 4294967296 * (b / 4294967296) = P01 at *
  generalize a % 4294967296 * (b % 4294967296) = P00 at *
  generalize a * b = S at *
  clear h1 h2 h3 h4
  simp only [Int.reduceMul] at p00 p10 p01 p11
  have r1 : (P10 % 18446744073709551616 + P00 % 18446744073709551616 / 4294967296) % 18446744073709551616 = P10 + P00 / 4294967296 := by omega
  rw [r1, and32 _ (by omega) (by omega)]
  congr 1
  rw [Prod.mk.injEq]
  constructor
  · omega
  · rfl
theorem pow_split (n : Nat) (h : n ≤ 64) : (2 : Int) ^ n * 2 ^ (64 - n) = 18446744073709551616 := by
  rw [← Int.pow_add, show n + (64 - n) = 64 by omega]; rfl
theorem pow_pos (n : Nat) : (1 : Int) ≤ 2 ^ n := by
  have : (0 : Int) < 2 ^ n := Int.pow_pos (by decide)
  omega
/-- a word that is shifted up beside one that fills what it leaves -/
theorem or_fill (c d : Int) (n : Nat) (hn : n ≤ 64) (c0 : 0 ≤ c) (c1 : c < 2 ^ n) (d0 : 0 ≤ d) (d1 : d < 2 ^ (64 - n)) : Go.bits .or .u64 (c * 2 ^ (64 - n)) d = c * 2 ^ (64 - n) + d := by
  have hp := pow_split n hn
  have p1 := pow_pos n
  have p2 := pow_pos (64 - n)
  have e1 : (c + 1) * 2 ^ (64 - n) ≤ 2 ^ n * 2 ^ (64 - n) := Int.mul_le_mul_of_nonneg_right (by omega) (by omega)
  rw [Int.add_mul, Int.one_mul, hp] at e1
  have e0 : 0 ≤ c * 2 ^ (64 - n) := Int.mul_nonneg c0 (by omega)
  rw [Go.u64_or _ _ e0 (by omega) d0 (by omega)]
  obtain ⟨C, rfl⟩ := Int.eq_ofNat_of_zero_le c0
  obtain ⟨D, rfl⟩ := Int.eq_ofNat_of_zero_le d0
  have hD : D < 2 ^ (64 - n) := by
    have : ((2 ^ (64 - n) : Nat) : Int) = 2 ^ (64 - n) := by simp
    omega
  have hC : ((C : Int) * 2 ^ (64 - n)).toNat = C * 2 ^ (64 - n) := by
    have : (C : Int) * 2 ^ (64 - n) = ((C * 2 ^ (64 - n) : Nat) : Int) := by simp
    rw [this]; rfl
  rw [hC, Int.toNat_natCast, ← Nat.shiftLeft_eq, ← Nat.shiftLeft_add_eq_or_of_lt hD, Nat.shiftLeft_eq]
  simp
theorem awake9 (k : Nat) : carousellaw9_awake.f (k + 2) = some true := by
  rfl
theorem add64w (x c : Int) (h0 : 0 ≤ x) (h1 : 0 ≤ c) (h2 : c ≤ 1) : bits_Add64.f x c 0 = some ((x + c) % 18446744073709551616, (x + c) / 18446744073709551616) := by
  unfold bits_Add64.f
  rw [if_pos ⟨h0, h1, by omega, by omega⟩]
  simp
theorem fsize_f (a : Int) (h : Fx.ok a) : fix_size.f a = some (Fx.ab a) := by
  unfold fix_size.f Fx.ab
  unfold Fx.ok at h
  split
  · rw [u64w, u64w]; congr 1; omega
  · rw [u64w]; congr 1; omega
theorem fheld_f (hi lo : Int) (b : Bool) (h0 : 0 ≤ hi) (l0 : 0 ≤ lo) (l1 : lo < 18446744073709551616) (k : Nat) : fix_held.f (k + 1) hi lo b = some (Fx.clamp (Fx.sg b (hi * 18446744073709551616 + lo))) := by
  unfold fix_held.f Fx.clamp Fx.sg
  cases b
  · simp only [fix_held.j0, Bool.false_eq_true, if_false]
    split
    · congr 1; omega
    · split
      · congr 1; omega
      · congr 1; unfold wrap64; omega
  · simp only [if_true]
    split
    · simp only [fix_held.j0, if_true]; congr 1; omega
    · by_cases c : lo ≥ 9223372036854775808
      · rw [decide_eq_true c]
        simp only [fix_held.j0, if_true]; congr 1; omega
      · rw [decide_eq_false c]
        simp only [fix_held.j0, if_true, Bool.false_eq_true, if_false]
        congr 1; unfold wrap64; omega
theorem fmul_f (a b : Int) (ha : Fx.ok a) (hb : Fx.ok b) (k : Nat) (hk : 2 ≤ k) : fix_Mul.f k a b = some (Fx.mul a b) := by
  unfold fix_Mul.f Fx.mul
  rw [fsize_f a ha, fsize_f b hb]
  simp only [Option.bind_some]
  have x0 := Fx.ab_nonneg a
  have x1 := Fx.ab_le ha
  have y0 := Fx.ab_nonneg b
  have y1 := Fx.ab_le hb
  rw [Mul64_f _ _ x0 (by omega) y0 (by omega)]
  simp only [Option.bind_some]
  have p0 : 0 ≤ Fx.ab a * Fx.ab b := Int.mul_nonneg x0 y0
  have p1 : Fx.ab a * Fx.ab b ≤ 9223372036854775808 * 9223372036854775808 := Int.mul_le_mul x1 y1 y0 (by omega)
  show _ = some (Fx.clamp (Fx.sg ((decide (a < 0)) != (decide (b < 0))) _))
  generalize hP : Fx.ab a * Fx.ab b = P at *
  have hbl : ∀ (z : Bool) (x8 x9 : Int) (k : Nat), fix_Mul.j0 (k + 1) a b x8 x9 z = if z = true then ((bits_Add64.f x8 1 0).bind fun bt152 => ((fix_held.f k (IntKind.u64.wrap (x9 + bt152.2)) bt152.1 ((decide (a < 0)) != (decide (b < 0)))).bind fun t154 => (some t154))) else ((fix_held.f k x9 x8 ((decide (a < 0)) != (decide (b < 0)))).bind fun t155 => (some t155)) := fun _ _ _ _ => rfl
  obtain ⟨k, rfl⟩ : ∃ j, k = j + 2 := ⟨k - 2, by omega⟩
  simp only [hbl]
  generalize ((decide (a < 0)) != (decide (b < 0))) = bl
  rw [and32 _ (by omega) (by omega)]
  have w : IntKind.u64.wrap (P / 18446744073709551616 * 4294967296) = (P / 79228162514264337593543950336) * 0 + P / 18446744073709551616 % 4294967296 * 2 ^ (64 - 32) := by
    rw [u64w]
    have : (2 : Int) ^ (64 - 32) = 4294967296 := by decide
    rw [this]
    omega
  rw [w, Int.mul_zero, Int.zero_add, or_fill (P / 18446744073709551616 % 4294967296) (P % 18446744073709551616 / 4294967296) 32 (by omega) (by omega) (by omega) (by omega) (by omega)]
  have hq : P / 18446744073709551616 % 4294967296 * 2 ^ (64 - 32) + P % 18446744073709551616 / 4294967296 = P / 4294967296 % 18446744073709551616 := by
    have : (2 : Int) ^ (64 - 32) = 4294967296 := by decide
    rw [this]
    omega
  rw [hq]
  have hr : P % 18446744073709551616 % 4294967296 = P % 4294967296 := by omega
  have ho : P / 18446744073709551616 / 4294967296 = P / 4294967296 / 18446744073709551616 := by omega
  rw [hr, ho]
  have he : Fx.rhe P 4294967296 = P / 4294967296 + (if 2 * (P % 4294967296) > 4294967296 ∨ (2 * (P % 4294967296) = 4294967296 ∧ P / 4294967296 % 2 = 1) then 1 else 0) := rfl
  rw [he]
  have q0 : 0 ≤ P / 4294967296 := by omega
  have q1 : P / 4294967296 ≤ 19807040628566084398385987584 := by omega
  have r0 : 0 ≤ P % 4294967296 := by omega
  have r1 : P % 4294967296 < 4294967296 := by omega
  clear he hr ho hq w hP p0 p1 hbl
  generalize P / 4294967296 = q at *
  generalize P % 4294967296 = r at *
  rw [and1 (q % 18446744073709551616) (by omega) (by omega)]
  have up : ∀ z, z = Fx.clamp (Fx.sg bl (q + 1)) → ((bits_Add64.f (q % 18446744073709551616) 1 0).bind fun bt152 => ((fix_held.f (k + 1) (IntKind.u64.wrap (q / 18446744073709551616 + bt152.2)) bt152.1 bl).bind fun t154 => (some t154))) = some z := by
    intro z hz
    rw [add64w _ 1 (by omega) (by omega) (by omega)]
    simp only [Option.bind_some]
    rw [u64w, fheld_f _ _ bl (by omega) (by omega) (by omega)]
    simp only [Option.bind_some]
    rw [hz]
    congr 3
    omega
  have down : ∀ z, z = Fx.clamp (Fx.sg bl q) → ((fix_held.f (k + 1) (q / 18446744073709551616) (q % 18446744073709551616) bl).bind fun t155 => (some t155)) = some z := by
    intro z hz
    rw [fheld_f _ _ bl (by omega) (by omega) (by omega)]
    simp only [Option.bind_some]
    rw [hz]
    congr 3
    omega
  by_cases c1 : r > 2147483648
  · rw [if_pos c1, if_pos trivial, if_pos (by omega)]
    exact up _ rfl
  · rw [if_neg c1]
    by_cases c2 : r = 2147483648
    · rw [if_pos c2]
      by_cases c3 : q % 2 = 1
      · rw [show q % 18446744073709551616 % 2 = 1 by omega, if_pos (show ((1 : Int) == 1) = true by rfl), if_pos (by omega)]
        exact up _ rfl
      · rw [show q % 18446744073709551616 % 2 = 0 by omega, if_neg (show ¬ (((0 : Int) == 1) = true) by decide), if_neg (by omega)]
        refine down _ ?_
        simp
    · rw [if_neg c2, if_neg (show ¬ (false = true) by decide), if_neg (by omega)]
      refine down _ ?_
      simp
theorem one_f (b : Bool) (x y : Int) : act_one.f b x y = some (if b = true then x else y) := by
  unfold act_one.f
  split <;> rfl
theorem Slope_f9 (a x : Int) (a1 : 1 ≤ a) (a5 : a ≤ 5) (k : Nat) (hk : 1 ≤ k) : act_Slope.f k a x = some (Fx.slope a x, 0) := by
  obtain ⟨k, rfl⟩ : ∃ j, k = j + 1 := ⟨k - 1, by omega⟩
  have h0 : ∀ b : Bool, b = decide (-4294967296 < x ∧ x < 4294967296) → act_Slope.j0 (k + 1) a x b = some (Fx.slope a x, 0) := by
    intro b hb
    unfold Fx.slope
    simp only [act_Slope.j0, one_f]
    by_cases c1 : a = 1
    · subst c1; simp
    by_cases c2 : a = 2
    · subst c2; simp
    by_cases c3 : a = 3
    · subst c3; simp [hb]
    by_cases c4 : a = 4
    · subst c4
      simp only [c1, c2, c3, if_false, if_true, fix_Cmp.f]
      split
      · simp [wrap64]
      · split <;> simp [wrap64]
    · have c5 : a = 5 := by omega
      subst c5; simp [hb]
  unfold act_Slope.f
  split
  · exact h0 _ (by congr 1; apply propext; omega)
  · exact h0 _ (by simp; omega)
theorem tGood_f (d v : List Int) (k : Nat) (hk : 10 ≤ k) : tens_Good.f k d v = some (Shp.good d && decide ((v.length : Int) = Shp.siz d)) := by
  unfold tens_Good.f
  rw [Good_f d k hk]
  simp only [Option.bind_some]
  cases h : Shp.good d
  · simp
  · rw [if_pos rfl, Size_f d k hk]
    simp only [Option.bind_some, Bool.true_and]
    congr 1
theorem tCopy_f (d v : List Int) (hd : d.length ≤ 1000000) (hv : v.length ≤ 1000000) : tens_Copy.f d v = some (d, v) := by
  unfold tens_Copy.f slices_Clone_int_int.f api_Fix.f
  rw [if_pos (by omega), if_pos (by omega)]
  rfl
theorem set_take (l : List Int) (i : Nat) (x : Int) (h : i < l.length) : (l.set i x).take (i + 1) = l.take i ++ [x] := by
  rw [List.take_succ_eq_append_getElem (by simpa using h), List.take_set_of_le (by omega)]
  simp
def bk (kind : Int) (x g : Int) : Int := Fx.mul g (Fx.slope kind x)
theorem Back_l0 (kind : Int) (a1 : 1 ≤ kind) (a5 : kind ≤ 5) (l g : List Int) (hl : g.length = l.length) (hm : l.length ≤ 1000000) (hg : ∀ x ∈ g, Fx.ok x) (gd od : List Int) : ∀ (c i : Nat) (o : List Int) (k : Nat), i + c = l.length → o.length = l.length → c + 40 < k →
    act_Back.l0 k kind l l.length i gd g od o = some (od, o.take i ++ List.zipWith (bk kind) (l.drop i) (g.drop i), 0) := by
  intro c
  induction c with
  | zero =>
    intro i o k hi ho hk
    obtain ⟨k, rfl, -⟩ := k_succ hk
    simp only [act_Back.l0]
    rw [if_neg (by omega), List.drop_of_length_le (l := l) (by omega), List.take_of_length_le (by omega)]
    simp
  | succ c ih =>
    intro i o k hi ho hk
    obtain ⟨k, rfl, hk⟩ := k_succ hk
    have e1 := drop_rd l i (by omega)
    have e2 := drop_rd g i (by omega)
    have b2 := hg _ (rd_mem g i (by omega))
    simp only [act_Back.l0]
    rw [if_pos (by omega), if_pos (by omega), if_pos (by omega), Slope_f9 kind _ a1 a5 k (by omega)]
    simp only [Option.bind_some]
    rw [if_pos (by omega), fmul_f _ _ b2 (Fx.slope_ok _ _) k (by omega)]
    simp only [Option.bind_some]
    rw [if_pos (by omega), w64 (x := (i : Int) + 1) (by omega) (by omega), show (i : Int).toNat = i from rfl]
    have := ih (i + 1) (o.set i (Fx.mul (rd g i) (Fx.slope kind (rd l i)))) k (by omega) (by simpa using ho) (by omega)
    rw [Int.natCast_add] at this
    rw [show ((i : Int) + 1) = (i : Int) + ((1 : Nat) : Int) from rfl, this, set_take o i _ (by omega), e1, e2]
    simp [bk]
theorem Ramps_l0 (l g r : List Int) (hm : l.length ≤ 100) (hg : g.length = l.length) (hr : r.length = l.length) (h : ∀ i, i < l.length → rd r i = bk 1 (rd l i) (rd g i)) (hk' : ∀ x ∈ g, Fx.ok x) (z : List Int) : ∀ (c i : Nat) (k : Nat), i + c = l.length → c < k →
    carousellaw9_ActRamps.l0 k l g i z r = some true := by
  intro c
  induction c with
  | zero =>
    intro i k hi hk
    obtain ⟨k, rfl, -⟩ := k_succ hk
    simp only [carousellaw9_ActRamps.l0]
    rw [if_neg (by omega)]
  | succ c ih =>
    intro i k hi hk
    obtain ⟨k, rfl, hk⟩ := k_succ hk
    have e := h i (by omega)
    have b2 := hk' _ (rd_mem g i (by omega))
    simp only [carousellaw9_ActRamps.l0]
    rw [if_pos (by omega), if_pos (by omega), w64 (x := (i : Int) + 1) (by omega) (by omega), e]
    have := ih (i + 1) k (by omega) (by omega)
    rw [Int.natCast_add] at this
    have this' : carousellaw9_ActRamps.l0 k l g ((i : Int) + 1) z r = some true := this
    rw [this']
    unfold bk Fx.slope
    rw [if_pos rfl]
    by_cases c0 : rd l i > 0
    · rw [if_pos c0, if_pos c0, if_pos (by omega), if_pos (by omega), if_neg (c := rd l i ≤ 0) (by omega), if_pos (Fx.mul_one b2)]
    · rw [if_neg c0, if_neg c0, if_pos (c := rd l i ≤ 0) (by omega), if_pos (by omega), if_pos (Fx.mul_zero _)]
theorem rd_zip (f : Int → Int → Int) (l g : List Int) (hg : g.length = l.length) (i : Nat) (hi : i < l.length) : rd (List.zipWith f l g) i = f (rd l i) (rd g i) := by
  unfold rd
  rw [show (i : Int).toNat = i from rfl]
  simp [List.getD_eq_getElem?_getD, List.getElem?_eq_getElem, hi, hg]
theorem ARamps_all (l g : List Int) (hl : ∀ x ∈ l, Fx.ok x) (hg : ∀ x ∈ g, Fx.ok x) : ∃ k, carousellaw9_ActRamps.f k l g = some true := by
  refine ⟨400, ?_⟩
  unfold carousellaw9_ActRamps.f
  rw [awake9]
  simp only [Option.bind_some, if_true]
  have out : carousellaw9_ActRamps.j0 400 l g true = some true := by simp only [carousellaw9_ActRamps.j0, if_true]
  by_cases c1 : (l.length : Int) < 1
  · rw [if_pos c1]; exact out
  · rw [if_neg c1]
    by_cases c2 : (l.length : Int) > 100
    · rw [if_pos c2]; exact out
    · rw [if_neg c2]
      by_cases c3 : (g.length : Int) = (l.length : Int)
      · rw [show ((g.length : Int) != (l.length : Int)) = false by simp; omega]
        have hgl : g.length = l.length := by omega
        simp only [carousellaw9_ActRamps.j0, Bool.false_eq_true, if_false]
        have gd : Shp.good [(l.length : Int)] = true := by
          simp [Shp.good, Shp.pl]; omega
        have sz : Shp.siz [(l.length : Int)] = (l.length : Int) := by
          rw [Shp.siz_good gd]; simp [Shp.pl]
        have eB : act_Back.f 399 1 [(l.length : Int)] l [(l.length : Int)] g = some ([(l.length : Int)], List.zipWith (bk 1) l g, 0) := by
          unfold act_Back.f
          have e0 : act_good.f 1 = some true := rfl
          rw [e0]
          simp only [Option.bind_some, if_true]
          rw [tGood_f _ _ 399 (by omega), gd, sz]
          simp only [Option.bind_some, Bool.true_and, decide_true, if_true]
          rw [tGood_f _ _ 399 (by omega), gd, sz, hgl]
          simp only [Option.bind_some, Bool.true_and, decide_true, Bool.not_true, act_Back.j0, Bool.false_eq_true, if_false]
          rw [Same_f _ _ (by simp) 398 (by simp)]
          simp only [Option.bind_some, decide_true, if_true]
          rw [tCopy_f _ _ (by simp) (by omega)]
          simp only [Option.bind_some]
          have := Back_l0 1 (by omega) (by omega) l g hgl (by omega) hg [(l.length : Int)] [(l.length : Int)] l.length 0 g 398 (by omega) (by omega) (by omega)
          simpa using this
        rw [eB]
        simp only [Option.bind_some, if_true]
        have hz : (List.zipWith (bk 1) l g).length = l.length := by simp [hgl]
        rw [hz]
        simp only [carousellaw9_ActRamps.j1, bne_self_eq_false, Bool.false_eq_true, if_false]
        exact Ramps_l0 l g _ (by omega) hgl hz (fun i hi => rd_zip _ l g hgl i hi) hg _ l.length 0 398 (by omega) (by omega)
      · rw [show ((g.length : Int) != (l.length : Int)) = true by simp; omega]; exact out
theorem ActRamps : carousellaw9_ActRamps.Pure := by
  intro l g _ _ hl _ _ hg
  exact ARamps_all l g (fun x hx => wf_i64 (hl x hx)) (fun x hx => wf_i64 (hg x hx))
end Go.Proofs.Ytdamllanlligbaa.Pure
