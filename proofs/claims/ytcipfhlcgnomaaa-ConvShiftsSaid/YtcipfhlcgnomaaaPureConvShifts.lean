/- The plain law behind ConvShifts: what the functions compute answers as the statement says, for every input. No condition. -/
import Derived.Test.YtcipfhlcgnomaaaPConvShiftsx7
import Derived.Laws.BitsAllLaws
import Derived.Test.YtcipfhlcgnomaaaFixMath
import Derived.Test.YtcipfhlcgnomaaaShapeMath
import Derived.Test.YtcipfhlcgnomaaaBigMath
import Derived.Test.YtcipfhlcgnomaaaWideMath
namespace Go.Proofs.Ytcipfhlcgnomaaa.Pure
open Go.RowKit Go.Proofs.Ytcipfhlcgnomaaa.PConvShifts Go.Proofs.YtcipfhlcgnomaaaW.PrintWords Go.Proofs.YtcipfhlcgnomaaaW.PrintLast
set_option linter.unusedVariables false
set_option linter.unusedSimpArgs false
theorem w64 {x : Int} (h1 : -9223372036854775808 ≤ x) (h2 : x ≤ 9223372036854775807) : wrap64 x = x := by unfold wrap64; omega
theorem drop_rd (l : List Int) (i : Nat) (h : i < l.length) : l.drop i = rd l i :: l.drop (i + 1) := by
  rw [List.drop_eq_getElem_cons h]
  congr 1
  unfold rd
  rw [show (i : Int).toNat = i from rfl, List.getD_eq_getElem?_getD, List.getElem?_eq_getElem h]; rfl
theorem mul_bd {a b A B : Int} (h0 : 0 ≤ a) (h1 : a ≤ A) (h2 : 0 ≤ b) (h3 : b ≤ B) : 0 ≤ a * b ∧ a * b ≤ A * B :=
  ⟨Int.mul_nonneg h0 h2, Int.mul_le_mul h1 h3 h2 (by omega)⟩
theorem k_succ {k n : Nat} (h : n < k) : ∃ m, k = m + 1 ∧ n ≤ m := ⟨k - 1, by omega, by omega⟩
theorem product_l0 (l : List Int) (hl : l.length ≤ 4) : ∀ (d i : Nat) (n : Int) (k : Nat), i + d = l.length → 1 ≤ n → n ≤ 4096 → 2 * d < k →
    shape_product.l0 k n l l.length i = some (Shp.gp n (l.drop i)) := by
  intro d
  induction d with
  | zero =>
    intro i n k hi h1 h2 hk
    obtain ⟨k, rfl, -⟩ := k_succ hk
    simp only [shape_product.l0]
    rw [if_neg (by omega), List.drop_of_length_le (by omega)]; rfl
  | succ d ih =>
    intro i n k hi h1 h2 hk
    obtain ⟨k, rfl, hk⟩ := k_succ hk
    obtain ⟨k, rfl, hk⟩ := k_succ (n := 2 * d + 1) (k := k) (by omega)
    have e := drop_rd l i (by omega)
    simp only [shape_product.l0, shape_product.j1]
    rw [if_pos (by omega), if_pos (by omega), if_pos (by omega), e]
    generalize rd l i = x at *
    simp only [Shp.gp]
    by_cases c1 : x < 1
    · simp [c1]
    by_cases c2 : 4096 < x
    · simp [c1, c2]
    have hb := mul_bd (a := n) (b := x) (by omega) h2 (by omega) (show x ≤ 4096 by omega)
    have hb1 := Shp.mul_le1 h1 (show 1 ≤ x by omega)
    rw [w64 (x := n * x) (by omega) (by omega), w64 (x := (i : Int) + 1) (by omega) (by omega)]
    simp only [if_neg c1, if_neg c2, show ¬ (x > 4096) from c2, decide_false]
    by_cases c3 : 4096 < n * x
    · simp [c3]
    · simp only [if_neg c3, show ¬ (n * x > 4096) from c3, if_false]
      have := ih (i + 1) (n * x) k (by omega) (by omega) (by omega) (by omega)
      rw [Int.natCast_add] at this
      simpa using this
theorem product_f (l : List Int) (k : Nat) (hk : 10 ≤ k) : shape_product.f k l = some (Shp.siz l) := by
  unfold shape_product.f
  by_cases h : l.length ≤ 4
  · rw [if_neg (by omega), ← Shp.gp_siz l h]
    have := product_l0 l h l.length 0 1 k (by omega) (by omega) (by omega) (by omega)
    simpa using this
  · rw [if_pos (by omega), Shp.siz_long l h]
theorem Good_f (l : List Int) (k : Nat) (hk : 10 ≤ k) : shape_Good.f k l = some (Shp.good l) := by
  unfold shape_Good.f; rw [product_f l k hk, ← Shp.siz_pos]; rfl
theorem Size_f (l : List Int) (k : Nat) (hk : 10 ≤ k) : shape_Size.f k l = some (Shp.siz l) := by
  unfold shape_Size.f; rw [product_f l k hk]; rfl
theorem eq_drop {a b : List Int} {i : Nat} (ha : i < a.length) (hb : i < b.length) : decide (a.drop i = b.drop i) = (decide (rd a i = rd b i) && decide (a.drop (i + 1) = b.drop (i + 1))) := by
  rw [drop_rd a i ha, drop_rd b i hb]; simp
theorem rSame_l0 (a b : List Int) (h : a.length = b.length) (hm : a.length ≤ 9223372036854775000) : ∀ (d i k : Nat), i + d = a.length → d < k →
    carouselref5_Same.l0 k a b i = some (decide (a.drop i = b.drop i)) := by
  intro d
  induction d with
  | zero =>
    intro i k hi hk
    obtain ⟨k, rfl, -⟩ := k_succ hk
    simp only [carouselref5_Same.l0]
    rw [if_neg (by omega), List.drop_of_length_le (by omega), List.drop_of_length_le (by omega)]; simp
  | succ d ih =>
    intro i k hi hk
    obtain ⟨k, rfl, hk⟩ := k_succ hk
    simp only [carouselref5_Same.l0]
    rw [if_pos (by omega), if_pos (by omega), if_pos (by omega), eq_drop (by omega) (by omega), w64 (x := (i : Int) + 1) (by omega) (by omega)]
    have := ih (i + 1) k (by omega) (by omega)
    rw [Int.natCast_add] at this
    by_cases c : rd a i = rd b i
    · rw [if_pos c]; simpa [c] using this
    · rw [if_neg c]; simp [c]
theorem rSame_f (a b : List Int) (hm : a.length ≤ 9223372036854775000) (k : Nat) (hk : a.length < k) : carouselref5_Same.f k a b = some (decide (a = b)) := by
  unfold carouselref5_Same.f
  by_cases h : a.length = b.length
  · rw [if_pos (by omega)]
    have := rSame_l0 a b h hm a.length 0 k (by omega) hk
    simpa using this
  · rw [if_neg (by omega)]
    have : a ≠ b := fun e => h (by rw [e])
    simp [this]
theorem wf_i64 {x : Int} (h : (Lit.int .i64 x).wf = true) : -9223372036854775808 ≤ x ∧ x ≤ 9223372036854775807 := by
  simp only [Lit.wf, Bool.and_eq_true, decide_eq_true_eq] at h
  have h1 : IntKind.i64.min = -9223372036854775808 := rfl
  have h2 : IntKind.i64.max = 9223372036854775807 := rfl
  omega
theorem u64w (n : Int) : IntKind.u64.wrap n = n % 18446744073709551616 := by simp [IntKind.wrap, IntKind.bits, IntKind.signed]
theorem wrap64_w (n : Int) : wrap64 n = Wd.w64 n := by unfold wrap64 Wd.w64; rfl
theorem and32 (x : Int) (h0 : 0 ≤ x) (h1 : x ≤ 18446744073709551615) : Go.bits .and .u64 x 4294967295 = x % 4294967296 := by
  rw [Go.u64_and x 4294967295 h0 (by omega) (by omega) (by omega)]
  have : (4294967295 : Int).toNat = 2 ^ 32 - 1 := rfl
  rw [this, Nat.and_two_pow_sub_one_eq_mod]
  omega
theorem and1 (x : Int) (h0 : 0 ≤ x) (h1 : x ≤ 18446744073709551615) : Go.bits .and .u64 x 1 = x % 2 := by
  rw [Go.u64_and x 1 h0 (by omega) (by omega) (by omega)]
  have : (1 : Int).toNat = 2 ^ 1 - 1 := rfl
  rw [this, Nat.and_two_pow_sub_one_eq_mod]
  omega
theorem Of_f (a : Int) (h0 : -9223372036854775808 ≤ a) (h1 : a ≤ 9223372036854775807) : wide_Of.f a = some (Wd.wr a) := by
  unfold wide_Of.f Wd.wr Wd.w64
  rw [u64w]; congr 1; rw [Prod.mk.injEq]; omega
theorem Add64_f (a b c : Int) (h0 : 0 ≤ a) (h1 : 0 ≤ b) (h2 : 0 ≤ c) (h3 : c ≤ 1) : bits_Add64.f a b c = some ((a + b + c) % 18446744073709551616, (a + b + c) / 18446744073709551616) := by
  unfold bits_Add64.f; rw [if_pos ⟨h0, h1, h2, h3⟩]
theorem Add_f {a0 a1 b0 b1 : Int} (ha : Wd.ok a0 a1) (hb : Wd.ok b0 b1) : wide_Add.f a0 a1 b0 b1 = some (Wd.wr (Wd.vl a0 a1 + Wd.vl b0 b1)) := by
  obtain ⟨a2, a3, a4, a5⟩ := ha
  obtain ⟨b2, b3, b4, b5⟩ := hb
  unfold wide_Add.f
  rw [Add64_f _ _ _ a4 b4 (by omega) (by omega)]
  simp only [Option.bind_some, u64w]
  rw [Add64_f _ _ _ (by omega) (by omega) (by omega) (by omega)]
  simp only [Option.bind_some, wrap64_w, Wd.wr, Wd.vl, Wd.w64]
  congr 1; rw [Prod.mk.injEq]; omega
theorem Sub64_f (a b c : Int) (h0 : 0 ≤ a) (h1 : 0 ≤ b) (h4 : b ≤ 18446744073709551615) (h2 : 0 ≤ c) (h3 : c ≤ 1) : bits_Sub64.f a b c = some ((a - b - c) % 18446744073709551616, if a < b + c then 1 else 0) := by
  unfold bits_Sub64.f; rw [if_pos ⟨h0, h1, h4, h2, h3⟩]
theorem Sub_f {a0 a1 b0 b1 : Int} (ha : Wd.ok a0 a1) (hb : Wd.ok b0 b1) : wide_Sub.f a0 a1 b0 b1 = some (Wd.wr (Wd.vl a0 a1 - Wd.vl b0 b1)) := by
  obtain ⟨a2, a3, a4, a5⟩ := ha
  obtain ⟨b2, b3, b4, b5⟩ := hb
  unfold wide_Sub.f
  rw [Sub64_f _ _ _ a4 b4 b5 (by omega) (by omega)]
  simp only [Option.bind_some, u64w]
  by_cases c : a1 < b1 + 0
  · rw [if_pos c, Sub64_f _ _ _ (by omega) (by omega) (by omega) (by omega) (by omega)]
    simp only [Option.bind_some, wrap64_w, Wd.wr, Wd.vl, Wd.w64]
    congr 1; rw [Prod.mk.injEq]; omega
  · rw [if_neg c, Sub64_f _ _ _ (by omega) (by omega) (by omega) (by omega) (by omega)]
    simp only [Option.bind_some, wrap64_w, Wd.wr, Wd.vl, Wd.w64]
    congr 1; rw [Prod.mk.injEq]; omega
theorem Neg_f {a0 a1 : Int} (ha : Wd.ok a0 a1) : wide_Neg.f a0 a1 = some (Wd.wr (-Wd.vl a0 a1)) := by
  unfold wide_Neg.f
  rw [Sub_f (show Wd.ok 0 0 by unfold Wd.ok; omega) ha]
  simp [Wd.vl]
theorem size_f (a : Int) (h0 : -9223372036854775808 ≤ a) (h1 : a ≤ 9223372036854775807) : wide_size.f a = some (if a < 0 then -a else a) := by
  unfold wide_size.f
  simp only [u64w]
  split <;> (congr 1; omega)
theorem mul_le {a b A B : Int} (h0 : 0 ≤ a) (h1 : a ≤ A) (h2 : 0 ≤ b) (h3 : b ≤ B) : 0 ≤ a * b ∧ a * b ≤ A * B :=
  ⟨Int.mul_nonneg h0 h2, Int.mul_le_mul h1 h3 h2 (by omega)⟩
theorem split_mul (x0 x1 y0 y1 : Int) : (x1 * 4294967296 + x0) * (y1 * 4294967296 + y0) = (x1 * y1) * 18446744073709551616 + ((x1 * y0) + (x0 * y1)) * 4294967296 + x0 * y0 := by grind
theorem Mul64_f (a b : Int) (a0 : 0 ≤ a) (a1 : a ≤ 18446744073709551615) (b0 : 0 ≤ b) (b1 : b ≤ 18446744073709551615) : bits_Mul64.f a b = some (a * b / 18446744073709551616, a * b % 18446744073709551616) := by
  unfold bits_Mul64.f
  rw [and32 a a0 a1, and32 b b0 b1]
  simp only [u64w]
  have ea : a = (a / 4294967296) * 4294967296 + a % 4294967296 := by omega
  have eb : b = (b / 4294967296) * 4294967296 + b % 4294967296 := by omega
  have es := split_mul (a % 4294967296) (a / 4294967296) (b % 4294967296) (b / 4294967296)
  rw [← ea, ← eb] at es
  have h1 : 0 ≤ a / 4294967296 ∧ a / 4294967296 ≤ 4294967295 := by omega
  have h2 : 0 ≤ a % 4294967296 ∧ a % 4294967296 ≤ 4294967295 := by omega
  have h3 : 0 ≤ b / 4294967296 ∧ b / 4294967296 ≤ 4294967295 := by omega
  have h4 : 0 ≤ b % 4294967296 ∧ b % 4294967296 ≤ 4294967295 := by omega
  have p00 := mul_le h2.1 h2.2 h4.1 h4.2
  have p10 := mul_le h1.1 h1.2 h4.1 h4.2
  have p01 := mul_le h2.1 h2.2 h3.1 h3.2
  have p11 := mul_le h1.1 h1.2 h3.1 h3.2
  clear ea eb a0 a1 b0 b1
  generalize a / 4294967296 * (b / 4294967296) = P11 at *
  generalize a / 4294967296 * (b % 4294967296) = P10 at *
  generalize a % 4294967296 * (b / 4294967296) = P01 at *
  generalize a % 4294967296 * (b % 4294967296) = P00 at *
  generalize a * b = S at *
  clear h1 h2 h3 h4
  simp only [Int.reduceMul] at p00 p10 p01 p11
  have r1 : (P10 % 18446744073709551616 + P00 % 18446744073709551616 / 4294967296) % 18446744073709551616 = P10 + P00 / 4294967296 := by omega
  rw [r1, and32 _ (by omega) (by omega)]
  congr 1
  rw [Prod.mk.injEq]
  constructor
  · omega
  · rfl
theorem Prod_f (a b : Int) (a0 : -9223372036854775808 ≤ a) (a1 : a ≤ 9223372036854775807) (b0 : -9223372036854775808 ≤ b) (b1 : b ≤ 9223372036854775807) : wide_Prod.f a b = some (Wd.wr (a * b)) := by
  unfold wide_Prod.f
  rw [size_f a a0 a1, size_f b b0 b1]
  simp only [Option.bind_some]
  have sa : 0 ≤ (if a < 0 then -a else a) ∧ (if a < 0 then -a else a) ≤ 9223372036854775808 := by split <;> omega
  have sb : 0 ≤ (if b < 0 then -b else b) ∧ (if b < 0 then -b else b) ≤ 9223372036854775808 := by split <;> omega
  rw [Mul64_f _ _ sa.1 (by omega) sb.1 (by omega)]
  simp only [Option.bind_some]
  have hp := mul_le sa.1 sa.2 sb.1 sb.2
  simp only [Int.reduceMul] at hp
  have hab : a * b = if ((decide (a < 0)) != (decide (b < 0))) = true then -((if a < 0 then -a else a) * (if b < 0 then -b else b)) else (if a < 0 then -a else a) * (if b < 0 then -b else b) := by
    by_cases ca : a < 0 <;> by_cases cb : b < 0 <;> simp [ca, cb, Int.neg_mul, Int.mul_neg]
  generalize (if a < 0 then -a else a) * (if b < 0 then -b else b) = S at *
  rw [hab]
  split
  · have hw : Wd.ok (wrap64 (S / 18446744073709551616)) (S % 18446744073709551616) := by
      rw [wrap64_w, Wd.w64_id (by omega) (by omega)]; unfold Wd.ok; omega
    rw [Neg_f hw]
    simp only [Option.bind_some]
    rw [wrap64_w, Wd.w64_id (by omega) (by omega)]
    have : Wd.vl (S / 18446744073709551616) (S % 18446744073709551616) = S := by unfold Wd.vl; omega
    rw [this]
  · simp only [wrap64_w]; rfl
theorem pow_split (n : Nat) (h : n ≤ 64) : (2 : Int) ^ n * 2 ^ (64 - n) = 18446744073709551616 := by
  rw [← Int.pow_add, show n + (64 - n) = 64 by omega]; rfl
theorem pow_pos (n : Nat) : (1 : Int) ≤ 2 ^ n := by
  have : (0 : Int) < 2 ^ n := Int.pow_pos (by decide)
  omega
/-- a word that is shifted up beside one that fills what it leaves -/
theorem or_fill (c d : Int) (n : Nat) (hn : n ≤ 64) (c0 : 0 ≤ c) (c1 : c < 2 ^ n) (d0 : 0 ≤ d) (d1 : d < 2 ^ (64 - n)) : Go.bits .or .u64 (c * 2 ^ (64 - n)) d = c * 2 ^ (64 - n) + d := by
  have hp := pow_split n hn
  have p1 := pow_pos n
  have p2 := pow_pos (64 - n)
  have e1 : (c + 1) * 2 ^ (64 - n) ≤ 2 ^ n * 2 ^ (64 - n) := Int.mul_le_mul_of_nonneg_right (by omega) (by omega)
  rw [Int.add_mul, Int.one_mul, hp] at e1
  have e0 : 0 ≤ c * 2 ^ (64 - n) := Int.mul_nonneg c0 (by omega)
  rw [Go.u64_or _ _ e0 (by omega) d0 (by omega)]
  obtain ⟨C, rfl⟩ := Int.eq_ofNat_of_zero_le c0
  obtain ⟨D, rfl⟩ := Int.eq_ofNat_of_zero_le d0
  have hD : D < 2 ^ (64 - n) := by
    have : ((2 ^ (64 - n) : Nat) : Int) = 2 ^ (64 - n) := by simp
    omega
  have hC : ((C : Int) * 2 ^ (64 - n)).toNat = C * 2 ^ (64 - n) := by
    have : (C : Int) * 2 ^ (64 - n) = ((C * 2 ^ (64 - n) : Nat) : Int) := by simp
    rw [this]; rfl
  rw [hC, Int.toNat_natCast, ← Nat.shiftLeft_eq, ← Nat.shiftLeft_add_eq_or_of_lt hD, Nat.shiftLeft_eq]
  simp
theorem shl_u64 (x : Int) (n : Nat) (hn : n ≤ 64) (h : Int) (hh : h = (n : Int)) : shl .u64 x h = (x * 2 ^ n) % 18446744073709551616 := by
  subst hh
  unfold shl
  rw [u64w, show min ((n : Int)).toNat IntKind.u64.bits = n by simp [IntKind.bits]; omega]
theorem shr_u64 (x : Int) (n : Nat) (hn : n ≤ 64) (h : Int) (hh : h = (n : Int)) : shr .u64 x h = x / 2 ^ n := by
  subst hh
  unfold shr
  rw [show min ((n : Int)).toNat IntKind.u64.bits = n by simp [IntKind.bits]; omega]
theorem shr_i64 (x : Int) (n : Nat) (hn : n ≤ 64) (h : Int) (hh : h = (n : Int)) : shr .i64 x h = x / 2 ^ n := by
  subst hh
  unfold shr
  rw [show min ((n : Int)).toNat IntKind.i64.bits = n by simp [IntKind.bits]; omega]
/-- (x * Q) mod (P * Q) -/
theorem mul_mod (x P Q : Int) (hQ : 0 < Q) : (x * Q) % (P * Q) = (x % P) * Q := by
  rw [Int.mul_comm x Q, Int.mul_comm P Q, Int.mul_emod_mul_of_pos x P hQ, Int.mul_comm]
theorem Shift_end {q0 q1 h l X D : Int} (hq : Wd.ok q0 q1) (hv : Wd.vl q0 q1 = X / D) (hl : 0 ≤ l) (hgt : (h > 9223372036854775808 ∨ (h = 9223372036854775808 ∧ l > 0)) ↔ 2 * (X % D) > D) (heq : (h = 9223372036854775808 ∧ l = 0) ↔ 2 * (X % D) = D) (k : Nat) :
    (if h > 9223372036854775808 then (wide_Shift.j1 (k + 1) true q0 q1) else (if h = 9223372036854775808 then (if l > 0 then (wide_Shift.j1 (k + 1) true q0 q1) else (wide_Shift.j1 (k + 1) ((Go.bits .and .u64 q1 1) == 1) q0 q1)) else (wide_Shift.j1 (k + 1) false q0 q1))) = some (Wd.wr (Wd.rnd X D)) := by
  have ht : wide_Shift.j1 (k + 1) true q0 q1 = some (Wd.wr (X / D + 1)) := by
    simp only [wide_Shift.j1, if_true]
    rw [Of_f 1 (by omega) (by omega)]
    simp only [Option.bind_some]
    rw [Add_f hq (Wd.wr_ok 1), hv, Wd.vl_wr_id (by omega) (by omega)]; rfl
  have hf : wide_Shift.j1 (k + 1) false q0 q1 = some (Wd.wr (X / D)) := by
    simp only [wide_Shift.j1]
    rw [← hv, Wd.wr_vl hq]; rfl
  have ha : Go.bits .and .u64 q1 1 = X / D % 2 := by
    rw [and1 q1 hq.2.2.1 hq.2.2.2, ← hv]; unfold Wd.vl; omega
  rw [ha, ht, hf]
  unfold Wd.rnd
  by_cases c1 : 2 * (X % D) > D
  · rw [if_pos (c := 2 * (X % D) > D ∨ 2 * (X % D) = D ∧ X / D % 2 = 1) (.inl c1)]
    rcases hgt.mpr c1 with h1 | ⟨h1, h2⟩
    · rw [if_pos h1]
    · rw [if_neg (by omega), if_pos h1, if_pos h2]
  · have n1 := fun h => c1 (hgt.mp h)
    rw [if_neg (fun h1 => n1 (.inl h1))]
    by_cases c2 : 2 * (X % D) = D
    · obtain ⟨h1, h2⟩ := heq.mpr c2
      rw [if_pos h1, if_neg (by omega)]
      by_cases c3 : X / D % 2 = 1
      · rw [if_pos (c := 2 * (X % D) > D ∨ 2 * (X % D) = D ∧ X / D % 2 = 1) (.inr ⟨c2, c3⟩), show (X / D % 2 == 1) = true by simpa using c3, ht]
      · rw [if_neg (c := 2 * (X % D) > D ∨ 2 * (X % D) = D ∧ X / D % 2 = 1) (fun h => h.elim c1 (fun h => c3 h.2)), show (X / D % 2 == 1) = false by simpa using c3, hf]
    · rw [if_neg (c := 2 * (X % D) > D ∨ 2 * (X % D) = D ∧ X / D % 2 = 1) (fun h => h.elim c1 (fun h => c2 h.1))]
      by_cases c4 : h = 9223372036854775808
      · exfalso
        by_cases c5 : l > 0
        · exact n1 (.inr ⟨c4, c5⟩)
        · exact c2 (heq.mp ⟨c4, by omega⟩)
      · rw [if_neg c4]
theorem Shift_lo {a0 a1 : Int} (ha : Wd.ok a0 a1) (n : Nat) (h1 : 1 ≤ n) (h2 : n < 64) (k : Nat) : wide_Shift.j0 (k + 1 + 1) n false a0 a1 = some (Wd.wr (Wd.rnd (Wd.vl a0 a1) (2 ^ n))) := by
  obtain ⟨a2, a3, a4, a5⟩ := ha
  have hp := pow_split n (by omega)
  have p1 := pow_pos n
  have p2 := pow_pos (64 - n)
  have hev : ∃ H, (2 : Int) ^ n = 2 * H := ⟨2 ^ (n - 1), by rw [← Int.pow_succ']; congr 1; omega⟩
  have ew : wrap64 (64 - (n : Int)) = ((64 - n : Nat) : Int) := by rw [wrap64_w, Wd.w64_id (by omega) (by omega)]; omega
  simp only [wide_Shift.j0, Bool.false_eq_true, if_false]
  have hd : wide_down.f a0 a1 n = some (a0 / 2 ^ n, (a0 % 2 ^ n) * 2 ^ (64 - n) + a1 / 2 ^ n, (a1 % 2 ^ n) * 2 ^ (64 - n), 0) := by
    unfold wide_down.f
    rw [if_neg (by omega), if_pos (by omega), ew]
    clear ew
    rw [if_pos (by omega), shr_i64 _ n (by omega) _ rfl, shl_u64 _ (64 - n) (by omega) _ rfl, shr_u64 _ n (by omega) _ rfl, shl_u64 _ (64 - n) (by omega) _ rfl, u64w]
    have em : a0 % 18446744073709551616 % 2 ^ n = a0 % 2 ^ n := Int.emod_emod_of_dvd a0 ⟨2 ^ (64 - n), hp.symm⟩
    have e1 : a0 % 18446744073709551616 * 2 ^ (64 - n) % 18446744073709551616 = (a0 % 2 ^ n) * 2 ^ (64 - n) := by
      conv => lhs; rhs; rw [← hp]
      rw [mul_mod _ _ _ (by omega), em]
    have e2 : a1 * 2 ^ (64 - n) % 18446744073709551616 = (a1 % 2 ^ n) * 2 ^ (64 - n) := by
      conv => lhs; rhs; rw [← hp]
      rw [mul_mod _ _ _ (by omega)]
    have d1 : a1 / 2 ^ n < 2 ^ (64 - n) := Int.ediv_lt_of_lt_mul (by omega) (by rw [Int.mul_comm]; omega)
    rw [e1, e2, or_fill _ _ n (by omega) (Int.emod_nonneg _ (by omega)) (Int.emod_lt_of_pos _ (by omega)) (Int.ediv_nonneg a4 (by omega)) d1]
  rw [hd]
  clear ew
  simp only [Option.bind_some]
  obtain ⟨H, hH⟩ := hev
  have d0 : 0 ≤ a1 / 2 ^ n := Int.ediv_nonneg a4 (by omega)
  have d1 : a1 / 2 ^ n < 2 ^ (64 - n) := Int.ediv_lt_of_lt_mul (by omega) (by rw [Int.mul_comm]; omega)
  have c0 := Int.emod_nonneg a0 (show (2 : Int) ^ n ≠ 0 by omega)
  have c1 := Int.emod_lt_of_pos a0 (show (0 : Int) < 2 ^ n by omega)
  have r0 := Int.emod_nonneg a1 (show (2 : Int) ^ n ≠ 0 by omega)
  have r1 := Int.emod_lt_of_pos a1 (show (0 : Int) < 2 ^ n by omega)
  have ea := Int.emod_add_mul_ediv a0 (2 ^ n)
  have e1 := Int.emod_add_mul_ediv a1 (2 ^ n)
  have hhi : -9223372036854775808 ≤ a0 / 2 ^ n ∧ a0 / 2 ^ n ≤ 9223372036854775807 := by
    constructor
    · apply Int.le_ediv_of_mul_le (by omega)
      have : (-9223372036854775808 : Int) * 2 ^ n ≤ -9223372036854775808 * 1 := Int.mul_le_mul_of_nonpos_left (by omega) (by omega)
      omega
    · apply Int.ediv_le_of_le_mul (by omega)
      have : (9223372036854775807 : Int) * 1 ≤ 9223372036854775807 * 2 ^ n := Int.mul_le_mul_of_nonneg_left (by omega) (by omega)
      omega
  generalize (2 : Int) ^ n = P at *
  generalize (2 : Int) ^ (64 - n) = Q at *
  have m1 : (a0 % P + 1) * Q ≤ P * Q := Int.mul_le_mul_of_nonneg_right (by omega) (by omega)
  rw [Int.add_mul, Int.one_mul, hp] at m1
  have m0 : 0 ≤ a0 % P * Q := Int.mul_nonneg c0 (by omega)
  have hX : Wd.vl a0 a1 = a1 + P * (a0 * Q) := by
    unfold Wd.vl; rw [← hp]; grind
  have hmod : Wd.vl a0 a1 % P = a1 % P := by rw [hX, Int.add_mul_emod_self_left]
  have hdiv : Wd.vl a0 a1 / P = a1 / P + a0 * Q := by rw [hX, Int.add_mul_ediv_left _ _ (by omega)]
  have hq : Wd.ok (a0 / P) (a0 % P * Q + a1 / P) := ⟨hhi.1, hhi.2, by omega, by omega⟩
  have hv : Wd.vl (a0 / P) (a0 % P * Q + a1 / P) = Wd.vl a0 a1 / P := by
    rw [hdiv]; unfold Wd.vl
    rw [← hp]
    have : a0 * Q = a0 % P * Q + a0 / P * (P * Q) := by
      conv => lhs; rw [← ea]
      grind
    omega
  refine Shift_end hq hv (by omega) ?_ ?_ k
  · rw [hmod]
    have : (a1 % P * Q > 9223372036854775808) ↔ 2 * (a1 % P) > P := by
      constructor
      · intro h
        by_cases c : 2 * (a1 % P) > P
        · exact c
        · have : 2 * (a1 % P) * Q ≤ P * Q := Int.mul_le_mul_of_nonneg_right (by omega) (by omega)
          rw [Int.mul_assoc] at this; omega
      · intro h
        have : (P + 1) * Q ≤ 2 * (a1 % P) * Q := Int.mul_le_mul_of_nonneg_right (by omega) (by omega)
        rw [Int.add_mul, Int.one_mul, hp, Int.mul_assoc] at this; omega
    rw [← this]
    omega
  · rw [hmod]
    constructor
    · rintro ⟨h, _⟩
      have : 2 * (a1 % P) * Q = P * Q := by rw [hp, Int.mul_assoc]; omega
      exact Int.eq_of_mul_eq_mul_right (by omega) this
    · intro h
      have : 2 * (a1 % P) * Q = P * Q := by rw [h]
      rw [hp, Int.mul_assoc] at this; omega
theorem Shift_hi {a0 a1 : Int} (ha : Wd.ok a0 a1) (m : Nat) (h2 : m ≤ 62) (k : Nat) : wide_Shift.j0 (k + 1 + 1) ((m + 64 : Nat) : Int) false a0 a1 = some (Wd.wr (Wd.rnd (Wd.vl a0 a1) (18446744073709551616 * 2 ^ m))) := by
  obtain ⟨a2, a3, a4, a5⟩ := ha
  have hp := pow_split m (by omega)
  have p1 := pow_pos m
  have p2 := pow_pos (64 - m)
  have ew : wrap64 (((m + 64 : Nat) : Int) - 64) = (m : Int) := by rw [wrap64_w, Wd.w64_id (by omega) (by omega)]; omega
  have ew2 : wrap64 (64 - (m : Int)) = ((64 - m : Nat) : Int) := by rw [wrap64_w, Wd.w64_id (by omega) (by omega)]; omega
  simp only [wide_Shift.j0, Bool.false_eq_true, if_false]
  have hd : wide_down.f a0 a1 ((m + 64 : Nat) : Int) = some (a0 / 9223372036854775808, (a0 / 2 ^ m) % 18446744073709551616, (a0 % 2 ^ m) * 2 ^ (64 - m) + a1 / 2 ^ m, (a1 % 2 ^ m) * 2 ^ (64 - m)) := by
    unfold wide_down.f
    rw [ew, ew2]
    clear ew ew2
    rw [if_pos (by omega), if_pos (by omega), if_pos (by omega), shr_i64 _ m (by omega) _ rfl, shl_u64 _ (64 - m) (by omega) _ rfl, shr_u64 _ m (by omega) _ rfl, shl_u64 _ (64 - m) (by omega) _ rfl, u64w, u64w]
    have em : a0 % 18446744073709551616 % 2 ^ m = a0 % 2 ^ m := Int.emod_emod_of_dvd a0 ⟨2 ^ (64 - m), hp.symm⟩
    have e1 : a0 % 18446744073709551616 * 2 ^ (64 - m) % 18446744073709551616 = (a0 % 2 ^ m) * 2 ^ (64 - m) := by
      conv => lhs; rhs; rw [← hp]
      rw [mul_mod _ _ _ (by omega), em]
    have e2 : a1 * 2 ^ (64 - m) % 18446744073709551616 = (a1 % 2 ^ m) * 2 ^ (64 - m) := by
      conv => lhs; rhs; rw [← hp]
      rw [mul_mod _ _ _ (by omega)]
    have d1 : a1 / 2 ^ m < 2 ^ (64 - m) := Int.ediv_lt_of_lt_mul (by omega) (by rw [Int.mul_comm]; omega)
    rw [e1, e2, or_fill _ _ m (by omega) (Int.emod_nonneg _ (by omega)) (Int.emod_lt_of_pos _ (by omega)) (Int.ediv_nonneg a4 (by omega)) d1]
  rw [hd]
  clear ew ew2
  simp only [Option.bind_some]
  have d0 : 0 ≤ a1 / 2 ^ m := Int.ediv_nonneg a4 (by omega)
  have d1 : a1 / 2 ^ m < 2 ^ (64 - m) := Int.ediv_lt_of_lt_mul (by omega) (by rw [Int.mul_comm]; omega)
  have c0 := Int.emod_nonneg a0 (show (2 : Int) ^ m ≠ 0 by omega)
  have c1 := Int.emod_lt_of_pos a0 (show (0 : Int) < 2 ^ m by omega)
  have r0 := Int.emod_nonneg a1 (show (2 : Int) ^ m ≠ 0 by omega)
  have r1 := Int.emod_lt_of_pos a1 (show (0 : Int) < 2 ^ m by omega)
  have ea := Int.emod_add_mul_ediv a0 (2 ^ m)
  have e1 := Int.emod_add_mul_ediv a1 (2 ^ m)
  have hhi : -9223372036854775808 ≤ a0 / 2 ^ m ∧ a0 / 2 ^ m ≤ 9223372036854775807 := by
    constructor
    · apply Int.le_ediv_of_mul_le (by omega)
      have : (-9223372036854775808 : Int) * 2 ^ m ≤ -9223372036854775808 * 1 := Int.mul_le_mul_of_nonpos_left (by omega) (by omega)
      omega
    · apply Int.ediv_le_of_le_mul (by omega)
      have : (9223372036854775807 : Int) * 1 ≤ 9223372036854775807 * 2 ^ m := Int.mul_le_mul_of_nonneg_left (by omega) (by omega)
      omega
  have hneg : a0 < 0 ↔ a0 / 2 ^ m < 0 := by
    constructor
    · intro h; exact Int.ediv_neg_of_neg_of_pos h (by omega)
    · intro h
      by_cases c : a0 < 0
      · exact c
      · have := Int.ediv_nonneg (show 0 ≤ a0 by omega) (show (0 : Int) ≤ 2 ^ m by omega); omega
  generalize (2 : Int) ^ m = P at *
  generalize (2 : Int) ^ (64 - m) = Q at *
  have b1 : (a0 % P + 1) * Q ≤ P * Q := Int.mul_le_mul_of_nonneg_right (by omega) (by omega)
  rw [Int.add_mul, Int.one_mul, hp] at b1
  have b0 : 0 ≤ a0 % P * Q := Int.mul_nonneg c0 (by omega)
  have b3 : (a1 % P + 1) * Q ≤ P * Q := Int.mul_le_mul_of_nonneg_right (by omega) (by omega)
  rw [Int.add_mul, Int.one_mul, hp] at b3
  have b2 : 0 ≤ a1 % P * Q := Int.mul_nonneg r0 (by omega)
  have hX : Wd.vl a0 a1 = (a1 + 18446744073709551616 * (a0 % P)) + (18446744073709551616 * P) * (a0 / P) := by
    unfold Wd.vl; conv => lhs; rw [← ea]
    grind
  have hr : 0 ≤ a1 + 18446744073709551616 * (a0 % P) ∧ a1 + 18446744073709551616 * (a0 % P) < 18446744073709551616 * P := by omega
  have hmod : Wd.vl a0 a1 % (18446744073709551616 * P) = a1 + 18446744073709551616 * (a0 % P) := by
    rw [hX, Int.add_mul_emod_self_left, Int.emod_eq_of_lt hr.1 hr.2]
  have hdiv : Wd.vl a0 a1 / (18446744073709551616 * P) = a0 / P := by
    rw [hX, Int.add_mul_ediv_left _ _ (by omega), Int.ediv_eq_zero_of_lt hr.1 hr.2, Int.zero_add]
  have hq : Wd.ok (a0 / 9223372036854775808) (a0 / P % 18446744073709551616) := by unfold Wd.ok; omega
  have hv : Wd.vl (a0 / 9223372036854775808) (a0 / P % 18446744073709551616) = Wd.vl a0 a1 / (18446744073709551616 * P) := by
    rw [hdiv]; unfold Wd.vl; omega
  -- all that falls out, Q times
  have hA : (a1 + 18446744073709551616 * (a0 % P)) * Q = (a0 % P * Q + a1 / P) * 18446744073709551616 + a1 % P * Q := by
    have : a1 * Q = a1 % P * Q + a1 / P * (P * Q) := by
      conv => lhs; rw [← e1]
      grind
    rw [Int.add_mul, this, hp]; grind
  refine Shift_end hq hv b2 ?_ ?_ k
  · rw [hmod]
    have : (2 * (a1 + 18446744073709551616 * (a0 % P)) > 18446744073709551616 * P) ↔ 2 * ((a1 + 18446744073709551616 * (a0 % P)) * Q) > 18446744073709551616 * (P * Q) := by
      rw [← Int.mul_assoc, ← Int.mul_assoc]
      constructor
      · intro h; exact Int.mul_lt_mul_of_pos_right h (by omega)
      · intro h; exact Int.lt_of_mul_lt_mul_right h (by omega)
    rw [this, hA, hp]
    omega
  · rw [hmod]
    have : (2 * (a1 + 18446744073709551616 * (a0 % P)) = 18446744073709551616 * P) ↔ 2 * ((a1 + 18446744073709551616 * (a0 % P)) * Q) = 18446744073709551616 * (P * Q) := by
      rw [← Int.mul_assoc, ← Int.mul_assoc]
      constructor
      · intro h; rw [h]
      · intro h; exact Int.eq_of_mul_eq_mul_right (by omega) h
    rw [this, hA, hp]
    omega
/-- Shift, at every count that it takes -/
theorem Shift_f {a0 a1 : Int} (ha : Wd.ok a0 a1) (n : Nat) (h1 : 1 ≤ n) (h2 : n ≤ 126) (k : Nat) (hk : 2 ≤ k) : wide_Shift.f k a0 a1 n = some (Wd.wr (Wd.rnd (Wd.vl a0 a1) (2 ^ n))) := by
  obtain ⟨k, rfl⟩ : ∃ m, k = m + 1 + 1 := ⟨k - 2, by omega⟩
  unfold wide_Shift.f
  rw [if_neg (by omega), decide_eq_false (by omega)]
  by_cases c : n < 64
  · exact Shift_lo ha n h1 c k
  · obtain ⟨m, rfl⟩ : ∃ m, n = m + 64 := ⟨n - 64, by omega⟩
    rw [Shift_hi ha m (by omega) k, Int.pow_add, Int.mul_comm]; rfl
theorem tGood_f (d v : List Int) (k : Nat) (hk : 10 ≤ k) : tens_Good.f k d v = some (Shp.good d && decide ((v.length : Int) = Shp.siz d)) := by
  unfold tens_Good.f
  rw [Good_f d k hk]
  simp only [Option.bind_some]
  cases h : Shp.good d
  · simp
  · rw [if_pos rfl, Size_f d k hk]
    simp only [Option.bind_some, Bool.true_and]
    congr 1
theorem Fix_f {h l : Int} (hv : Wd.ok h l) (k : Nat) (hk : 1 ≤ k) : wide_Fix.f k h l = some (Fx.clamp (Wd.vl h l)) := by
  obtain ⟨k, rfl⟩ : ∃ m, k = m + 1 := ⟨k - 1, by omega⟩
  unfold Wd.ok at hv
  unfold wide_Fix.f Wd.vl Fx.clamp
  by_cases c : h > 0
  · rw [if_pos c]
    simp only [wide_Fix.j0, if_true]
    congr 1; omega
  · rw [if_neg c]
    by_cases d : h = 0
    · subst d
      rw [if_pos rfl]
      by_cases e : l ≥ 9223372036854775808
      · rw [decide_eq_true e]
        simp only [wide_Fix.j0, if_true]
        congr 1; omega
      · rw [decide_eq_false e]
        simp only [wide_Fix.j0, Bool.false_eq_true, if_false]
        rw [if_neg (by omega), if_neg (by omega)]
        congr 1; unfold wrap64; omega
    · rw [if_neg d]
      simp only [wide_Fix.j0, Bool.false_eq_true, if_false]
      split
      · congr 1; omega
      · split
        · split
          · congr 1; omega
          · congr 1; unfold wrap64; omega
        · congr 1; omega
theorem ab_mul (a b : Int) : Fx.ab a * Fx.ab b = if ((decide (a < 0)) != (decide (b < 0))) = true then -(a * b) else a * b := by
  unfold Fx.ab
  by_cases c : a < 0 <;> by_cases d : b < 0 <;> simp [c, d, Int.neg_mul, Int.mul_neg]
def tab (n : Nat) (g : Nat → Int) : List Int := (List.range n).map g
theorem tab_length (n : Nat) (g : Nat → Int) : (tab n g).length = n := by simp [tab]
theorem tab_ext {n : Nat} {f g : Nat → Int} (e : ∀ i, i < n → f i = g i) : tab n f = tab n g := by
  unfold tab
  apply List.map_congr_left
  intro i hi
  exact e i (List.mem_range.mp hi)
theorem set_take' (l : List Int) (i : Nat) (x : Int) (h : i < l.length) : (l.set i x).take (i + 1) = l.take i ++ [x] := by
  rw [List.take_succ_eq_append_getElem (by simpa using h), List.take_set_of_le (by omega)]
  simp
theorem tab_succ (n : Nat) (g : Nat → Int) : tab (n + 1) g = tab n g ++ [g n] := by
  unfold tab; rw [List.range_succ, List.map_append]; rfl
theorem rAlike_l0 (d e v u : List Int) (hm : v.length ≤ 1000000) (hv : v.length = u.length) : ∀ (c i k : Nat), i + c = v.length → c < k → carouselref5_Alike.l0 k i d v e u = some (decide (v.drop i = u.drop i)) := by
  intro c
  induction c with
  | zero =>
    intro i k hi hk
    obtain ⟨k, rfl, -⟩ := k_succ hk
    simp only [carouselref5_Alike.l0]
    rw [if_neg (by omega), List.drop_of_length_le (by omega), List.drop_of_length_le (by omega)]
    simp
  | succ c ih =>
    intro i k hi hk
    obtain ⟨k, rfl, hk⟩ := k_succ hk
    simp only [carouselref5_Alike.l0]
    rw [if_pos (by omega), if_pos (by omega), if_pos (by omega), drop_rd v i (by omega), drop_rd u i (by omega), w64 (x := (i : Int) + 1) (by omega) (by omega)]
    have := ih (i + 1) k (by omega) (by omega)
    rw [Int.natCast_add] at this
    split
    · rename_i h
      have this' : carouselref5_Alike.l0 k ((i : Int) + 1) d v e u = _ := this
      rw [this', h]; simp
    · rename_i h; simp [h]
theorem rAlike_f (d v e u : List Int) (hd : d.length ≤ 1000000) (hv : v.length ≤ 1000000) (k : Nat) (hk1 : d.length + 1 < k) (hk2 : v.length + 1 < k) : carouselref5_Alike.f k d v e u = some (decide (d = e ∧ v = u)) := by
  unfold carouselref5_Alike.f
  obtain ⟨k, rfl⟩ : ∃ j, k = j + 1 := ⟨k - 1, by omega⟩
  rw [rSame_f d e (by omega) (k + 1) (by omega)]
  simp only [Option.bind_some, carouselref5_Alike.j0]
  by_cases c1 : d = e
  · rw [if_pos (by simp [c1])]
    by_cases c2 : v.length = u.length
    · rw [if_neg (by simp [c2])]
      have := rAlike_l0 d e v u hv c2 v.length 0 k (by omega) (by omega)
      rw [show ((0 : Nat) : Int) = 0 from rfl] at this
      rw [this]; simp [c1]
    · rw [if_pos (by simp; omega)]
      have : v ≠ u := fun h => c2 (by rw [h])
      simp [this]
  · rw [if_neg (by simp [c1])]
    simp [c1]
theorem good_len {d : List Int} (h : Shp.good d = true) : d.length ≤ 4 := (Shp.good_iff.mp h).1
theorem bmul_f (a b : Int) (a0 : 0 ≤ a) (a1 : a ≤ 18446744073709551615) (b0 : 0 ≤ b) (b1 : b ≤ 18446744073709551615) : bits_Mul.f a b = some (a * b / 18446744073709551616, a * b % 18446744073709551616) := by
  unfold bits_Mul.f
  rw [Mul64_f a b a0 a1 b0 b1]
  rfl
theorem tRepeat_f (v n : Int) (h1 : 1 ≤ n) (h2 : n ≤ 4096) : slices_Repeat_Fix.f [v] n = some (List.replicate n.toNat v) := by
  unfold slices_Repeat_Fix.f
  rw [bmul_f 1 n (by omega) (by omega) (by omega) (by omega)]
  simp only [Option.bind_some]
  rw [if_pos ⟨rfl, h1, h2, by omega, by omega⟩]
  rfl
def tnew (d : List Int) (v : Int) : List Int × List Int × Int := if Shp.good d = true then (d, List.replicate (Shp.siz d).toNat v, 0) else ([], [], 1)
theorem siz_one {d : List Int} (h : Shp.good d = true) : 1 ≤ Shp.siz d := by
  rw [Shp.siz_good h]; exact Shp.pl_pos (Shp.good_iff.mp h).2.1
theorem tNew_f (d : List Int) (v : Int) (k : Nat) (hk : 10 ≤ k) : tens_New.f k d v = some (tnew d v) := by
  unfold tens_New.f tnew
  rw [Good_f d k hk]
  simp only [Option.bind_some]
  cases h : Shp.good d
  · simp
  · have := siz_one h
    have := Shp.siz_le d
    have hl := good_len h
    rw [if_pos rfl, if_pos rfl]
    unfold slices_Clone_int_int.f
    rw [if_pos (by omega), Size_f d k hk]
    simp only [Option.bind_some]
    rw [tRepeat_f v _ (by omega) (by omega)]
    rfl
/-- sums that are exact: the program's (a top, and two words), the document's (four words and a sign) -/
def aok (s0 s1 s2 X : Int) : Prop := Wd.ok s1 s2 ∧ s0 * 340282366920938463463374607431768211456 + (s1 % 18446744073709551616) * 18446744073709551616 + s2 = X
def xok (X : Int) : Prop := -1532495540865888858358347027150309183618739122183602176 ≤ X ∧ X ≤ 1532495540865888858358347027150309183618739122183602176
theorem prod_bd {a b : Int} (ha : Fx.ok a) (hb : Fx.ok b) : -85070591730234615865843651857942052864 ≤ a * b ∧ a * b ≤ 85070591730234615865843651857942052864 := by
  have e := ab_mul a b
  have h1 := Fx.ab_le ha
  have h2 := Fx.ab_le hb
  have h3 := mul_bd (Fx.ab_nonneg a) h1 (Fx.ab_nonneg b) h2
  rw [e] at h3
  split at h3 <;> omega
theorem APlus_f {s0 s1 s2 X a b : Int} (h : aok s0 s1 s2 X) (hx : xok X) (ha : Fx.ok a) (hb : Fx.ok b) : ∃ t0 t1 t2, wide_Acc_Plus.f s0 s1 s2 a b = some (t0, t1, t2) ∧ aok t0 t1 t2 (X + a * b) := by
  obtain ⟨⟨h1, h2, h3, h4⟩, hv⟩ := h
  have pb := prod_bd ha hb
  have hp := Wd.vl_wr_id (x := a * b) (by omega) (by omega)
  obtain ⟨p1, p2, p3, p4⟩ := Wd.wr_ok (a * b)
  unfold wide_Acc_Plus.f
  rw [Prod_f a b ha.1 ha.2 hb.1 hb.2, Option.bind_some]
  unfold Wd.vl at hp
  generalize (Wd.wr (a * b)).1 = q1 at *
  generalize (Wd.wr (a * b)).2 = q2 at *
  rw [Add64_f s2 q2 0 h3 p3 (by omega) (by omega), Option.bind_some]
  simp only []
  rw [u64w, u64w, Add64_f _ _ _ (Int.emod_nonneg _ (by decide)) (Int.emod_nonneg _ (by decide)) (by omega) (by omega), Option.bind_some]
  refine ⟨_, _, _, rfl, ⟨?_, ?_, ?_, ?_⟩, ?_⟩
  · unfold wrap64; omega
  · unfold wrap64; omega
  · omega
  · omega
  · unfold xok at hx
    simp only []
    have e1 : wrap64 ((s1 % 18446744073709551616 + q1 % 18446744073709551616 + (s2 + q2 + 0) / 18446744073709551616) / 18446744073709551616) = (s1 % 18446744073709551616 + q1 % 18446744073709551616 + (s2 + q2 + 0) / 18446744073709551616) / 18446744073709551616 := w64 (by omega) (by omega)
    rw [e1, w64 (x := q1 / 9223372036854775808 + _) (by omega) (by omega), w64 (x := s0 + _) (by omega) (by omega)]
    unfold wrap64
    omega
theorem rnd_mono_hi {X P B : Int} (hP : 0 < P) (h : B * P ≤ X) : B ≤ Wd.rnd X P := by
  have : B ≤ X / P := (Int.le_ediv_iff_mul_le hP).mpr h
  unfold Wd.rnd; split <;> omega
theorem rnd_mono_lo {X P B : Int} (hP : 0 < P) (h : X < B * P) : Wd.rnd X P ≤ B := by
  have : X / P < B := Int.ediv_lt_of_lt_mul hP h
  unfold Wd.rnd; split <;> omega
/-- a sum by 2^32, rounded once, held -/
def hold (X : Int) : Int := Fx.clamp (Wd.rnd X 4294967296)
theorem AFix_f {s0 s1 s2 X : Int} (h : aok s0 s1 s2 X) (k : Nat) (hk : 2 ≤ k) : wide_Acc_Fix.f k s0 s1 s2 32 = some (hold X) := by
  obtain ⟨ho, hv⟩ := h
  obtain ⟨h1, h2, h3, h4⟩ := id ho
  unfold wide_Acc_Fix.f hold
  by_cases c : s0 = s1 / 9223372036854775808
  · rw [if_pos c]
    have e : Wd.vl s1 s2 = X := by unfold Wd.vl; omega
    have := Shift_f ho 32 (by omega) (by omega) k hk
    rw [show ((32 : Nat) : Int) = 32 from rfl, show (2 : Int) ^ 32 = 4294967296 from rfl] at this
    have vb := Wd.vl_bd ho
    have rb := Wd.rnd_bd (Wd.vl s1 s2) 4294967296 (by omega) (B := 170141183460469231731687303715884105728) (by omega) (by omega) (by omega)
    have rb2 := rnd_mono_lo (X := Wd.vl s1 s2) (P := 4294967296) (B := 170141183460469231731687303715884105727) (by omega) (by omega)
    rw [this, Option.bind_some, Fix_f (Wd.wr_ok _) k (by omega), Option.bind_some, Wd.vl_wr_id (by omega) (by omega), e]
  · rw [if_neg c]
    by_cases d : s0 < 0
    · rw [if_pos d]
      have : Wd.rnd X 4294967296 ≤ -9223372036854775808 := rnd_mono_lo (by omega) (by omega)
      unfold Fx.clamp
      congr 1; omega
    · rw [if_neg d]
      have : 9223372036854775807 ≤ Wd.rnd X 4294967296 := rnd_mono_hi (by omega) (by omega)
      unfold Fx.clamp
      congr 1; omega
/-- a sum -/
def sumN : Nat → (Nat → Int) → Int
  | 0, _ => 0
  | n + 1, f => sumN n f + f n
theorem sumN_congr {f g : Nat → Int} : ∀ n, (∀ i, i < n → f i = g i) → sumN n f = sumN n g := by
  intro n
  induction n with
  | zero => intro _; rfl
  | succ n ih => intro h; simp only [sumN]; rw [ih (fun i hi => h i (by omega)), h n (by omega)]
theorem sumN_bd {f : Nat → Int} {B : Int} : ∀ n : Nat, (∀ i, i < n → -B ≤ f i ∧ f i ≤ B) → -((n : Int) * B) ≤ sumN n f ∧ sumN n f ≤ (n : Int) * B := by
  intro n
  induction n with
  | zero => intro _; simp [sumN]
  | succ n ih =>
    intro h
    have a := ih (fun i hi => h i (by omega))
    have b := h n (by omega)
    simp only [sumN]
    rw [Int.natCast_add, Int.add_mul]
    omega
theorem rd_ok {l : List Int} (h : ∀ x ∈ l, Fx.ok x) (i : Int) : Fx.ok (rd l i) := by
  unfold rd
  rw [List.getD_eq_getElem?_getD]
  cases e : l[i.toNat]? with
  | none => exact ⟨by decide, by decide⟩
  | some x => exact h x (List.mem_of_getElem? e)
/-- one product of a window -/
def rterm (av kv : List Int) (step rows long wid o n c w : Nat) : Int := rd av ((c * long + n * step + w : Nat) : Int) * rd kv (((o * rows + c) * wid + w : Nat) : Int)
def rsum (av kv : List Int) (step rows long wid o n : Nat) : Int := sumN rows (fun c => sumN wid (rterm av kv step rows long wid o n c))
theorem rterm_bd {av kv : List Int} (ha : ∀ x ∈ av, Fx.ok x) (hk : ∀ x ∈ kv, Fx.ok x) (step rows long wid o n c w : Nat) : -85070591730234615865843651857942052864 ≤ rterm av kv step rows long wid o n c w ∧ rterm av kv step rows long wid o n c w ≤ 85070591730234615865843651857942052864 :=
  prod_bd (rd_ok ha _) (rd_ok hk _)
theorem row_bd {av kv : List Int} (ha : ∀ x ∈ av, Fx.ok x) (hk : ∀ x ∈ kv, Fx.ok x) (step rows long wid o n c : Nat) (hw : wid ≤ 4096) : -348449143727040986586495598010130648530944 ≤ sumN wid (rterm av kv step rows long wid o n c) ∧ sumN wid (rterm av kv step rows long wid o n c) ≤ 348449143727040986586495598010130648530944 := by
  have := sumN_bd (B := 85070591730234615865843651857942052864) wid (fun i _ => rterm_bd ha hk step rows long wid o n c i)
  omega
theorem idxA {c rows long m : Nat} (hc : c < rows) (h : m < long) : c * long + m < rows * long := by
  have := Nat.mul_le_mul_right long (show c + 1 ≤ rows by omega)
  rw [Nat.add_mul] at this
  omega
theorem wA (a b c d w : Nat) (h : a * b + c * d + w ≤ 100000) : wrap64 (wrap64 (wrap64 ((a : Int) * (b : Int)) + wrap64 ((c : Int) * (d : Int))) + (w : Int)) = ((a * b + c * d + w : Nat) : Int) := by
  rw [show (a : Int) * (b : Int) = ((a * b : Nat) : Int) by simp, show (c : Int) * (d : Int) = ((c * d : Nat) : Int) by simp]
  generalize a * b = p at *
  generalize c * d = q at *
  rw [w64 (x := (p : Int)) (by omega) (by omega), w64 (x := (q : Int)) (by omega) (by omega), w64 (x := (p : Int) + (q : Int)) (by omega) (by omega), w64 (x := (p : Int) + (q : Int) + (w : Int)) (by omega) (by omega)]
  omega
theorem wK (o rows c wid w : Nat) (h1 : o * rows + c ≤ 100000) (h : (o * rows + c) * wid + w ≤ 100000) : wrap64 (wrap64 (wrap64 (wrap64 ((o : Int) * (rows : Int)) + (c : Int)) * (wid : Int)) + (w : Int)) = (((o * rows + c) * wid + w : Nat) : Int) := by
  rw [show (o : Int) * (rows : Int) = ((o * rows : Nat) : Int) by simp]
  generalize o * rows = p at *
  rw [w64 (x := (p : Int)) (by omega) (by omega), w64 (x := (p : Int) + (c : Int)) (by omega) (by omega), show ((p : Int) + (c : Int)) * (wid : Int) = (((p + c) * wid : Nat) : Int) by simp]
  generalize (p + c) * wid = q at *
  rw [w64 (x := (q : Int)) (by omega) (by omega), w64 (x := (q : Int) + (w : Int)) (by omega) (by omega)]
  omega
/-- the sides of rows, of windows: what is known -/
structure RowS (av kv : List Int) (step rows long wid many outs : Nat) : Prop where
  ha : ∀ x ∈ av, Fx.ok x
  hk : ∀ x ∈ kv, Fx.ok x
  la : av.length = rows * long
  lk : kv.length = outs * rows * wid
  r4 : rows * long ≤ 4096
  k4 : outs * rows * wid ≤ 4096
  p1 : 1 ≤ rows
  p2 : 1 ≤ wid
  p3 : 1 ≤ many
  p4 : 1 ≤ outs
  hm : ∀ n, n < many → n * step + wid ≤ long
  m4 : outs * many ≤ 4096
theorem RowS.wid4 {av kv : List Int} {step rows long wid many outs : Nat} (S : RowS av kv step rows long wid many outs) : wid ≤ 4096 ∧ rows ≤ 4096 ∧ long ≤ 4096 := by
  have h0 := S.hm 0 S.p3
  have a := Nat.mul_le_mul_right long S.p1
  have b := Nat.mul_le_mul_left rows (show 1 ≤ long by have := S.p2; omega)
  have := S.r4
  omega
theorem RowS.ai {av kv : List Int} {step rows long wid many outs : Nat} (S : RowS av kv step rows long wid many outs) {c n w : Nat} (hc : c < rows) (hn : n < many) (hw : w < wid) : c * long + n * step + w < av.length := by
  have := S.hm n hn
  have := idxA (m := n * step + w) hc (show n * step + w < long by omega)
  rw [S.la]; omega
theorem RowS.ki {av kv : List Int} {step rows long wid many outs : Nat} (S : RowS av kv step rows long wid many outs) {o c w : Nat} (ho : o < outs) (hc : c < rows) (hw : w < wid) : o * rows + c < outs * rows ∧ (o * rows + c) * wid + w < kv.length := by
  have h1 := idxA ho hc
  have h2 := idxA h1 hw
  rw [S.lk]
  exact ⟨h1, h2⟩
theorem RowS.or4 {av kv : List Int} {step rows long wid many outs : Nat} (S : RowS av kv step rows long wid many outs) : outs * rows ≤ 4096 := by
  have a := Nat.mul_le_mul_left (outs * rows) S.p2
  have := S.k4
  omega
theorem Row_l2 {av kv : List Int} {step rows long wid many outs : Nat} (S : RowS av kv step rows long wid many outs) (i o n c : Nat) (ho : o < outs) (hn : n < many) (hc : c < rows) (N : Int) (ad kd td tv : List Int) :
    ∀ (d w k : Nat) (s0 s1 s2 X B : Int), w + d = wid → aok s0 s1 s2 X → -B ≤ X → X ≤ B → B + d * 85070591730234615865843651857942052864 ≤ 1532495540865888858358347027150309183618739122183602176 → d + 1 ≤ k →
    ∃ t0 t1 t2, aok t0 t1 t2 (X + (sumN wid (rterm av kv step rows long wid o n c) - sumN w (rterm av kv step rows long wid o n c))) ∧
      conv_Row.l2 k step rows long wid many i o n c N i rows c wid w ad av kd kv td tv s0 s1 s2 = conv_Row.l1 (k - d - 1) step rows long wid many i o n N i rows ((c : Int) + 1) ad av kd kv td tv t0 t1 t2 := by
  have w4 := S.wid4
  intro d
  induction d with
  | zero =>
    intro w k s0 s1 s2 X B hw hs b1 b2 hB hk
    obtain ⟨k, rfl⟩ : ∃ m, k = m + 1 := ⟨k - 1, by omega⟩
    refine ⟨s0, s1, s2, ?_, ?_⟩
    · rw [show w = wid by omega, Int.sub_self, Int.add_zero]; exact hs
    · simp only [conv_Row.l2]
      rw [if_neg (by omega), w64 (x := (c : Int) + 1) (by omega) (by omega)]
      rfl
  | succ d ih =>
    intro w k s0 s1 s2 X B hw hs b1 b2 hB hk
    obtain ⟨k, rfl⟩ : ∃ m, k = m + 1 := ⟨k - 1, by omega⟩
    have hi := S.ai hc hn (show w < wid by omega)
    have hj := S.ki ho hc (show w < wid by omega)
    have l1 := S.r4
    have l2 := S.k4
    have l3 := S.or4
    have e1 := S.la
    have e2 := S.lk
    have tb := rterm_bd S.ha S.hk step rows long wid o n c w
    obtain ⟨t0, t1, t2, e, ht⟩ := APlus_f hs (by unfold xok; omega) (rd_ok S.ha ((c * long + n * step + w : Nat) : Int)) (rd_ok S.hk (((o * rows + c) * wid + w : Nat) : Int))
    obtain ⟨u0, u1, u2, hu, eu⟩ := ih (w + 1) k t0 t1 t2 _ (B + 85070591730234615865843651857942052864) (by omega) ht (by unfold rterm at tb; omega) (by unfold rterm at tb; omega) (by rw [Int.natCast_add] at hB; omega) (by omega)
    refine ⟨u0, u1, u2, ?_, ?_⟩
    · have : sumN (w + 1) (rterm av kv step rows long wid o n c) = sumN w (rterm av kv step rows long wid o n c) + rd av ((c * long + n * step + w : Nat) : Int) * rd kv (((o * rows + c) * wid + w : Nat) : Int) := rfl
      rw [this] at hu
      rw [show X + (sumN wid (rterm av kv step rows long wid o n c) - sumN w (rterm av kv step rows long wid o n c)) = X + rd av ((c * long + n * step + w : Nat) : Int) * rd kv (((o * rows + c) * wid + w : Nat) : Int) + (sumN wid (rterm av kv step rows long wid o n c) - (sumN w (rterm av kv step rows long wid o n c) + rd av ((c * long + n * step + w : Nat) : Int) * rd kv (((o * rows + c) * wid + w : Nat) : Int))) by omega]
      exact hu
    · simp only [conv_Row.l2]
      rw [if_pos (by omega), wA c long n step w (by omega), wK o rows c wid w (by omega) (by omega), if_pos (Int.natCast_nonneg _), if_pos (by omega), if_pos (Int.natCast_nonneg _), if_pos (by omega), e, Option.bind_some, w64 (x := (w : Int) + 1) (by omega) (by omega)]
      rw [Int.natCast_add] at eu
      rw [show k + 1 - (d + 1) - 1 = k - d - 1 by omega]
      exact eu
theorem Row_l1 {av kv : List Int} {step rows long wid many outs : Nat} (S : RowS av kv step rows long wid many outs) (i o n : Nat) (ho : o < outs) (hn : n < many) (N : Int) (ad kd td tv : List Int) (hi : i < tv.length) (hi4 : i < 5000) :
    ∀ (d c k : Nat) (s0 s1 s2 X B : Int), c + d = rows → aok s0 s1 s2 X → -B ≤ X → X ≤ B → B + d * 348449143727040986586495598010130648530944 ≤ 766247770432944429179173513575154591809369561091801088 → d * (wid + 2) + 5 ≤ k →
      ∃ k', k' = k - d * (wid + 2) - 1 ∧ conv_Row.l1 k step rows long wid many i o n N i rows c ad av kd kv td tv s0 s1 s2 = conv_Row.l0 k' step rows long wid many N ((i : Int) + 1) ad av kd kv td (tv.set i (hold (X + (rsum av kv step rows long wid o n - sumN c (fun c => sumN wid (rterm av kv step rows long wid o n c)))))) := by
  have w4 := S.wid4
  intro d
  induction d with
  | zero =>
    intro c k s0 s1 s2 X B hc hs b1 b2 hB hk
    obtain ⟨k, rfl⟩ : ∃ m, k = m + 1 := ⟨k - 1, by omega⟩
    refine ⟨k, by omega, ?_⟩
    simp only [conv_Row.l1]
    rw [if_neg (by omega), AFix_f hs k (by omega), Option.bind_some, if_pos (Int.natCast_nonneg i), if_pos (by omega), w64 (x := (i : Int) + 1) (by omega) (by omega), show c = rows by omega]
    unfold rsum
    rw [Int.sub_self, Int.add_zero]
    rfl
  | succ d ih =>
    intro c k s0 s1 s2 X B hc hs b1 b2 hB hk
    obtain ⟨k, rfl⟩ : ∃ m, k = m + 1 := ⟨k - 1, by omega⟩
    have hk2 : d * (wid + 2) + (wid + 2) + 5 ≤ k + 1 := by rw [Nat.add_mul] at hk; omega
    have rb := row_bd S.ha S.hk step rows long wid o n c w4.1
    obtain ⟨t0, t1, t2, ht, e⟩ := Row_l2 S i o n c ho hn (by omega) N ad kd td tv wid 0 k s0 s1 s2 X B (by omega) hs b1 b2 (by rw [Int.natCast_add] at hB; omega) (by omega)
    simp only [sumN, Int.sub_zero] at ht
    obtain ⟨k', hk', e2⟩ := ih (c + 1) (k - wid - 1) t0 t1 t2 _ (B + 348449143727040986586495598010130648530944) (by omega) ht (by omega) (by omega) (by rw [Int.natCast_add] at hB; omega) (by omega)
    refine ⟨k', by rw [hk', Nat.add_mul]; omega, ?_⟩
    simp only [conv_Row.l1]
    rw [if_pos (by omega)]
    rw [show ((0 : Nat) : Int) = 0 from rfl] at e
    rw [e]
    rw [Int.natCast_add] at e2
    have : sumN (c + 1) (fun c => sumN wid (rterm av kv step rows long wid o n c)) = sumN c (fun c => sumN wid (rterm av kv step rows long wid o n c)) + sumN wid (rterm av kv step rows long wid o n c) := rfl
    rw [this] at e2
    rw [show X + (rsum av kv step rows long wid o n - sumN c (fun c => sumN wid (rterm av kv step rows long wid o n c))) = X + sumN wid (rterm av kv step rows long wid o n c) + (rsum av kv step rows long wid o n - (sumN c (fun c => sumN wid (rterm av kv step rows long wid o n c)) + sumN wid (rterm av kv step rows long wid o n c))) by omega]
    exact e2
def rowv (av kv : List Int) (step rows long wid many : Nat) (p : Nat) : Int := hold (rsum av kv step rows long wid (p / many) (p % many))
theorem Row_l0 {av kv : List Int} {step rows long wid many outs : Nat} (S : RowS av kv step rows long wid many outs) (ad kd td : List Int) :
    ∀ (d i k : Nat) (tv : List Int), i + d = outs * many → tv.length = outs * many → tv.take i = tab i (rowv av kv step rows long wid many) → d * (rows * (wid + 2) + 10) + 10 ≤ k →
    conv_Row.l0 k step rows long wid many ((outs * many : Nat) : Int) i ad av kd kv td tv = some (td, tab (outs * many) (rowv av kv step rows long wid many), 0) := by
  have m4 := S.m4
  intro d
  induction d with
  | zero =>
    intro i k tv hi hl ht hk
    obtain ⟨k, rfl⟩ : ∃ m, k = m + 1 := ⟨k - 1, by omega⟩
    simp only [conv_Row.l0]
    have : i = outs * many := by omega
    subst this
    rw [if_neg (by omega), ← ht, List.take_of_length_le (by omega)]
  | succ d ih =>
    intro i k tv hi hl ht hk
    obtain ⟨k, rfl⟩ : ∃ m, k = m + 1 := ⟨k - 1, by omega⟩
    have hk2 : d * (rows * (wid + 2) + 10) + (rows * (wid + 2) + 10) + 10 ≤ k + 1 := by rw [Nat.add_mul, Nat.one_mul] at hk; omega
    have p3 := S.p3
    have w4 := S.wid4
    have hn : i % many < many := Nat.mod_lt _ p3
    have ho : i / many < outs := (Nat.div_lt_iff_lt_mul p3).mpr (by omega)
    obtain ⟨k', hk', e⟩ := Row_l1 S i (i / many) (i % many) ho hn ((outs * many : Nat) : Int) ad kd td tv (by omega) (by omega) rows 0 k 0 0 0 0 0 (by omega) ⟨⟨by omega, by omega, by omega, by omega⟩, by omega⟩ (by omega) (by omega) (by omega) (by omega)
    simp only [sumN, Int.sub_zero, Int.zero_add] at e
    have hq : wrap64 ((i / many : Nat) : Int) = ((i / many : Nat) : Int) := by
      have := Nat.div_le_self i many
      generalize i / many = q at *
      exact w64 (by omega) (by omega)
    simp only [conv_Row.l0]
    rw [if_pos (by omega), if_neg (by omega), Int.tdiv_eq_ediv_of_nonneg (Int.natCast_nonneg i), Int.tmod_eq_emod_of_nonneg (Int.natCast_nonneg i), ← Int.natCast_ediv, ← Int.natCast_emod, hq]
    rw [show ((0 : Nat) : Int) = 0 from rfl] at e
    rw [e]
    have := ih (i + 1) k' (tv.set i (rowv av kv step rows long wid many i)) (by omega) (by simpa using hl) (by rw [set_take' tv i _ (by omega), ht, tab_succ]) (by omega)
    rw [Int.natCast_add] at this
    exact this
/-- how many windows -/
def wins (l w s : Int) : Int := (l - w) / s + 1
def tens0 (d : List Int) (g : Nat → Int) : List Int × List Int × Int := if Shp.good d = true then (d, tab (Shp.siz d).toNat g, 0) else ([], [], 2)
abbrev gt (d v : List Int) : Bool := Shp.good d && decide ((v.length : Int) = Shp.siz d)
def trow (ad av kd kv : List Int) (s : Int) : List Int × List Int × Int :=
  if gt ad av = true ∧ gt kd kv = true ∧ 1 ≤ s ∧ s ≤ 64 then
    (if ad.length = 2 ∧ kd.length = 3 ∧ rd kd 1 = rd ad 0 ∧ rd kd 2 ≤ rd ad 1 then
      tens0 [rd kd 0, wins (rd ad 1) (rd kd 2) s] (rowv av kv s.toNat (rd ad 0).toNat (rd ad 1).toNat (rd kd 2).toNat (wins (rd ad 1) (rd kd 2) s).toNat)
     else ([], [], 4))
  else ([], [], 1)
theorem gt_parts {d v : List Int} (h : gt d v = true) : Shp.good d = true ∧ (v.length : Int) = Shp.siz d := by
  unfold gt at h
  simpa only [Bool.and_eq_true, decide_eq_true_eq] using h
theorem two_of' {d : List Int} (h : d.length = 2) : d = [rd d 0, rd d 1] := by
  match d, h with
  | [a, b], _ => rfl
theorem three_of' {d : List Int} (h : d.length = 3) : d = [rd d 0, rd d 1, rd d 2] := by
  match d, h with
  | [a, b, c], _ => rfl
theorem good2 {x y : Int} (h : Shp.good [x, y] = true) : 1 ≤ x ∧ 1 ≤ y ∧ x * y ≤ 4096 ∧ Shp.siz [x, y] = x * y := by
  have g := Shp.good_iff.mp h
  have sg := Shp.siz_good h
  simp only [Shp.pl, Int.mul_one] at g sg
  exact ⟨g.2.1 x (by simp), g.2.1 y (by simp), g.2.2, sg⟩
theorem good3 {x y z : Int} (h : Shp.good [x, y, z] = true) : 1 ≤ x ∧ 1 ≤ y ∧ 1 ≤ z ∧ x * (y * z) ≤ 4096 ∧ Shp.siz [x, y, z] = x * (y * z) := by
  have g := Shp.good_iff.mp h
  have sg := Shp.siz_good h
  simp only [Shp.pl, Int.mul_one] at g sg
  exact ⟨g.2.1 x (by simp), g.2.1 y (by simp), g.2.1 z (by simp), g.2.2, sg⟩
theorem le_mul_l {x y B : Int} (hx : 1 ≤ x) (hy : 1 ≤ y) (h : x * y ≤ B) : x ≤ B ∧ y ≤ B := by
  have := Shp.mul_le1 hx hy
  omega
/-- all that is known of the sides, when they fit -/
theorem row_sides {ad av kd kv : List Int} {s : Int} (ha : ∀ x ∈ av, Fx.ok x) (hk : ∀ x ∈ kv, Fx.ok x) (h1 : gt ad av = true) (h2 : gt kd kv = true) (s1 : 1 ≤ s) (s2 : s ≤ 64) (l1 : ad.length = 2) (l2 : kd.length = 3) (e : rd kd 1 = rd ad 0) (w : rd kd 2 ≤ rd ad 1) :
    ∃ step rows long wid many outs : Nat, s = step ∧ rd ad 0 = rows ∧ rd ad 1 = long ∧ rd kd 0 = outs ∧ rd kd 2 = wid ∧ wins (rd ad 1) (rd kd 2) s = many ∧ 1 ≤ step ∧ step ≤ 64 ∧ many ≤ 4096 ∧ long ≤ 4096 ∧ wid ≤ long ∧ outs ≤ 4096 ∧ rows ≤ 4096 ∧
      (Shp.good [rd kd 0, wins (rd ad 1) (rd kd 2) s] = true → RowS av kv step rows long wid many outs) := by
  obtain ⟨g1, v1⟩ := gt_parts h1
  obtain ⟨g2, v2⟩ := gt_parts h2
  rw [two_of' l1] at g1 v1
  rw [three_of' l2] at g2 v2
  obtain ⟨a1, a2, a3, a4⟩ := good2 g1
  obtain ⟨b1, b2, b3, b4, b5⟩ := good3 g2
  obtain ⟨c1, c2⟩ := le_mul_l a1 a2 a3
  obtain ⟨d1, d2⟩ := le_mul_l b1 (Int.mul_pos (by omega) (by omega) : 0 < rd kd 1 * rd kd 2) b4
  rw [e] at b2 b4 b5 v2
  generalize rd ad 0 = r at *
  generalize rd ad 1 = l at *
  generalize rd kd 0 = o at *
  generalize rd kd 2 = w' at *
  obtain ⟨step, rfl⟩ := Int.eq_ofNat_of_zero_le (show 0 ≤ s by omega)
  obtain ⟨rows, rfl⟩ := Int.eq_ofNat_of_zero_le (show 0 ≤ r by omega)
  obtain ⟨long, rfl⟩ := Int.eq_ofNat_of_zero_le (show 0 ≤ l by omega)
  obtain ⟨outs, rfl⟩ := Int.eq_ofNat_of_zero_le (show 0 ≤ o by omega)
  obtain ⟨wid, rfl⟩ := Int.eq_ofNat_of_zero_le (show 0 ≤ w' by omega)
  have q0 := Nat.div_le_self (long - wid) step
  have ew : wins (long : Int) (wid : Int) (step : Int) = (((long - wid) / step + 1 : Nat) : Int) := by
    unfold wins
    rw [show (long : Int) - (wid : Int) = ((long - wid : Nat) : Int) by omega, ← Int.natCast_ediv]
    rfl
  refine ⟨step, rows, long, wid, (long - wid) / step + 1, outs, rfl, rfl, rfl, rfl, rfl, ew, by omega, by omega, by omega, by omega, by omega, by omega, by omega, fun hg => ?_⟩
  rw [ew] at hg
  obtain ⟨_, _, m3, _⟩ := good2 hg
  have k3 : ((outs * rows * wid : Nat) : Int) = (outs : Int) * ((rows : Int) * (wid : Int)) := by
    rw [Int.natCast_mul, Int.natCast_mul, Int.mul_assoc]
  have k1 : ((rows * long : Nat) : Int) = (rows : Int) * (long : Int) := by simp
  have k2 : ((outs * ((long - wid) / step + 1) : Nat) : Int) = (outs : Int) * (((long - wid) / step + 1 : Nat) : Int) := by simp
  exact ⟨ha, hk, by omega, by omega, by omega, by omega, by omega, by omega, by omega, by omega, fun n hn => by
    have h3 : n * step ≤ (long - wid) / step * step := Nat.mul_le_mul_right step (by omega)
    have h4 := Nat.div_mul_le_self (long - wid) step
    omega, by omega⟩
theorem cRow_f (ad av kd kv : List Int) (s : Int) (ha : ∀ x ∈ av, Fx.ok x) (hk : ∀ x ∈ kv, Fx.ok x) (k : Nat) (hK : 60000000 ≤ k) : conv_Row.f k ad av kd kv s = some (trow ad av kd kv s) := by
  have oth : ∀ k, conv_Row.j0 (k + 1) s true ad av kd kv = some ([], [], 1) := fun k => by simp only [conv_Row.j0]; rw [if_pos trivial]
  obtain ⟨k, rfl⟩ : ∃ m, k = m + 1 := ⟨k - 1, by omega⟩
  unfold conv_Row.f trow
  rw [tGood_f ad av _ (by omega), Option.bind_some]
  by_cases h1 : gt ad av = true
  rotate_left
  · rw [if_neg h1, oth, if_neg (fun h => h1 h.1)]
  have h1' : (Shp.good ad && decide ((av.length : Int) = Shp.siz ad)) = true := h1
  rw [if_pos h1', tGood_f kd kv _ (by omega), Option.bind_some]
  by_cases h2 : gt kd kv = true
  rotate_left
  · rw [if_neg h2, oth, if_neg (fun h => h2 h.2.1)]
  have h2' : (Shp.good kd && decide ((kv.length : Int) = Shp.siz kd)) = true := h2
  rw [if_pos h2']
  unfold conv_stepGood.f
  by_cases s1 : s ≥ 1
  rotate_left
  · rw [if_neg s1, if_neg (fun h => s1 h.2.2.1)]; exact oth k
  rw [if_pos s1, Option.bind_some]
  by_cases s2 : s ≤ 64
  rotate_left
  · rw [decide_eq_false s2, if_neg (fun h => s2 h.2.2.2)]; exact oth k
  rw [decide_eq_true s2, if_pos (c := _ ∧ _) ⟨h1, h2, s1, s2⟩]
  simp only [Bool.not_true, conv_Row.j0]
  rw [if_neg (by simp)]
  by_cases l1 : ad.length = 2
  rotate_left
  · rw [if_neg (by omega), if_neg (fun h => l1 h.1)]
  rw [if_pos (by omega)]
  by_cases l2 : kd.length = 3
  rotate_left
  · rw [if_neg (by omega), if_neg (fun h => l2 h.2.1)]
  rw [if_pos (by omega), if_pos (by omega), if_pos (by omega)]
  by_cases e : rd kd 1 = rd ad 0
  rotate_left
  · rw [if_neg e, if_neg (fun h => e h.2.2.1)]
  rw [if_pos e, if_pos (by omega), if_pos (by omega)]
  by_cases w : rd kd 2 ≤ rd ad 1
  rotate_left
  · rw [if_pos (by omega), if_neg (fun h => w h.2.2.2)]
  rw [if_neg (by omega), if_pos (c := _ ∧ _) ⟨l1, l2, e, w⟩]
  obtain ⟨step, rows, long, wid, many, outs, e1, e2, e3, e4, e5, e6, z1, z2, z3, z4, z5, z6, z7, hS⟩ := row_sides ha hk h1 h2 s1 s2 l1 l2 e w
  have ewin : conv_windows.f (rd ad 1) (rd kd 2) s = some (wins (rd ad 1) (rd kd 2) s) := by
    unfold conv_windows.f
    have hdn : (rd ad 1 - rd kd 2).tdiv s = (rd ad 1 - rd kd 2) / s := Int.tdiv_eq_ediv_of_nonneg (by omega)
    unfold wins at e6
    rw [if_neg (by omega), if_neg (by omega), w64 (x := rd ad 1 - rd kd 2) (by omega) (by omega), hdn, w64 (x := (rd ad 1 - rd kd 2) / s) (by omega) (by omega), w64 (by omega) (by omega)]
    rfl
  rw [ewin, Option.bind_some, if_pos (by omega)]
  unfold conv_of.f
  rw [tNew_f _ _ _ (by omega), Option.bind_some]
  unfold tnew tens0
  by_cases hg : Shp.good [rd kd 0, wins (rd ad 1) (rd kd 2) s] = true
  rotate_left
  · rw [if_neg hg, if_neg hg]; rfl
  have S := hS hg
  obtain ⟨_, _, m3, m4⟩ := good2 hg
  rw [if_pos hg, if_pos hg]
  simp only [if_true, Option.bind_some]
  rw [m4, e6, e1, e2, e3, e4, e5]
  simp only [Int.toNat_natCast]
  rw [show ((outs : Int) * (many : Int)).toNat = outs * many by rw [show (outs : Int) * (many : Int) = ((outs * many : Nat) : Int) by simp]; rfl, List.length_replicate]
  have kb : outs * many * (rows * (wid + 2) + 10) ≤ 4096 * (4096 * 3 + 10) := Nat.mul_le_mul S.m4 (by
    have a := Nat.mul_le_mul_right rows S.p4
    have b := Nat.mul_le_mul_right wid a
    have := S.k4
    have := S.wid4
    rw [Nat.one_mul] at b
    have c : rows * (wid + 2) = rows * wid + rows * 2 := Nat.mul_add ..
    omega)
  have := Row_l0 S ad kd [(outs : Int), (many : Int)] (outs * many) 0 k (List.replicate (outs * many) 0) (by omega) (by simp) (by simp [tab]) (by omega)
  rw [show ((0 : Nat) : Int) = 0 from rfl] at this
  exact this
/-- the sides of a gradient, of windows: what is known -/
structure BackS (gv kv : List Int) (step rows long wid many outs : Nat) : Prop where
  ha : ∀ x ∈ gv, Fx.ok x
  hk : ∀ x ∈ kv, Fx.ok x
  la : gv.length = outs * many
  lk : kv.length = outs * rows * wid
  g4 : outs * many ≤ 4096
  k4 : outs * rows * wid ≤ 4096
  p1 : 1 ≤ rows
  p2 : 1 ≤ wid
  p3 : 1 ≤ many
  p4 : 1 ≤ outs
  p5 : 1 ≤ step
  p6 : 1 ≤ long
  s6 : step ≤ 64
  r4 : rows * long ≤ 4096
theorem BackS.ki {gv kv : List Int} {step rows long wid many outs : Nat} (S : BackS gv kv step rows long wid many outs) {o c w : Nat} (ho : o < outs) (hc : c < rows) (hw : w < wid) : o * rows + c < outs * rows ∧ (o * rows + c) * wid + w < kv.length := by
  have h1 := idxA ho hc
  have h2 := idxA h1 hw
  rw [S.lk]
  exact ⟨h1, h2⟩
/-- the sides of a gradient, of rows: what is known -/
structure KernS (gv av : List Int) (step rows long wid many outs : Nat) : Prop where
  ha : ∀ x ∈ gv, Fx.ok x
  hk : ∀ x ∈ av, Fx.ok x
  la : gv.length = outs * many
  lk : av.length = rows * long
  g4 : outs * many ≤ 4096
  k4 : rows * long ≤ 4096
  p1 : 1 ≤ rows
  p2 : 1 ≤ wid
  p3 : 1 ≤ many
  p4 : 1 ≤ outs
  p5 : 1 ≤ step
  p6 : 1 ≤ long
  hm : ∀ n, n < many → n * step + wid ≤ long
  r4 : outs * rows * wid ≤ 4096
theorem KernS.ai {gv av : List Int} {step rows long wid many outs : Nat} (S : KernS gv av step rows long wid many outs) {c n w : Nat} (hc : c < rows) (hn : n < many) (hw : w < wid) : c * long + n * step + w < av.length := by
  have := S.hm n hn
  have := idxA (m := n * step + w) hc (show n * step + w < long by omega)
  rw [S.lk]; omega
theorem rows1_f {l : List Int} (h : l.length ≤ 100000) : carousellaw8_rows.f 1 l = some [1, (l.length : Int)] := by
  unfold carousellaw8_rows.f
  rw [if_neg (by omega), Int.ediv_one, w64 (by omega) (by omega)]
theorem wind1_f {l : List Int} (h : l.length ≤ 100000) : carousellaw8_windows.f 1 1 l = some [1, 1, (l.length : Int)] := by
  unfold carousellaw8_windows.f
  rw [if_neg (by omega), if_neg (by omega), Int.ediv_one, Int.tdiv_one, w64 (x := (l.length : Int)) (by omega) (by omega), w64 (by omega) (by omega)]
theorem good_1 {n : Int} (h1 : 1 ≤ n) (h2 : n ≤ 4096) : Shp.good [1, n] = true ∧ Shp.siz [1, n] = n := by
  have hg : Shp.good [1, n] = true := by
    refine Shp.good_iff.mpr ⟨by simp, ?_, ?_⟩
    · intro x hx
      simp only [List.mem_cons, List.not_mem_nil, or_false] at hx
      rcases hx with rfl | rfl <;> omega
    · simp only [Shp.pl, Int.mul_one, Int.one_mul]; omega
  refine ⟨hg, ?_⟩
  have := Shp.siz_good hg
  simpa [Shp.pl] using this
theorem good_11 {n : Int} (h1 : 1 ≤ n) (h2 : n ≤ 4096) : Shp.good [1, 1, n] = true ∧ Shp.siz [1, 1, n] = n := by
  have hg : Shp.good [1, 1, n] = true := by
    refine Shp.good_iff.mpr ⟨by simp, ?_, ?_⟩
    · intro x hx
      simp only [List.mem_cons, List.not_mem_nil, or_false] at hx
      rcases hx with rfl | rfl | rfl <;> omega
    · simp only [Shp.pl, Int.mul_one, Int.one_mul]; omega
  refine ⟨hg, ?_⟩
  have := Shp.siz_good hg
  simpa [Shp.pl] using this
theorem gt_1 {v : List Int} (h1 : 1 ≤ v.length) (h2 : v.length ≤ 4096) : gt [1, (v.length : Int)] v = true := by
  obtain ⟨a, b⟩ := good_1 (n := (v.length : Int)) (by omega) (by omega)
  unfold gt
  rw [a, b]; simp
theorem gt_11 {v : List Int} (h1 : 1 ≤ v.length) (h2 : v.length ≤ 4096) : gt [1, 1, (v.length : Int)] v = true := by
  obtain ⟨a, b⟩ := good_11 (n := (v.length : Int)) (by omega) (by omega)
  unfold gt
  rw [a, b]; simp
/-- one row, one window: the number at a place -/
def r1v (av kv : List Int) (p : Nat) : Int := hold (sumN kv.length (fun w => rd av ((p + w : Nat) : Int) * rd kv (w : Int)))
theorem trow1 {av kv : List Int} (h1 : 1 ≤ kv.length) (h2 : kv.length ≤ av.length) (h3 : av.length ≤ 4096) :
    trow [1, (av.length : Int)] av [1, 1, (kv.length : Int)] kv 1 = ([1, ((av.length - kv.length + 1 : Nat) : Int)], tab (av.length - kv.length + 1) (r1v av kv), 0) := by
  unfold trow
  rw [if_pos ⟨gt_1 (by omega) h3, gt_11 h1 (by omega), by omega, by omega⟩]
  have e0 : rd [1, (av.length : Int)] 0 = 1 := rfl
  have e1 : rd [1, (av.length : Int)] 1 = (av.length : Int) := rfl
  have k0 : rd [1, 1, (kv.length : Int)] 0 = 1 := rfl
  have k1 : rd [1, 1, (kv.length : Int)] 1 = 1 := rfl
  have k2 : rd [1, 1, (kv.length : Int)] 2 = (kv.length : Int) := rfl
  rw [e0, e1, k0, k1, k2, if_pos ⟨rfl, rfl, rfl, by omega⟩]
  have ew : wins (av.length : Int) (kv.length : Int) 1 = ((av.length - kv.length + 1 : Nat) : Int) := by unfold wins; rw [Int.ediv_one]; omega
  rw [ew]
  unfold tens0
  obtain ⟨a, b⟩ := good_1 (n := ((av.length - kv.length + 1 : Nat) : Int)) (by omega) (by omega)
  rw [if_pos a, b, Int.toNat_natCast]
  refine congrArg (fun z => ([1, ((av.length - kv.length + 1 : Nat) : Int)], z, (0 : Int))) (tab_ext fun p hp => ?_)
  unfold rowv r1v rsum
  rw [Nat.div_eq_of_lt hp, Nat.mod_eq_of_lt hp]
  simp only [Int.toNat_natCast]
  show hold (sumN 1 _) = _
  simp only [sumN, Int.zero_add]
  congr 1
  refine sumN_congr _ fun w hw => ?_
  unfold rterm
  rw [show 0 * av.length + p * Int.toNat 1 + w = p + w by rw [show Int.toNat 1 = 1 from rfl]; omega, show (0 * Int.toNat 1 + 0) * kv.length + w = w by omega]
theorem awakeS8 : carousellaw8_awake.f 60000010 = some true := by decide +kernel
theorem tab_drop (n : Nat) (g : Nat → Int) : (tab (n + 1) g).drop 1 = tab n (fun p => g (p + 1)) := by
  unfold tab
  rw [← List.map_drop, List.range_succ_eq_map, List.drop_succ_cons, List.drop_zero, List.map_map]
  rfl
theorem CShifts_all (a : Int) (l w : List Int) (h0 : Fx.ok a) (ha : ∀ x ∈ l, Fx.ok x) (hb : ∀ x ∈ w, Fx.ok x) : ∃ k, carousellaw8_ConvShifts.f k a l w = some true := by
  refine ⟨60000010, ?_⟩
  have oth : ∀ k, carousellaw8_ConvShifts.j0 (k + 1) a l w true = some true := fun k => by simp only [carousellaw8_ConvShifts.j0]; rw [if_pos trivial]
  unfold carousellaw8_ConvShifts.f
  rw [awakeS8, Option.bind_some, if_pos rfl]
  by_cases c1 : (w.length : Int) < 1
  · rw [if_pos c1, oth]
  rw [if_neg c1]
  by_cases c2 : (l.length : Int) < (w.length : Int)
  · rw [if_pos c2, oth]
  rw [if_neg c2]
  by_cases c3 : (l.length : Int) > 60
  · rw [decide_eq_true c3, oth]
  rw [decide_eq_false c3]
  have hc : ∀ x ∈ [a] ++ l, Fx.ok x := by
    intro x hx
    rcases List.mem_cons.mp hx with rfl | h
    · exact h0
    · exact ha x h
  have e1 := trow1 (av := [a] ++ l) (kv := w) (by omega) (by simp; omega) (by simp; omega)
  have e2 := trow1 (av := l) (kv := w) (by omega) (by omega) (by omega)
  have le : ([a] ++ l).length = l.length + 1 := by simp
  rw [show ([a] ++ l).length - w.length + 1 = (l.length - w.length + 1) + 1 by rw [le]; omega] at e1
  simp only [carousellaw8_ConvShifts.j0]
  rw [if_neg (by simp), wind1_f (by omega), Option.bind_some, Option.bind_some, if_pos (by simp; omega), Option.bind_some, rows1_f (l := [a] ++ l) (by rw [le]; omega), Option.bind_some]
  rw [cRow_f _ _ _ _ _ hc hb _ (by omega), Option.bind_some, rows1_f (l := l) (by omega), Option.bind_some, cRow_f _ _ _ _ _ ha hb _ (by omega), Option.bind_some, e1, e2]
  simp only [if_true]
  rw [tab_length, tab_length, w64 (by omega) (by omega), if_pos (by omega), if_pos (by omega), Option.bind_some, tab_drop, rows1_f (by rw [tab_length]; omega), Option.bind_some, tab_length]
  have e3 : tab (l.length - w.length + 1) (fun p => r1v ([a] ++ l) w (p + 1)) = tab (l.length - w.length + 1) (r1v l w) := by
    refine tab_ext fun p hp => ?_
    unfold r1v
    congr 1
    refine sumN_congr _ fun i hi => ?_
    congr 1
    unfold rd
    rw [Int.toNat_natCast, Int.toNat_natCast, show p + 1 + i = (p + i) + 1 by omega]
    rfl
  rw [e3, rAlike_f _ _ _ _ (by simp) (by rw [tab_length]; omega) _ (by simp) (by rw [tab_length]; omega), Option.bind_some]
  simp
theorem ConvShifts : carousellaw8_ConvShifts.Pure := by
  intro a l w h0 _ _ ha _ _ hb
  exact CShifts_all a l w (wf_i64 h0) (fun x hx => wf_i64 (ha x hx)) (fun x hx => wf_i64 (hb x hx))
end Go.Proofs.Ytcipfhlcgnomaaa.Pure
