/- The plain law behind ConvBacks: what the functions compute answers as the statement says, for every input. No condition. -/
import Derived.Test.YtcipfhlcgnomaaaPConvBacksx15
import Derived.Laws.BitsAllLaws
import Derived.Test.YtcipfhlcgnomaaaMathConvBacks
namespace Go.Proofs.Ytcipfhlcgnomaaa.Pure
open Go.RowKit Go.Proofs.Ytcipfhlcgnomaaa.PConvBacks Go.Proofs.YtcipfhlcgnomaaaW.PrintWords Go.Proofs.YtcipfhlcgnomaaaW.PrintLast Go.Proofs.YtcipfhlcgnomaaaW.PrintMore
set_option linter.unusedVariables false
set_option linter.unusedSimpArgs false
theorem w64 {x : Int} (h1 : -9223372036854775808 ≤ x) (h2 : x ≤ 9223372036854775807) : wrap64 x = x := by unfold wrap64; omega
theorem drop_rd (l : List Int) (i : Nat) (h : i < l.length) : l.drop i = rd l i :: l.drop (i + 1) := by
  rw [List.drop_eq_getElem_cons h]
  congr 1
  unfold rd
  rw [show (i : Int).toNat = i from rfl, List.getD_eq_getElem?_getD, List.getElem?_eq_getElem h]; rfl
theorem rd_mem (l : List Int) (i : Nat) (h : i < l.length) : rd l i ∈ l := by
  have := drop_rd l i h
  exact List.mem_of_mem_drop (i := i) (by rw [this]; exact List.mem_cons_self ..)
theorem mul_bd {a b A B : Int} (h0 : 0 ≤ a) (h1 : a ≤ A) (h2 : 0 ≤ b) (h3 : b ≤ B) : 0 ≤ a * b ∧ a * b ≤ A * B :=
  ⟨Int.mul_nonneg h0 h2, Int.mul_le_mul h1 h3 h2 (by omega)⟩
theorem k_succ {k n : Nat} (h : n < k) : ∃ m, k = m + 1 ∧ n ≤ m := ⟨k - 1, by omega, by omega⟩
theorem product_l0 (l : List Int) (hl : l.length ≤ 4) : ∀ (d i : Nat) (n : Int) (k : Nat), i + d = l.length → 1 ≤ n → n ≤ 4096 → 2 * d < k →
    shape_product.l0 k n l l.length i = some (Shp.gp n (l.drop i)) := by
  intro d
  induction d with
  | zero =>
    intro i n k hi h1 h2 hk
    obtain ⟨k, rfl, -⟩ := k_succ hk
    simp only [shape_product.l0]
    rw [if_neg (by omega), List.drop_of_length_le (by omega)]; rfl
  | succ d ih =>
    intro i n k hi h1 h2 hk
    obtain ⟨k, rfl, hk⟩ := k_succ hk
    obtain ⟨k, rfl, hk⟩ := k_succ (n := 2 * d + 1) (k := k) (by omega)
    have e := drop_rd l i (by omega)
    simp only [shape_product.l0, shape_product.j1]
    rw [if_pos (by omega), if_pos (by omega), if_pos (by omega), e]
    generalize rd l i = x at *
    simp only [Shp.gp]
    by_cases c1 : x < 1
    · simp [c1]
    by_cases c2 : 4096 < x
    · simp [c1, c2]
    have hb := mul_bd (a := n) (b := x) (by omega) h2 (by omega) (show x ≤ 4096 by omega)
    have hb1 := Shp.mul_le1 h1 (show 1 ≤ x by omega)
    rw [w64 (x := n * x) (by omega) (by omega), w64 (x := (i : Int) + 1) (by omega) (by omega)]
    simp only [if_neg c1, if_neg c2, show ¬ (x > 4096) from c2, decide_false]
    by_cases c3 : 4096 < n * x
    · simp [c3]
    · simp only [if_neg c3, show ¬ (n * x > 4096) from c3, if_false]
      have := ih (i + 1) (n * x) k (by omega) (by omega) (by omega) (by omega)
      rw [Int.natCast_add] at this
      simpa using this
theorem product_f (l : List Int) (k : Nat) (hk : 10 ≤ k) : shape_product.f k l = some (Shp.siz l) := by
  unfold shape_product.f
  by_cases h : l.length ≤ 4
  · rw [if_neg (by omega), ← Shp.gp_siz l h]
    have := product_l0 l h l.length 0 1 k (by omega) (by omega) (by omega) (by omega)
    simpa using this
  · rw [if_pos (by omega), Shp.siz_long l h]
theorem Good_f (l : List Int) (k : Nat) (hk : 10 ≤ k) : shape_Good.f k l = some (Shp.good l) := by
  unfold shape_Good.f; rw [product_f l k hk, ← Shp.siz_pos]; rfl
theorem Size_f (l : List Int) (k : Nat) (hk : 10 ≤ k) : shape_Size.f k l = some (Shp.siz l) := by
  unfold shape_Size.f; rw [product_f l k hk]; rfl
theorem rGood_l0 (l : List Int) (hl : l.length ≤ 4) : ∀ (d i : Nat) (n : Int) (k : Nat), i + d = l.length → 1 ≤ n → n ≤ 4096 → 2 * d < k →
    carouselref5_Good.l0 k l n i = some (decide (Shp.gp n (l.drop i) > 0)) := by
  intro d
  induction d with
  | zero =>
    intro i n k hi h1 h2 hk
    obtain ⟨k, rfl, -⟩ := k_succ hk
    simp only [carouselref5_Good.l0]
    rw [if_neg (by omega), List.drop_of_length_le (by omega)]
    simp [Shp.gp]; omega
  | succ d ih =>
    intro i n k hi h1 h2 hk
    obtain ⟨k, rfl, hk⟩ := k_succ hk
    obtain ⟨k, rfl, hk⟩ := k_succ (n := 2 * d + 1) (k := k) (by omega)
    have e := drop_rd l i (by omega)
    simp only [carouselref5_Good.l0, carouselref5_Good.j1]
    rw [if_pos (by omega), if_pos (by omega), e]
    have hi0 : 0 ≤ (i : Int) := by omega
    have hi1 : (i : Int) < l.length := by omega
    generalize rd l i = x at *
    simp only [Shp.gp]
    by_cases c1 : x < 1
    · simp [c1]
    by_cases c2 : 4096 < x
    · simp [c1, c2]
    have hb := mul_bd (a := n) (b := x) (by omega) h2 (by omega) (show x ≤ 4096 by omega)
    have hb1 := Shp.mul_le1 h1 (show 1 ≤ x by omega)
    rw [w64 (x := n * x) (by omega) (by omega), w64 (x := (i : Int) + 1) (by omega) (by omega)]
    simp only [if_neg c1, if_neg c2, show ¬ (x > 4096) from c2, decide_false]
    by_cases c3 : 4096 < n * x
    · simp [c3, hi1]
    · simp only [if_neg c3, show ¬ (n * x > 4096) from c3, if_false]
      have := ih (i + 1) (n * x) k (by omega) (by omega) (by omega) (by omega)
      rw [Int.natCast_add] at this
      simpa [hi0, hi1] using this
theorem rGood_f (l : List Int) (k : Nat) (hk : 10 ≤ k) : carouselref5_Good.f k l = some (Shp.good l) := by
  unfold carouselref5_Good.f
  by_cases h : l.length ≤ 4
  · rw [if_neg (by omega), ← Shp.siz_pos, ← Shp.gp_siz l h]
    have := rGood_l0 l h l.length 0 1 k (by omega) (by omega) (by omega) (by omega)
    simpa using this
  · rw [if_pos (by omega)]
    congr 1
    cases hg : Shp.good l
    · rfl
    · exact absurd (Shp.good_iff.mp hg).1 h
theorem rSize_l0 (l : List Int) (hp : ∀ x ∈ l, 1 ≤ x) : ∀ (d i : Nat) (n : Int) (k : Nat), i + d = l.length → 1 ≤ n → n * Shp.pl (l.drop i) ≤ 4096 → l.length ≤ 4 → d < k →
    carouselref5_Size.l0 k l n i = some (n * Shp.pl (l.drop i)) := by
  intro d
  induction d with
  | zero =>
    intro i n k hi h1 h2 hl hk
    obtain ⟨k, rfl, -⟩ := k_succ hk
    simp only [carouselref5_Size.l0]
    rw [if_neg (by omega), List.drop_of_length_le (by omega)]; simp [Shp.pl]
  | succ d ih =>
    intro i n k hi h1 h2 hl hk
    obtain ⟨k, rfl, hk⟩ := k_succ hk
    have e := drop_rd l i (by omega)
    have hx := hp _ (rd_mem l i (by omega))
    have hr : ∀ y ∈ l.drop (i + 1), 1 ≤ y := fun y hy => hp y (List.mem_of_mem_drop hy)
    have hpr := Shp.pl_pos hr
    simp only [carouselref5_Size.l0]
    rw [if_pos (by omega), if_pos (by omega)]
    rw [e] at h2 ⊢
    simp only [Shp.pl] at h2 ⊢
    rw [← Int.mul_assoc] at h2 ⊢
    generalize rd l i = x at *
    have a1 := Shp.mul_le1 h1 hx
    have a2 := Shp.mul_le1 (show 1 ≤ n * x by omega) hpr
    rw [w64 (x := n * x) (by omega) (by omega), w64 (x := (i : Int) + 1) (by omega) (by omega)]
    have := ih (i + 1) (n * x) k (by omega) (by omega) h2 hl (by omega)
    rw [Int.natCast_add] at this
    exact this
theorem rSize_f (l : List Int) (k : Nat) (hk : 10 ≤ k) : carouselref5_Size.f k l = some (Shp.siz l) := by
  unfold carouselref5_Size.f
  rw [rGood_f l k hk]
  cases hg : Shp.good l
  · simp [Shp.siz_bad hg]
  · have hi := Shp.good_iff.mp hg
    have := rSize_l0 l hi.2.1 l.length 0 1 k (by omega) (by omega) (by simpa using hi.2.2) hi.1 (by omega)
    simpa [Shp.siz_good hg] using this
theorem eq_drop {a b : List Int} {i : Nat} (ha : i < a.length) (hb : i < b.length) : decide (a.drop i = b.drop i) = (decide (rd a i = rd b i) && decide (a.drop (i + 1) = b.drop (i + 1))) := by
  rw [drop_rd a i ha, drop_rd b i hb]; simp
theorem rSame_l0 (a b : List Int) (h : a.length = b.length) (hm : a.length ≤ 9223372036854775000) : ∀ (d i k : Nat), i + d = a.length → d < k →
    carouselref5_Same.l0 k a b i = some (decide (a.drop i = b.drop i)) := by
  intro d
  induction d with
  | zero =>
    intro i k hi hk
    obtain ⟨k, rfl, -⟩ := k_succ hk
    simp only [carouselref5_Same.l0]
    rw [if_neg (by omega), List.drop_of_length_le (by omega), List.drop_of_length_le (by omega)]; simp
  | succ d ih =>
    intro i k hi hk
    obtain ⟨k, rfl, hk⟩ := k_succ hk
    simp only [carouselref5_Same.l0]
    rw [if_pos (by omega), if_pos (by omega), if_pos (by omega), eq_drop (by omega) (by omega), w64 (x := (i : Int) + 1) (by omega) (by omega)]
    have := ih (i + 1) k (by omega) (by omega)
    rw [Int.natCast_add] at this
    by_cases c : rd a i = rd b i
    · rw [if_pos c]; simpa [c] using this
    · rw [if_neg c]; simp [c]
theorem rSame_f (a b : List Int) (hm : a.length ≤ 9223372036854775000) (k : Nat) (hk : a.length < k) : carouselref5_Same.f k a b = some (decide (a = b)) := by
  unfold carouselref5_Same.f
  by_cases h : a.length = b.length
  · rw [if_pos (by omega)]
    have := rSame_l0 a b h hm a.length 0 k (by omega) hk
    simpa using this
  · rw [if_neg (by omega)]
    have : a ≠ b := fun e => h (by rw [e])
    simp [this]
theorem wf_i64 {x : Int} (h : (Lit.int .i64 x).wf = true) : -9223372036854775808 ≤ x ∧ x ≤ 9223372036854775807 := by
  simp only [Lit.wf, Bool.and_eq_true, decide_eq_true_eq] at h
  have h1 : IntKind.i64.min = -9223372036854775808 := rfl
  have h2 : IntKind.i64.max = 9223372036854775807 := rfl
  omega
theorem u64w (n : Int) : IntKind.u64.wrap n = n % 18446744073709551616 := by simp [IntKind.wrap, IntKind.bits, IntKind.signed]
theorem wrap64_w (n : Int) : wrap64 n = Wd.w64 n := by unfold wrap64 Wd.w64; rfl
theorem and32 (x : Int) (h0 : 0 ≤ x) (h1 : x ≤ 18446744073709551615) : Go.bits .and .u64 x 4294967295 = x % 4294967296 := by
  rw [Go.u64_and x 4294967295 h0 (by omega) (by omega) (by omega)]
  have : (4294967295 : Int).toNat = 2 ^ 32 - 1 := rfl
  rw [this, Nat.and_two_pow_sub_one_eq_mod]
  omega
theorem and1 (x : Int) (h0 : 0 ≤ x) (h1 : x ≤ 18446744073709551615) : Go.bits .and .u64 x 1 = x % 2 := by
  rw [Go.u64_and x 1 h0 (by omega) (by omega) (by omega)]
  have : (1 : Int).toNat = 2 ^ 1 - 1 := rfl
  rw [this, Nat.and_two_pow_sub_one_eq_mod]
  omega
theorem Of_f (a : Int) (h0 : -9223372036854775808 ≤ a) (h1 : a ≤ 9223372036854775807) : wide_Of.f a = some (Wd.wr a) := by
  unfold wide_Of.f Wd.wr Wd.w64
  rw [u64w]; congr 1; rw [Prod.mk.injEq]; omega
theorem Add64_f (a b c : Int) (h0 : 0 ≤ a) (h1 : 0 ≤ b) (h2 : 0 ≤ c) (h3 : c ≤ 1) : bits_Add64.f a b c = some ((a + b + c) % 18446744073709551616, (a + b + c) / 18446744073709551616) := by
  unfold bits_Add64.f; rw [if_pos ⟨h0, h1, h2, h3⟩]
theorem Add_f {a0 a1 b0 b1 : Int} (ha : Wd.ok a0 a1) (hb : Wd.ok b0 b1) : wide_Add.f a0 a1 b0 b1 = some (Wd.wr (Wd.vl a0 a1 + Wd.vl b0 b1)) := by
  obtain ⟨a2, a3, a4, a5⟩ := ha
  obtain ⟨b2, b3, b4, b5⟩ := hb
  unfold wide_Add.f
  rw [Add64_f _ _ _ a4 b4 (by omega) (by omega)]
  simp only [Option.bind_some, u64w]
  rw [Add64_f _ _ _ (by omega) (by omega) (by omega) (by omega)]
  simp only [Option.bind_some, wrap64_w, Wd.wr, Wd.vl, Wd.w64]
  congr 1; rw [Prod.mk.injEq]; omega
theorem Sub64_f (a b c : Int) (h0 : 0 ≤ a) (h1 : 0 ≤ b) (h4 : b ≤ 18446744073709551615) (h2 : 0 ≤ c) (h3 : c ≤ 1) : bits_Sub64.f a b c = some ((a - b - c) % 18446744073709551616, if a < b + c then 1 else 0) := by
  unfold bits_Sub64.f; rw [if_pos ⟨h0, h1, h4, h2, h3⟩]
theorem Sub_f {a0 a1 b0 b1 : Int} (ha : Wd.ok a0 a1) (hb : Wd.ok b0 b1) : wide_Sub.f a0 a1 b0 b1 = some (Wd.wr (Wd.vl a0 a1 - Wd.vl b0 b1)) := by
  obtain ⟨a2, a3, a4, a5⟩ := ha
  obtain ⟨b2, b3, b4, b5⟩ := hb
  unfold wide_Sub.f
  rw [Sub64_f _ _ _ a4 b4 b5 (by omega) (by omega)]
  simp only [Option.bind_some, u64w]
  by_cases c : a1 < b1 + 0
  · rw [if_pos c, Sub64_f _ _ _ (by omega) (by omega) (by omega) (by omega) (by omega)]
    simp only [Option.bind_some, wrap64_w, Wd.wr, Wd.vl, Wd.w64]
    congr 1; rw [Prod.mk.injEq]; omega
  · rw [if_neg c, Sub64_f _ _ _ (by omega) (by omega) (by omega) (by omega) (by omega)]
    simp only [Option.bind_some, wrap64_w, Wd.wr, Wd.vl, Wd.w64]
    congr 1; rw [Prod.mk.injEq]; omega
theorem Neg_f {a0 a1 : Int} (ha : Wd.ok a0 a1) : wide_Neg.f a0 a1 = some (Wd.wr (-Wd.vl a0 a1)) := by
  unfold wide_Neg.f
  rw [Sub_f (show Wd.ok 0 0 by unfold Wd.ok; omega) ha]
  simp [Wd.vl]
theorem size_f (a : Int) (h0 : -9223372036854775808 ≤ a) (h1 : a ≤ 9223372036854775807) : wide_size.f a = some (if a < 0 then -a else a) := by
  unfold wide_size.f
  simp only [u64w]
  split <;> (congr 1; omega)
theorem mul_le {a b A B : Int} (h0 : 0 ≤ a) (h1 : a ≤ A) (h2 : 0 ≤ b) (h3 : b ≤ B) : 0 ≤ a * b ∧ a * b ≤ A * B :=
  ⟨Int.mul_nonneg h0 h2, Int.mul_le_mul h1 h3 h2 (by omega)⟩
theorem split_mul (x0 x1 y0 y1 : Int) : (x1 * 4294967296 + x0) * (y1 * 4294967296 + y0) = (x1 * y1) * 18446744073709551616 + ((x1 * y0) + (x0 * y1)) * 4294967296 + x0 * y0 := by grind
theorem Mul64_f (a b : Int) (a0 : 0 ≤ a) (a1 : a ≤ 18446744073709551615) (b0 : 0 ≤ b) (b1 : b ≤ 18446744073709551615) : bits_Mul64.f a b = some (a * b / 18446744073709551616, a * b % 18446744073709551616) := by
  unfold bits_Mul64.f
  rw [and32 a a0 a1, and32 b b0 b1]
  simp only [u64w]
  have ea : a = (a / 4294967296) * 4294967296 + a % 4294967296 := by omega
  have eb : b = (b / 4294967296) * 4294967296 + b % 4294967296 := by omega
  have es := split_mul (a % 4294967296) (a / 4294967296) (b % 4294967296) (b / 4294967296)
  rw [← ea, ← eb] at es
  have h1 : 0 ≤ a / 4294967296 ∧ a / 4294967296 ≤ 4294967295 := by omega
  have h2 : 0 ≤ a % 4294967296 ∧ a % 4294967296 ≤ 4294967295 := by omega
  have h3 : 0 ≤ b / 4294967296 ∧ b / 4294967296 ≤ 4294967295 := by omega
  have h4 : 0 ≤ b % 4294967296 ∧ b % 4294967296 ≤ 4294967295 := by omega
  have p00 := mul_le h2.1 h2.2 h4.1 h4.2
  have p10 := mul_le h1.1 h1.2 h4.1 h4.2
  have p01 := mul_le h2.1 h2.2 h3.1 h3.2
  have p11 := mul_le h1.1 h1.2 h3.1 h3.2
  clear ea eb a0 a1 b0 b1
  generalize a / 4294967296 * (b / 4294967296) = P11 at *
  generalize a / 4294967296 * (b % 4294967296) = P10 at *
  generalize a % 4294967296 * (b / 4294967296) = P01 at *
  generalize a % 4294967296 * (b % 4294967296) = P00 at *
  generalize a * b = S at *
  clear h1 h2 h3 h4
  simp only [Int.reduceMul] at p00 p10 p01 p11
  have r1 : (P10 % 18446744073709551616 + P00 % 18446744073709551616 / 4294967296) % 18446744073709551616 = P10 + P00 / 4294967296 := by omega
  rw [r1, and32 _ (by omega) (by omega)]
  congr 1
  rw [Prod.mk.injEq]
  constructor
  · omega
  · rfl
theorem Prod_f (a b : Int) (a0 : -9223372036854775808 ≤ a) (a1 : a ≤ 9223372036854775807) (b0 : -9223372036854775808 ≤ b) (b1 : b ≤ 9223372036854775807) : wide_Prod.f a b = some (Wd.wr (a * b)) := by
  unfold wide_Prod.f
  rw [size_f a a0 a1, size_f b b0 b1]
  simp only [Option.bind_some]
  have sa : 0 ≤ (if a < 0 then -a else a) ∧ (if a < 0 then -a else a) ≤ 9223372036854775808 := by split <;> omega
  have sb : 0 ≤ (if b < 0 then -b else b) ∧ (if b < 0 then -b else b) ≤ 9223372036854775808 := by split <;> omega
  rw [Mul64_f _ _ sa.1 (by omega) sb.1 (by omega)]
  simp only [Option.bind_some]
  have hp := mul_le sa.1 sa.2 sb.1 sb.2
  simp only [Int.reduceMul] at hp
  have hab : a * b = if ((decide (a < 0)) != (decide (b < 0))) = true then -((if a < 0 then -a else a) * (if b < 0 then -b else b)) else (if a < 0 then -a else a) * (if b < 0 then -b else b) := by
    by_cases ca : a < 0 <;> by_cases cb : b < 0 <;> simp [ca, cb, Int.neg_mul, Int.mul_neg]
  generalize (if a < 0 then -a else a) * (if b < 0 then -b else b) = S at *
  rw [hab]
  split
  · have hw : Wd.ok (wrap64 (S / 18446744073709551616)) (S % 18446744073709551616) := by
      rw [wrap64_w, Wd.w64_id (by omega) (by omega)]; unfold Wd.ok; omega
    rw [Neg_f hw]
    simp only [Option.bind_some]
    rw [wrap64_w, Wd.w64_id (by omega) (by omega)]
    have : Wd.vl (S / 18446744073709551616) (S % 18446744073709551616) = S := by unfold Wd.vl; omega
    rw [this]
  · simp only [wrap64_w]; rfl
theorem pow_split (n : Nat) (h : n ≤ 64) : (2 : Int) ^ n * 2 ^ (64 - n) = 18446744073709551616 := by
  rw [← Int.pow_add, show n + (64 - n) = 64 by omega]; rfl
theorem pow_pos (n : Nat) : (1 : Int) ≤ 2 ^ n := by
  have : (0 : Int) < 2 ^ n := Int.pow_pos (by decide)
  omega
/-- a word that is shifted up beside one that fills what it leaves -/
theorem or_fill (c d : Int) (n : Nat) (hn : n ≤ 64) (c0 : 0 ≤ c) (c1 : c < 2 ^ n) (d0 : 0 ≤ d) (d1 : d < 2 ^ (64 - n)) : Go.bits .or .u64 (c * 2 ^ (64 - n)) d = c * 2 ^ (64 - n) + d := by
  have hp := pow_split n hn
  have p1 := pow_pos n
  have p2 := pow_pos (64 - n)
  have e1 : (c + 1) * 2 ^ (64 - n) ≤ 2 ^ n * 2 ^ (64 - n) := Int.mul_le_mul_of_nonneg_right (by omega) (by omega)
  rw [Int.add_mul, Int.one_mul, hp] at e1
  have e0 : 0 ≤ c * 2 ^ (64 - n) := Int.mul_nonneg c0 (by omega)
  rw [Go.u64_or _ _ e0 (by omega) d0 (by omega)]
  obtain ⟨C, rfl⟩ := Int.eq_ofNat_of_zero_le c0
  obtain ⟨D, rfl⟩ := Int.eq_ofNat_of_zero_le d0
  have hD : D < 2 ^ (64 - n) := by
    have : ((2 ^ (64 - n) : Nat) : Int) = 2 ^ (64 - n) := by simp
    omega
  have hC : ((C : Int) * 2 ^ (64 - n)).toNat = C * 2 ^ (64 - n) := by
    have : (C : Int) * 2 ^ (64 - n) = ((C * 2 ^ (64 - n) : Nat) : Int) := by simp
    rw [this]; rfl
  rw [hC, Int.toNat_natCast, ← Nat.shiftLeft_eq, ← Nat.shiftLeft_add_eq_or_of_lt hD, Nat.shiftLeft_eq]
  simp
theorem shl_u64 (x : Int) (n : Nat) (hn : n ≤ 64) (h : Int) (hh : h = (n : Int)) : shl .u64 x h = (x * 2 ^ n) % 18446744073709551616 := by
  subst hh
  unfold shl
  rw [u64w, show min ((n : Int)).toNat IntKind.u64.bits = n by simp [IntKind.bits]; omega]
theorem shr_u64 (x : Int) (n : Nat) (hn : n ≤ 64) (h : Int) (hh : h = (n : Int)) : shr .u64 x h = x / 2 ^ n := by
  subst hh
  unfold shr
  rw [show min ((n : Int)).toNat IntKind.u64.bits = n by simp [IntKind.bits]; omega]
theorem shr_i64 (x : Int) (n : Nat) (hn : n ≤ 64) (h : Int) (hh : h = (n : Int)) : shr .i64 x h = x / 2 ^ n := by
  subst hh
  unfold shr
  rw [show min ((n : Int)).toNat IntKind.i64.bits = n by simp [IntKind.bits]; omega]
/-- (x * Q) mod (P * Q) -/
theorem mul_mod (x P Q : Int) (hQ : 0 < Q) : (x * Q) % (P * Q) = (x % P) * Q := by
  rw [Int.mul_comm x Q, Int.mul_comm P Q, Int.mul_emod_mul_of_pos x P hQ, Int.mul_comm]
theorem Shift_end {q0 q1 h l X D : Int} (hq : Wd.ok q0 q1) (hv : Wd.vl q0 q1 = X / D) (hl : 0 ≤ l) (hgt : (h > 9223372036854775808 ∨ (h = 9223372036854775808 ∧ l > 0)) ↔ 2 * (X % D) > D) (heq : (h = 9223372036854775808 ∧ l = 0) ↔ 2 * (X % D) = D) (k : Nat) :
    (if h > 9223372036854775808 then (wide_Shift.j1 (k + 1) true q0 q1) else (if h = 9223372036854775808 then (if l > 0 then (wide_Shift.j1 (k + 1) true q0 q1) else (wide_Shift.j1 (k + 1) ((Go.bits .and .u64 q1 1) == 1) q0 q1)) else (wide_Shift.j1 (k + 1) false q0 q1))) = some (Wd.wr (Wd.rnd X D)) := by
  have ht : wide_Shift.j1 (k + 1) true q0 q1 = some (Wd.wr (X / D + 1)) := by
    simp only [wide_Shift.j1, if_true]
    rw [Of_f 1 (by omega) (by omega)]
    simp only [Option.bind_some]
    rw [Add_f hq (Wd.wr_ok 1), hv, Wd.vl_wr_id (by omega) (by omega)]; rfl
  have hf : wide_Shift.j1 (k + 1) false q0 q1 = some (Wd.wr (X / D)) := by
    simp only [wide_Shift.j1]
    rw [← hv, Wd.wr_vl hq]; rfl
  have ha : Go.bits .and .u64 q1 1 = X / D % 2 := by
    rw [and1 q1 hq.2.2.1 hq.2.2.2, ← hv]; unfold Wd.vl; omega
  rw [ha, ht, hf]
  unfold Wd.rnd
  by_cases c1 : 2 * (X % D) > D
  · rw [if_pos (c := 2 * (X % D) > D ∨ 2 * (X % D) = D ∧ X / D % 2 = 1) (.inl c1)]
    rcases hgt.mpr c1 with h1 | ⟨h1, h2⟩
    · rw [if_pos h1]
    · rw [if_neg (by omega), if_pos h1, if_pos h2]
  · have n1 := fun h => c1 (hgt.mp h)
    rw [if_neg (fun h1 => n1 (.inl h1))]
    by_cases c2 : 2 * (X % D) = D
    · obtain ⟨h1, h2⟩ := heq.mpr c2
      rw [if_pos h1, if_neg (by omega)]
      by_cases c3 : X / D % 2 = 1
      · rw [if_pos (c := 2 * (X % D) > D ∨ 2 * (X % D) = D ∧ X / D % 2 = 1) (.inr ⟨c2, c3⟩), show (X / D % 2 == 1) = true by simpa using c3, ht]
      · rw [if_neg (c := 2 * (X % D) > D ∨ 2 * (X % D) = D ∧ X / D % 2 = 1) (fun h => h.elim c1 (fun h => c3 h.2)), show (X / D % 2 == 1) = false by simpa using c3, hf]
    · rw [if_neg (c := 2 * (X % D) > D ∨ 2 * (X % D) = D ∧ X / D % 2 = 1) (fun h => h.elim c1 (fun h => c2 h.1))]
      by_cases c4 : h = 9223372036854775808
      · exfalso
        by_cases c5 : l > 0
        · exact n1 (.inr ⟨c4, c5⟩)
        · exact c2 (heq.mp ⟨c4, by omega⟩)
      · rw [if_neg c4]
theorem Shift_lo {a0 a1 : Int} (ha : Wd.ok a0 a1) (n : Nat) (h1 : 1 ≤ n) (h2 : n < 64) (k : Nat) : wide_Shift.j0 (k + 1 + 1) n false a0 a1 = some (Wd.wr (Wd.rnd (Wd.vl a0 a1) (2 ^ n))) := by
  obtain ⟨a2, a3, a4, a5⟩ := ha
  have hp := pow_split n (by omega)
  have p1 := pow_pos n
  have p2 := pow_pos (64 - n)
  have hev : ∃ H, (2 : Int) ^ n = 2 * H := ⟨2 ^ (n - 1), by rw [← Int.pow_succ']; congr 1; omega⟩
  have ew : wrap64 (64 - (n : Int)) = ((64 - n : Nat) : Int) := by rw [wrap64_w, Wd.w64_id (by omega) (by omega)]; omega
  simp only [wide_Shift.j0, Bool.false_eq_true, if_false]
  have hd : wide_down.f a0 a1 n = some (a0 / 2 ^ n, (a0 % 2 ^ n) * 2 ^ (64 - n) + a1 / 2 ^ n, (a1 % 2 ^ n) * 2 ^ (64 - n), 0) := by
    unfold wide_down.f
    rw [if_neg (by omega), if_pos (by omega), ew]
    clear ew
    rw [if_pos (by omega), shr_i64 _ n (by omega) _ rfl, shl_u64 _ (64 - n) (by omega) _ rfl, shr_u64 _ n (by omega) _ rfl, shl_u64 _ (64 - n) (by omega) _ rfl, u64w]
    have em : a0 % 18446744073709551616 % 2 ^ n = a0 % 2 ^ n := Int.emod_emod_of_dvd a0 ⟨2 ^ (64 - n), hp.symm⟩
    have e1 : a0 % 18446744073709551616 * 2 ^ (64 - n) % 18446744073709551616 = (a0 % 2 ^ n) * 2 ^ (64 - n) := by
      conv => lhs; rhs; rw [← hp]
      rw [mul_mod _ _ _ (by omega), em]
    have e2 : a1 * 2 ^ (64 - n) % 18446744073709551616 = (a1 % 2 ^ n) * 2 ^ (64 - n) := by
      conv => lhs; rhs; rw [← hp]
      rw [mul_mod _ _ _ (by omega)]
    have d1 : a1 / 2 ^ n < 2 ^ (64 - n) := Int.ediv_lt_of_lt_mul (by omega) (by rw [Int.mul_comm]; omega)
    rw [e1, e2, or_fill _ _ n (by omega) (Int.emod_nonneg _ (by omega)) (Int.emod_lt_of_pos _ (by omega)) (Int.ediv_nonneg a4 (by omega)) d1]
  rw [hd]
  clear ew
  simp only [Option.bind_some]
  obtain ⟨H, hH⟩ := hev
  have d0 : 0 ≤ a1 / 2 ^ n := Int.ediv_nonneg a4 (by omega)
  have d1 : a1 / 2 ^ n < 2 ^ (64 - n) := Int.ediv_lt_of_lt_mul (by omega) (by rw [Int.mul_comm]; omega)
  have c0 := Int.emod_nonneg a0 (show (2 : Int) ^ n ≠ 0 by omega)
  have c1 := Int.emod_lt_of_pos a0 (show (0 : Int) < 2 ^ n by omega)
  have r0 := Int.emod_nonneg a1 (show (2 : Int) ^ n ≠ 0 by omega)
  have r1 := Int.emod_lt_of_pos a1 (show (0 : Int) < 2 ^ n by omega)
  have ea := Int.emod_add_mul_ediv a0 (2 ^ n)
  have e1 := Int.emod_add_mul_ediv a1 (2 ^ n)
  have hhi : -9223372036854775808 ≤ a0 / 2 ^ n ∧ a0 / 2 ^ n ≤ 9223372036854775807 := by
    constructor
    · apply Int.le_ediv_of_mul_le (by omega)
      have : (-9223372036854775808 : Int) * 2 ^ n ≤ -9223372036854775808 * 1 := Int.mul_le_mul_of_nonpos_left (by omega) (by omega)
      omega
    · apply Int.ediv_le_of_le_mul (by omega)
      have : (9223372036854775807 : Int) * 1 ≤ 9223372036854775807 * 2 ^ n := Int.mul_le_mul_of_nonneg_left (by omega) (by omega)
      omega
  generalize (2 : Int) ^ n = P at *
  generalize (2 : Int) ^ (64 - n) = Q at *
  have m1 : (a0 % P + 1) * Q ≤ P * Q := Int.mul_le_mul_of_nonneg_right (by omega) (by omega)
  rw [Int.add_mul, Int.one_mul, hp] at m1
  have m0 : 0 ≤ a0 % P * Q := Int.mul_nonneg c0 (by omega)
  have hX : Wd.vl a0 a1 = a1 + P * (a0 * Q) := by
    unfold Wd.vl; rw [← hp]; grind
  have hmod : Wd.vl a0 a1 % P = a1 % P := by rw [hX, Int.add_mul_emod_self_left]
  have hdiv : Wd.vl a0 a1 / P = a1 / P + a0 * Q := by rw [hX, Int.add_mul_ediv_left _ _ (by omega)]
  have hq : Wd.ok (a0 / P) (a0 % P * Q + a1 / P) := ⟨hhi.1, hhi.2, by omega, by omega⟩
  have hv : Wd.vl (a0 / P) (a0 % P * Q + a1 / P) = Wd.vl a0 a1 / P := by
    rw [hdiv]; unfold Wd.vl
    rw [← hp]
    have : a0 * Q = a0 % P * Q + a0 / P * (P * Q) := by
      conv => lhs; rw [← ea]
      grind
    omega
  refine Shift_end hq hv (by omega) ?_ ?_ k
  · rw [hmod]
    have : (a1 % P * Q > 9223372036854775808) ↔ 2 * (a1 % P) > P := by
      constructor
      · intro h
        by_cases c : 2 * (a1 % P) > P
        · exact c
        · have : 2 * (a1 % P) * Q ≤ P * Q := Int.mul_le_mul_of_nonneg_right (by omega) (by omega)
          rw [Int.mul_assoc] at this; omega
      · intro h
        have : (P + 1) * Q ≤ 2 * (a1 % P) * Q := Int.mul_le_mul_of_nonneg_right (by omega) (by omega)
        rw [Int.add_mul, Int.one_mul, hp, Int.mul_assoc] at this; omega
    rw [← this]
    omega
  · rw [hmod]
    constructor
    · rintro ⟨h, _⟩
      have : 2 * (a1 % P) * Q = P * Q := by rw [hp, Int.mul_assoc]; omega
      exact Int.eq_of_mul_eq_mul_right (by omega) this
    · intro h
      have : 2 * (a1 % P) * Q = P * Q := by rw [h]
      rw [hp, Int.mul_assoc] at this; omega
theorem Shift_hi {a0 a1 : Int} (ha : Wd.ok a0 a1) (m : Nat) (h2 : m ≤ 62) (k : Nat) : wide_Shift.j0 (k + 1 + 1) ((m + 64 : Nat) : Int) false a0 a1 = some (Wd.wr (Wd.rnd (Wd.vl a0 a1) (18446744073709551616 * 2 ^ m))) := by
  obtain ⟨a2, a3, a4, a5⟩ := ha
  have hp := pow_split m (by omega)
  have p1 := pow_pos m
  have p2 := pow_pos (64 - m)
  have ew : wrap64 (((m + 64 : Nat) : Int) - 64) = (m : Int) := by rw [wrap64_w, Wd.w64_id (by omega) (by omega)]; omega
  have ew2 : wrap64 (64 - (m : Int)) = ((64 - m : Nat) : Int) := by rw [wrap64_w, Wd.w64_id (by omega) (by omega)]; omega
  simp only [wide_Shift.j0, Bool.false_eq_true, if_false]
  have hd : wide_down.f a0 a1 ((m + 64 : Nat) : Int) = some (a0 / 9223372036854775808, (a0 / 2 ^ m) % 18446744073709551616, (a0 % 2 ^ m) * 2 ^ (64 - m) + a1 / 2 ^ m, (a1 % 2 ^ m) * 2 ^ (64 - m)) := by
    unfold wide_down.f
    rw [ew, ew2]
    clear ew ew2
    rw [if_pos (by omega), if_pos (by omega), if_pos (by omega), shr_i64 _ m (by omega) _ rfl, shl_u64 _ (64 - m) (by omega) _ rfl, shr_u64 _ m (by omega) _ rfl, shl_u64 _ (64 - m) (by omega) _ rfl, u64w, u64w]
    have em : a0 % 18446744073709551616 % 2 ^ m = a0 % 2 ^ m := Int.emod_emod_of_dvd a0 ⟨2 ^ (64 - m), hp.symm⟩
    have e1 : a0 % 18446744073709551616 * 2 ^ (64 - m) % 18446744073709551616 = (a0 % 2 ^ m) * 2 ^ (64 - m) := by
      conv => lhs; rhs; rw [← hp]
      rw [mul_mod _ _ _ (by omega), em]
    have e2 : a1 * 2 ^ (64 - m) % 18446744073709551616 = (a1 % 2 ^ m) * 2 ^ (64 - m) := by
      conv => lhs; rhs; rw [← hp]
      rw [mul_mod _ _ _ (by omega)]
    have d1 : a1 / 2 ^ m < 2 ^ (64 - m) := Int.ediv_lt_of_lt_mul (by omega) (by rw [Int.mul_comm]; omega)
    rw [e1, e2, or_fill _ _ m (by omega) (Int.emod_nonneg _ (by omega)) (Int.emod_lt_of_pos _ (by omega)) (Int.ediv_nonneg a4 (by omega)) d1]
  rw [hd]
  clear ew ew2
  simp only [Option.bind_some]
  have d0 : 0 ≤ a1 / 2 ^ m := Int.ediv_nonneg a4 (by omega)
  have d1 : a1 / 2 ^ m < 2 ^ (64 - m) := Int.ediv_lt_of_lt_mul (by omega) (by rw [Int.mul_comm]; omega)
  have c0 := Int.emod_nonneg a0 (show (2 : Int) ^ m ≠ 0 by omega)
  have c1 := Int.emod_lt_of_pos a0 (show (0 : Int) < 2 ^ m by omega)
  have r0 := Int.emod_nonneg a1 (show (2 : Int) ^ m ≠ 0 by omega)
  have r1 := Int.emod_lt_of_pos a1 (show (0 : Int) < 2 ^ m by omega)
  have ea := Int.emod_add_mul_ediv a0 (2 ^ m)
  have e1 := Int.emod_add_mul_ediv a1 (2 ^ m)
  have hhi : -9223372036854775808 ≤ a0 / 2 ^ m ∧ a0 / 2 ^ m ≤ 9223372036854775807 := by
    constructor
    · apply Int.le_ediv_of_mul_le (by omega)
      have : (-9223372036854775808 : Int) * 2 ^ m ≤ -9223372036854775808 * 1 := Int.mul_le_mul_of_nonpos_left (by omega) (by omega)
      omega
    · apply Int.ediv_le_of_le_mul (by omega)
      have : (9223372036854775807 : Int) * 1 ≤ 9223372036854775807 * 2 ^ m := Int.mul_le_mul_of_nonneg_left (by omega) (by omega)
      omega
  have hneg : a0 < 0 ↔ a0 / 2 ^ m < 0 := by
    constructor
    · intro h; exact Int.ediv_neg_of_neg_of_pos h (by omega)
    · intro h
      by_cases c : a0 < 0
      · exact c
      · have := Int.ediv_nonneg (show 0 ≤ a0 by omega) (show (0 : Int) ≤ 2 ^ m by omega); omega
  generalize (2 : Int) ^ m = P at *
  generalize (2 : Int) ^ (64 - m) = Q at *
  have b1 : (a0 % P + 1) * Q ≤ P * Q := Int.mul_le_mul_of_nonneg_right (by omega) (by omega)
  rw [Int.add_mul, Int.one_mul, hp] at b1
  have b0 : 0 ≤ a0 % P * Q := Int.mul_nonneg c0 (by omega)
  have b3 : (a1 % P + 1) * Q ≤ P * Q := Int.mul_le_mul_of_nonneg_right (by omega) (by omega)
  rw [Int.add_mul, Int.one_mul, hp] at b3
  have b2 : 0 ≤ a1 % P * Q := Int.mul_nonneg r0 (by omega)
  have hX : Wd.vl a0 a1 = (a1 + 18446744073709551616 * (a0 % P)) + (18446744073709551616 * P) * (a0 / P) := by
    unfold Wd.vl; conv => lhs; rw [← ea]
    grind
  have hr : 0 ≤ a1 + 18446744073709551616 * (a0 % P) ∧ a1 + 18446744073709551616 * (a0 % P) < 18446744073709551616 * P := by omega
  have hmod : Wd.vl a0 a1 % (18446744073709551616 * P) = a1 + 18446744073709551616 * (a0 % P) := by
    rw [hX, Int.add_mul_emod_self_left, Int.emod_eq_of_lt hr.1 hr.2]
  have hdiv : Wd.vl a0 a1 / (18446744073709551616 * P) = a0 / P := by
    rw [hX, Int.add_mul_ediv_left _ _ (by omega), Int.ediv_eq_zero_of_lt hr.1 hr.2, Int.zero_add]
  have hq : Wd.ok (a0 / 9223372036854775808) (a0 / P % 18446744073709551616) := by unfold Wd.ok; omega
  have hv : Wd.vl (a0 / 9223372036854775808) (a0 / P % 18446744073709551616) = Wd.vl a0 a1 / (18446744073709551616 * P) := by
    rw [hdiv]; unfold Wd.vl; omega
  -- all that falls out, Q times
  have hA : (a1 + 18446744073709551616 * (a0 % P)) * Q = (a0 % P * Q + a1 / P) * 18446744073709551616 + a1 % P * Q := by
    have : a1 * Q = a1 % P * Q + a1 / P * (P * Q) := by
      conv => lhs; rw [← e1]
      grind
    rw [Int.add_mul, this, hp]; grind
  refine Shift_end hq hv b2 ?_ ?_ k
  · rw [hmod]
    have : (2 * (a1 + 18446744073709551616 * (a0 % P)) > 18446744073709551616 * P) ↔ 2 * ((a1 + 18446744073709551616 * (a0 % P)) * Q) > 18446744073709551616 * (P * Q) := by
      rw [← Int.mul_assoc, ← Int.mul_assoc]
      constructor
      · intro h; exact Int.mul_lt_mul_of_pos_right h (by omega)
      · intro h; exact Int.lt_of_mul_lt_mul_right h (by omega)
    rw [this, hA, hp]
    omega
  · rw [hmod]
    have : (2 * (a1 + 18446744073709551616 * (a0 % P)) = 18446744073709551616 * P) ↔ 2 * ((a1 + 18446744073709551616 * (a0 % P)) * Q) = 18446744073709551616 * (P * Q) := by
      rw [← Int.mul_assoc, ← Int.mul_assoc]
      constructor
      · intro h; rw [h]
      · intro h; exact Int.eq_of_mul_eq_mul_right (by omega) h
    rw [this, hA, hp]
    omega
/-- Shift, at every count that it takes -/
theorem Shift_f {a0 a1 : Int} (ha : Wd.ok a0 a1) (n : Nat) (h1 : 1 ≤ n) (h2 : n ≤ 126) (k : Nat) (hk : 2 ≤ k) : wide_Shift.f k a0 a1 n = some (Wd.wr (Wd.rnd (Wd.vl a0 a1) (2 ^ n))) := by
  obtain ⟨k, rfl⟩ : ∃ m, k = m + 1 + 1 := ⟨k - 2, by omega⟩
  unfold wide_Shift.f
  rw [if_neg (by omega), decide_eq_false (by omega)]
  by_cases c : n < 64
  · exact Shift_lo ha n h1 c k
  · obtain ⟨m, rfl⟩ : ∃ m, n = m + 64 := ⟨n - 64, by omega⟩
    rw [Shift_hi ha m (by omega) k, Int.pow_add, Int.mul_comm]; rfl
theorem tGood_f (d v : List Int) (k : Nat) (hk : 10 ≤ k) : tens_Good.f k d v = some (Shp.good d && decide ((v.length : Int) = Shp.siz d)) := by
  unfold tens_Good.f
  rw [Good_f d k hk]
  simp only [Option.bind_some]
  cases h : Shp.good d
  · simp
  · rw [if_pos rfl, Size_f d k hk]
    simp only [Option.bind_some, Bool.true_and]
    congr 1
theorem ps_eq (a b c : Int) : carouselref1_plus.s a b c = (a + b + c) % 18446744073709551616 := by
  unfold carouselref1_plus.s; rw [u64w, u64w]; omega
theorem pc_eq (a b c : Int) (a0 : 0 ≤ a) (a1 : a < 18446744073709551616) (b0 : 0 ≤ b) (b1 : b < 18446744073709551616) (c0 : 0 ≤ c) (c1 : c ≤ 1) : carouselref1_plus.c a b c = (a + b + c) / 18446744073709551616 := by
  unfold carouselref1_plus.c; rw [ps_eq, u64w]; split <;> (try split) <;> omega
theorem ms_eq (a b c : Int) : carouselref1_minus.s a b c = (a - b - c) % 18446744073709551616 := by
  unfold carouselref1_minus.s; rw [u64w, u64w]; omega
theorem mc_eq (a b c : Int) (a0 : 0 ≤ a) (a1 : a < 18446744073709551616) (b0 : 0 ≤ b) (b1 : b < 18446744073709551616) (c0 : 0 ≤ c) (c1 : c ≤ 1) : carouselref1_minus.c a b c = -((a - b - c) / 18446744073709551616) := by
  unfold carouselref1_minus.c; rw [u64w]; split <;> (try split) <;> omega
theorem plus_f {a0 a1 a2 a3 b0 b1 b2 b3 : Int} (ha : Bn.ok a0 a1 a2 a3) (hb : Bn.ok b0 b1 b2 b3) : ∃ r0 r1 r2 r3, carouselref1_plus.f a0 a1 a2 a3 b0 b1 b2 b3 = some (r0, r1, r2, r3) ∧ Bn.ok r0 r1 r2 r3 ∧ Bn.bv r0 r1 r2 r3 = (Bn.bv a0 a1 a2 a3 + Bn.bv b0 b1 b2 b3) % 115792089237316195423570985008687907853269984665640564039457584007913129639936 := by
  refine ⟨_, _, _, _, rfl, ?_⟩
  unfold Bn.ok at ha hb
  simp only [ps_eq]
  have e1 := pc_eq a0 b0 0 (by omega) (by omega) (by omega) (by omega) (by omega) (by omega)
  generalize carouselref1_plus.c a0 b0 0 = c1 at *
  have e2 := pc_eq a1 b1 c1 (by omega) (by omega) (by omega) (by omega) (by omega) (by omega)
  generalize carouselref1_plus.c a1 b1 c1 = c2 at *
  have e3 := pc_eq a2 b2 c2 (by omega) (by omega) (by omega) (by omega) (by omega) (by omega)
  generalize carouselref1_plus.c a2 b2 c2 = c3 at *
  unfold Bn.ok Bn.bv
  omega
theorem minus_f {a0 a1 a2 a3 b0 b1 b2 b3 : Int} (ha : Bn.ok a0 a1 a2 a3) (hb : Bn.ok b0 b1 b2 b3) : ∃ r0 r1 r2 r3, carouselref1_minus.f a0 a1 a2 a3 b0 b1 b2 b3 = some (r0, r1, r2, r3) ∧ Bn.ok r0 r1 r2 r3 ∧ Bn.bv r0 r1 r2 r3 = (Bn.bv a0 a1 a2 a3 - Bn.bv b0 b1 b2 b3) % 115792089237316195423570985008687907853269984665640564039457584007913129639936 := by
  refine ⟨_, _, _, _, rfl, ?_⟩
  unfold Bn.ok at ha hb
  simp only [ms_eq]
  have e1 := mc_eq a0 b0 0 (by omega) (by omega) (by omega) (by omega) (by omega) (by omega)
  generalize carouselref1_minus.c a0 b0 0 = c1 at *
  have e2 := mc_eq a1 b1 c1 (by omega) (by omega) (by omega) (by omega) (by omega) (by omega)
  generalize carouselref1_minus.c a1 b1 c1 = c2 at *
  have e3 := mc_eq a2 b2 c2 (by omega) (by omega) (by omega) (by omega) (by omega) (by omega)
  generalize carouselref1_minus.c a2 b2 c2 = c3 at *
  unfold Bn.ok Bn.bv
  omega
theorem less_f {a0 a1 a2 a3 b0 b1 b2 b3 : Int} (ha : Bn.ok a0 a1 a2 a3) (hb : Bn.ok b0 b1 b2 b3) : carouselref1_less.f a0 a1 a2 a3 b0 b1 b2 b3 = some (decide (Bn.bv a0 a1 a2 a3 < Bn.bv b0 b1 b2 b3)) := by
  unfold carouselref1_less.f carouselref1_less.s
  unfold Bn.ok at ha hb
  unfold Bn.bv
  congr 1
  symm
  repeat' split
  · rw [decide_eq_false]; omega
  all_goals (apply decide_eq_decide.mpr; omega)
theorem Plus_f {n m : Bool} {a0 a1 a2 a3 b0 b1 b2 b3 : Int} (ha : Bn.ok a0 a1 a2 a3) (hb : Bn.ok b0 b1 b2 b3) (hs : Bn.bv a0 a1 a2 a3 + Bn.bv b0 b1 b2 b3 < 115792089237316195423570985008687907853269984665640564039457584007913129639936) :
    ∃ s r0 r1 r2 r3, carouselref1_Plus.f n a0 a1 a2 a3 m b0 b1 b2 b3 = some (s, r0, r1, r2, r3) ∧ Bn.ok r0 r1 r2 r3 ∧ Bn.nv s r0 r1 r2 r3 = Bn.nv n a0 a1 a2 a3 + Bn.nv m b0 b1 b2 b3 := by
  have A := Bn.bv_range ha
  have B := Bn.bv_range hb
  unfold carouselref1_Plus.f
  by_cases c : n = m
  · subst c
    obtain ⟨r0, r1, r2, r3, e, h, v⟩ := plus_f ha hb
    rw [if_pos (by simp), e]
    refine ⟨n, r0, r1, r2, r3, rfl, h, ?_⟩
    rw [Int.emod_eq_of_lt (by omega) hs] at v
    unfold Bn.nv
    split <;> omega
  · have c' : m = !n := by cases n <;> cases m <;> simp at c ⊢
    subst c'
    rw [if_neg (by simp), less_f ha hb]
    simp only [Option.bind_some]
    by_cases d : Bn.bv a0 a1 a2 a3 < Bn.bv b0 b1 b2 b3
    · rw [if_pos (decide_eq_true d)]
      obtain ⟨r0, r1, r2, r3, e, h, v⟩ := minus_f hb ha
      rw [e]
      refine ⟨!n, r0, r1, r2, r3, rfl, h, ?_⟩
      rw [Int.emod_eq_of_lt (by omega) (by omega)] at v
      unfold Bn.nv
      cases n <;> simp <;> omega
    · rw [if_neg (by simpa using d)]
      obtain ⟨r0, r1, r2, r3, e, h, v⟩ := minus_f ha hb
      rw [e]
      refine ⟨n, r0, r1, r2, r3, rfl, h, ?_⟩
      rw [Int.emod_eq_of_lt (by omega) (by omega)] at v
      unfold Bn.nv
      cases n <;> simp <;> omega
theorem rsize_f (a : Int) (h0 : -9223372036854775808 ≤ a) (h1 : a ≤ 9223372036854775807) : carouselref1_size.f a = some (if a < 0 then -a else a) := by
  unfold carouselref1_size.f
  split
  · rw [u64w, u64w]; congr 1; unfold wrap64; omega
  · rw [u64w]; congr 1; omega
theorem or_zero {x y : Int} (x0 : 0 ≤ x) (x1 : x < 18446744073709551616) (y0 : 0 ≤ y) (y1 : y < 18446744073709551616) : (Go.bits .or .u64 x y = 0 ↔ x = 0 ∧ y = 0) ∧ 0 ≤ Go.bits .or .u64 x y ∧ Go.bits .or .u64 x y < 18446744073709551616 := by
  rw [Go.u64_or x y x0 (by omega) y0 (by omega)]
  obtain ⟨X, rfl⟩ := Int.eq_ofNat_of_zero_le x0
  obtain ⟨Y, rfl⟩ := Int.eq_ofNat_of_zero_le y0
  have hx : X < 2 ^ 64 := by omega
  have hy : Y < 2 ^ 64 := by omega
  have h := Nat.or_lt_two_pow hx hy
  simp only [Int.toNat_natCast]
  have z : X ||| Y = 0 ↔ X = 0 ∧ Y = 0 := Nat.or_eq_zero_iff
  refine ⟨?_, by omega, by omega⟩
  constructor
  · intro e
    have := z.mp (by omega)
    omega
  · intro e
    have := z.mpr (by omega)
    omega
theorem Held_f {n : Bool} {a0 a1 a2 a3 : Int} (h : Bn.ok a0 a1 a2 a3) (k : Nat) (hk : 1 ≤ k) : carouselref1_Held.f k n a0 a1 a2 a3 = some (Fx.clamp (Bn.nv n a0 a1 a2 a3)) := by
  obtain ⟨k, rfl⟩ : ∃ m, k = m + 1 := ⟨k - 1, by omega⟩
  unfold Bn.ok at h
  have o1 := or_zero (x := a1) (y := a2) (by omega) (by omega) (by omega) (by omega)
  have o2 := or_zero o1.2.1 o1.2.2 (y := a3) (by omega) (by omega)
  unfold carouselref1_Held.f Bn.nv Bn.bv Fx.clamp
  by_cases c : Go.bits .or .u64 (Go.bits .or .u64 a1 a2) a3 = 0
  · rw [if_pos c]
    have := o2.1.mp c
    have := o1.1.mp this.1
    clear o1 o2 c
    by_cases d : a0 ≥ 9223372036854775808
    · rw [decide_eq_true d]
      simp only [carouselref1_Held.j0, if_true]
      split <;> (congr 1; omega)
    · rw [decide_eq_false d]
      simp only [carouselref1_Held.j0, Bool.false_eq_true, if_false]
      split <;> (congr 1; unfold wrap64; omega)
  · rw [if_neg c]
    have : ¬ (a1 = 0 ∧ a2 = 0 ∧ a3 = 0) := fun e => c (o2.1.mpr ⟨o1.1.mpr ⟨e.1, e.2.1⟩, e.2.2⟩)
    clear o1 o2 c
    simp only [carouselref1_Held.j0, if_true]
    split <;> (congr 1; omega)
theorem Fix_f {h l : Int} (hv : Wd.ok h l) (k : Nat) (hk : 1 ≤ k) : wide_Fix.f k h l = some (Fx.clamp (Wd.vl h l)) := by
  obtain ⟨k, rfl⟩ : ∃ m, k = m + 1 := ⟨k - 1, by omega⟩
  unfold Wd.ok at hv
  unfold wide_Fix.f Wd.vl Fx.clamp
  by_cases c : h > 0
  · rw [if_pos c]
    simp only [wide_Fix.j0, if_true]
    congr 1; omega
  · rw [if_neg c]
    by_cases d : h = 0
    · subst d
      rw [if_pos rfl]
      by_cases e : l ≥ 9223372036854775808
      · rw [decide_eq_true e]
        simp only [wide_Fix.j0, if_true]
        congr 1; omega
      · rw [decide_eq_false e]
        simp only [wide_Fix.j0, Bool.false_eq_true, if_false]
        rw [if_neg (by omega), if_neg (by omega)]
        congr 1; unfold wrap64; omega
    · rw [if_neg d]
      simp only [wide_Fix.j0, Bool.false_eq_true, if_false]
      split
      · congr 1; omega
      · split
        · split
          · congr 1; omega
          · congr 1; unfold wrap64; omega
        · congr 1; omega
theorem Times_f (a b : Int) (a0 : -9223372036854775808 ≤ a) (a1 : a ≤ 9223372036854775807) (b0 : -9223372036854775808 ≤ b) (b1 : b ≤ 9223372036854775807) :
    ∃ q0 q1 q2 q3, carouselref1_Times.f a b = some ((decide (a < 0)) != (decide (b < 0)), q0, q1, q2, q3) ∧ Bn.ok q0 q1 q2 q3 ∧ Bn.bv q0 q1 q2 q3 ≤ 85070591730234615865843651857942052864 ∧ Bn.nv ((decide (a < 0)) != (decide (b < 0))) q0 q1 q2 q3 = a * b := by
  unfold carouselref1_Times.f
  rw [rsize_f a a0 a1, rsize_f b b0 b1]
  simp only [Option.bind_some]
  have hab : (if a < 0 then -a else a) * (if b < 0 then -b else b) = if ((decide (a < 0)) != (decide (b < 0))) = true then -(a * b) else a * b := by
    by_cases c : a < 0 <;> by_cases d : b < 0 <;> simp [c, d, Int.neg_mul, Int.mul_neg]
  have hx : 0 ≤ (if a < 0 then -a else a) ∧ (if a < 0 then -a else a) ≤ 9223372036854775808 := by split <;> omega
  have hy : 0 ≤ (if b < 0 then -b else b) ∧ (if b < 0 then -b else b) ≤ 9223372036854775808 := by split <;> omega
  generalize (if a < 0 then -a else a) = x at *
  generalize (if b < 0 then -b else b) = y at *
  rw [and32 x hx.1 (by omega), and32 y hy.1 (by omega)]
  have es := split_mul (x % 4294967296) (x / 4294967296) (y % 4294967296) (y / 4294967296)
  rw [show x / 4294967296 * 4294967296 + x % 4294967296 = x by omega, show y / 4294967296 * 4294967296 + y % 4294967296 = y by omega] at es
  have z0 : 0 ≤ x % 4294967296 ∧ x % 4294967296 ≤ 4294967295 := by omega
  have z1 : 0 ≤ x / 4294967296 ∧ x / 4294967296 ≤ 2147483648 := by omega
  have z2 : 0 ≤ y % 4294967296 ∧ y % 4294967296 ≤ 4294967295 := by omega
  have z3 : 0 ≤ y / 4294967296 ∧ y / 4294967296 ≤ 2147483648 := by omega
  have p00 := mul_le z0.1 z0.2 z2.1 z2.2
  have p01 := mul_le z0.1 z0.2 z3.1 z3.2
  have p10 := mul_le z1.1 z1.2 z2.1 z2.2
  have p11 := mul_le z1.1 z1.2 z3.1 z3.2
  have hxy := mul_le hx.1 hx.2 hy.1 hy.2
  generalize x * y = P at *
  generalize x % 4294967296 * (y % 4294967296) = A at *
  generalize x % 4294967296 * (y / 4294967296) = B at *
  generalize x / 4294967296 * (y % 4294967296) = C at *
  generalize x / 4294967296 * (y / 4294967296) = D at *
  simp only [u64w]
  rw [Int.emod_eq_of_lt p00.1 (by omega), Int.emod_eq_of_lt p01.1 (by omega), Int.emod_eq_of_lt p10.1 (by omega), Int.emod_eq_of_lt p11.1 (by omega)]
  obtain ⟨r0, r1, r2, r3, e1, o1, v1⟩ := plus_f (a0 := A) (a1 := D) (a2 := 0) (a3 := 0) (b0 := B * 4294967296 % 18446744073709551616) (b1 := B / 4294967296) (b2 := 0) (b3 := 0) (by unfold Bn.ok; omega) (by unfold Bn.ok; omega)
  rw [e1]
  simp only [Option.bind_some]
  obtain ⟨s0, s1, s2, s3, e2, o2, v2⟩ := plus_f (a0 := r0) (a1 := r1) (a2 := r2) (a3 := r3) (b0 := C * 4294967296 % 18446744073709551616) (b1 := C / 4294967296) (b2 := 0) (b3 := 0) o1 (by unfold Bn.ok; omega)
  rw [e2]
  simp only [Option.bind_some]
  have V : Bn.bv s0 s1 s2 s3 = P := by
    rw [v2, v1]
    unfold Bn.bv
    omega
  refine ⟨s0, s1, s2, s3, rfl, o2, by omega, ?_⟩
  unfold Bn.nv
  rw [V]
  split at hab <;> split <;> first | omega | contradiction
theorem lowbits_p (y : Int) (d : Nat) : y % 2 ^ (d + 1) = y % 2 ^ d + 2 ^ d * (y / 2 ^ d % 2) := by
  have p : (0 : Int) < 2 ^ d := Int.pow_pos (by decide)
  have e1 := Int.mul_ediv_add_emod y (2 ^ d)
  have e2 := Int.mul_ediv_add_emod (y / 2 ^ d) 2
  have m0 := Int.emod_nonneg y (show (2 : Int) ^ d ≠ 0 by omega)
  have m1 := Int.emod_lt_of_pos y p
  have e3 : y = (y % 2 ^ d + 2 ^ d * (y / 2 ^ d % 2)) + 2 ^ (d + 1) * (y / 2 ^ d / 2) := by
    rw [Int.pow_succ, Int.mul_assoc, Int.add_assoc, ← Int.mul_add, Int.add_comm (y / 2 ^ d % 2), e2]
    omega
  have hb : y / 2 ^ d % 2 = 0 ∨ y / 2 ^ d % 2 = 1 := by omega
  conv => lhs; rw [e3]
  rw [Int.add_mul_emod_self_left]
  refine Int.emod_eq_of_lt ?_ ?_
  · rcases hb with h | h <;> rw [h] <;> omega
  · rw [Int.pow_succ]
    rcases hb with h | h <;> rw [h] <;> omega
theorem words_ok (x : Int) : Bn.ok (w0_ x) (w1_ x) (w2_ x) (w3_ x) := by unfold Bn.ok w0_ w1_ w2_ w3_; omega
theorem words_bv (x : Int) (h0 : 0 ≤ x) (h1 : x < 115792089237316195423570985008687907853269984665640564039457584007913129639936) : Bn.bv (w0_ x) (w1_ x) (w2_ x) (w3_ x) = x := by unfold Bn.bv w0_ w1_ w2_ w3_; omega
theorem Halved_f {n : Bool} {a0 a1 a2 a3 : Int} (h : Bn.ok a0 a1 a2 a3) (m : Nat) (hm : m < 256) :
    ∃ r0 r1 r2 r3, carouselref1_Halved.f n a0 a1 a2 a3 m = some (n, r0, r1, r2, r3) ∧ Bn.ok r0 r1 r2 r3 ∧ Bn.bv r0 r1 r2 r3 = Fx.rhe (Bn.bv a0 a1 a2 a3) (2 ^ m) := by
  have V := Bn.bv_range h
  have eV : bv_ a0 a1 a2 a3 = Bn.bv a0 a1 a2 a3 := rfl
  unfold carouselref1_Halved.f
  rw [if_pos (c := ok_ a0 a1 a2 a3 ∧ _) ⟨h, by omega, by omega⟩, eV]
  generalize Bn.bv a0 a1 a2 a3 = v at *
  have pm : (0 : Int) < 2 ^ m := Int.pow_pos (by decide)
  have tot : (2 : Int) ^ (256 - m) * 2 ^ m = 115792089237316195423570985008687907853269984665640564039457584007913129639936 := by
    rw [← Int.pow_add, show 256 - m + m = 256 by omega]; rfl
  have q0 : 0 ≤ v / 2 ^ m := Int.ediv_nonneg V.1 (by omega)
  have q1 : v / 2 ^ m < 2 ^ (256 - m) := by rw [Int.ediv_lt_iff_lt_mul pm, tot]; exact V.2
  have q2 : v / 2 ^ m ≤ v := Int.ediv_le_self _ V.1
  have eX : v / 2 ^ ((m : Int)).toNat % 2 ^ (256 - (m : Int)).toNat = v / 2 ^ m := by
    rw [show ((m : Int)).toNat = m from rfl, show (256 - (m : Int)).toNat = 256 - m by omega, Int.emod_eq_of_lt q0 q1]
  rw [eX]
  by_cases z : (m : Int) = 0
  · rw [if_pos z]
    have z' : m = 0 := by omega
    subst z'
    refine ⟨_, _, _, _, rfl, words_ok _, ?_⟩
    rw [words_bv _ q0 (by omega)]
    simp [Fx.rhe]
  · rw [if_neg z]
    obtain ⟨d, rfl⟩ : ∃ d, m = d + 1 := ⟨m - 1, by omega⟩
    have hd : (((d + 1 : Nat) : Int) - 1).toNat = d := by omega
    have pd : (0 : Int) < 2 ^ d := Int.pow_pos (by decide)
    have lb := lowbits_p v d
    have n0 := Int.emod_nonneg v (show (2 : Int) ^ d ≠ 0 by omega)
    have n1 := Int.emod_lt_of_pos v pd
    have e2 : (2 : Int) ^ (d + 1) = 2 ^ d * 2 := Int.pow_succ ..
    have q3 : 2 * (v / 2 ^ (d + 1)) ≤ v := by
      have := Int.mul_ediv_add_emod v (2 ^ (d + 1))
      have m0 := Int.emod_nonneg v (show (2 : Int) ^ (d + 1) ≠ 0 by omega)
      have : 2 * (v / 2 ^ (d + 1)) ≤ 2 ^ (d + 1) * (v / 2 ^ (d + 1)) := Int.mul_le_mul_of_nonneg_right (by omega) q0
      omega
    by_cases b : bitOf_ v (((d + 1 : Nat) : Int) - 1) = 0
    · rw [if_pos b]
      refine ⟨_, _, _, _, rfl, words_ok _, ?_⟩
      rw [words_bv _ q0 (by omega)]
      unfold bitOf_ at b
      rw [hd] at b
      rw [b, Int.mul_zero, Int.add_zero] at lb
      unfold Fx.rhe
      rw [lb, if_neg (by omega)]
      omega
    · rw [if_neg b]
      unfold bitOf_ at b
      rw [hd] at b
      rw [show v / 2 ^ d % 2 = 1 by omega, Int.mul_one] at lb
      have w0 : w0_ (v / 2 ^ (d + 1)) % 2 = v / 2 ^ (d + 1) % 2 := by unfold w0_; omega
      by_cases mo : more_ v (v / 2 ^ (d + 1)) (((d + 1 : Nat) : Int) - 1) = true
      · rw [if_pos mo]
        obtain ⟨r0, r1, r2, r3, e, ho, hv⟩ := plus_f (words_ok (v / 2 ^ (d + 1))) (show Bn.ok 1 0 0 0 by unfold Bn.ok; omega)
        rw [e]
        refine ⟨r0, r1, r2, r3, rfl, ho, ?_⟩
        rw [hv, words_bv _ q0 (by omega), Bn.bv_small, Int.emod_eq_of_lt (by omega) (by omega)]
        unfold more_ at mo
        rw [hd, w0] at mo
        simp at mo
        unfold Fx.rhe
        rw [lb]
        generalize v % 2 ^ d = l at *
        generalize v / 2 ^ (d + 1) = q at *
        rw [if_pos (by omega)]
      · rw [if_neg mo]
        refine ⟨_, _, _, _, rfl, words_ok _, ?_⟩
        rw [words_bv _ q0 (by omega)]
        unfold more_ at mo
        rw [hd, w0] at mo
        simp at mo
        unfold Fx.rhe
        rw [lb]
        generalize v % 2 ^ d = l at *
        generalize v / 2 ^ (d + 1) = q at *
        rw [if_neg (by omega)]
        omega
theorem ab_mul (a b : Int) : Fx.ab a * Fx.ab b = if ((decide (a < 0)) != (decide (b < 0))) = true then -(a * b) else a * b := by
  unfold Fx.ab
  by_cases c : a < 0 <;> by_cases d : b < 0 <;> simp [c, d, Int.neg_mul, Int.mul_neg]
theorem rhe_rnd (v P : Int) (hP : 0 < P) : Fx.sg (decide (v < 0)) (Fx.rhe (Fx.ab v) P) = Wd.rnd v P := by
  have e := Int.mul_ediv_add_emod v P
  have r0 := Int.emod_nonneg v (show P ≠ 0 by omega)
  have r1 := Int.emod_lt_of_pos v hP
  by_cases c : v < 0
  · have ha : Fx.ab v = -v := by unfold Fx.ab; rw [if_pos c]
    rw [ha, decide_eq_true c]
    unfold Fx.sg
    rw [if_pos rfl]
    by_cases z : v % P = 0
    · have e1 : -v = -(v / P) * P := by rw [Int.neg_mul, Int.mul_comm]; omega
      rw [e1, Fx.rhe_whole _ _ hP]
      unfold Wd.rnd
      rw [z, if_neg (by omega)]; omega
    · have e1 : -v = (P - v % P) + P * (-(v / P) - 1) := by rw [Int.mul_sub, Int.mul_neg, Int.mul_one]; omega
      have d1 : -v / P = -(v / P) - 1 := by rw [e1, Int.add_mul_ediv_left _ _ (by omega), Int.ediv_eq_zero_of_lt (by omega) (by omega)]; omega
      have m1 : -v % P = P - v % P := by rw [e1, Int.add_mul_emod_self_left, Int.emod_eq_of_lt (by omega) (by omega)]
      unfold Fx.rhe Wd.rnd
      rw [d1, m1]
      generalize v / P = q at *
      generalize v % P = r at *
      split <;> split <;> omega
  · have ha : Fx.ab v = v := by unfold Fx.ab; rw [if_neg c]
    rw [ha, decide_eq_false c]
    unfold Fx.sg Fx.rhe Wd.rnd
    rw [if_neg (by decide)]
    split <;> omega
def tab (n : Nat) (g : Nat → Int) : List Int := (List.range n).map g
theorem tab_length (n : Nat) (g : Nat → Int) : (tab n g).length = n := by simp [tab]
theorem tab_const (n : Nat) (v : Int) : tab n (fun _ => v) = List.replicate n v := by
  unfold tab
  induction n with
  | zero => rfl
  | succ n ih => rw [List.range_succ, List.map_append, ih, List.replicate_succ']; rfl
theorem set_take' (l : List Int) (i : Nat) (x : Int) (h : i < l.length) : (l.set i x).take (i + 1) = l.take i ++ [x] := by
  rw [List.take_succ_eq_append_getElem (by simpa using h), List.take_set_of_le (by omega)]
  simp
/-- a loop that sets one cell after the other -/
theorem loop_set {R : Type} (L : Nat → Int → List Int → Option R) (n : Nat) (g : Nat → Int) (fin : List Int → Option R) (K : Nat)
    (step : ∀ k (i : Nat) o, K ≤ k → i < n → o.length = n → L (k + 1) (i : Int) o = L k ((i : Int) + 1) (o.set i (g i)))
    (stop : ∀ k o, o.length = n → L (k + 1) (n : Int) o = fin o) :
    ∀ (c i : Nat) (o : List Int) (k : Nat), i + c = n → o.length = n → K + c + 1 ≤ k → L k (i : Int) o = fin (o.take i ++ (List.range' i c).map g) := by
  intro c
  induction c with
  | zero =>
    intro i o k hi ho hk
    obtain ⟨k, rfl⟩ : ∃ j, k = j + 1 := ⟨k - 1, by omega⟩
    rw [show i = n by omega, stop k o ho, List.take_of_length_le (by omega)]
    simp
  | succ c ih =>
    intro i o k hi ho hk
    obtain ⟨k, rfl⟩ : ∃ j, k = j + 1 := ⟨k - 1, by omega⟩
    rw [step k i o (by omega) (by omega) ho]
    have := ih (i + 1) (o.set i (g i)) k (by omega) (by simpa using ho) (by omega)
    rw [Int.natCast_add] at this
    rw [show ((i : Int) + 1) = (i : Int) + ((1 : Nat) : Int) from rfl, this, set_take' o i _ (by omega), List.range'_succ]
    simp
theorem loop_set0 {R : Type} (L : Nat → Int → List Int → Option R) (n : Nat) (g : Nat → Int) (fin : List Int → Option R) (K : Nat)
    (step : ∀ k (i : Nat) o, K ≤ k → i < n → o.length = n → L (k + 1) (i : Int) o = L k ((i : Int) + 1) (o.set i (g i)))
    (stop : ∀ k o, o.length = n → L (k + 1) (n : Int) o = fin o) (o : List Int) (k : Nat) (ho : o.length = n) (hk : K + n + 1 ≤ k) : L k 0 o = fin (tab n g) := by
  have := loop_set L n g fin K step stop n 0 o k (by omega) ho hk
  simp only [List.take_zero, List.nil_append] at this
  rw [show ((0 : Nat) : Int) = 0 from rfl] at this
  rw [this]; unfold tab; rw [List.range_eq_range']
theorem tab_succ (n : Nat) (g : Nat → Int) : tab (n + 1) g = tab n g ++ [g n] := by
  unfold tab; rw [List.range_succ, List.map_append]; rfl
theorem rNew_f (d : List Int) (v : Int) (hd : d.length ≤ 1000000) (k : Nat) (hk : 4200 ≤ k) : carouselref5_New.f k d v = some (d, List.replicate (Shp.siz d).toNat v) := by
  have s0 := Shp.siz_nonneg d
  have s1 := Shp.siz_le d
  unfold carouselref5_New.f
  simp only [Option.bind_some, List.length_nil, List.nil_append]
  rw [if_pos (by omega), rSize_f d k (by omega)]
  simp only [Option.bind_some]
  rw [if_pos s0, if_pos (by omega)]
  have := loop_set0 (fun k i o => carouselref5_New.l0 k v i d o) (Shp.siz d).toNat (fun _ => v) (fun o => some (d, o)) 0
    (fun k i o _ hi ho => by
      simp only [carouselref5_New.l0]
      rw [if_pos (by omega), if_pos (by omega), w64 (x := (i : Int) + 1) (by omega) (by omega)]; rfl)
    (fun k o ho => by simp only [carouselref5_New.l0]; rw [if_neg (by omega)]) (List.replicate (Shp.siz d).toNat 0) k (by simp) (by omega)
  rw [tab_const] at this
  exact this
theorem rIs_f (d v : List Int) (k : Nat) (hk : 10 ≤ k) : carouselref5_Is.f k d v = some (Shp.good d && decide ((v.length : Int) = Shp.siz d)) := by
  unfold carouselref5_Is.f
  rw [rGood_f d k hk]
  simp only [Option.bind_some]
  cases h : Shp.good d
  · simp
  · rw [if_pos rfl, rSize_f d k hk]
    simp only [Option.bind_some, Bool.true_and]
    congr 1
theorem rAlike_l0 (d e v u : List Int) (hm : v.length ≤ 1000000) (hv : v.length = u.length) : ∀ (c i k : Nat), i + c = v.length → c < k → carouselref5_Alike.l0 k i d v e u = some (decide (v.drop i = u.drop i)) := by
  intro c
  induction c with
  | zero =>
    intro i k hi hk
    obtain ⟨k, rfl, -⟩ := k_succ hk
    simp only [carouselref5_Alike.l0]
    rw [if_neg (by omega), List.drop_of_length_le (by omega), List.drop_of_length_le (by omega)]
    simp
  | succ c ih =>
    intro i k hi hk
    obtain ⟨k, rfl, hk⟩ := k_succ hk
    simp only [carouselref5_Alike.l0]
    rw [if_pos (by omega), if_pos (by omega), if_pos (by omega), drop_rd v i (by omega), drop_rd u i (by omega), w64 (x := (i : Int) + 1) (by omega) (by omega)]
    have := ih (i + 1) k (by omega) (by omega)
    rw [Int.natCast_add] at this
    split
    · rename_i h
      have this' : carouselref5_Alike.l0 k ((i : Int) + 1) d v e u = _ := this
      rw [this', h]; simp
    · rename_i h; simp [h]
theorem rAlike_f (d v e u : List Int) (hd : d.length ≤ 1000000) (hv : v.length ≤ 1000000) (k : Nat) (hk1 : d.length + 1 < k) (hk2 : v.length + 1 < k) : carouselref5_Alike.f k d v e u = some (decide (d = e ∧ v = u)) := by
  unfold carouselref5_Alike.f
  obtain ⟨k, rfl⟩ : ∃ j, k = j + 1 := ⟨k - 1, by omega⟩
  rw [rSame_f d e (by omega) (k + 1) (by omega)]
  simp only [Option.bind_some, carouselref5_Alike.j0]
  by_cases c1 : d = e
  · rw [if_pos (by simp [c1])]
    by_cases c2 : v.length = u.length
    · rw [if_neg (by simp [c2])]
      have := rAlike_l0 d e v u hv c2 v.length 0 k (by omega) (by omega)
      rw [show ((0 : Nat) : Int) = 0 from rfl] at this
      rw [this]; simp [c1]
    · rw [if_pos (by simp; omega)]
      have : v ≠ u := fun h => c2 (by rw [h])
      simp [this]
  · rw [if_neg (by simp [c1])]
    simp [c1]
theorem good_len {d : List Int} (h : Shp.good d = true) : d.length ≤ 4 := (Shp.good_iff.mp h).1
theorem bmul_f (a b : Int) (a0 : 0 ≤ a) (a1 : a ≤ 18446744073709551615) (b0 : 0 ≤ b) (b1 : b ≤ 18446744073709551615) : bits_Mul.f a b = some (a * b / 18446744073709551616, a * b % 18446744073709551616) := by
  unfold bits_Mul.f
  rw [Mul64_f a b a0 a1 b0 b1]
  rfl
theorem tRepeat_f (v n : Int) (h1 : 1 ≤ n) (h2 : n ≤ 4096) : slices_Repeat_Fix.f [v] n = some (List.replicate n.toNat v) := by
  unfold slices_Repeat_Fix.f
  rw [bmul_f 1 n (by omega) (by omega) (by omega) (by omega)]
  simp only [Option.bind_some]
  rw [if_pos ⟨rfl, h1, h2, by omega, by omega⟩]
  rfl
def tnew (d : List Int) (v : Int) : List Int × List Int × Int := if Shp.good d = true then (d, List.replicate (Shp.siz d).toNat v, 0) else ([], [], 1)
theorem siz_one {d : List Int} (h : Shp.good d = true) : 1 ≤ Shp.siz d := by
  rw [Shp.siz_good h]; exact Shp.pl_pos (Shp.good_iff.mp h).2.1
theorem tNew_f (d : List Int) (v : Int) (k : Nat) (hk : 10 ≤ k) : tens_New.f k d v = some (tnew d v) := by
  unfold tens_New.f tnew
  rw [Good_f d k hk]
  simp only [Option.bind_some]
  cases h : Shp.good d
  · simp
  · have := siz_one h
    have := Shp.siz_le d
    have hl := good_len h
    rw [if_pos rfl, if_pos rfl]
    unfold slices_Clone_int_int.f
    rw [if_pos (by omega), Size_f d k hk]
    simp only [Option.bind_some]
    rw [tRepeat_f v _ (by omega) (by omega)]
    rfl
/-- sums that are exact: the program's (a top, and two words), the document's (four words and a sign) -/
def aok (s0 s1 s2 X : Int) : Prop := Wd.ok s1 s2 ∧ s0 * 340282366920938463463374607431768211456 + (s1 % 18446744073709551616) * 18446744073709551616 + s2 = X
def xok (X : Int) : Prop := -1532495540865888858358347027150309183618739122183602176 ≤ X ∧ X ≤ 1532495540865888858358347027150309183618739122183602176
theorem prod_bd {a b : Int} (ha : Fx.ok a) (hb : Fx.ok b) : -85070591730234615865843651857942052864 ≤ a * b ∧ a * b ≤ 85070591730234615865843651857942052864 := by
  have e := ab_mul a b
  have h1 := Fx.ab_le ha
  have h2 := Fx.ab_le hb
  have h3 := mul_bd (Fx.ab_nonneg a) h1 (Fx.ab_nonneg b) h2
  rw [e] at h3
  split at h3 <;> omega
theorem APlus_f {s0 s1 s2 X a b : Int} (h : aok s0 s1 s2 X) (hx : xok X) (ha : Fx.ok a) (hb : Fx.ok b) : ∃ t0 t1 t2, wide_Acc_Plus.f s0 s1 s2 a b = some (t0, t1, t2) ∧ aok t0 t1 t2 (X + a * b) := by
  obtain ⟨⟨h1, h2, h3, h4⟩, hv⟩ := h
  have pb := prod_bd ha hb
  have hp := Wd.vl_wr_id (x := a * b) (by omega) (by omega)
  obtain ⟨p1, p2, p3, p4⟩ := Wd.wr_ok (a * b)
  unfold wide_Acc_Plus.f
  rw [Prod_f a b ha.1 ha.2 hb.1 hb.2, Option.bind_some]
  unfold Wd.vl at hp
  generalize (Wd.wr (a * b)).1 = q1 at *
  generalize (Wd.wr (a * b)).2 = q2 at *
  rw [Add64_f s2 q2 0 h3 p3 (by omega) (by omega), Option.bind_some]
  simp only []
  rw [u64w, u64w, Add64_f _ _ _ (Int.emod_nonneg _ (by decide)) (Int.emod_nonneg _ (by decide)) (by omega) (by omega), Option.bind_some]
  refine ⟨_, _, _, rfl, ⟨?_, ?_, ?_, ?_⟩, ?_⟩
  · unfold wrap64; omega
  · unfold wrap64; omega
  · omega
  · omega
  · unfold xok at hx
    simp only []
    have e1 : wrap64 ((s1 % 18446744073709551616 + q1 % 18446744073709551616 + (s2 + q2 + 0) / 18446744073709551616) / 18446744073709551616) = (s1 % 18446744073709551616 + q1 % 18446744073709551616 + (s2 + q2 + 0) / 18446744073709551616) / 18446744073709551616 := w64 (by omega) (by omega)
    rw [e1, w64 (x := q1 / 9223372036854775808 + _) (by omega) (by omega), w64 (x := s0 + _) (by omega) (by omega)]
    unfold wrap64
    omega
theorem rnd_mono_hi {X P B : Int} (hP : 0 < P) (h : B * P ≤ X) : B ≤ Wd.rnd X P := by
  have : B ≤ X / P := (Int.le_ediv_iff_mul_le hP).mpr h
  unfold Wd.rnd; split <;> omega
theorem rnd_mono_lo {X P B : Int} (hP : 0 < P) (h : X < B * P) : Wd.rnd X P ≤ B := by
  have : X / P < B := Int.ediv_lt_of_lt_mul hP h
  unfold Wd.rnd; split <;> omega
/-- a sum by 2^32, rounded once, held -/
def hold (X : Int) : Int := Fx.clamp (Wd.rnd X 4294967296)
theorem AFix_f {s0 s1 s2 X : Int} (h : aok s0 s1 s2 X) (k : Nat) (hk : 2 ≤ k) : wide_Acc_Fix.f k s0 s1 s2 32 = some (hold X) := by
  obtain ⟨ho, hv⟩ := h
  obtain ⟨h1, h2, h3, h4⟩ := id ho
  unfold wide_Acc_Fix.f hold
  by_cases c : s0 = s1 / 9223372036854775808
  · rw [if_pos c]
    have e : Wd.vl s1 s2 = X := by unfold Wd.vl; omega
    have := Shift_f ho 32 (by omega) (by omega) k hk
    rw [show ((32 : Nat) : Int) = 32 from rfl, show (2 : Int) ^ 32 = 4294967296 from rfl] at this
    have vb := Wd.vl_bd ho
    have rb := Wd.rnd_bd (Wd.vl s1 s2) 4294967296 (by omega) (B := 170141183460469231731687303715884105728) (by omega) (by omega) (by omega)
    have rb2 := rnd_mono_lo (X := Wd.vl s1 s2) (P := 4294967296) (B := 170141183460469231731687303715884105727) (by omega) (by omega)
    rw [this, Option.bind_some, Fix_f (Wd.wr_ok _) k (by omega), Option.bind_some, Wd.vl_wr_id (by omega) (by omega), e]
  · rw [if_neg c]
    by_cases d : s0 < 0
    · rw [if_pos d]
      have : Wd.rnd X 4294967296 ≤ -9223372036854775808 := rnd_mono_lo (by omega) (by omega)
      unfold Fx.clamp
      congr 1; omega
    · rw [if_neg d]
      have : 9223372036854775807 ≤ Wd.rnd X 4294967296 := rnd_mono_hi (by omega) (by omega)
      unfold Fx.clamp
      congr 1; omega
/-- the document's sum -/
def nok (n : Bool) (m0 m1 m2 m3 X : Int) : Prop := Bn.ok m0 m1 m2 m3 ∧ Bn.nv n m0 m1 m2 m3 = X
theorem nok_bv {n : Bool} {m0 m1 m2 m3 X : Int} (h : nok n m0 m1 m2 m3 X) : Bn.bv m0 m1 m2 m3 = Fx.ab X := by
  have V := Bn.bv_range h.1
  have e := h.2
  unfold Bn.nv at e
  unfold Fx.ab
  split at e <;> split <;> omega
theorem NPlus_f {n : Bool} {m0 m1 m2 m3 X a b : Int} (h : nok n m0 m1 m2 m3 X) (hx : xok X) (ha : Fx.ok a) (hb : Fx.ok b) :
    ∃ s q0 q1 q2 q3 t0 t1 t2 t3 u, carouselref1_Times.f a b = some (u, q0, q1, q2, q3) ∧ carouselref1_Plus.f n m0 m1 m2 m3 u q0 q1 q2 q3 = some (s, t0, t1, t2, t3) ∧ nok s t0 t1 t2 t3 (X + a * b) := by
  obtain ⟨q0, q1, q2, q3, e, o, l, v⟩ := Times_f a b ha.1 ha.2 hb.1 hb.2
  have hb0 := nok_bv h
  have : Fx.ab X ≤ 1532495540865888858358347027150309183618739122183602176 := by unfold xok at hx; unfold Fx.ab; split <;> omega
  obtain ⟨s, t0, t1, t2, t3, e2, o2, v2⟩ := Plus_f (n := n) (m := (decide (a < 0)) != (decide (b < 0))) h.1 o (by omega)
  exact ⟨s, q0, q1, q2, q3, t0, t1, t2, t3, _, e, e2, o2, by rw [v2, h.2, v]⟩
theorem NHeld_f {n : Bool} {m0 m1 m2 m3 X : Int} (h : nok n m0 m1 m2 m3 X) (k : Nat) (hk : 1 ≤ k) :
    ∃ r0 r1 r2 r3, carouselref1_Halved.f n m0 m1 m2 m3 32 = some (n, r0, r1, r2, r3) ∧ carouselref1_Held.f k n r0 r1 r2 r3 = some (hold X) := by
  obtain ⟨r0, r1, r2, r3, e, o, v⟩ := Halved_f (n := n) h.1 32 (by omega)
  rw [show ((32 : Nat) : Int) = 32 from rfl] at e
  refine ⟨r0, r1, r2, r3, e, ?_⟩
  rw [Held_f o k hk]
  unfold hold
  congr 1
  congr 1
  have hb0 := nok_bv h
  have V := Bn.bv_range h.1
  have hr := rhe_rnd X 4294967296 (by omega)
  rw [hb0, show (2 : Int) ^ 32 = 4294967296 from rfl] at v
  unfold Bn.nv
  rw [v, ← hr]
  have e2 := h.2
  unfold Bn.nv at e2
  by_cases z : X = 0
  · subst z
    have : Fx.rhe (Fx.ab 0) 4294967296 = 0 := by decide
    rw [this]
    unfold Fx.sg
    split <;> split <;> rfl
  · cases n
    · simp only [Bool.false_eq_true, if_false] at e2 ⊢
      unfold Fx.sg
      rw [if_neg (by simp; omega)]
    · simp only [if_true] at e2 ⊢
      unfold Fx.sg
      rw [if_pos (by simp; omega)]
/-- a sum -/
def sumN : Nat → (Nat → Int) → Int
  | 0, _ => 0
  | n + 1, f => sumN n f + f n
theorem sumN_congr {f g : Nat → Int} : ∀ n, (∀ i, i < n → f i = g i) → sumN n f = sumN n g := by
  intro n
  induction n with
  | zero => intro _; rfl
  | succ n ih => intro h; simp only [sumN]; rw [ih (fun i hi => h i (by omega)), h n (by omega)]
theorem sumN_bd {f : Nat → Int} {B : Int} : ∀ n : Nat, (∀ i, i < n → -B ≤ f i ∧ f i ≤ B) → -((n : Int) * B) ≤ sumN n f ∧ sumN n f ≤ (n : Int) * B := by
  intro n
  induction n with
  | zero => intro _; simp [sumN]
  | succ n ih =>
    intro h
    have a := ih (fun i hi => h i (by omega))
    have b := h n (by omega)
    simp only [sumN]
    rw [Int.natCast_add, Int.add_mul]
    omega
theorem rd_ok {l : List Int} (h : ∀ x ∈ l, Fx.ok x) (i : Int) : Fx.ok (rd l i) := by
  unfold rd
  rw [List.getD_eq_getElem?_getD]
  cases e : l[i.toNat]? with
  | none => exact ⟨by decide, by decide⟩
  | some x => exact h x (List.mem_of_getElem? e)
theorem idxA {c rows long m : Nat} (hc : c < rows) (h : m < long) : c * long + m < rows * long := by
  have := Nat.mul_le_mul_right long (show c + 1 ≤ rows by omega)
  rw [Nat.add_mul] at this
  omega
theorem wA (a b c d w : Nat) (h : a * b + c * d + w ≤ 100000) : wrap64 (wrap64 (wrap64 ((a : Int) * (b : Int)) + wrap64 ((c : Int) * (d : Int))) + (w : Int)) = ((a * b + c * d + w : Nat) : Int) := by
  rw [show (a : Int) * (b : Int) = ((a * b : Nat) : Int) by simp, show (c : Int) * (d : Int) = ((c * d : Nat) : Int) by simp]
  generalize a * b = p at *
  generalize c * d = q at *
  rw [w64 (x := (p : Int)) (by omega) (by omega), w64 (x := (q : Int)) (by omega) (by omega), w64 (x := (p : Int) + (q : Int)) (by omega) (by omega), w64 (x := (p : Int) + (q : Int) + (w : Int)) (by omega) (by omega)]
  omega
theorem wK (o rows c wid w : Nat) (h1 : o * rows + c ≤ 100000) (h : (o * rows + c) * wid + w ≤ 100000) : wrap64 (wrap64 (wrap64 (wrap64 ((o : Int) * (rows : Int)) + (c : Int)) * (wid : Int)) + (w : Int)) = (((o * rows + c) * wid + w : Nat) : Int) := by
  rw [show (o : Int) * (rows : Int) = ((o * rows : Nat) : Int) by simp]
  generalize o * rows = p at *
  rw [w64 (x := (p : Int)) (by omega) (by omega), w64 (x := (p : Int) + (c : Int)) (by omega) (by omega), show ((p : Int) + (c : Int)) * (wid : Int) = (((p + c) * wid : Nat) : Int) by simp]
  generalize (p + c) * wid = q at *
  rw [w64 (x := (q : Int)) (by omega) (by omega), w64 (x := (q : Int) + (w : Int)) (by omega) (by omega)]
  omega
/-- the sides of rows, of windows: what is known -/
structure RowS (av kv : List Int) (step rows long wid many outs : Nat) : Prop where
  ha : ∀ x ∈ av, Fx.ok x
  hk : ∀ x ∈ kv, Fx.ok x
  la : av.length = rows * long
  lk : kv.length = outs * rows * wid
  r4 : rows * long ≤ 4096
  k4 : outs * rows * wid ≤ 4096
  p1 : 1 ≤ rows
  p2 : 1 ≤ wid
  p3 : 1 ≤ many
  p4 : 1 ≤ outs
  hm : ∀ n, n < many → n * step + wid ≤ long
  m4 : outs * many ≤ 4096
theorem RowS.ai {av kv : List Int} {step rows long wid many outs : Nat} (S : RowS av kv step rows long wid many outs) {c n w : Nat} (hc : c < rows) (hn : n < many) (hw : w < wid) : c * long + n * step + w < av.length := by
  have := S.hm n hn
  have := idxA (m := n * step + w) hc (show n * step + w < long by omega)
  rw [S.la]; omega
theorem RowS.ki {av kv : List Int} {step rows long wid many outs : Nat} (S : RowS av kv step rows long wid many outs) {o c w : Nat} (ho : o < outs) (hc : c < rows) (hw : w < wid) : o * rows + c < outs * rows ∧ (o * rows + c) * wid + w < kv.length := by
  have h1 := idxA ho hc
  have h2 := idxA h1 hw
  rw [S.lk]
  exact ⟨h1, h2⟩
theorem wI (a b c : Nat) (h : a * b + c ≤ 100000) : wrap64 (wrap64 ((a : Int) * (b : Int)) + (c : Int)) = ((a * b + c : Nat) : Int) := by
  rw [show (a : Int) * (b : Int) = ((a * b : Nat) : Int) by simp]
  generalize a * b = p at *
  rw [w64 (x := (p : Int)) (by omega) (by omega), w64 (x := (p : Int) + (c : Int)) (by omega) (by omega)]
  omega
/-- how many windows -/
def wins (l w s : Int) : Int := (l - w) / s + 1
def tens0 (d : List Int) (g : Nat → Int) : List Int × List Int × Int := if Shp.good d = true then (d, tab (Shp.siz d).toNat g, 0) else ([], [], 2)
abbrev gt (d v : List Int) : Bool := Shp.good d && decide ((v.length : Int) = Shp.siz d)
theorem gt_parts {d v : List Int} (h : gt d v = true) : Shp.good d = true ∧ (v.length : Int) = Shp.siz d := by
  unfold gt at h
  simpa only [Bool.and_eq_true, decide_eq_true_eq] using h
theorem two_of' {d : List Int} (h : d.length = 2) : d = [rd d 0, rd d 1] := by
  match d, h with
  | [a, b], _ => rfl
theorem three_of' {d : List Int} (h : d.length = 3) : d = [rd d 0, rd d 1, rd d 2] := by
  match d, h with
  | [a, b, c], _ => rfl
theorem good2 {x y : Int} (h : Shp.good [x, y] = true) : 1 ≤ x ∧ 1 ≤ y ∧ x * y ≤ 4096 ∧ Shp.siz [x, y] = x * y := by
  have g := Shp.good_iff.mp h
  have sg := Shp.siz_good h
  simp only [Shp.pl, Int.mul_one] at g sg
  exact ⟨g.2.1 x (by simp), g.2.1 y (by simp), g.2.2, sg⟩
theorem good3 {x y z : Int} (h : Shp.good [x, y, z] = true) : 1 ≤ x ∧ 1 ≤ y ∧ 1 ≤ z ∧ x * (y * z) ≤ 4096 ∧ Shp.siz [x, y, z] = x * (y * z) := by
  have g := Shp.good_iff.mp h
  have sg := Shp.siz_good h
  simp only [Shp.pl, Int.mul_one] at g sg
  exact ⟨g.2.1 x (by simp), g.2.1 y (by simp), g.2.1 z (by simp), g.2.2, sg⟩
theorem le_mul_l {x y B : Int} (hx : 1 ≤ x) (hy : 1 ≤ y) (h : x * y ≤ B) : x ≤ B ∧ y ≤ B := by
  have := Shp.mul_le1 hx hy
  omega
/-- sums in another order -/
theorem sumN_add (f g : Nat → Int) : ∀ n, sumN n (fun i => f i + g i) = sumN n f + sumN n g := by
  intro n
  induction n with
  | zero => rfl
  | succ n ih => simp only [sumN]; rw [ih]; omega
theorem sumN_zero : ∀ n, sumN n (fun _ => 0) = 0 := by
  intro n
  induction n with
  | zero => rfl
  | succ n ih => simp only [sumN]; rw [ih]; rfl
theorem sumN_swap (f : Nat → Nat → Int) (b : Nat) : ∀ a, sumN a (fun i => sumN b (f i)) = sumN b (fun j => sumN a (fun i => f i j)) := by
  intro a
  induction a with
  | zero => simp only [sumN]; rw [sumN_zero]
  | succ a ih => simp only [sumN]; rw [ih, ← sumN_add]
theorem sumN_ext {f : Nat → Int} {m : Nat} : ∀ n, m ≤ n → (∀ i, m ≤ i → i < n → f i = 0) → sumN n f = sumN m f := by
  intro n
  induction n with
  | zero => intro h _; rw [show m = 0 by omega]
  | succ n ih =>
    intro h hz
    by_cases e : m = n + 1
    · rw [e]
    · simp only [sumN]; rw [hz n (by omega) (by omega), ih (by omega) (fun i a b => hz i a (by omega)), Int.add_zero]
theorem sumN_pick {f : Nat → Int} {p : Nat → Prop} [DecidablePred p] (a : Nat) (hp : ∀ i, p i → i = a) : ∀ n, sumN n (fun i => if p i then f i else 0) = if a < n ∧ p a then f a else 0 := by
  intro n
  induction n with
  | zero => simp [sumN]
  | succ n ih =>
    simp only [sumN]
    rw [ih]
    by_cases e : p n
    · have := hp n e; subst this
      rw [if_pos e, if_neg (by omega), if_pos ⟨by omega, e⟩, Int.zero_add]
    · rw [if_neg e, Int.add_zero]
      by_cases q : p a
      · by_cases l : a < n
        · rw [if_pos ⟨l, q⟩, if_pos ⟨by omega, q⟩]
        · rw [if_neg (by omega), if_neg]
          intro h
          exact e (by rw [show n = a by omega]; exact q)
      · rw [if_neg (fun h => q h.2), if_neg (fun h => q h.2)]
/-- one product of a gradient and a window -/
def bT (gv kv : List Int) (rows wid many c o j w : Nat) : Int := rd gv ((o * many + j : Nat) : Int) * rd kv (((o * rows + c) * wid + w : Nat) : Int)
def bD (gv kv : List Int) (step rows wid many c l o w j : Nat) : Int := if w + j * step = l then bT gv kv rows wid many c o j w else 0
def bP (gv kv : List Int) (step rows wid many c l o w : Nat) : Int := sumN many (bD gv kv step rows wid many c l o w)
def bR (gv kv : List Int) (step rows wid many outs c l j : Nat) : Int := sumN outs (fun o => sumN wid (fun w => bD gv kv step rows wid many c l o w j))
def bsum (gv kv : List Int) (step rows wid many outs c l : Nat) : Int := sumN outs (fun o => sumN wid (bP gv kv step rows wid many c l o))
theorem bP_eq (gv kv : List Int) {step : Nat} (hs : 1 ≤ step) (rows wid many c l o w : Nat) : bP gv kv step rows wid many c l o w = if w ≤ l ∧ (l - w) % step = 0 ∧ (l - w) / step < many then bT gv kv rows wid many c o ((l - w) / step) w else 0 := by
  unfold bP bD
  rw [sumN_pick (f := fun j => bT gv kv rows wid many c o j w) (p := fun j => w + j * step = l) ((l - w) / step) (fun j hj => by rw [← hj, Nat.add_sub_cancel_left, Nat.mul_div_cancel _ (by omega)])]
  have hd := Nat.div_add_mod (l - w) step
  rw [Nat.mul_comm] at hd
  by_cases c : w ≤ l ∧ (l - w) % step = 0 ∧ (l - w) / step < many
  · rw [if_pos c, if_pos ⟨c.2.2, by omega⟩]
  · rw [if_neg c, if_neg]
    rintro ⟨h1, h2⟩
    exact c ⟨by omega, by omega, h1⟩
theorem bR_eq (gv kv : List Int) (step rows wid many outs c l j : Nat) : bR gv kv step rows wid many outs c l j = if j * step ≤ l ∧ l - j * step < wid then sumN outs (fun o => bT gv kv rows wid many c o j (l - j * step)) else 0 := by
  unfold bR bD
  have e : ∀ o, sumN wid (fun w => if w + j * step = l then bT gv kv rows wid many c o j w else 0) = if l - j * step < wid ∧ (l - j * step) + j * step = l then bT gv kv rows wid many c o j (l - j * step) else 0 := fun o =>
    sumN_pick (f := fun w => bT gv kv rows wid many c o j w) (p := fun w => w + j * step = l) (l - j * step) (fun w hw => by omega) wid
  rw [sumN_congr outs (fun o _ => e o)]
  by_cases c : j * step ≤ l ∧ l - j * step < wid
  · rw [if_pos c]
    exact sumN_congr outs (fun o _ => if_pos ⟨c.2, by omega⟩)
  · rw [if_neg c, sumN_congr (g := fun _ => 0) outs, sumN_zero]
    intro o _
    rw [if_neg]
    intro h
    exact c ⟨by omega, h.1⟩
theorem bsum_eq (gv kv : List Int) (step rows wid many outs c l : Nat) : bsum gv kv step rows wid many outs c l = sumN many (bR gv kv step rows wid many outs c l) := by
  unfold bsum bR bP
  rw [sumN_congr outs (fun o _ => sumN_swap (bD gv kv step rows wid many c l o) many wid)]
  exact sumN_swap _ many outs
theorem bT_bd {gv kv : List Int} (ha : ∀ x ∈ gv, Fx.ok x) (hk : ∀ x ∈ kv, Fx.ok x) (rows wid many c o j w : Nat) : -85070591730234615865843651857942052864 ≤ bT gv kv rows wid many c o j w ∧ bT gv kv rows wid many c o j w ≤ 85070591730234615865843651857942052864 :=
  prod_bd (rd_ok ha _) (rd_ok hk _)
theorem bP_bd {gv kv : List Int} (ha : ∀ x ∈ gv, Fx.ok x) (hk : ∀ x ∈ kv, Fx.ok x) {step : Nat} (hs : 1 ≤ step) (rows wid many c l o w : Nat) : -85070591730234615865843651857942052864 ≤ bP gv kv step rows wid many c l o w ∧ bP gv kv step rows wid many c l o w ≤ 85070591730234615865843651857942052864 := by
  have := bT_bd ha hk rows wid many c o ((l - w) / step) w
  rw [bP_eq gv kv hs]
  split <;> omega
theorem bW_bd {gv kv : List Int} (ha : ∀ x ∈ gv, Fx.ok x) (hk : ∀ x ∈ kv, Fx.ok x) {step : Nat} (hs : 1 ≤ step) (rows wid many c l o : Nat) (hw : wid ≤ 4096) : -348449143727040986586495598010130648530944 ≤ sumN wid (bP gv kv step rows wid many c l o) ∧ sumN wid (bP gv kv step rows wid many c l o) ≤ 348449143727040986586495598010130648530944 := by
  have := sumN_bd (B := 85070591730234615865843651857942052864) wid (fun i _ => bP_bd ha hk hs rows wid many c l o i)
  omega
theorem bR_bd {gv kv : List Int} (ha : ∀ x ∈ gv, Fx.ok x) (hk : ∀ x ∈ kv, Fx.ok x) (step rows wid many outs c l j : Nat) (ho : outs ≤ 4096) : -348449143727040986586495598010130648530944 ≤ bR gv kv step rows wid many outs c l j ∧ bR gv kv step rows wid many outs c l j ≤ 348449143727040986586495598010130648530944 := by
  have := sumN_bd (B := 85070591730234615865843651857942052864) outs (fun i _ => bT_bd ha hk rows wid many c i j (l - j * step))
  rw [bR_eq]
  split <;> omega
/-- the sides of a gradient, of windows: what is known -/
structure BackS (gv kv : List Int) (step rows long wid many outs : Nat) : Prop where
  ha : ∀ x ∈ gv, Fx.ok x
  hk : ∀ x ∈ kv, Fx.ok x
  la : gv.length = outs * many
  lk : kv.length = outs * rows * wid
  g4 : outs * many ≤ 4096
  k4 : outs * rows * wid ≤ 4096
  p1 : 1 ≤ rows
  p2 : 1 ≤ wid
  p3 : 1 ≤ many
  p4 : 1 ≤ outs
  p5 : 1 ≤ step
  p6 : 1 ≤ long
  s6 : step ≤ 64
  r4 : rows * long ≤ 4096
theorem BackS.sides {gv kv : List Int} {step rows long wid many outs : Nat} (S : BackS gv kv step rows long wid many outs) : wid ≤ 4096 ∧ rows ≤ 4096 ∧ long ≤ 4096 ∧ many ≤ 4096 ∧ outs ≤ 4096 ∧ outs * rows ≤ 4096 := by
  have a := Nat.mul_le_mul_right long S.p1
  have b := Nat.mul_le_mul_left rows S.p6
  have c := Nat.mul_le_mul_right many S.p4
  have d := Nat.mul_le_mul_left outs S.p3
  have e := Nat.mul_le_mul_left (outs * rows) S.p2
  have f := Nat.mul_le_mul_right wid (Nat.mul_le_mul S.p4 S.p1)
  have := S.r4
  have := S.g4
  have := S.k4
  omega
theorem BackS.gi {gv kv : List Int} {step rows long wid many outs : Nat} (S : BackS gv kv step rows long wid many outs) {o j : Nat} (ho : o < outs) (hj : j < many) : o * many + j < gv.length := by
  rw [S.la]; exact idxA ho hj
theorem BackS.ki {gv kv : List Int} {step rows long wid many outs : Nat} (S : BackS gv kv step rows long wid many outs) {o c w : Nat} (ho : o < outs) (hc : c < rows) (hw : w < wid) : o * rows + c < outs * rows ∧ (o * rows + c) * wid + w < kv.length := by
  have h1 := idxA ho hc
  have h2 := idxA h1 hw
  rw [S.lk]
  exact ⟨h1, h2⟩
theorem Back_l2 {gv kv : List Int} {step rows long wid many outs : Nat} (S : BackS gv kv step rows long wid many outs) (i c l o M : Nat) (ho : o < outs) (hc : c < rows) (hl : l < long) (hM : M ≤ wid) (hM2 : M ≤ l + 1) (N : Int) (gd kd td tv : List Int) :
    ∀ (d w k : Nat) (s0 s1 s2 X B : Int), w + d = M → aok s0 s1 s2 X → -B ≤ X → X ≤ B → B + d * 85070591730234615865843651857942052864 ≤ 1532495540865888858358347027150309183618739122183602176 → d + 1 ≤ k →
    ∃ t0 t1 t2, aok t0 t1 t2 (X + (sumN M (bP gv kv step rows wid many c l o) - sumN w (bP gv kv step rows wid many c l o))) ∧
      conv_BackIn.l2 k step long outs rows wid many i c l o N i outs o M w gd gv kd kv td tv s0 s1 s2 = conv_BackIn.l1 (k - d - 1) step long outs rows wid many i c l N i outs ((o : Int) + 1) gd gv kd kv td tv t0 t1 t2 := by
  have w4 := S.sides
  intro d
  induction d with
  | zero =>
    intro w k s0 s1 s2 X B hw hs b1 b2 hB hk
    obtain ⟨k, rfl⟩ : ∃ m, k = m + 1 := ⟨k - 1, by omega⟩
    refine ⟨s0, s1, s2, ?_, ?_⟩
    · rw [show w = M by omega, Int.sub_self, Int.add_zero]; exact hs
    · simp only [conv_BackIn.l2]
      rw [if_neg (by omega), w64 (x := (o : Int) + 1) (by omega) (by omega)]
      rfl
  | succ d ih =>
    intro w k s0 s1 s2 X B hw hs b1 b2 hB hk
    obtain ⟨k, rfl⟩ : ∃ m, k = m + 1 := ⟨k - 1, by omega⟩
    have pb := bP_bd S.ha S.hk S.p5 rows wid many c l o w
    have l1 := S.g4
    have l2 := S.k4
    have l3 := S.p5
    have l4 := S.s6
    have e1 := S.la
    have e2 := S.lk
    have q0 := Nat.div_le_self (l - w) step
    have go : ∃ t0 t1 t2, aok t0 t1 t2 (X + bP gv kv step rows wid many c l o w) ∧ conv_BackIn.l2 (k + 1) step long outs rows wid many i c l o N i outs o M w gd gv kd kv td tv s0 s1 s2 = conv_BackIn.l2 k step long outs rows wid many i c l o N i outs o M ((w : Int) + 1) gd gv kd kv td tv t0 t1 t2 := by
      simp only [conv_BackIn.l2]
      rw [if_pos (by omega), if_neg (by omega), show (l : Int) - (w : Int) = ((l - w : Nat) : Int) by omega, w64 (x := ((l - w : Nat) : Int)) (by omega) (by omega), Int.tmod_eq_emod_of_nonneg (Int.natCast_nonneg _), Int.tdiv_eq_ediv_of_nonneg (Int.natCast_nonneg _), ← Int.natCast_emod, ← Int.natCast_ediv, w64 (x := (w : Int) + 1) (by omega) (by omega), bP_eq gv kv S.p5]
      clear pb
      generalize (l - w) / step = n at *
      generalize (l - w) % step = r at *
      rw [w64 (x := (n : Int)) (by omega) (by omega)]
      by_cases c1 : r = 0
      rotate_left
      · rw [if_neg (show ¬ ((r : Int) = 0) by omega), if_neg (fun h => c1 h.2.1)]
        exact ⟨s0, s1, s2, by rw [Int.add_zero]; exact hs, rfl⟩
      rw [if_pos (show (r : Int) = 0 by omega)]
      by_cases c2 : n < many
      rotate_left
      · rw [if_neg (show ¬ ((n : Int) < (many : Int)) by omega), if_neg (fun h => c2 h.2.2)]
        exact ⟨s0, s1, s2, by rw [Int.add_zero]; exact hs, rfl⟩
      rw [if_pos (show (n : Int) < (many : Int) by omega), if_pos (c := w ≤ l ∧ r = 0 ∧ n < many) ⟨by omega, c1, c2⟩]
      have hi := S.gi ho c2
      have hj := S.ki ho hc (show w < wid by omega)
      obtain ⟨t0, t1, t2, e, ht⟩ := APlus_f hs (by unfold xok; omega) (rd_ok S.ha ((o * many + n : Nat) : Int)) (rd_ok S.hk (((o * rows + c) * wid + w : Nat) : Int))
      refine ⟨t0, t1, t2, ht, ?_⟩
      rw [wI o many n (by omega), wK o rows c wid w (by omega) (by omega), if_pos (Int.natCast_nonneg _), if_pos (by omega), if_pos (Int.natCast_nonneg _), if_pos (by omega), e, Option.bind_some]
    obtain ⟨t0, t1, t2, ht, eg⟩ := go
    obtain ⟨u0, u1, u2, hu, eu⟩ := ih (w + 1) k t0 t1 t2 _ (B + 85070591730234615865843651857942052864) (by omega) ht (by omega) (by omega) (by rw [Int.natCast_add] at hB; omega) (by omega)
    refine ⟨u0, u1, u2, ?_, ?_⟩
    · have : sumN (w + 1) (bP gv kv step rows wid many c l o) = sumN w (bP gv kv step rows wid many c l o) + bP gv kv step rows wid many c l o w := rfl
      rw [this] at hu
      rw [show X + (sumN M (bP gv kv step rows wid many c l o) - sumN w (bP gv kv step rows wid many c l o)) = X + bP gv kv step rows wid many c l o w + (sumN M (bP gv kv step rows wid many c l o) - (sumN w (bP gv kv step rows wid many c l o) + bP gv kv step rows wid many c l o w)) by omega]
      exact hu
    · rw [eg]
      rw [Int.natCast_add] at eu
      rw [show k + 1 - (d + 1) - 1 = k - d - 1 by omega]
      exact eu
theorem Back_l1 {gv kv : List Int} {step rows long wid many outs : Nat} (S : BackS gv kv step rows long wid many outs) (i c l : Nat) (hc : c < rows) (hl : l < long) (N : Int) (gd kd td tv : List Int) (hi : i < tv.length) (hi4 : i < 5000) :
    ∀ (d o k : Nat) (s0 s1 s2 X B : Int), o + d = outs → aok s0 s1 s2 X → -B ≤ X → X ≤ B → B + d * 348449143727040986586495598010130648530944 ≤ 766247770432944429179173513575154591809369561091801088 → d * (wid + 2) + 5 ≤ k →
      ∃ k', k - d * (wid + 2) - 1 ≤ k' ∧ conv_BackIn.l1 k step long outs rows wid many i c l N i outs o gd gv kd kv td tv s0 s1 s2 = conv_BackIn.l0 k' step long outs rows wid many N ((i : Int) + 1) gd gv kd kv td (tv.set i (hold (X + (bsum gv kv step rows wid many outs c l - sumN o (fun o => sumN wid (bP gv kv step rows wid many c l o)))))) := by
  have w4 := S.sides
  intro d
  induction d with
  | zero =>
    intro o k s0 s1 s2 X B hc' hs b1 b2 hB hk
    obtain ⟨k, rfl⟩ : ∃ m, k = m + 1 := ⟨k - 1, by omega⟩
    refine ⟨k, by omega, ?_⟩
    simp only [conv_BackIn.l1]
    rw [if_neg (by omega), AFix_f hs k (by omega), Option.bind_some, if_pos (Int.natCast_nonneg i), if_pos (by omega), w64 (x := (i : Int) + 1) (by omega) (by omega), show o = outs by omega]
    unfold bsum
    rw [Int.sub_self, Int.add_zero]
    rfl
  | succ d ih =>
    intro o k s0 s1 s2 X B hc' hs b1 b2 hB hk
    obtain ⟨k, rfl⟩ : ∃ m, k = m + 1 := ⟨k - 1, by omega⟩
    have hk2 : d * (wid + 2) + (wid + 2) + 5 ≤ k + 1 := by rw [Nat.add_mul] at hk; omega
    have rb := bW_bd S.ha S.hk S.p5 rows wid many c l o w4.1
    obtain ⟨M, hM, hM1, hM2, hz⟩ : ∃ M : Nat, mn (wid : Int) (wrap64 ((l : Int) + 1)) = (M : Int) ∧ M ≤ wid ∧ M ≤ l + 1 ∧ (M = wid ∨ M = l + 1) := by
      unfold mn
      rw [w64 (x := (l : Int) + 1) (by omega) (by omega)]
      by_cases h : (l : Int) + 1 < (wid : Int)
      · rw [if_pos h]; exact ⟨l + 1, rfl, by omega, by omega, by omega⟩
      · rw [if_neg h]; exact ⟨wid, rfl, by omega, by omega, by omega⟩
    have hW : sumN M (bP gv kv step rows wid many c l o) = sumN wid (bP gv kv step rows wid many c l o) := by
      refine (sumN_ext wid hM1 fun w a b => ?_).symm
      rw [bP_eq gv kv S.p5, if_neg]
      intro h
      omega
    obtain ⟨t0, t1, t2, ht, e⟩ := Back_l2 S i c l o M (by omega) hc hl hM1 hM2 N gd kd td tv M 0 k s0 s1 s2 X B (by omega) hs b1 b2 (by rw [Int.natCast_add] at hB; omega) (by omega)
    simp only [sumN, Int.sub_zero] at ht
    rw [hW] at ht
    obtain ⟨k', hk', e2⟩ := ih (o + 1) (k - M - 1) t0 t1 t2 _ (B + 348449143727040986586495598010130648530944) (by omega) ht (by omega) (by omega) (by rw [Int.natCast_add] at hB; omega) (by omega)
    refine ⟨k', by rw [Nat.add_mul]; omega, ?_⟩
    simp only [conv_BackIn.l1]
    rw [if_pos (by omega), hM]
    rw [show ((0 : Nat) : Int) = 0 from rfl] at e
    rw [e]
    rw [Int.natCast_add] at e2
    have : sumN (o + 1) (fun o => sumN wid (bP gv kv step rows wid many c l o)) = sumN o (fun o => sumN wid (bP gv kv step rows wid many c l o)) + sumN wid (bP gv kv step rows wid many c l o) := rfl
    rw [this] at e2
    rw [show X + (bsum gv kv step rows wid many outs c l - sumN o (fun o => sumN wid (bP gv kv step rows wid many c l o))) = X + sumN wid (bP gv kv step rows wid many c l o) + (bsum gv kv step rows wid many outs c l - (sumN o (fun o => sumN wid (bP gv kv step rows wid many c l o)) + sumN wid (bP gv kv step rows wid many c l o))) by omega]
    exact e2
def backv (gv kv : List Int) (step rows long wid many outs : Nat) (p : Nat) : Int := hold (bsum gv kv step rows wid many outs (p / long) (p % long))
theorem Back_l0 {gv kv : List Int} {step rows long wid many outs : Nat} (S : BackS gv kv step rows long wid many outs) (gd kd td : List Int) :
    ∀ (d i k : Nat) (tv : List Int), i + d = rows * long → tv.length = rows * long → tv.take i = tab i (backv gv kv step rows long wid many outs) → d * (outs * (wid + 2) + 10) + 10 ≤ k →
    conv_BackIn.l0 k step long outs rows wid many ((rows * long : Nat) : Int) i gd gv kd kv td tv = some (td, tab (rows * long) (backv gv kv step rows long wid many outs), 0) := by
  have m4 := S.r4
  intro d
  induction d with
  | zero =>
    intro i k tv hi hl ht hk
    obtain ⟨k, rfl⟩ : ∃ m, k = m + 1 := ⟨k - 1, by omega⟩
    simp only [conv_BackIn.l0]
    have : i = rows * long := by omega
    subst this
    rw [if_neg (by omega), ← ht, List.take_of_length_le (by omega)]
  | succ d ih =>
    intro i k tv hi hl ht hk
    obtain ⟨k, rfl⟩ : ∃ m, k = m + 1 := ⟨k - 1, by omega⟩
    have hk2 : d * (outs * (wid + 2) + 10) + (outs * (wid + 2) + 10) + 10 ≤ k + 1 := by rw [Nat.add_mul, Nat.one_mul] at hk; omega
    have p3 := S.p6
    have w4 := S.sides
    have hn : i % long < long := Nat.mod_lt _ p3
    have ho : i / long < rows := (Nat.div_lt_iff_lt_mul p3).mpr (by omega)
    obtain ⟨k', hk', e⟩ := Back_l1 S i (i / long) (i % long) ho hn ((rows * long : Nat) : Int) gd kd td tv (by omega) (by omega) outs 0 k 0 0 0 0 0 (by omega) ⟨⟨by omega, by omega, by omega, by omega⟩, by omega⟩ (by omega) (by omega) (by omega) (by omega)
    simp only [sumN, Int.sub_zero, Int.zero_add] at e
    have hq : wrap64 ((i / long : Nat) : Int) = ((i / long : Nat) : Int) := by
      have := Nat.div_le_self i long
      generalize i / long = q at *
      exact w64 (by omega) (by omega)
    simp only [conv_BackIn.l0]
    rw [if_pos (by omega), if_neg (by omega), Int.tdiv_eq_ediv_of_nonneg (Int.natCast_nonneg i), Int.tmod_eq_emod_of_nonneg (Int.natCast_nonneg i), ← Int.natCast_ediv, ← Int.natCast_emod, hq]
    rw [show ((0 : Nat) : Int) = 0 from rfl] at e
    rw [e]
    have := ih (i + 1) k' (tv.set i (backv gv kv step rows long wid many outs i)) (by omega) (by simpa using hl) (by rw [set_take' tv i _ (by omega), ht, tab_succ]) (by omega)
    rw [Int.natCast_add] at this
    exact this
theorem rBack_l3 {gv kv : List Int} {step rows long wid many outs : Nat} (S : BackS gv kv step rows long wid many outs) (c l j y : Nat) (hc : c < rows) (hj : j < many) (hy : y < wid) (gd kd td tv : List Int) :
    ∀ (d o k : Nat) (g : Bool) (m0 m1 m2 m3 X B : Int), o + d = outs → nok g m0 m1 m2 m3 X → -B ≤ X → X ≤ B → B + d * 85070591730234615865843651857942052864 ≤ 1532495540865888858358347027150309183618739122183602176 → d + 1 ≤ k →
    ∃ h t0 t1 t2 t3, nok h t0 t1 t2 t3 (X + (sumN outs (fun o => bT gv kv rows wid many c o j y) - sumN o (fun o => bT gv kv rows wid many c o j y))) ∧
      carouselref5_BackIn.l3 k step long outs many rows wid c l j y o gd gv kd kv td tv g m0 m1 m2 m3 = carouselref5_BackIn.l2 (k - d - 1) step long outs many rows wid c l ((j : Int) + 1) gd gv kd kv td tv h t0 t1 t2 t3 := by
  have w4 := S.sides
  intro d
  induction d with
  | zero =>
    intro o k g m0 m1 m2 m3 X B hw hs b1 b2 hB hk
    obtain ⟨k, rfl⟩ : ∃ m, k = m + 1 := ⟨k - 1, by omega⟩
    refine ⟨g, m0, m1, m2, m3, ?_, ?_⟩
    · rw [show o = outs by omega, Int.sub_self, Int.add_zero]; exact hs
    · simp only [carouselref5_BackIn.l3]
      rw [if_neg (by omega), w64 (x := (j : Int) + 1) (by omega) (by omega)]
      rfl
  | succ d ih =>
    intro o k g m0 m1 m2 m3 X B hw hs b1 b2 hB hk
    obtain ⟨k, rfl⟩ : ∃ m, k = m + 1 := ⟨k - 1, by omega⟩
    have hi := S.gi (show o < outs by omega) hj
    have hj' := S.ki (show o < outs by omega) hc hy
    have l1 := S.g4
    have l2 := S.k4
    have e1 := S.la
    have e2 := S.lk
    have tb := bT_bd S.ha S.hk rows wid many c o j y
    obtain ⟨h, q0, q1, q2, q3, t0, t1, t2, t3, u, et, ep, ht⟩ := NPlus_f hs (by unfold xok; omega) (rd_ok S.ha ((o * many + j : Nat) : Int)) (rd_ok S.hk (((o * rows + c) * wid + y : Nat) : Int))
    obtain ⟨v, u0, u1, u2, u3, hu, eu⟩ := ih (o + 1) k h t0 t1 t2 t3 _ (B + 85070591730234615865843651857942052864) (by omega) ht (by unfold bT at tb; omega) (by unfold bT at tb; omega) (by rw [Int.natCast_add] at hB; omega) (by omega)
    refine ⟨v, u0, u1, u2, u3, ?_, ?_⟩
    · have : sumN (o + 1) (fun o => bT gv kv rows wid many c o j y) = sumN o (fun o => bT gv kv rows wid many c o j y) + rd gv ((o * many + j : Nat) : Int) * rd kv (((o * rows + c) * wid + y : Nat) : Int) := rfl
      rw [this] at hu
      rw [show X + (sumN outs (fun o => bT gv kv rows wid many c o j y) - sumN o (fun o => bT gv kv rows wid many c o j y)) = X + rd gv ((o * many + j : Nat) : Int) * rd kv (((o * rows + c) * wid + y : Nat) : Int) + (sumN outs (fun o => bT gv kv rows wid many c o j y) - (sumN o (fun o => bT gv kv rows wid many c o j y) + rd gv ((o * many + j : Nat) : Int) * rd kv (((o * rows + c) * wid + y : Nat) : Int))) by omega]
      exact hu
    · simp only [carouselref5_BackIn.l3]
      rw [if_pos (by omega), wI o many j (by omega), wK o rows c wid y (by omega) (by omega), if_pos (Int.natCast_nonneg _), if_pos (by omega), if_pos (Int.natCast_nonneg _), if_pos (by omega), et, Option.bind_some]
      simp only []
      rw [ep, Option.bind_some, w64 (x := (o : Int) + 1) (by omega) (by omega)]
      rw [Int.natCast_add] at eu
      rw [show k + 1 - (d + 1) - 1 = k - d - 1 by omega]
      exact eu
theorem rBack_l2 {gv kv : List Int} {step rows long wid many outs : Nat} (S : BackS gv kv step rows long wid many outs) (c l : Nat) (hc : c < rows) (hl : l < long) (gd kd td tv : List Int) (hi : c * long + l < tv.length) (hi4 : tv.length ≤ 5000) :
    ∀ (d j k : Nat) (g : Bool) (m0 m1 m2 m3 X B : Int), j + d = many → nok g m0 m1 m2 m3 X → -B ≤ X → X ≤ B → B + d * 348449143727040986586495598010130648530944 ≤ 766247770432944429179173513575154591809369561091801088 → d * (outs + 3) + 5 ≤ k →
      ∃ k', k - d * (outs + 3) - 1 ≤ k' ∧ carouselref5_BackIn.l2 k step long outs many rows wid c l j gd gv kd kv td tv g m0 m1 m2 m3 = carouselref5_BackIn.l1 k' step long outs many rows wid c ((l : Int) + 1) gd gv kd kv td (tv.set (c * long + l) (hold (X + (bsum gv kv step rows wid many outs c l - sumN j (bR gv kv step rows wid many outs c l))))) := by
  have w4 := S.sides
  have s6 := S.s6
  have p5 := S.p5
  intro d
  induction d with
  | zero =>
    intro j k g m0 m1 m2 m3 X B hj hs b1 b2 hB hk
    obtain ⟨k, rfl⟩ : ∃ m, k = m + 1 := ⟨k - 1, by omega⟩
    refine ⟨k, by omega, ?_⟩
    obtain ⟨r0, r1, r2, r3, e1, e2⟩ := NHeld_f hs k (by omega)
    simp only [carouselref5_BackIn.l2]
    rw [if_neg (by omega), e1, Option.bind_some]
    simp only []
    rw [e2, Option.bind_some, wI c long l (by omega), if_pos (Int.natCast_nonneg (c * long + l)), if_pos (show ((c * long + l : Nat) : Int) < (tv.length : Int) by omega), w64 (x := (l : Int) + 1) (by omega) (by omega), show j = many by omega, Int.toNat_natCast]
    rw [bsum_eq, Int.sub_self, Int.add_zero]
  | succ d ih =>
    intro j k g m0 m1 m2 m3 X B hj hs b1 b2 hB hk
    obtain ⟨k, rfl⟩ : ∃ m, k = m + 2 := ⟨k - 2, by omega⟩
    have hk2 : d * (outs + 3) + (outs + 3) + 5 ≤ k + 2 := by rw [Nat.add_mul] at hk; omega
    have rb := bR_bd S.ha S.hk step rows wid many outs c l j w4.2.2.2.2.1
    have js : j * step ≤ 4096 * 64 := Nat.mul_le_mul (by omega) s6
    have ejs : (j : Int) * (step : Int) = ((j * step : Nat) : Int) := by simp
    have go : ∃ h t0 t1 t2 t3 k', k - outs - 1 ≤ k' ∧ nok h t0 t1 t2 t3 (X + bR gv kv step rows wid many outs c l j) ∧ carouselref5_BackIn.l2 (k + 2) step long outs many rows wid c l j gd gv kd kv td tv g m0 m1 m2 m3 = carouselref5_BackIn.l2 k' step long outs many rows wid c l ((j : Int) + 1) gd gv kd kv td tv h t0 t1 t2 t3 := by
      have sk : ∀ y : Int, carouselref5_BackIn.j5 (k + 1) step long outs many rows wid c l j y true gd gv kd kv td tv g m0 m1 m2 m3 = carouselref5_BackIn.l2 k step long outs many rows wid c l ((j : Int) + 1) gd gv kd kv td tv g m0 m1 m2 m3 := fun y => by
        simp only [carouselref5_BackIn.j5]
        rw [if_pos trivial, w64 (x := (j : Int) + 1) (by omega) (by omega)]
      simp only [carouselref5_BackIn.l2]
      rw [if_pos (by omega), ejs, w64 (x := ((j * step : Nat) : Int)) (by omega) (by omega), w64 (x := (l : Int) - ((j * step : Nat) : Int)) (by omega) (by omega), bR_eq]
      generalize j * step = p at *
      by_cases c1 : p ≤ l
      rotate_left
      · rw [if_pos (show (l : Int) - (p : Int) < 0 by omega), sk, if_neg (fun h => c1 h.1)]
        exact ⟨g, m0, m1, m2, m3, k, by omega, by rw [Int.add_zero]; exact hs, rfl⟩
      rw [if_neg (show ¬ ((l : Int) - (p : Int) < 0) by omega), show (l : Int) - (p : Int) = ((l - p : Nat) : Int) by omega]
      by_cases c2 : l - p < wid
      rotate_left
      · rw [decide_eq_true (show ((l - p : Nat) : Int) ≥ (wid : Int) by omega), sk, if_neg (fun h => c2 h.2)]
        exact ⟨g, m0, m1, m2, m3, k, by omega, by rw [Int.add_zero]; exact hs, rfl⟩
      rw [decide_eq_false (show ¬ ((l - p : Nat) : Int) ≥ (wid : Int) by omega), if_pos (c := p ≤ l ∧ l - p < wid) ⟨c1, c2⟩]
      obtain ⟨h, t0, t1, t2, t3, ht, e⟩ := rBack_l3 S c l j (l - p) hc (by omega) c2 gd kd td tv outs 0 k g m0 m1 m2 m3 X B (by omega) hs b1 b2 (by rw [Int.natCast_add] at hB; omega) (by omega)
      simp only [sumN, Int.sub_zero] at ht
      refine ⟨h, t0, t1, t2, t3, k - outs - 1, by omega, ht, ?_⟩
      simp only [carouselref5_BackIn.j5]
      rw [if_neg (by simp)]
      exact e
    obtain ⟨h, t0, t1, t2, t3, k1, hk1, ht, e⟩ := go
    obtain ⟨k', hk', e2⟩ := ih (j + 1) k1 h t0 t1 t2 t3 _ (B + 348449143727040986586495598010130648530944) (by omega) ht (by omega) (by omega) (by rw [Int.natCast_add] at hB; omega) (by omega)
    refine ⟨k', by rw [Nat.add_mul]; omega, ?_⟩
    rw [e]
    rw [Int.natCast_add] at e2
    have : sumN (j + 1) (bR gv kv step rows wid many outs c l) = sumN j (bR gv kv step rows wid many outs c l) + bR gv kv step rows wid many outs c l j := rfl
    rw [this] at e2
    rw [show X + (bsum gv kv step rows wid many outs c l - sumN j (bR gv kv step rows wid many outs c l)) = X + bR gv kv step rows wid many outs c l j + (bsum gv kv step rows wid many outs c l - (sumN j (bR gv kv step rows wid many outs c l) + bR gv kv step rows wid many outs c l j)) by omega]
    exact e2
theorem rBack_l1 {gv kv : List Int} {step rows long wid many outs : Nat} (S : BackS gv kv step rows long wid many outs) (c : Nat) (hc : c < rows) (gd kd td : List Int) :
    ∀ (d l k : Nat) (tv : List Int), l + d = long → tv.length = rows * long → tv.take (c * long + l) = tab (c * long + l) (backv gv kv step rows long wid many outs) → d * (many * (outs + 3) + 10) + 10 ≤ k →
    ∃ tv' k', k - d * (many * (outs + 3) + 2) - 1 ≤ k' ∧ tv'.length = rows * long ∧ tv'.take ((c + 1) * long) = tab ((c + 1) * long) (backv gv kv step rows long wid many outs) ∧
      carouselref5_BackIn.l1 k step long outs many rows wid c l gd gv kd kv td tv = carouselref5_BackIn.l0 k' step long outs many rows wid ((c : Int) + 1) gd gv kd kv td tv' := by
  have m4 := S.r4
  have p3 := S.p6
  have w4 := S.sides
  intro d
  induction d with
  | zero =>
    intro l k tv hn hl ht hk
    obtain ⟨k, rfl⟩ : ∃ m, k = m + 1 := ⟨k - 1, by omega⟩
    refine ⟨tv, k, by omega, hl, ?_, ?_⟩
    · rw [Nat.add_mul, Nat.one_mul, show long = l by omega]; rw [show long = l by omega] at ht; exact ht
    · simp only [carouselref5_BackIn.l1]
      rw [if_neg (by omega), w64 (x := (c : Int) + 1) (by omega) (by omega)]
  | succ d ih =>
    intro l k tv hn hl ht hk
    obtain ⟨k, rfl⟩ : ∃ m, k = m + 1 := ⟨k - 1, by omega⟩
    have hk2 : d * (many * (outs + 3) + 10) + (many * (outs + 3) + 10) + 10 ≤ k + 1 := by rw [Nat.add_mul, Nat.one_mul] at hk; omega
    have hx := idxA hc (show l < long by omega)
    obtain ⟨k', hk', e⟩ := rBack_l2 S c l hc (by omega) gd kd td tv (by omega) (by omega) many 0 k false 0 0 0 0 0 0 (by omega) ⟨by unfold Bn.ok; omega, rfl⟩ (by omega) (by omega) (by omega) (by omega)
    simp only [sumN, Int.sub_zero, Int.zero_add] at e
    have eg : hold (bsum gv kv step rows wid many outs c l) = backv gv kv step rows long wid many outs (c * long + l) := by
      unfold backv
      rw [Nat.add_comm, Nat.add_mul_div_right _ _ (by omega), Nat.div_eq_of_lt (by omega), Nat.zero_add, Nat.add_mul_mod_self_right, Nat.mod_eq_of_lt (by omega)]
    rw [eg] at e
    have hk3 : d * (many * (outs + 3) + 2) ≤ d * (many * (outs + 3) + 10) := Nat.mul_le_mul_left _ (by omega)
    have hk4 : d * (many * (outs + 3) + 10) = d * (many * (outs + 3) + 2) + d * 8 := by rw [← Nat.mul_add]
    obtain ⟨tv', k'', hk'', hl', ht', e'⟩ := ih (l + 1) k' (tv.set (c * long + l) (backv gv kv step rows long wid many outs (c * long + l))) (by omega) (by simpa using hl) (by rw [show c * long + (l + 1) = c * long + l + 1 by omega, set_take' tv _ _ (by omega), ht, tab_succ]) (by omega)
    refine ⟨tv', k'', by rw [Nat.add_mul, Nat.one_mul]; omega, hl', ht', ?_⟩
    simp only [carouselref5_BackIn.l1]
    rw [if_pos (by omega)]
    rw [show ((0 : Nat) : Int) = 0 from rfl] at e
    rw [e]
    rw [Int.natCast_add] at e'
    exact e'
theorem rBack_l0 {gv kv : List Int} {step rows long wid many outs : Nat} (S : BackS gv kv step rows long wid many outs) (gd kd td : List Int) :
    ∀ (d c k : Nat) (tv : List Int), c + d = rows → tv.length = rows * long → tv.take (c * long) = tab (c * long) (backv gv kv step rows long wid many outs) → d * (long * (many * (outs + 3) + 10) + 20) + 20 ≤ k →
    carouselref5_BackIn.l0 k step long outs many rows wid c gd gv kd kv td tv = some (td, tab (rows * long) (backv gv kv step rows long wid many outs), 0) := by
  intro d
  induction d with
  | zero =>
    intro c k tv ho hl ht hk
    obtain ⟨k, rfl⟩ : ∃ m, k = m + 1 := ⟨k - 1, by omega⟩
    have : c = rows := by omega
    subst this
    simp only [carouselref5_BackIn.l0]
    rw [if_neg (by omega), ← ht, List.take_of_length_le (by omega)]
  | succ d ih =>
    intro c k tv ho hl ht hk
    obtain ⟨k, rfl⟩ : ∃ m, k = m + 1 := ⟨k - 1, by omega⟩
    have hk2 : d * (long * (many * (outs + 3) + 10) + 20) + (long * (many * (outs + 3) + 10) + 20) + 20 ≤ k + 1 := by rw [Nat.add_mul, Nat.one_mul] at hk; omega
    have hk3 : long * (many * (outs + 3) + 2) ≤ long * (many * (outs + 3) + 10) := Nat.mul_le_mul_left _ (by omega)
    obtain ⟨tv', k', hk', hl', ht', e⟩ := rBack_l1 S c (by omega) gd kd td long 0 k tv (by omega) hl ht (by omega)
    simp only [carouselref5_BackIn.l0]
    rw [if_pos (by omega)]
    rw [show ((0 : Nat) : Int) = 0 from rfl] at e
    rw [e]
    have := ih (c + 1) k' tv' (by omega) hl' ht' (by omega)
    rw [Int.natCast_add] at this
    exact this
/-- one product of a gradient and a row -/
def kT (gv av : List Int) (step long many o c w n : Nat) : Int := rd gv ((o * many + n : Nat) : Int) * rd av ((c * long + n * step + w : Nat) : Int)
theorem kT_bd {gv av : List Int} (ha : ∀ x ∈ gv, Fx.ok x) (hk : ∀ x ∈ av, Fx.ok x) (step long many o c w n : Nat) : -85070591730234615865843651857942052864 ≤ kT gv av step long many o c w n ∧ kT gv av step long many o c w n ≤ 85070591730234615865843651857942052864 :=
  prod_bd (rd_ok ha _) (rd_ok hk _)
/-- the sides of a gradient, of rows: what is known -/
structure KernS (gv av : List Int) (step rows long wid many outs : Nat) : Prop where
  ha : ∀ x ∈ gv, Fx.ok x
  hk : ∀ x ∈ av, Fx.ok x
  la : gv.length = outs * many
  lk : av.length = rows * long
  g4 : outs * many ≤ 4096
  k4 : rows * long ≤ 4096
  p1 : 1 ≤ rows
  p2 : 1 ≤ wid
  p3 : 1 ≤ many
  p4 : 1 ≤ outs
  p5 : 1 ≤ step
  p6 : 1 ≤ long
  hm : ∀ n, n < many → n * step + wid ≤ long
  r4 : outs * rows * wid ≤ 4096
theorem KernS.sides {gv av : List Int} {step rows long wid many outs : Nat} (S : KernS gv av step rows long wid many outs) : wid ≤ 4096 ∧ rows ≤ 4096 ∧ long ≤ 4096 ∧ many ≤ 4096 ∧ outs ≤ 4096 ∧ outs * rows ≤ 4096 := by
  have a := Nat.mul_le_mul_right long S.p1
  have b := Nat.mul_le_mul_left rows S.p6
  have c := Nat.mul_le_mul_right many S.p4
  have d := Nat.mul_le_mul_left outs S.p3
  have e := Nat.mul_le_mul_left (outs * rows) S.p2
  have f := Nat.mul_le_mul_right wid (Nat.mul_le_mul S.p4 S.p1)
  have := S.r4
  have := S.g4
  have := S.k4
  omega
theorem KernS.gi {gv av : List Int} {step rows long wid many outs : Nat} (S : KernS gv av step rows long wid many outs) {o j : Nat} (ho : o < outs) (hj : j < many) : o * many + j < gv.length := by
  rw [S.la]; exact idxA ho hj
theorem KernS.ai {gv av : List Int} {step rows long wid many outs : Nat} (S : KernS gv av step rows long wid many outs) {c n w : Nat} (hc : c < rows) (hn : n < many) (hw : w < wid) : c * long + n * step + w < av.length := by
  have := S.hm n hn
  have := idxA (m := n * step + w) hc (show n * step + w < long by omega)
  rw [S.lk]; omega
def ksum (gv av : List Int) (step long many o c w : Nat) : Int := sumN many (kT gv av step long many o c w)
theorem Kern_l1 {gv av : List Int} {step rows long wid many outs : Nat} (S : KernS gv av step rows long wid many outs) (i o c w : Nat) (ho : o < outs) (hc : c < rows) (hw : w < wid) (N : Int) (gd ad td tv : List Int) (hi : i < tv.length) (hi4 : i < 5000) :
    ∀ (d n k : Nat) (s0 s1 s2 X B : Int), n + d = many → aok s0 s1 s2 X → -B ≤ X → X ≤ B → B + d * 85070591730234615865843651857942052864 ≤ 1532495540865888858358347027150309183618739122183602176 → d + 5 ≤ k →
    conv_BackKernel.l1 k step wid rows long many i o c w N i many n gd gv ad av td tv s0 s1 s2 = conv_BackKernel.l0 (k - d - 1) step wid rows long many N ((i : Int) + 1) gd gv ad av td (tv.set i (hold (X + (ksum gv av step long many o c w - sumN n (kT gv av step long many o c w))))) := by
  have w4 := S.sides
  intro d
  induction d with
  | zero =>
    intro n k s0 s1 s2 X B hn hs b1 b2 hB hk
    obtain ⟨k, rfl⟩ : ∃ m, k = m + 1 := ⟨k - 1, by omega⟩
    simp only [conv_BackKernel.l1]
    rw [if_neg (by omega), AFix_f hs k (by omega), Option.bind_some, if_pos (Int.natCast_nonneg i), if_pos (by omega), w64 (x := (i : Int) + 1) (by omega) (by omega), show n = many by omega]
    unfold ksum
    rw [Int.sub_self, Int.add_zero]
    rfl
  | succ d ih =>
    intro n k s0 s1 s2 X B hn hs b1 b2 hB hk
    obtain ⟨k, rfl⟩ : ∃ m, k = m + 1 := ⟨k - 1, by omega⟩
    have tb := kT_bd S.ha S.hk step long many o c w n
    have l1 := S.g4
    have l2 := S.k4
    have e1 := S.la
    have e2 := S.lk
    have hi' := S.gi ho (show n < many by omega)
    have hj := S.ai hc (show n < many by omega) hw
    obtain ⟨t0, t1, t2, e, ht⟩ := APlus_f hs (by unfold xok; omega) (rd_ok S.ha ((o * many + n : Nat) : Int)) (rd_ok S.hk ((c * long + n * step + w : Nat) : Int))
    have eu := ih (n + 1) k t0 t1 t2 _ (B + 85070591730234615865843651857942052864) (by omega) ht (by unfold kT at tb; omega) (by unfold kT at tb; omega) (by rw [Int.natCast_add] at hB; omega) (by omega)
    have es : sumN (n + 1) (kT gv av step long many o c w) = sumN n (kT gv av step long many o c w) + rd gv ((o * many + n : Nat) : Int) * rd av ((c * long + n * step + w : Nat) : Int) := rfl
    rw [es] at eu
    rw [show X + (ksum gv av step long many o c w - sumN n (kT gv av step long many o c w)) = X + rd gv ((o * many + n : Nat) : Int) * rd av ((c * long + n * step + w : Nat) : Int) + (ksum gv av step long many o c w - (sumN n (kT gv av step long many o c w) + rd gv ((o * many + n : Nat) : Int) * rd av ((c * long + n * step + w : Nat) : Int))) by omega]
    simp only [conv_BackKernel.l1]
    rw [if_pos (by omega), wI o many n (by omega), wA c long n step w (by omega), if_pos (Int.natCast_nonneg _), if_pos (by omega), if_pos (Int.natCast_nonneg _), if_pos (by omega), e, Option.bind_some, w64 (x := (n : Int) + 1) (by omega) (by omega)]
    rw [Int.natCast_add] at eu
    rw [show k + 1 - (d + 1) - 1 = k - d - 1 by omega]
    exact eu
def kernv (gv av : List Int) (step rows long wid many : Nat) (p : Nat) : Int := hold (ksum gv av step long many (p / (rows * wid)) (p / wid % rows) (p % wid))
theorem Kern_l0 {gv av : List Int} {step rows long wid many outs : Nat} (S : KernS gv av step rows long wid many outs) (gd ad td : List Int) :
    ∀ (d i k : Nat) (tv : List Int), i + d = outs * rows * wid → tv.length = outs * rows * wid → tv.take i = tab i (kernv gv av step rows long wid many) → d * (many + 10) + 10 ≤ k →
    conv_BackKernel.l0 k step wid rows long many ((outs * rows * wid : Nat) : Int) i gd gv ad av td tv = some (td, tab (outs * rows * wid) (kernv gv av step rows long wid many), 0) := by
  have m4 := S.r4
  have p1 := S.p1
  have p2 := S.p2
  have w4 := S.sides
  have rw1 : 1 ≤ rows * wid := Nat.mul_le_mul p1 p2
  have rw4 : rows * wid ≤ 4096 := by
    have := Nat.mul_le_mul_right (rows * wid) S.p4
    rw [Nat.one_mul, ← Nat.mul_assoc] at this
    omega
  intro d
  induction d with
  | zero =>
    intro i k tv hi hl ht hk
    obtain ⟨k, rfl⟩ : ∃ m, k = m + 1 := ⟨k - 1, by omega⟩
    simp only [conv_BackKernel.l0]
    have : i = outs * rows * wid := by omega
    subst this
    rw [if_neg (by omega), ← ht, List.take_of_length_le (by omega)]
  | succ d ih =>
    intro i k tv hi hl ht hk
    obtain ⟨k, rfl⟩ : ∃ m, k = m + 1 := ⟨k - 1, by omega⟩
    have hk2 : d * (many + 10) + (many + 10) + 10 ≤ k + 1 := by rw [Nat.add_mul, Nat.one_mul] at hk; omega
    have hw : i % wid < wid := Nat.mod_lt _ p2
    have hc : i / wid % rows < rows := Nat.mod_lt _ p1
    have ho : i / (rows * wid) < outs := (Nat.div_lt_iff_lt_mul rw1).mpr (by rw [← Nat.mul_assoc]; omega)
    have e := Kern_l1 S i (i / (rows * wid)) (i / wid % rows) (i % wid) ho hc hw ((outs * rows * wid : Nat) : Int) gd ad td tv (by omega) (by omega) many 0 k 0 0 0 0 0 (by omega) ⟨⟨by omega, by omega, by omega, by omega⟩, by omega⟩ (by omega) (by omega) (by omega) (by omega)
    simp only [sumN, Int.sub_zero, Int.zero_add] at e
    have hq : wrap64 ((i / (rows * wid) : Nat) : Int) = ((i / (rows * wid) : Nat) : Int) := by
      have := Nat.div_le_self i (rows * wid)
      generalize i / (rows * wid) = q at *
      exact w64 (by omega) (by omega)
    have hq2 : wrap64 ((i / wid : Nat) : Int) = ((i / wid : Nat) : Int) := by
      have := Nat.div_le_self i wid
      generalize i / wid = q at *
      exact w64 (by omega) (by omega)
    simp only [conv_BackKernel.l0]
    rw [if_pos (by omega), show (rows : Int) * (wid : Int) = ((rows * wid : Nat) : Int) by simp, w64 (x := ((rows * wid : Nat) : Int)) (by omega) (by omega), if_neg (by omega), if_neg (by omega), if_neg (by omega), Int.tdiv_eq_ediv_of_nonneg (Int.natCast_nonneg i), Int.tdiv_eq_ediv_of_nonneg (Int.natCast_nonneg i), Int.tmod_eq_emod_of_nonneg (Int.natCast_nonneg i), ← Int.natCast_ediv, ← Int.natCast_ediv, ← Int.natCast_emod, hq, hq2, Int.tmod_eq_emod_of_nonneg (Int.natCast_nonneg _), ← Int.natCast_emod]
    rw [show ((0 : Nat) : Int) = 0 from rfl] at e
    rw [e]
    have := ih (i + 1) (k - many - 1) (tv.set i (kernv gv av step rows long wid many i)) (by omega) (by simpa using hl) (by rw [set_take' tv i _ (by omega), ht, tab_succ]) (by omega)
    rw [Int.natCast_add] at this
    exact this
theorem rKern_l3 {gv av : List Int} {step rows long wid many outs : Nat} (S : KernS gv av step rows long wid many outs) (o c w : Nat) (ho : o < outs) (hc : c < rows) (hw : w < wid) (gd ad td tv : List Int) (hi : (o * rows + c) * wid + w < tv.length) (hi4 : tv.length ≤ 5000) :
    ∀ (d n k : Nat) (g : Bool) (m0 m1 m2 m3 X B : Int), n + d = many → nok g m0 m1 m2 m3 X → -B ≤ X → X ≤ B → B + d * 85070591730234615865843651857942052864 ≤ 1532495540865888858358347027150309183618739122183602176 → d + 5 ≤ k →
    carouselref5_BackKernel.l3 k step wid outs many rows long o c w n gd gv ad av td tv g m0 m1 m2 m3 = carouselref5_BackKernel.l2 (k - d - 1) step wid outs many rows long o c ((w : Int) + 1) gd gv ad av td (tv.set ((o * rows + c) * wid + w) (hold (X + (ksum gv av step long many o c w - sumN n (kT gv av step long many o c w))))) := by
  have w4 := S.sides
  have oc := idxA ho hc
  intro d
  induction d with
  | zero =>
    intro n k g m0 m1 m2 m3 X B hn hs b1 b2 hB hk
    obtain ⟨k, rfl⟩ : ∃ m, k = m + 1 := ⟨k - 1, by omega⟩
    obtain ⟨r0, r1, r2, r3, e1, e2⟩ := NHeld_f hs k (by omega)
    simp only [carouselref5_BackKernel.l3]
    rw [if_neg (by omega), e1, Option.bind_some]
    simp only []
    rw [e2, Option.bind_some, wK o rows c wid w (by omega) (by omega), if_pos (Int.natCast_nonneg ((o * rows + c) * wid + w)), if_pos (show (((o * rows + c) * wid + w : Nat) : Int) < (tv.length : Int) by omega), w64 (x := (w : Int) + 1) (by omega) (by omega), show n = many by omega, Int.toNat_natCast]
    unfold ksum
    rw [Int.sub_self, Int.add_zero]
    rfl
  | succ d ih =>
    intro n k g m0 m1 m2 m3 X B hn hs b1 b2 hB hk
    obtain ⟨k, rfl⟩ : ∃ m, k = m + 1 := ⟨k - 1, by omega⟩
    have tb := kT_bd S.ha S.hk step long many o c w n
    have l1 := S.g4
    have l2 := S.k4
    have e1 := S.la
    have e2 := S.lk
    have hi' := S.gi ho (show n < many by omega)
    have hj := S.ai hc (show n < many by omega) hw
    obtain ⟨h, q0, q1, q2, q3, t0, t1, t2, t3, u, et, ep, ht⟩ := NPlus_f hs (by unfold xok; omega) (rd_ok S.ha ((o * many + n : Nat) : Int)) (rd_ok S.hk ((c * long + n * step + w : Nat) : Int))
    have eu := ih (n + 1) k h t0 t1 t2 t3 _ (B + 85070591730234615865843651857942052864) (by omega) ht (by unfold kT at tb; omega) (by unfold kT at tb; omega) (by rw [Int.natCast_add] at hB; omega) (by omega)
    have es : sumN (n + 1) (kT gv av step long many o c w) = sumN n (kT gv av step long many o c w) + rd gv ((o * many + n : Nat) : Int) * rd av ((c * long + n * step + w : Nat) : Int) := rfl
    rw [es] at eu
    rw [show X + (ksum gv av step long many o c w - sumN n (kT gv av step long many o c w)) = X + rd gv ((o * many + n : Nat) : Int) * rd av ((c * long + n * step + w : Nat) : Int) + (ksum gv av step long many o c w - (sumN n (kT gv av step long many o c w) + rd gv ((o * many + n : Nat) : Int) * rd av ((c * long + n * step + w : Nat) : Int))) by omega]
    simp only [carouselref5_BackKernel.l3]
    rw [if_pos (by omega), wI o many n (by omega), wA c long n step w (by omega), if_pos (Int.natCast_nonneg _), if_pos (by omega), if_pos (Int.natCast_nonneg _), if_pos (by omega), et, Option.bind_some]
    simp only []
    rw [ep, Option.bind_some, w64 (x := (n : Int) + 1) (by omega) (by omega)]
    rw [Int.natCast_add] at eu
    rw [show k + 1 - (d + 1) - 1 = k - d - 1 by omega]
    exact eu
theorem kernv_at {gv av : List Int} {step rows long wid many outs : Nat} {o c w : Nat} (hc : c < rows) (hw : w < wid) : kernv gv av step rows long wid many ((o * rows + c) * wid + w) = hold (ksum gv av step long many o c w) := by
  have e1 : ((o * rows + c) * wid + w) % wid = w := by rw [Nat.add_comm, Nat.add_mul_mod_self_right, Nat.mod_eq_of_lt hw]
  have e2 : ((o * rows + c) * wid + w) / wid = o * rows + c := by rw [Nat.add_comm, Nat.add_mul_div_right _ _ (by omega), Nat.div_eq_of_lt hw, Nat.zero_add]
  unfold kernv
  rw [Nat.mul_comm rows wid, ← Nat.div_div_eq_div_mul, e1, e2, Nat.add_comm (o * rows) c, Nat.add_mul_div_right _ _ (by omega), Nat.div_eq_of_lt hc, Nat.zero_add, Nat.add_mul_mod_self_right, Nat.mod_eq_of_lt hc]
theorem rKern_l2 {gv av : List Int} {step rows long wid many outs : Nat} (S : KernS gv av step rows long wid many outs) (o c : Nat) (ho : o < outs) (hc : c < rows) (gd ad td : List Int) :
    ∀ (d w k : Nat) (tv : List Int), w + d = wid → tv.length = outs * rows * wid → tv.take ((o * rows + c) * wid + w) = tab ((o * rows + c) * wid + w) (kernv gv av step rows long wid many) → d * (many + 10) + 10 ≤ k →
    ∃ tv' k', k - d * (many + 2) - 1 ≤ k' ∧ tv'.length = outs * rows * wid ∧ tv'.take ((o * rows + (c + 1)) * wid) = tab ((o * rows + (c + 1)) * wid) (kernv gv av step rows long wid many) ∧
      carouselref5_BackKernel.l2 k step wid outs many rows long o c w gd gv ad av td tv = carouselref5_BackKernel.l1 k' step wid outs many rows long o ((c : Int) + 1) gd gv ad av td tv' := by
  have m4 := S.r4
  have w4 := S.sides
  have oc := idxA ho hc
  intro d
  induction d with
  | zero =>
    intro w k tv hn hl ht hk
    obtain ⟨k, rfl⟩ : ∃ m, k = m + 1 := ⟨k - 1, by omega⟩
    have e0 : (o * rows + (c + 1)) * wid = (o * rows + c) * wid + w := by rw [← Nat.add_assoc, Nat.add_mul, Nat.one_mul]; omega
    refine ⟨tv, k, by omega, hl, ?_, ?_⟩
    · rw [e0]; exact ht
    · simp only [carouselref5_BackKernel.l2]
      rw [if_neg (by omega), w64 (x := (c : Int) + 1) (by omega) (by omega)]
  | succ d ih =>
    intro w k tv hn hl ht hk
    obtain ⟨k, rfl⟩ : ∃ m, k = m + 1 := ⟨k - 1, by omega⟩
    have hk2 : d * (many + 10) + (many + 10) + 10 ≤ k + 1 := by rw [Nat.add_mul, Nat.one_mul] at hk; omega
    have hx := idxA oc (show w < wid by omega)
    have e := rKern_l3 S o c w ho hc (by omega) gd ad td tv (by omega) (by omega) many 0 k false 0 0 0 0 0 0 (by omega) ⟨by unfold Bn.ok; omega, rfl⟩ (by omega) (by omega) (by omega) (by omega)
    simp only [sumN, Int.sub_zero, Int.zero_add] at e
    rw [← kernv_at (outs := outs) hc (show w < wid by omega)] at e
    have hk4 : d * (many + 10) = d * (many + 2) + d * 8 := by rw [← Nat.mul_add]
    obtain ⟨tv', k'', hk'', hl', ht', e'⟩ := ih (w + 1) (k - many - 1) (tv.set ((o * rows + c) * wid + w) (kernv gv av step rows long wid many ((o * rows + c) * wid + w))) (by omega) (by simpa using hl) (by rw [← Nat.add_assoc ((o * rows + c) * wid), set_take' tv _ _ (by omega), ht, tab_succ]) (by omega)
    refine ⟨tv', k'', by rw [Nat.add_mul, Nat.one_mul]; omega, hl', ht', ?_⟩
    simp only [carouselref5_BackKernel.l2]
    rw [if_pos (by omega)]
    rw [show ((0 : Nat) : Int) = 0 from rfl] at e
    rw [e]
    rw [Int.natCast_add] at e'
    exact e'
theorem rKern_l1 {gv av : List Int} {step rows long wid many outs : Nat} (S : KernS gv av step rows long wid many outs) (o : Nat) (ho : o < outs) (gd ad td : List Int) :
    ∀ (d c k : Nat) (tv : List Int), c + d = rows → tv.length = outs * rows * wid → tv.take ((o * rows + c) * wid) = tab ((o * rows + c) * wid) (kernv gv av step rows long wid many) → d * (wid * (many + 10) + 20) + 20 ≤ k →
    ∃ tv' k', k - d * (wid * (many + 10) + 2) - 1 ≤ k' ∧ tv'.length = outs * rows * wid ∧ tv'.take ((o + 1) * rows * wid) = tab ((o + 1) * rows * wid) (kernv gv av step rows long wid many) ∧
      carouselref5_BackKernel.l1 k step wid outs many rows long o c gd gv ad av td tv = carouselref5_BackKernel.l0 k' step wid outs many rows long ((o : Int) + 1) gd gv ad av td tv' := by
  have m4 := S.r4
  have w4 := S.sides
  intro d
  induction d with
  | zero =>
    intro c k tv hn hl ht hk
    obtain ⟨k, rfl⟩ : ∃ m, k = m + 1 := ⟨k - 1, by omega⟩
    have e0 : (o + 1) * rows = o * rows + c := by rw [Nat.add_mul, Nat.one_mul]; omega
    refine ⟨tv, k, by omega, hl, ?_, ?_⟩
    · rw [e0]; exact ht
    · simp only [carouselref5_BackKernel.l1]
      rw [if_neg (by omega), w64 (x := (o : Int) + 1) (by omega) (by omega)]
  | succ d ih =>
    intro c k tv hn hl ht hk
    obtain ⟨k, rfl⟩ : ∃ m, k = m + 1 := ⟨k - 1, by omega⟩
    have hk2 : d * (wid * (many + 10) + 20) + (wid * (many + 10) + 20) + 20 ≤ k + 1 := by rw [Nat.add_mul, Nat.one_mul] at hk; omega
    have hk3 : wid * (many + 2) ≤ wid * (many + 10) := Nat.mul_le_mul_left _ (by omega)
    have hk4 : d * (wid * (many + 10) + 20) = d * (wid * (many + 10) + 2) + d * 18 := by rw [← Nat.mul_add]
    obtain ⟨tv1, k1, hk1, hl1, ht1, e⟩ := rKern_l2 S o c ho (by omega) gd ad td wid 0 k tv (by omega) hl ht (by omega)
    obtain ⟨tv', k'', hk'', hl', ht', e'⟩ := ih (c + 1) k1 tv1 (by omega) hl1 ht1 (by omega)
    refine ⟨tv', k'', by rw [Nat.add_mul, Nat.one_mul]; omega, hl', ht', ?_⟩
    simp only [carouselref5_BackKernel.l1]
    rw [if_pos (by omega)]
    rw [show ((0 : Nat) : Int) = 0 from rfl] at e
    rw [e]
    rw [Int.natCast_add] at e'
    exact e'
theorem rKern_l0 {gv av : List Int} {step rows long wid many outs : Nat} (S : KernS gv av step rows long wid many outs) (gd ad td : List Int) :
    ∀ (d o k : Nat) (tv : List Int), o + d = outs → tv.length = outs * rows * wid → tv.take (o * rows * wid) = tab (o * rows * wid) (kernv gv av step rows long wid many) → d * (rows * (wid * (many + 10) + 20) + 30) + 30 ≤ k →
    carouselref5_BackKernel.l0 k step wid outs many rows long o gd gv ad av td tv = some (td, tab (outs * rows * wid) (kernv gv av step rows long wid many), 0) := by
  intro d
  induction d with
  | zero =>
    intro o k tv ho hl ht hk
    obtain ⟨k, rfl⟩ : ∃ m, k = m + 1 := ⟨k - 1, by omega⟩
    have : o = outs := by omega
    subst this
    simp only [carouselref5_BackKernel.l0]
    rw [if_neg (by omega), ← ht, List.take_of_length_le (by omega)]
  | succ d ih =>
    intro o k tv ho hl ht hk
    obtain ⟨k, rfl⟩ : ∃ m, k = m + 1 := ⟨k - 1, by omega⟩
    have hk2 : d * (rows * (wid * (many + 10) + 20) + 30) + (rows * (wid * (many + 10) + 20) + 30) + 30 ≤ k + 1 := by rw [Nat.add_mul, Nat.one_mul] at hk; omega
    have hk3 : rows * (wid * (many + 10) + 2) ≤ rows * (wid * (many + 10) + 20) := Nat.mul_le_mul_left _ (by omega)
    obtain ⟨tv', k', hk', hl', ht', e⟩ := rKern_l1 S o (by omega) gd ad td rows 0 k tv (by omega) hl ht (by omega)
    simp only [carouselref5_BackKernel.l0]
    rw [if_pos (by omega)]
    rw [show ((0 : Nat) : Int) = 0 from rfl] at e
    rw [e]
    have := ih (o + 1) k' tv' (by omega) hl' ht' (by omega)
    rw [Int.natCast_add] at this
    exact this
def tback (gd gv kd kv : List Int) (s long : Int) : List Int × List Int × Int :=
  if gt gd gv = true ∧ gt kd kv = true ∧ 1 ≤ s ∧ s ≤ 64 ∧ 1 ≤ long ∧ long ≤ 4096 then
    (if gd.length = 2 ∧ kd.length = 3 ∧ rd kd 0 = rd gd 0 ∧ rd kd 2 ≤ long ∧ rd gd 1 = wins long (rd kd 2) s then
      tens0 [rd kd 1, long] (backv gv kv s.toNat (rd kd 1).toNat long.toNat (rd kd 2).toNat (rd gd 1).toNat (rd kd 0).toNat)
     else ([], [], 4))
  else ([], [], 1)
theorem back_sides {gd gv kd kv : List Int} {s long : Int} (ha : ∀ x ∈ gv, Fx.ok x) (hk : ∀ x ∈ kv, Fx.ok x) (h1 : gt gd gv = true) (h2 : gt kd kv = true) (s1 : 1 ≤ s) (s2 : s ≤ 64) (t1 : 1 ≤ long) (t2 : long ≤ 4096) (l1 : gd.length = 2) (l2 : kd.length = 3) (e : rd kd 0 = rd gd 0) :
    ∃ step rows lng wid many outs : Nat, s = step ∧ rd gd 0 = outs ∧ rd gd 1 = many ∧ rd kd 1 = rows ∧ rd kd 2 = wid ∧ long = lng ∧ 1 ≤ step ∧ step ≤ 64 ∧ many ≤ 4096 ∧ 1 ≤ many ∧ lng ≤ 4096 ∧ 1 ≤ wid ∧ wid ≤ 4096 ∧ outs ≤ 4096 ∧ rows ≤ 4096 ∧
      (Shp.good [rd kd 1, long] = true → BackS gv kv step rows lng wid many outs) := by
  obtain ⟨g1, v1⟩ := gt_parts h1
  obtain ⟨g2, v2⟩ := gt_parts h2
  rw [two_of' l1] at g1 v1
  rw [three_of' l2] at g2 v2
  obtain ⟨a1, a2, a3, a4⟩ := good2 g1
  obtain ⟨b1, b2, b3, b4, b5⟩ := good3 g2
  obtain ⟨c1, c2⟩ := le_mul_l a1 a2 a3
  have b6 : 0 < rd kd 1 * rd kd 2 := Int.mul_pos (by omega) (by omega)
  obtain ⟨d1, d2⟩ := le_mul_l b1 b6 b4
  obtain ⟨d3, d4⟩ := le_mul_l b2 b3 d2
  rw [e] at b1 b4 b5
  generalize rd gd 0 = o at *
  generalize rd gd 1 = m at *
  generalize rd kd 1 = r at *
  generalize rd kd 2 = w' at *
  obtain ⟨step, rfl⟩ := Int.eq_ofNat_of_zero_le (show 0 ≤ s by omega)
  obtain ⟨rows, rfl⟩ := Int.eq_ofNat_of_zero_le (show 0 ≤ r by omega)
  obtain ⟨lng, rfl⟩ := Int.eq_ofNat_of_zero_le (show 0 ≤ long by omega)
  obtain ⟨outs, rfl⟩ := Int.eq_ofNat_of_zero_le (show 0 ≤ o by omega)
  obtain ⟨wid, rfl⟩ := Int.eq_ofNat_of_zero_le (show 0 ≤ w' by omega)
  obtain ⟨many, rfl⟩ := Int.eq_ofNat_of_zero_le (show 0 ≤ m by omega)
  refine ⟨step, rows, lng, wid, many, outs, rfl, rfl, rfl, rfl, rfl, rfl, by omega, by omega, by omega, by omega, by omega, by omega, by omega, by omega, by omega, fun hg => ?_⟩
  obtain ⟨_, _, m3, _⟩ := good2 hg
  have k3 : ((outs * rows * wid : Nat) : Int) = (outs : Int) * ((rows : Int) * (wid : Int)) := by
    rw [Int.natCast_mul, Int.natCast_mul, Int.mul_assoc]
  have k1 : ((rows * lng : Nat) : Int) = (rows : Int) * (lng : Int) := by simp
  have k2 : ((outs * many : Nat) : Int) = (outs : Int) * (many : Int) := by simp
  rw [e] at v2
  exact ⟨ha, hk, by omega, by omega, by omega, by omega, by omega, by omega, by omega, by omega, by omega, by omega, by omega, by omega⟩
theorem cBack_f (gd gv kd kv : List Int) (s long : Int) (ha : ∀ x ∈ gv, Fx.ok x) (hk : ∀ x ∈ kv, Fx.ok x) (k : Nat) (hK : 60000000 ≤ k) : conv_BackIn.f k gd gv kd kv s long = some (tback gd gv kd kv s long) := by
  have oth : ∀ k, conv_BackIn.j0 (k + 1) s long true gd gv kd kv = some ([], [], 1) := fun k => by simp only [conv_BackIn.j0]; rw [if_pos trivial]
  obtain ⟨k, rfl⟩ : ∃ m, k = m + 1 := ⟨k - 1, by omega⟩
  unfold conv_BackIn.f tback
  rw [tGood_f gd gv _ (by omega), Option.bind_some]
  by_cases h1 : gt gd gv = true
  rotate_left
  · rw [if_neg h1, oth, if_neg (fun h => h1 h.1)]
  have h1' : (Shp.good gd && decide ((gv.length : Int) = Shp.siz gd)) = true := h1
  rw [if_pos h1', tGood_f kd kv _ (by omega), Option.bind_some]
  by_cases h2 : gt kd kv = true
  rotate_left
  · rw [if_neg h2, oth, if_neg (fun h => h2 h.2.1)]
  have h2' : (Shp.good kd && decide ((kv.length : Int) = Shp.siz kd)) = true := h2
  rw [if_pos h2']
  unfold conv_stepGood.f
  by_cases s1 : s ≥ 1
  rotate_left
  · rw [if_neg s1, if_neg (fun h => s1 h.2.2.1)]; exact oth k
  rw [if_pos s1, Option.bind_some]
  by_cases s2 : s ≤ 64
  rotate_left
  · rw [decide_eq_false s2, if_neg (c := false = true) (by simp), if_neg (fun h => s2 h.2.2.2.1)]; exact oth k
  rw [decide_eq_true s2, if_pos rfl]
  unfold conv_sized.f
  by_cases t1 : long ≥ 1
  rotate_left
  · rw [if_neg t1, if_neg (fun h => t1 h.2.2.2.2.1)]; exact oth k
  rw [if_pos t1, Option.bind_some]
  by_cases t2 : long ≤ 4096
  rotate_left
  · rw [decide_eq_false t2, if_neg (fun h => t2 h.2.2.2.2.2)]; exact oth k
  rw [decide_eq_true t2, if_pos (c := _ ∧ _) ⟨h1, h2, s1, s2, t1, t2⟩]
  simp only [Bool.not_true, conv_BackIn.j0]
  rw [if_neg (by simp)]
  by_cases l1 : gd.length = 2
  rotate_left
  · rw [if_neg (by omega), if_neg (fun h => l1 h.1)]
  rw [if_pos (by omega)]
  by_cases l2 : kd.length = 3
  rotate_left
  · rw [if_neg (by omega), if_neg (fun h => l2 h.2.1)]
  rw [if_pos (by omega), if_pos (by omega), if_pos (by omega)]
  by_cases e : rd kd 0 = rd gd 0
  rotate_left
  · rw [if_neg e, if_neg (fun h => e h.2.2.1)]
  rw [if_pos e, if_pos (by omega)]
  obtain ⟨step, rows, lng, wid, many, outs, e1, e2, e3, e4, e5, e6, z1, z2, z3, z4, z5, z6, z7, z8, z9, hS⟩ := back_sides ha hk h1 h2 s1 s2 t1 t2 l1 l2 e
  by_cases w : rd kd 2 ≤ long
  rotate_left
  · have ewin : conv_windows.f long (rd kd 2) s = some 0 := by
      unfold conv_windows.f
      rw [if_pos (by omega)]
    rw [ewin, Option.bind_some, if_pos (by omega), if_neg (by omega), if_neg (fun h => w h.2.2.2.1)]
  have q0 := Nat.div_le_self (lng - wid) step
  have ew : wins long (rd kd 2) s = (((lng - wid) / step + 1 : Nat) : Int) := by
    unfold wins
    rw [e1, e5, e6, show (lng : Int) - (wid : Int) = ((lng - wid : Nat) : Int) by omega, ← Int.natCast_ediv]
    rfl
  obtain ⟨q, hq⟩ : ∃ q, q = (lng - wid) / step := ⟨_, rfl⟩
  rw [← hq] at q0 ew
  clear hq
  have ewin : conv_windows.f long (rd kd 2) s = some (wins long (rd kd 2) s) := by
    unfold conv_windows.f
    have hdn : (long - rd kd 2).tdiv s = (long - rd kd 2) / s := Int.tdiv_eq_ediv_of_nonneg (by omega)
    unfold wins at ew
    rw [if_neg (by omega), if_neg (by omega), w64 (x := long - rd kd 2) (by omega) (by omega), hdn, w64 (x := (long - rd kd 2) / s) (by omega) (by omega), w64 (by omega) (by omega)]
    rfl
  rw [ewin, Option.bind_some, if_pos (by omega)]
  clear ewin
  by_cases c : rd gd 1 = wins long (rd kd 2) s
  rotate_left
  · rw [if_neg (fun h => c h.symm), if_neg (fun h => c h.2.2.2.2)]
  rw [if_pos c.symm, if_pos (by omega), if_pos (c := _ ∧ _) ⟨l1, l2, e, w, c⟩]
  unfold conv_of.f
  rw [tNew_f _ _ _ (by omega), Option.bind_some]
  unfold tnew tens0
  by_cases hg : Shp.good [rd kd 1, long] = true
  rotate_left
  · rw [if_neg hg, if_neg hg]; rfl
  have S := hS hg
  obtain ⟨_, _, m3, m4⟩ := good2 hg
  rw [if_pos hg, if_pos hg]
  simp only [if_true, Option.bind_some]
  rw [m4, e, e1, e2, e3, e4, e5, e6]
  simp only [Int.toNat_natCast]
  rw [show ((rows : Int) * (lng : Int)).toNat = rows * lng by rw [show (rows : Int) * (lng : Int) = ((rows * lng : Nat) : Int) by simp]; rfl, List.length_replicate]
  have kb : rows * lng * (outs * (wid + 2) + 10) ≤ 4096 * (4096 * 3 + 10) := Nat.mul_le_mul S.r4 (by
    have a := Nat.mul_le_mul_right wid (Nat.mul_le_mul_left outs S.p1)
    have := S.k4
    have := S.sides
    rw [Nat.mul_one] at a
    have c : outs * (wid + 2) = outs * wid + outs * 2 := Nat.mul_add ..
    omega)
  have := Back_l0 S gd kd [(rows : Int), (lng : Int)] (rows * lng) 0 k (List.replicate (rows * lng) 0) (by omega) (by simp) (by simp [tab]) (by omega)
  rw [show ((0 : Nat) : Int) = 0 from rfl] at this
  exact this
theorem rBack_f (gd gv kd kv : List Int) (s long : Int) (ha : ∀ x ∈ gv, Fx.ok x) (hk : ∀ x ∈ kv, Fx.ok x) (k : Nat) (hK : 80000000 ≤ k) : carouselref5_BackIn.f k gd gv kd kv s long = some (tback gd gv kd kv s long) := by
  have oth : ∀ k, carouselref5_BackIn.j0 (k + 1) s long true gd gv kd kv = some ([], [], 1) := fun k => by simp only [carouselref5_BackIn.j0]; rw [if_pos trivial]
  have oth2 : ∀ k, carouselref5_BackIn.j1 (k + 1) s long true gd gv kd kv = some ([], [], 4) := fun k => by simp only [carouselref5_BackIn.j1]; rw [if_pos trivial]
  obtain ⟨k, rfl⟩ : ∃ m, k = m + 2 := ⟨k - 2, by omega⟩
  unfold carouselref5_BackIn.f tback
  rw [rIs_f gd gv _ (by omega), Option.bind_some]
  by_cases h1 : gt gd gv = true
  rotate_left
  · rw [if_neg h1, if_neg (fun h => h1 h.1)]; exact oth _
  have h1' : (Shp.good gd && decide ((gv.length : Int) = Shp.siz gd)) = true := h1
  rw [if_pos h1', rIs_f kd kv _ (by omega), Option.bind_some]
  by_cases h2 : gt kd kv = true
  rotate_left
  · rw [if_neg h2, if_neg (fun h => h2 h.2.1)]; exact oth _
  have h2' : (Shp.good kd && decide ((kv.length : Int) = Shp.siz kd)) = true := h2
  rw [if_pos h2']
  by_cases s1 : s < 1
  · rw [if_pos s1, if_neg (fun h => by have := h.2.2.1; omega)]; exact oth _
  rw [if_neg s1]
  by_cases s2 : s > 64
  · rw [if_pos s2, if_neg (fun h => by have := h.2.2.2.1; omega)]; exact oth _
  rw [if_neg s2]
  by_cases t1 : long < 1
  · rw [if_pos t1, if_neg (fun h => by have := h.2.2.2.2.1; omega)]; exact oth _
  rw [if_neg t1]
  by_cases t2 : long > 4096
  · rw [decide_eq_true t2, if_neg (fun h => by have := h.2.2.2.2.2; omega)]; exact oth _
  rw [decide_eq_false t2, if_pos (c := _ ∧ _) ⟨h1, h2, by omega, by omega, by omega, by omega⟩]
  simp only [carouselref5_BackIn.j0]
  rw [if_neg (by simp)]
  by_cases l1 : gd.length = 2
  rotate_left
  · rw [if_neg (by omega), if_neg (fun h => l1 h.1)]; exact oth2 k
  rw [if_pos (by omega)]
  by_cases l2 : kd.length = 3
  rotate_left
  · rw [if_neg (by omega), if_neg (fun h => l2 h.2.1)]; exact oth2 k
  rw [if_pos (by omega), if_pos (by omega), if_pos (by omega)]
  by_cases e : rd gd 0 = rd kd 0
  rotate_left
  · rw [if_neg e, if_neg (fun h => e h.2.2.1.symm)]; exact oth2 k
  rw [if_pos e, if_pos (by omega)]
  obtain ⟨step, rows, lng, wid, many, outs, e1, e2, e3, e4, e5, e6, z1, z2, z3, z4, z5, z6, z7, z8, z9, hS⟩ := back_sides (s := s) (long := long) ha hk h1 h2 (by omega) (by omega) (by omega) (by omega) l1 l2 e.symm
  by_cases w : rd kd 2 ≤ long
  rotate_left
  · rw [if_pos (by omega), if_neg (fun h => w h.2.2.2.1)]; exact oth2 k
  rw [if_neg (by omega), if_pos (by omega), if_neg (by omega)]
  have q0 := Nat.div_le_self (lng - wid) step
  have ew : wins long (rd kd 2) s = (((lng - wid) / step + 1 : Nat) : Int) := by
    unfold wins
    rw [e1, e5, e6, show (lng : Int) - (wid : Int) = ((lng - wid : Nat) : Int) by omega, ← Int.natCast_ediv]
    rfl
  obtain ⟨q, hq⟩ : ∃ q, q = (lng - wid) / step := ⟨_, rfl⟩
  rw [← hq] at q0 ew
  clear hq
  have ewin : wrap64 (wrap64 (Int.tdiv (wrap64 (long - rd kd 2)) s) + 1) = wins long (rd kd 2) s := by
    have hdn : (long - rd kd 2).tdiv s = (long - rd kd 2) / s := Int.tdiv_eq_ediv_of_nonneg (by omega)
    unfold wins at ew
    rw [w64 (x := long - rd kd 2) (by omega) (by omega), hdn, w64 (x := (long - rd kd 2) / s) (by omega) (by omega), w64 (by omega) (by omega)]
    rfl
  rw [ewin]
  clear ewin
  by_cases c : rd gd 1 = wins long (rd kd 2) s
  rotate_left
  · rw [show (rd gd 1 != wins long (rd kd 2) s) = true by simpa using c, if_neg (fun h => c h.2.2.2.2)]; exact oth2 k
  rw [show (rd gd 1 != wins long (rd kd 2) s) = false by simpa using c, if_pos (c := _ ∧ _) ⟨l1, l2, e.symm, w, c⟩]
  simp only [carouselref5_BackIn.j1]
  rw [if_neg (by simp), if_pos (by omega), if_pos (by omega), if_pos (by omega), if_pos (by omega), rGood_f _ _ (by omega), Option.bind_some]
  unfold tens0
  by_cases hg : Shp.good [rd kd 1, long] = true
  rotate_left
  · rw [if_neg hg, if_neg hg]
  have S := hS hg
  obtain ⟨_, _, m3, m4⟩ := good2 hg
  rw [if_pos hg, if_pos hg, rNew_f _ _ (by simp) _ (by omega), Option.bind_some]
  simp only []
  rw [m4, ← e, e1, e2, e3, e4, e5, e6]
  simp only [Int.toNat_natCast]
  rw [show ((rows : Int) * (lng : Int)).toNat = rows * lng by rw [show (rows : Int) * (lng : Int) = ((rows * lng : Nat) : Int) by simp]; rfl]
  have kb : rows * (lng * (many * (outs + 3) + 10) + 20) ≤ 4096 * (4096 * 4 + 10) + 4096 * 20 := by
    rw [Nat.mul_add, ← Nat.mul_assoc]
    have h0 : rows * lng * (many * (outs + 3) + 10) ≤ 4096 * (4096 * 4 + 10) := Nat.mul_le_mul S.r4 (by
      have := S.g4
      have := S.sides
      have c : many * (outs + 3) = outs * many + many * 3 := by rw [Nat.mul_add, Nat.mul_comm many outs]
      omega)
    have := S.sides
    omega
  have := rBack_l0 S gd kd [(rows : Int), (lng : Int)] rows 0 k (List.replicate (rows * lng) 0) (by omega) (by simp) (by simp [tab]) (by omega)
  rw [show ((0 : Nat) : Int) = 0 from rfl] at this
  exact this
def tkern (gd gv ad av : List Int) (s w : Int) : List Int × List Int × Int :=
  if gt gd gv = true ∧ gt ad av = true ∧ 1 ≤ s ∧ s ≤ 64 ∧ 1 ≤ w ∧ w ≤ 4096 then
    (if gd.length = 2 ∧ ad.length = 2 ∧ w ≤ rd ad 1 ∧ rd gd 1 = wins (rd ad 1) w s then
      tens0 [rd gd 0, rd ad 0, w] (kernv gv av s.toNat (rd ad 0).toNat (rd ad 1).toNat w.toNat (rd gd 1).toNat)
     else ([], [], 4))
  else ([], [], 1)
theorem kern_sides {gd gv ad av : List Int} {s w : Int} (ha : ∀ x ∈ gv, Fx.ok x) (hk : ∀ x ∈ av, Fx.ok x) (h1 : gt gd gv = true) (h2 : gt ad av = true) (s1 : 1 ≤ s) (s2 : s ≤ 64) (t1 : 1 ≤ w) (t2 : w ≤ 4096) (l1 : gd.length = 2) (l2 : ad.length = 2) (hw : w ≤ rd ad 1) :
    ∃ step rows long wid many outs : Nat, s = step ∧ rd gd 0 = outs ∧ rd gd 1 = many ∧ rd ad 0 = rows ∧ rd ad 1 = long ∧ w = wid ∧ wins (rd ad 1) w s = (((long - wid) / step + 1 : Nat) : Int) ∧ 1 ≤ step ∧ step ≤ 64 ∧ many ≤ 4096 ∧ 1 ≤ many ∧ long ≤ 4096 ∧ 1 ≤ wid ∧ wid ≤ long ∧ outs ≤ 4096 ∧ 1 ≤ outs ∧ rows ≤ 4096 ∧ 1 ≤ rows ∧
      (rd gd 1 = wins (rd ad 1) w s → Shp.good [rd gd 0, rd ad 0, w] = true → KernS gv av step rows long wid many outs) := by
  obtain ⟨g1, v1⟩ := gt_parts h1
  obtain ⟨g2, v2⟩ := gt_parts h2
  rw [two_of' l1] at g1 v1
  rw [two_of' l2] at g2 v2
  obtain ⟨a1, a2, a3, a4⟩ := good2 g1
  obtain ⟨b1, b2, b3, b4⟩ := good2 g2
  obtain ⟨c1, c2⟩ := le_mul_l a1 a2 a3
  obtain ⟨d1, d2⟩ := le_mul_l b1 b2 b3
  generalize rd gd 0 = o at *
  generalize rd gd 1 = m at *
  generalize rd ad 0 = r at *
  generalize rd ad 1 = l at *
  obtain ⟨step, rfl⟩ := Int.eq_ofNat_of_zero_le (show 0 ≤ s by omega)
  obtain ⟨rows, rfl⟩ := Int.eq_ofNat_of_zero_le (show 0 ≤ r by omega)
  obtain ⟨long, rfl⟩ := Int.eq_ofNat_of_zero_le (show 0 ≤ l by omega)
  obtain ⟨outs, rfl⟩ := Int.eq_ofNat_of_zero_le (show 0 ≤ o by omega)
  obtain ⟨wid, rfl⟩ := Int.eq_ofNat_of_zero_le (show 0 ≤ w by omega)
  obtain ⟨many, rfl⟩ := Int.eq_ofNat_of_zero_le (show 0 ≤ m by omega)
  have q0 := Nat.div_le_self (long - wid) step
  have ew : wins (long : Int) (wid : Int) (step : Int) = (((long - wid) / step + 1 : Nat) : Int) := by
    unfold wins
    rw [show (long : Int) - (wid : Int) = ((long - wid : Nat) : Int) by omega, ← Int.natCast_ediv]
    rfl
  refine ⟨step, rows, long, wid, many, outs, rfl, rfl, rfl, rfl, rfl, rfl, ew, by omega, by omega, by omega, by omega, by omega, by omega, by omega, by omega, by omega, by omega, by omega, fun hm hg => ?_⟩
  rw [ew] at hm
  obtain ⟨_, _, _, m3, _⟩ := good3 hg
  have k3 : ((outs * rows * wid : Nat) : Int) = (outs : Int) * ((rows : Int) * (wid : Int)) := by
    rw [Int.natCast_mul, Int.natCast_mul, Int.mul_assoc]
  have k1 : ((rows * long : Nat) : Int) = (rows : Int) * (long : Int) := by simp
  have k2 : ((outs * many : Nat) : Int) = (outs : Int) * (many : Int) := by simp
  exact ⟨ha, hk, by omega, by omega, by omega, by omega, by omega, by omega, by omega, by omega, by omega, by omega, fun n hn => by
    have h3 : n * step ≤ (long - wid) / step * step := Nat.mul_le_mul_right step (by omega)
    have h4 := Nat.div_mul_le_self (long - wid) step
    omega, by omega⟩
theorem cKern_f (gd gv ad av : List Int) (s w : Int) (ha : ∀ x ∈ gv, Fx.ok x) (hk : ∀ x ∈ av, Fx.ok x) (k : Nat) (hK : 60000000 ≤ k) : conv_BackKernel.f k gd gv ad av s w = some (tkern gd gv ad av s w) := by
  have oth : ∀ k, conv_BackKernel.j0 (k + 1) s w true gd gv ad av = some ([], [], 1) := fun k => by simp only [conv_BackKernel.j0]; rw [if_pos trivial]
  obtain ⟨k, rfl⟩ : ∃ m, k = m + 1 := ⟨k - 1, by omega⟩
  unfold conv_BackKernel.f tkern
  rw [tGood_f gd gv _ (by omega), Option.bind_some]
  by_cases h1 : gt gd gv = true
  rotate_left
  · rw [if_neg h1, oth, if_neg (fun h => h1 h.1)]
  have h1' : (Shp.good gd && decide ((gv.length : Int) = Shp.siz gd)) = true := h1
  rw [if_pos h1', tGood_f ad av _ (by omega), Option.bind_some]
  by_cases h2 : gt ad av = true
  rotate_left
  · rw [if_neg h2, oth, if_neg (fun h => h2 h.2.1)]
  have h2' : (Shp.good ad && decide ((av.length : Int) = Shp.siz ad)) = true := h2
  rw [if_pos h2']
  unfold conv_stepGood.f
  by_cases s1 : s ≥ 1
  rotate_left
  · rw [if_neg s1, if_neg (fun h => s1 h.2.2.1)]; exact oth k
  rw [if_pos s1, Option.bind_some]
  by_cases s2 : s ≤ 64
  rotate_left
  · rw [decide_eq_false s2, if_neg (c := false = true) (by simp), if_neg (fun h => s2 h.2.2.2.1)]; exact oth k
  rw [decide_eq_true s2, if_pos rfl]
  unfold conv_sized.f
  by_cases t1 : w ≥ 1
  rotate_left
  · rw [if_neg t1, if_neg (fun h => t1 h.2.2.2.2.1)]; exact oth k
  rw [if_pos t1, Option.bind_some]
  by_cases t2 : w ≤ 4096
  rotate_left
  · rw [decide_eq_false t2, if_neg (fun h => t2 h.2.2.2.2.2)]; exact oth k
  rw [decide_eq_true t2, if_pos (c := _ ∧ _) ⟨h1, h2, s1, s2, t1, t2⟩]
  simp only [Bool.not_true, conv_BackKernel.j0]
  rw [if_neg (by simp)]
  by_cases l1 : gd.length = 2
  rotate_left
  · rw [if_neg (by omega), if_neg (fun h => l1 h.1)]
  rw [if_pos (by omega)]
  by_cases l2 : ad.length = 2
  rotate_left
  · rw [if_neg (by omega), if_neg (fun h => l2 h.2.1)]
  rw [if_pos (by omega), if_pos (by omega)]
  by_cases hw : w ≤ rd ad 1
  rotate_left
  · have ewin : conv_windows.f (rd ad 1) w s = some 0 := by
      unfold conv_windows.f
      rw [if_pos (by omega)]
    obtain ⟨g1, v1⟩ := gt_parts h1
    rw [two_of' l1] at g1
    obtain ⟨a1, a2, a3, a4⟩ := good2 g1
    rw [ewin, Option.bind_some, if_pos (by omega), if_neg (by omega), if_neg (fun h => hw h.2.2.1)]
  obtain ⟨step, rows, long, wid, many, outs, e1, e2, e3, e4, e5, e6, ew, z1, z2, z3, z4, z5, z6, z7, z8, z9, z10, z11, hS⟩ := kern_sides ha hk h1 h2 s1 s2 t1 t2 l1 l2 hw
  have q0 := Nat.div_le_self (long - wid) step
  obtain ⟨q, hq⟩ : ∃ q, q = (long - wid) / step := ⟨_, rfl⟩
  rw [← hq] at q0 ew
  clear hq
  have ewin : conv_windows.f (rd ad 1) w s = some (wins (rd ad 1) w s) := by
    unfold conv_windows.f
    have hdn : (rd ad 1 - w).tdiv s = (rd ad 1 - w) / s := Int.tdiv_eq_ediv_of_nonneg (by omega)
    unfold wins at ew
    rw [if_neg (by omega), if_neg (by omega), w64 (x := rd ad 1 - w) (by omega) (by omega), hdn, w64 (x := (rd ad 1 - w) / s) (by omega) (by omega), w64 (by omega) (by omega)]
    rfl
  rw [ewin, Option.bind_some, if_pos (by omega)]
  clear ewin
  by_cases c : rd gd 1 = wins (rd ad 1) w s
  rotate_left
  · rw [if_neg (fun h => c h.symm), if_neg (fun h => c h.2.2.2)]
  rw [if_pos c.symm, if_pos (by omega), if_pos (c := _ ∧ _) ⟨l1, l2, hw, c⟩]
  unfold conv_of.f
  rw [tNew_f _ _ _ (by omega), Option.bind_some, if_pos (by omega)]
  unfold tnew tens0
  by_cases hg : Shp.good [rd gd 0, rd ad 0, w] = true
  rotate_left
  · rw [if_neg hg, if_neg hg]; rfl
  have S := hS c hg
  obtain ⟨_, _, _, m3, m4⟩ := good3 hg
  rw [if_pos hg, if_pos hg]
  simp only [if_true, Option.bind_some]
  rw [m4, e1, e2, e3, e4, e5, e6]
  simp only [Int.toNat_natCast]
  rw [show ((outs : Int) * ((rows : Int) * (wid : Int))).toNat = outs * rows * wid by rw [show (outs : Int) * ((rows : Int) * (wid : Int)) = ((outs * rows * wid : Nat) : Int) by rw [Int.natCast_mul, Int.natCast_mul, Int.mul_assoc]]; rfl, List.length_replicate]
  have kb : outs * rows * wid * (many + 10) ≤ 4096 * (4096 + 10) := Nat.mul_le_mul S.r4 (by omega)
  have := Kern_l0 S gd ad [(outs : Int), (rows : Int), (wid : Int)] (outs * rows * wid) 0 k (List.replicate (outs * rows * wid) 0) (by omega) (by simp) (by simp [tab]) (by omega)
  rw [show ((0 : Nat) : Int) = 0 from rfl] at this
  exact this
theorem rKern_f (gd gv ad av : List Int) (s w : Int) (ha : ∀ x ∈ gv, Fx.ok x) (hk : ∀ x ∈ av, Fx.ok x) (k : Nat) (hK : 80000000 ≤ k) : carouselref5_BackKernel.f k gd gv ad av s w = some (tkern gd gv ad av s w) := by
  have oth : ∀ k, carouselref5_BackKernel.j0 (k + 1) s w true gd gv ad av = some ([], [], 1) := fun k => by simp only [carouselref5_BackKernel.j0]; rw [if_pos trivial]
  have oth2 : ∀ k, carouselref5_BackKernel.j1 (k + 1) s w true gd gv ad av = some ([], [], 4) := fun k => by simp only [carouselref5_BackKernel.j1]; rw [if_pos trivial]
  obtain ⟨k, rfl⟩ : ∃ m, k = m + 2 := ⟨k - 2, by omega⟩
  unfold carouselref5_BackKernel.f tkern
  rw [rIs_f gd gv _ (by omega), Option.bind_some]
  by_cases h1 : gt gd gv = true
  rotate_left
  · rw [if_neg h1, if_neg (fun h => h1 h.1)]; exact oth _
  have h1' : (Shp.good gd && decide ((gv.length : Int) = Shp.siz gd)) = true := h1
  rw [if_pos h1', rIs_f ad av _ (by omega), Option.bind_some]
  by_cases h2 : gt ad av = true
  rotate_left
  · rw [if_neg h2, if_neg (fun h => h2 h.2.1)]; exact oth _
  have h2' : (Shp.good ad && decide ((av.length : Int) = Shp.siz ad)) = true := h2
  rw [if_pos h2']
  by_cases s1 : s < 1
  · rw [if_pos s1, if_neg (fun h => by have := h.2.2.1; omega)]; exact oth _
  rw [if_neg s1]
  by_cases s2 : s > 64
  · rw [if_pos s2, if_neg (fun h => by have := h.2.2.2.1; omega)]; exact oth _
  rw [if_neg s2]
  by_cases t1 : w < 1
  · rw [if_pos t1, if_neg (fun h => by have := h.2.2.2.2.1; omega)]; exact oth _
  rw [if_neg t1]
  by_cases t2 : w > 4096
  · rw [decide_eq_true t2, if_neg (fun h => by have := h.2.2.2.2.2; omega)]; exact oth _
  rw [decide_eq_false t2, if_pos (c := _ ∧ _) ⟨h1, h2, by omega, by omega, by omega, by omega⟩]
  simp only [carouselref5_BackKernel.j0]
  rw [if_neg (by simp)]
  by_cases l1 : gd.length = 2
  rotate_left
  · rw [if_neg (by omega), if_neg (fun h => l1 h.1)]; exact oth2 k
  rw [if_pos (by omega)]
  by_cases l2 : ad.length = 2
  rotate_left
  · rw [if_neg (by omega), if_neg (fun h => l2 h.2.1)]; exact oth2 k
  rw [if_pos (by omega), if_pos (by omega)]
  by_cases hw : w ≤ rd ad 1
  rotate_left
  · rw [if_pos (by omega), if_neg (fun h => hw h.2.2.1)]; exact oth2 k
  rw [if_neg (by omega), if_pos (by omega), if_neg (by omega)]
  obtain ⟨step, rows, long, wid, many, outs, e1, e2, e3, e4, e5, e6, ew, z1, z2, z3, z4, z5, z6, z7, z8, z9, z10, z11, hS⟩ := kern_sides (s := s) (w := w) ha hk h1 h2 (by omega) (by omega) (by omega) (by omega) l1 l2 hw
  have q0 := Nat.div_le_self (long - wid) step
  obtain ⟨q, hq⟩ : ∃ q, q = (long - wid) / step := ⟨_, rfl⟩
  rw [← hq] at q0 ew
  clear hq
  have ewin : wrap64 (wrap64 (Int.tdiv (wrap64 (rd ad 1 - w)) s) + 1) = wins (rd ad 1) w s := by
    have hdn : (rd ad 1 - w).tdiv s = (rd ad 1 - w) / s := Int.tdiv_eq_ediv_of_nonneg (by omega)
    unfold wins at ew
    rw [w64 (x := rd ad 1 - w) (by omega) (by omega), hdn, w64 (x := (rd ad 1 - w) / s) (by omega) (by omega), w64 (by omega) (by omega)]
    rfl
  rw [ewin]
  clear ewin
  by_cases c : rd gd 1 = wins (rd ad 1) w s
  rotate_left
  · rw [show (rd gd 1 != wins (rd ad 1) w s) = true by simpa using c, if_neg (fun h => c h.2.2.2)]; exact oth2 k
  rw [show (rd gd 1 != wins (rd ad 1) w s) = false by simpa using c, if_pos (c := _ ∧ _) ⟨l1, l2, hw, c⟩]
  simp only [carouselref5_BackKernel.j1]
  rw [if_neg (by simp), if_pos (by omega), if_pos (by omega), if_pos (by omega), if_pos (by omega), rGood_f _ _ (by omega), Option.bind_some]
  unfold tens0
  by_cases hg : Shp.good [rd gd 0, rd ad 0, w] = true
  rotate_left
  · rw [if_neg hg, if_neg hg]
  have S := hS c hg
  obtain ⟨_, _, _, m3, m4⟩ := good3 hg
  rw [if_pos hg, if_pos hg, rNew_f _ _ (by simp) _ (by omega), Option.bind_some]
  simp only []
  rw [m4, e1, e2, e3, e4, e5, e6]
  simp only [Int.toNat_natCast]
  rw [show ((outs : Int) * ((rows : Int) * (wid : Int))).toNat = outs * rows * wid by rw [show (outs : Int) * ((rows : Int) * (wid : Int)) = ((outs * rows * wid : Nat) : Int) by rw [Int.natCast_mul, Int.natCast_mul, Int.mul_assoc]]; rfl]
  have kb : outs * (rows * (wid * (many + 10) + 20) + 30) ≤ 4096 * (4096 + 10) + 4096 * 20 + 4096 * 30 := by
    have h0 : outs * rows * wid * (many + 10) ≤ 4096 * (4096 + 10) := Nat.mul_le_mul S.r4 (by omega)
    have h1 := S.sides
    rw [Nat.mul_add, Nat.mul_add, Nat.mul_add, ← Nat.mul_assoc, ← Nat.mul_assoc, ← Nat.mul_assoc]
    omega
  have := rKern_l0 S gd ad [(outs : Int), (rows : Int), (wid : Int)] outs 0 k (List.replicate (outs * rows * wid) 0) (by omega) (by simp) (by simp [tab]) (by omega)
  rw [show ((0 : Nat) : Int) = 0 from rfl] at this
  exact this
theorem great8_f (d v : List Int) (n : Int) : carousellaw8_great.f d v n = some (decide ((d.length : Int) > 10) || decide ((v.length : Int) > n)) := by
  unfold carousellaw8_great.f
  by_cases c : (d.length : Int) > 10
  · rw [if_pos c, decide_eq_true c]; rfl
  · rw [if_neg c, decide_eq_false c]; rfl
theorem tens0_len {d : List Int} {g : Nat → Int} : (tens0 d g).1.length ≤ 4 ∧ (tens0 d g).2.1.length ≤ 4096 := by
  unfold tens0
  split
  · rename_i h
    have := good_len h
    have := Shp.siz_le d
    simp [tab_length]; omega
  · simp
theorem awakeB8 : carousellaw8_awake.f 90000010 = some true := by decide +kernel
theorem tback_len (ad av kd kv : List Int) (s l : Int) : (tback ad av kd kv s l).1.length ≤ 4 ∧ (tback ad av kd kv s l).2.1.length ≤ 4096 := by
  unfold tback
  split
  · split
    · exact tens0_len
    · simp
  · simp
theorem tkern_len (ad av kd kv : List Int) (s l : Int) : (tkern ad av kd kv s l).1.length ≤ 4 ∧ (tkern ad av kd kv s l).2.1.length ≤ 4096 := by
  unfold tkern
  split
  · split
    · exact tens0_len
    · simp
  · simp
theorem CBacks_all (ad av kd kv : List Int) (s l : Int) (ha : ∀ x ∈ av, Fx.ok x) (hk : ∀ x ∈ kv, Fx.ok x) : ∃ k, carousellaw8_ConvBacks.f k ad av kd kv s l = some true := by
  refine ⟨90000010, ?_⟩
  have oth : ∀ k, carousellaw8_ConvBacks.j0 (k + 1) s l true ad av kd kv = some true := fun k => by simp only [carousellaw8_ConvBacks.j0]; rw [if_pos trivial]
  unfold carousellaw8_ConvBacks.f
  rw [awakeB8, Option.bind_some, if_pos rfl, great8_f, Option.bind_some]
  by_cases c1 : (decide ((ad.length : Int) > 10) || decide ((av.length : Int) > 120)) = true
  · rw [if_pos c1, oth]
  rw [if_neg c1, great8_f, Option.bind_some]
  by_cases c2 : (decide ((kd.length : Int) > 10) || decide ((kv.length : Int) > 120)) = true
  · rw [c2, if_pos rfl, oth]
  rw [show (decide ((kd.length : Int) > 10) || decide ((kv.length : Int) > 120)) = false by simpa using c2, if_neg (by simp)]
  by_cases c3 : l > 300
  · rw [decide_eq_true c3, oth]
  rw [decide_eq_false c3]
  simp only [carousellaw8_ConvBacks.j0]
  have l1 := tback_len ad av kd kv s l
  have l2 := tkern_len ad av kd kv s l
  rw [if_neg (by simp), cBack_f _ _ _ _ _ _ ha hk _ (by omega), Option.bind_some, rBack_f _ _ _ _ _ _ ha hk _ (by omega), Option.bind_some, cKern_f _ _ _ _ _ _ ha hk _ (by omega), Option.bind_some, rKern_f _ _ _ _ _ _ ha hk _ (by omega), Option.bind_some]
  rw [if_pos rfl, rAlike_f _ _ _ _ (by omega) (by omega) _ (by omega) (by omega), Option.bind_some, if_pos (by simp), if_pos rfl, rAlike_f _ _ _ _ (by omega) (by omega) _ (by omega) (by omega), Option.bind_some]
  simp
theorem ConvBacks : carousellaw8_ConvBacks.Pure := by
  intro ad av kd kv s l _ _ _ ha _ _ _ hb _ _
  exact CBacks_all ad av kd kv s l (fun x hx => wf_i64 (ha x hx)) (fun x hx => wf_i64 (hb x hx))
end Go.Proofs.Ytcipfhlcgnomaaa.Pure
