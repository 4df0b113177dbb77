/- The plain law behind WideBack: what the functions compute answers as the statement says, for every input. No condition. -/
import Derived.Test.YtalghnbolnimiaaPWideBackx6
import Derived.Laws.BitsAllLaws
import Derived.Test.YtalghnbolnimiaaWideMath
import Derived.Test.YtalghnbolnimiaaFixMath
import Derived.Test.YtalghnbolnimiaaBigMath
namespace Go.Proofs.Ytalghnbolnimiaa.Pure
open Go.RowKit Go.Proofs.Ytalghnbolnimiaa.PWideBack Go.Proofs.YtalghnbolnimiaaW.PrintWords Go.Proofs.YtalghnbolnimiaaW.PrintLast Go.Proofs.YtalghnbolnimiaaW.PrintMore
set_option linter.unusedVariables false
set_option linter.unusedSimpArgs false
theorem w64 {x : Int} (h1 : -9223372036854775808 ≤ x) (h2 : x ≤ 9223372036854775807) : wrap64 x = x := by unfold wrap64; omega
theorem wf_i64 {x : Int} (h : (Lit.int .i64 x).wf = true) : -9223372036854775808 ≤ x ∧ x ≤ 9223372036854775807 := by
  simp only [Lit.wf, Bool.and_eq_true, decide_eq_true_eq] at h
  have h1 : IntKind.i64.min = -9223372036854775808 := rfl
  have h2 : IntKind.i64.max = 9223372036854775807 := rfl
  omega
theorem wf_u64 {x : Int} (h : (Lit.int .u64 x).wf = true) : 0 ≤ x ∧ x ≤ 18446744073709551615 := by
  simp only [Lit.wf, Bool.and_eq_true, decide_eq_true_eq] at h
  have h1 : IntKind.u64.min = 0 := rfl
  have h2 : IntKind.u64.max = 18446744073709551615 := rfl
  omega
theorem wf_wide {h l : Int} (hh : (Lit.int .i64 h).wf = true) (hl : (Lit.int .u64 l).wf = true) : Wd.ok h l := by
  have a := wf_i64 hh
  have b := wf_u64 hl
  exact ⟨a.1, a.2, b.1, b.2⟩
theorem u64w (n : Int) : IntKind.u64.wrap n = n % 18446744073709551616 := by simp [IntKind.wrap, IntKind.bits, IntKind.signed]
theorem and32 (x : Int) (h0 : 0 ≤ x) (h1 : x ≤ 18446744073709551615) : Go.bits .and .u64 x 4294967295 = x % 4294967296 := by
  rw [Go.u64_and x 4294967295 h0 (by omega) (by omega) (by omega)]
  have : (4294967295 : Int).toNat = 2 ^ 32 - 1 := rfl
  rw [this, Nat.and_two_pow_sub_one_eq_mod]
  omega
theorem pow_split (n : Nat) (h : n ≤ 64) : (2 : Int) ^ n * 2 ^ (64 - n) = 18446744073709551616 := by
  rw [← Int.pow_add, show n + (64 - n) = 64 by omega]; rfl
theorem pow_pos (n : Nat) : (1 : Int) ≤ 2 ^ n := by
  have : (0 : Int) < 2 ^ n := Int.pow_pos (by decide)
  omega
/-- a word that is shifted up beside one that fills what it leaves -/
theorem or_fill (c d : Int) (n : Nat) (hn : n ≤ 64) (c0 : 0 ≤ c) (c1 : c < 2 ^ n) (d0 : 0 ≤ d) (d1 : d < 2 ^ (64 - n)) : Go.bits .or .u64 (c * 2 ^ (64 - n)) d = c * 2 ^ (64 - n) + d := by
  have hp := pow_split n hn
  have p1 := pow_pos n
  have p2 := pow_pos (64 - n)
  have e1 : (c + 1) * 2 ^ (64 - n) ≤ 2 ^ n * 2 ^ (64 - n) := Int.mul_le_mul_of_nonneg_right (by omega) (by omega)
  rw [Int.add_mul, Int.one_mul, hp] at e1
  have e0 : 0 ≤ c * 2 ^ (64 - n) := Int.mul_nonneg c0 (by omega)
  rw [Go.u64_or _ _ e0 (by omega) d0 (by omega)]
  obtain ⟨C, rfl⟩ := Int.eq_ofNat_of_zero_le c0
  obtain ⟨D, rfl⟩ := Int.eq_ofNat_of_zero_le d0
  have hD : D < 2 ^ (64 - n) := by
    have : ((2 ^ (64 - n) : Nat) : Int) = 2 ^ (64 - n) := by simp
    omega
  have hC : ((C : Int) * 2 ^ (64 - n)).toNat = C * 2 ^ (64 - n) := by
    have : (C : Int) * 2 ^ (64 - n) = ((C * 2 ^ (64 - n) : Nat) : Int) := by simp
    rw [this]; rfl
  rw [hC, Int.toNat_natCast, ← Nat.shiftLeft_eq, ← Nat.shiftLeft_add_eq_or_of_lt hD, Nat.shiftLeft_eq]
  simp
/-- a number's eight bytes, the greatest first -/
def be8 (x : Int) : List Int := [x / 72057594037927936 % 256, x / 281474976710656 % 256, x / 1099511627776 % 256, x / 4294967296 % 256, x / 16777216 % 256, x / 65536 % 256, x / 256 % 256, x % 256]
theorem put_l0 (x : Int) (j : Nat) (hj : j ≤ 7) (acc : List Int) (hl : acc.length ≤ 1000) (k : Nat) : pack_put.l0 (k + 1) x acc (j : Int) = pack_put.l0 k x (acc ++ [x / 2 ^ (8 * j) % 256]) ((j : Int) - 1) := by
  simp only [pack_put.l0]
  rw [if_pos (by omega), w64 (x := 8 * (j : Int)) (by omega) (by omega), if_pos (by omega), if_pos (by omega), w64 (x := (j : Int) - 1) (by omega) (by omega)]
  have : shr .u64 x (8 * (j : Int)) = x / 2 ^ (8 * j) := by
    unfold shr
    rw [show (8 * (j : Int)).toNat = 8 * j by omega, show IntKind.u64.bits = 64 from rfl, Nat.min_eq_left (by omega)]
  rw [this]
theorem put8 (l : List Int) (x : Int) (hl : l.length ≤ 100) (k : Nat) : pack_put.f (k + 9) l x 8 = some (l ++ be8 x) := by
  unfold pack_put.f
  rw [Option.bind_some, if_pos (by simp; omega), w64 (x := 8 - 1) (by omega) (by omega), List.nil_append]
  have h7 := put_l0 x 7 (by omega) l (by omega) (k + 8)
  have h6 := put_l0 x 6 (by omega) (l ++ [x / 2 ^ (8 * 7) % 256]) (by simp; omega) (k + 7)
  have h5 := put_l0 x 5 (by omega) (l ++ [x / 2 ^ (8 * 7) % 256] ++ [x / 2 ^ (8 * 6) % 256]) (by simp; omega) (k + 6)
  have h4 := put_l0 x 4 (by omega) (l ++ [x / 2 ^ (8 * 7) % 256] ++ [x / 2 ^ (8 * 6) % 256] ++ [x / 2 ^ (8 * 5) % 256]) (by simp; omega) (k + 5)
  have h3 := put_l0 x 3 (by omega) (l ++ [x / 2 ^ (8 * 7) % 256] ++ [x / 2 ^ (8 * 6) % 256] ++ [x / 2 ^ (8 * 5) % 256] ++ [x / 2 ^ (8 * 4) % 256]) (by simp; omega) (k + 4)
  have h2 := put_l0 x 2 (by omega) (l ++ [x / 2 ^ (8 * 7) % 256] ++ [x / 2 ^ (8 * 6) % 256] ++ [x / 2 ^ (8 * 5) % 256] ++ [x / 2 ^ (8 * 4) % 256] ++ [x / 2 ^ (8 * 3) % 256]) (by simp; omega) (k + 3)
  have h1 := put_l0 x 1 (by omega) (l ++ [x / 2 ^ (8 * 7) % 256] ++ [x / 2 ^ (8 * 6) % 256] ++ [x / 2 ^ (8 * 5) % 256] ++ [x / 2 ^ (8 * 4) % 256] ++ [x / 2 ^ (8 * 3) % 256] ++ [x / 2 ^ (8 * 2) % 256]) (by simp; omega) (k + 2)
  have h0 := put_l0 x 0 (by omega) (l ++ [x / 2 ^ (8 * 7) % 256] ++ [x / 2 ^ (8 * 6) % 256] ++ [x / 2 ^ (8 * 5) % 256] ++ [x / 2 ^ (8 * 4) % 256] ++ [x / 2 ^ (8 * 3) % 256] ++ [x / 2 ^ (8 * 2) % 256] ++ [x / 2 ^ (8 * 1) % 256]) (by simp; omega) (k + 1)
  have hm : ∀ acc, pack_put.l0 (k + 1) x acc (-1) = some acc := fun acc => by simp only [pack_put.l0]; rw [if_neg (by omega)]
  refine h7.trans (h6.trans (h5.trans (h4.trans (h3.trans (h2.trans (h1.trans (h0.trans ?_)))))))
  refine (hm _).trans ?_
  simp only [List.append_assoc, List.singleton_append, List.cons_append, List.nil_append]
  unfold be8
  simp only [Nat.mul_zero, Int.pow_zero, Int.ediv_one]
  rfl
theorem pU64_f (l : List Int) (x : Int) (hl : l.length ≤ 100) (k : Nat) (hk : 9 ≤ k) : pack_U64.f k l x = some (l ++ be8 x) := by
  obtain ⟨k, rfl⟩ : ∃ m, k = m + 9 := ⟨k - 9, by omega⟩
  unfold pack_U64.f
  rw [put8 l x hl, Option.bind_some]
theorem be8_len (x : Int) : (be8 x).length = 8 := rfl
theorem wPut_f (h l : Int) (k : Nat) (hk : 9 ≤ k) : wide_Put.f k h l = some (be8 (h % 18446744073709551616) ++ be8 l) := by
  unfold wide_Put.f
  rw [u64w, pU64_f [] _ (by simp) k hk, Option.bind_some, List.nil_append, pU64_f _ _ (by rw [be8_len]; omega) k hk, Option.bind_some]
theorem and16 (x : Int) (h0 : 0 ≤ x) (h1 : x < 4294967296) : Go.bits .and .u32 x 65535 = x % 65536 := by
  rw [Go.u32_and x 65535 h0 (by omega) (by omega) (by omega)]
  have : (65535 : Int).toNat = 2 ^ 16 - 1 := rfl
  rw [this, Nat.and_two_pow_sub_one_eq_mod]
  omega
theorem rU16_f (l : List Int) (v : Int) (hl : l.length ≤ 100) : carouselref1_U16.f l v = some (l ++ [v / 256 % 256, v % 256]) := by
  unfold carouselref1_U16.f
  rw [Option.bind_some, if_pos (by simp; omega), Option.bind_some, Option.bind_some, if_pos (by simp; omega), List.nil_append]
theorem rU32_f (l : List Int) (v : Int) (hl : l.length ≤ 90) (h0 : 0 ≤ v) (h1 : v < 4294967296) : carouselref1_U32.f l v = some (l ++ [v / 16777216 % 256, v / 65536 % 256, v / 256 % 256, v % 256]) := by
  unfold carouselref1_U32.f
  rw [w64 (x := v / 65536) (by omega) (by omega), rU16_f _ _ (by omega), Option.bind_some, and16 v h0 h1, w64 (x := v % 65536) (by omega) (by omega), rU16_f _ _ (by simp; omega), Option.bind_some, List.append_assoc]
  simp only [List.cons_append, List.nil_append]
  rw [show v / 65536 / 256 % 256 = v / 16777216 % 256 by omega, show v % 65536 / 256 % 256 = v / 256 % 256 by omega, show v % 65536 % 256 = v % 256 by omega]
theorem rU64_f (l : List Int) (x : Int) (hl : l.length ≤ 80) (h0 : 0 ≤ x) (h1 : x ≤ 18446744073709551615) : carouselref1_U64.f l x = some (l ++ be8 x) := by
  unfold carouselref1_U64.f
  rw [rU32_f _ _ (by omega) (by omega) (by omega), Option.bind_some, and32 x h0 h1, rU32_f _ _ (by simp; omega) (by omega) (by omega), Option.bind_some, List.append_assoc]
  unfold be8
  simp only [List.cons_append, List.nil_append]
  rw [show x / 4294967296 % 4294967296 / 16777216 % 256 = x / 72057594037927936 % 256 by omega, show x / 4294967296 % 4294967296 / 65536 % 256 = x / 281474976710656 % 256 by omega, show x / 4294967296 % 4294967296 / 256 % 256 = x / 1099511627776 % 256 by omega, show x / 4294967296 % 4294967296 % 256 = x / 4294967296 % 256 by omega,
    show x % 4294967296 % 4294967296 / 16777216 % 256 = x / 16777216 % 256 by omega, show x % 4294967296 % 4294967296 / 65536 % 256 = x / 65536 % 256 by omega, show x % 4294967296 % 4294967296 / 256 % 256 = x / 256 % 256 by omega, show x % 4294967296 % 4294967296 % 256 = x % 256 by omega]
theorem rWPut_f (h l : Int) (l0 : 0 ≤ l) (l1 : l ≤ 18446744073709551615) : carouselref1_WPut.f h l = some (be8 (h % 18446744073709551616) ++ be8 l) := by
  unfold carouselref1_WPut.f
  rw [u64w, rU64_f [] _ (by simp) (by omega) (by omega), Option.bind_some, List.nil_append, rU64_f _ _ (by rw [be8_len]; omega) l0 l1, Option.bind_some]
theorem nv_step {v x : Int} {l : List Int} (v0 : 0 ≤ v) (v1 : v < 72057594037927936) (x0 : 0 ≤ x) (x1 : x < 256) : nv_ v (x :: l) = nv_ (v * 256 + x) l := by
  have := or_fill v x 56 (by omega) v0 v1 x0 x1
  rw [show (2 : Int) ^ (64 - 56) = 256 from rfl] at this
  show nv_ (Go.bits .or .u64 (IntKind.u64.wrap (v * 256)) (IntKind.u64.wrap x)) l = _
  rw [u64w, u64w, Int.emod_eq_of_lt (by omega) (by omega), Int.emod_eq_of_lt x0 (by omega), this]
theorem nv8 {a b c d e f g h : Int} (ha : 0 ≤ a ∧ a < 256) (hb : 0 ≤ b ∧ b < 256) (hc : 0 ≤ c ∧ c < 256) (hd : 0 ≤ d ∧ d < 256) (he : 0 ≤ e ∧ e < 256) (hf : 0 ≤ f ∧ f < 256) (hg : 0 ≤ g ∧ g < 256) (hh : 0 ≤ h ∧ h < 256) :
    nv_ 0 [a, b, c, d, e, f, g, h] = a * 72057594037927936 + b * 281474976710656 + c * 1099511627776 + d * 4294967296 + e * 16777216 + f * 65536 + g * 256 + h := by
  rw [nv_step (by omega) (by omega) ha.1 ha.2, nv_step (by omega) (by omega) hb.1 hb.2, nv_step (by omega) (by omega) hc.1 hc.2, nv_step (by omega) (by omega) hd.1 hd.2, nv_step (by omega) (by omega) he.1 he.2, nv_step (by omega) (by omega) hf.1 hf.2, nv_step (by omega) (by omega) hg.1 hg.2, nv_step (by omega) (by omega) hh.1 hh.2]
  show _ = _
  unfold nv_
  omega
theorem nv_be8 {x : Int} (h0 : 0 ≤ x) (h1 : x ≤ 18446744073709551615) : nv_ 0 (be8 x) = x := by
  unfold be8
  rw [nv8 (by omega) (by omega) (by omega) (by omega) (by omega) (by omega) (by omega) (by omega)]
  omega
theorem be8_nv {l : List Int} (hl : l.length = 8) (hb : ∀ x ∈ l, 0 ≤ x ∧ x < 256) : be8 (nv_ 0 l) = l ∧ 0 ≤ nv_ 0 l ∧ nv_ 0 l ≤ 18446744073709551615 := by
  match l, hl with
  | [a, b, c, d, e, f, g, h], _ =>
    have ha := hb a (by simp)
    have hb' := hb b (by simp)
    have hc := hb c (by simp)
    have hd := hb d (by simp)
    have he := hb e (by simp)
    have hf := hb f (by simp)
    have hg := hb g (by simp)
    have hh := hb h (by simp)
    rw [nv8 ha hb' hc hd he hf hg hh]
    clear hb
    refine ⟨?_, by omega, by omega⟩
    unfold be8
    simp only [List.cons.injEq, and_true]
    refine ⟨by omega, by omega, by omega, by omega, by omega, by omega, by omega, by omega⟩
theorem WBack_all (hi lo : Int) (b : List Int) (h1 : Wd.ok hi lo) (hb : ∀ x ∈ b, 0 ≤ x ∧ x < 256) : ∃ k, carousellaw2_WideBack.f k hi lo b = some true := by
  refine ⟨100, ?_⟩
  obtain ⟨a1, a2, a3, a4⟩ := h1
  have aw : carousellaw2_awake.f 100 = some true := by decide +kernel
  unfold carousellaw2_WideBack.f
  rw [aw, Option.bind_some, if_pos rfl]
  by_cases c1 : (b.length : Int) > 100
  · rw [if_pos c1]
  rw [if_neg c1, wPut_f _ _ _ (by omega), Option.bind_some]
  have g1 : wide_Get.f (be8 (hi % 18446744073709551616) ++ be8 lo) = some (hi, lo, 0) := by
    unfold wide_Get.f
    rw [if_pos (by rw [List.length_append, be8_len, be8_len]; omega), if_pos (by rw [List.length_append, be8_len, be8_len])]
    rw [List.take_append_of_le_length (by rw [be8_len]; omega), List.take_of_length_le (by rw [be8_len]; omega), List.drop_append_of_le_length (by rw [be8_len]; omega), List.drop_of_length_le (by rw [be8_len]; omega), List.nil_append, List.take_of_length_le (by rw [be8_len]; omega), nv_be8 (by omega) (by omega), nv_be8 a3 a4]
    rw [show wrap64 (hi % 18446744073709551616) = hi by unfold wrap64; omega]
  rw [g1, Option.bind_some]
  by_cases c2 : b.length = 16
  · have t1 : (b.take 8).length = 8 := by rw [List.length_take]; omega
    have t2 : ((b.drop 8).take 8) = b.drop 8 := List.take_of_length_le (by rw [List.length_drop]; omega)
    have t3 : (b.drop 8).length = 8 := by rw [List.length_drop]; omega
    obtain ⟨e1, p1, p2⟩ := be8_nv t1 (fun x hx => hb x (List.mem_of_mem_take hx))
    obtain ⟨e2, q1, q2⟩ := be8_nv t3 (fun x hx => hb x (List.mem_of_mem_drop hx))
    have g2 : wide_Get.f b = some (wrap64 (nv_ 0 (b.take 8)), nv_ 0 (b.drop 8), 0) := by
      unfold wide_Get.f
      rw [if_pos (by omega), if_pos c2, t2]
    rw [g2, Option.bind_some]
    simp only [if_true]
    rw [if_neg (by simp), Option.bind_some, rWPut_f _ _ a3 a4, Option.bind_some]
    simp only [bne_self_eq_false, carousellaw2_WideBack.j0]
    rw [if_neg (by simp), if_pos (by omega)]
    simp only [if_true]
    rw [wPut_f _ _ _ (by omega), Option.bind_some]
    rw [show wrap64 (nv_ 0 (b.take 8)) % 18446744073709551616 = nv_ 0 (b.take 8) by unfold wrap64; omega, e1, e2, List.take_append_drop]
    simp
  · have g2 : wide_Get.f b = some (0, 0, 3) := by
      unfold wide_Get.f
      rw [if_pos (by omega), if_neg c2]
    rw [g2, Option.bind_some]
    simp only [if_true]
    rw [if_neg (by simp), Option.bind_some, rWPut_f _ _ a3 a4, Option.bind_some]
    simp only [bne_self_eq_false, carousellaw2_WideBack.j0]
    rw [if_neg (by simp), if_neg (by omega), if_pos trivial]
    rfl
theorem WideBack : carousellaw2_WideBack.Pure := by
  intro hi lo b h1 h2 _ hb
  refine WBack_all hi lo b (wf_wide h1 h2) (fun x hx => ?_)
  have h := hb x hx
  simp only [Lit.wf, Bool.and_eq_true, decide_eq_true_eq] at h
  have e1 : IntKind.u8.min = 0 := rfl
  have e2 : IntKind.u8.max = 255 := rfl
  omega
end Go.Proofs.Ytalghnbolnimiaa.Pure
