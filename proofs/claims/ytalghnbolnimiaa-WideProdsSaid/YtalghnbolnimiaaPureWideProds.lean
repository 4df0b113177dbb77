/- The plain law behind WideProds: what the functions compute answers as the statement says, for every input. No condition. -/
import Derived.Test.YtalghnbolnimiaaPWideProdsx5
import Derived.Laws.BitsAllLaws
import Derived.Test.YtalghnbolnimiaaWideMath
import Derived.Test.YtalghnbolnimiaaFixMath
import Derived.Test.YtalghnbolnimiaaBigMath
namespace Go.Proofs.Ytalghnbolnimiaa.Pure
open Go.RowKit Go.Proofs.Ytalghnbolnimiaa.PWideProds Go.Proofs.YtalghnbolnimiaaW.PrintWords Go.Proofs.YtalghnbolnimiaaW.PrintLast
set_option linter.unusedVariables false
set_option linter.unusedSimpArgs false
theorem wf_i64 {x : Int} (h : (Lit.int .i64 x).wf = true) : -9223372036854775808 ≤ x ∧ x ≤ 9223372036854775807 := by
  simp only [Lit.wf, Bool.and_eq_true, decide_eq_true_eq] at h
  have h1 : IntKind.i64.min = -9223372036854775808 := rfl
  have h2 : IntKind.i64.max = 9223372036854775807 := rfl
  omega
theorem u64w (n : Int) : IntKind.u64.wrap n = n % 18446744073709551616 := by simp [IntKind.wrap, IntKind.bits, IntKind.signed]
theorem wrap64_w (n : Int) : wrap64 n = Wd.w64 n := by unfold wrap64 Wd.w64; rfl
theorem and32 (x : Int) (h0 : 0 ≤ x) (h1 : x ≤ 18446744073709551615) : Go.bits .and .u64 x 4294967295 = x % 4294967296 := by
  rw [Go.u64_and x 4294967295 h0 (by omega) (by omega) (by omega)]
  have : (4294967295 : Int).toNat = 2 ^ 32 - 1 := rfl
  rw [this, Nat.and_two_pow_sub_one_eq_mod]
  omega
theorem and1 (x : Int) (h0 : 0 ≤ x) (h1 : x ≤ 18446744073709551615) : Go.bits .and .u64 x 1 = x % 2 := by
  rw [Go.u64_and x 1 h0 (by omega) (by omega) (by omega)]
  have : (1 : Int).toNat = 2 ^ 1 - 1 := rfl
  rw [this, Nat.and_two_pow_sub_one_eq_mod]
  omega
theorem Of_f (a : Int) (h0 : -9223372036854775808 ≤ a) (h1 : a ≤ 9223372036854775807) : wide_Of.f a = some (Wd.wr a) := by
  unfold wide_Of.f Wd.wr Wd.w64
  rw [u64w]; congr 1; rw [Prod.mk.injEq]; omega
theorem Add64_f (a b c : Int) (h0 : 0 ≤ a) (h1 : 0 ≤ b) (h2 : 0 ≤ c) (h3 : c ≤ 1) : bits_Add64.f a b c = some ((a + b + c) % 18446744073709551616, (a + b + c) / 18446744073709551616) := by
  unfold bits_Add64.f; rw [if_pos ⟨h0, h1, h2, h3⟩]
theorem Add_f {a0 a1 b0 b1 : Int} (ha : Wd.ok a0 a1) (hb : Wd.ok b0 b1) : wide_Add.f a0 a1 b0 b1 = some (Wd.wr (Wd.vl a0 a1 + Wd.vl b0 b1)) := by
  obtain ⟨a2, a3, a4, a5⟩ := ha
  obtain ⟨b2, b3, b4, b5⟩ := hb
  unfold wide_Add.f
  rw [Add64_f _ _ _ a4 b4 (by omega) (by omega)]
  simp only [Option.bind_some, u64w]
  rw [Add64_f _ _ _ (by omega) (by omega) (by omega) (by omega)]
  simp only [Option.bind_some, wrap64_w, Wd.wr, Wd.vl, Wd.w64]
  congr 1; rw [Prod.mk.injEq]; omega
theorem Sub64_f (a b c : Int) (h0 : 0 ≤ a) (h1 : 0 ≤ b) (h4 : b ≤ 18446744073709551615) (h2 : 0 ≤ c) (h3 : c ≤ 1) : bits_Sub64.f a b c = some ((a - b - c) % 18446744073709551616, if a < b + c then 1 else 0) := by
  unfold bits_Sub64.f; rw [if_pos ⟨h0, h1, h4, h2, h3⟩]
theorem Sub_f {a0 a1 b0 b1 : Int} (ha : Wd.ok a0 a1) (hb : Wd.ok b0 b1) : wide_Sub.f a0 a1 b0 b1 = some (Wd.wr (Wd.vl a0 a1 - Wd.vl b0 b1)) := by
  obtain ⟨a2, a3, a4, a5⟩ := ha
  obtain ⟨b2, b3, b4, b5⟩ := hb
  unfold wide_Sub.f
  rw [Sub64_f _ _ _ a4 b4 b5 (by omega) (by omega)]
  simp only [Option.bind_some, u64w]
  by_cases c : a1 < b1 + 0
  · rw [if_pos c, Sub64_f _ _ _ (by omega) (by omega) (by omega) (by omega) (by omega)]
    simp only [Option.bind_some, wrap64_w, Wd.wr, Wd.vl, Wd.w64]
    congr 1; rw [Prod.mk.injEq]; omega
  · rw [if_neg c, Sub64_f _ _ _ (by omega) (by omega) (by omega) (by omega) (by omega)]
    simp only [Option.bind_some, wrap64_w, Wd.wr, Wd.vl, Wd.w64]
    congr 1; rw [Prod.mk.injEq]; omega
theorem Neg_f {a0 a1 : Int} (ha : Wd.ok a0 a1) : wide_Neg.f a0 a1 = some (Wd.wr (-Wd.vl a0 a1)) := by
  unfold wide_Neg.f
  rw [Sub_f (show Wd.ok 0 0 by unfold Wd.ok; omega) ha]
  simp [Wd.vl]
theorem size_f (a : Int) (h0 : -9223372036854775808 ≤ a) (h1 : a ≤ 9223372036854775807) : wide_size.f a = some (if a < 0 then -a else a) := by
  unfold wide_size.f
  simp only [u64w]
  split <;> (congr 1; omega)
theorem mul_le {a b A B : Int} (h0 : 0 ≤ a) (h1 : a ≤ A) (h2 : 0 ≤ b) (h3 : b ≤ B) : 0 ≤ a * b ∧ a * b ≤ A * B :=
  ⟨Int.mul_nonneg h0 h2, Int.mul_le_mul h1 h3 h2 (by omega)⟩
theorem split_mul (x0 x1 y0 y1 : Int) : (x1 * 4294967296 + x0) * (y1 * 4294967296 + y0) = (x1 * y1) * 18446744073709551616 + ((x1 * y0) + (x0 * y1)) * 4294967296 + x0 * y0 := by grind
theorem Mul64_f (a b : Int) (a0 : 0 ≤ a) (a1 : a ≤ 18446744073709551615) (b0 : 0 ≤ b) (b1 : b ≤ 18446744073709551615) : bits_Mul64.f a b = some (a * b / 18446744073709551616, a * b % 18446744073709551616) := by
  unfold bits_Mul64.f
  rw [and32 a a0 a1, and32 b b0 b1]
  simp only [u64w]
  have ea : a = (a / 4294967296) * 4294967296 + a % 4294967296 := by omega
  have eb : b = (b / 4294967296) * 4294967296 + b % 4294967296 := by omega
  have es := split_mul (a % 4294967296) (a / 4294967296) (b % 4294967296) (b / 4294967296)
  rw [← ea, ← eb] at es
  have h1 : 0 ≤ a / 4294967296 ∧ a / 4294967296 ≤ 4294967295 := by omega
  have h2 : 0 ≤ a % 4294967296 ∧ a % 4294967296 ≤ 4294967295 := by omega
  have h3 : 0 ≤ b / 4294967296 ∧ b / 4294967296 ≤ 4294967295 := by omega
  have h4 : 0 ≤ b % 4294967296 ∧ b % 4294967296 ≤ 4294967295 := by omega
  have p00 := mul_le h2.1 h2.2 h4.1 h4.2
  have p10 := mul_le h1.1 h1.2 h4.1 h4.2
  have p01 := mul_le h2.1 h2.2 h3.1 h3.2
  have p11 := mul_le h1.1 h1.2 h3.1 h3.2
  clear ea eb a0 a1 b0 b1
  generalize a / 4294967296 * (b / 4294967296) = P11 at *
  generalize a / 4294967296 * (b % 4294967296) = P10 at *
  generalize a % 4294967296 * (b / 4294967296) = P01 at *
  generalize a % 4294967296 * (b % 4294967296) = P00 at *
  generalize a * b = S at *
  clear h1 h2 h3 h4
  simp only [Int.reduceMul] at p00 p10 p01 p11
  have r1 : (P10 % 18446744073709551616 + P00 % 18446744073709551616 / 4294967296) % 18446744073709551616 = P10 + P00 / 4294967296 := by omega
  rw [r1, and32 _ (by omega) (by omega)]
  congr 1
  rw [Prod.mk.injEq]
  constructor
  · omega
  · rfl
theorem Prod_f (a b : Int) (a0 : -9223372036854775808 ≤ a) (a1 : a ≤ 9223372036854775807) (b0 : -9223372036854775808 ≤ b) (b1 : b ≤ 9223372036854775807) : wide_Prod.f a b = some (Wd.wr (a * b)) := by
  unfold wide_Prod.f
  rw [size_f a a0 a1, size_f b b0 b1]
  simp only [Option.bind_some]
  have sa : 0 ≤ (if a < 0 then -a else a) ∧ (if a < 0 then -a else a) ≤ 9223372036854775808 := by split <;> omega
  have sb : 0 ≤ (if b < 0 then -b else b) ∧ (if b < 0 then -b else b) ≤ 9223372036854775808 := by split <;> omega
  rw [Mul64_f _ _ sa.1 (by omega) sb.1 (by omega)]
  simp only [Option.bind_some]
  have hp := mul_le sa.1 sa.2 sb.1 sb.2
  simp only [Int.reduceMul] at hp
  have hab : a * b = if ((decide (a < 0)) != (decide (b < 0))) = true then -((if a < 0 then -a else a) * (if b < 0 then -b else b)) else (if a < 0 then -a else a) * (if b < 0 then -b else b) := by
    by_cases ca : a < 0 <;> by_cases cb : b < 0 <;> simp [ca, cb, Int.neg_mul, Int.mul_neg]
  generalize (if a < 0 then -a else a) * (if b < 0 then -b else b) = S at *
  rw [hab]
  split
  · have hw : Wd.ok (wrap64 (S / 18446744073709551616)) (S % 18446744073709551616) := by
      rw [wrap64_w, Wd.w64_id (by omega) (by omega)]; unfold Wd.ok; omega
    rw [Neg_f hw]
    simp only [Option.bind_some]
    rw [wrap64_w, Wd.w64_id (by omega) (by omega)]
    have : Wd.vl (S / 18446744073709551616) (S % 18446744073709551616) = S := by unfold Wd.vl; omega
    rw [this]
  · simp only [wrap64_w]; rfl
theorem pow_split (n : Nat) (h : n ≤ 64) : (2 : Int) ^ n * 2 ^ (64 - n) = 18446744073709551616 := by
  rw [← Int.pow_add, show n + (64 - n) = 64 by omega]; rfl
theorem pow_pos (n : Nat) : (1 : Int) ≤ 2 ^ n := by
  have : (0 : Int) < 2 ^ n := Int.pow_pos (by decide)
  omega
/-- a word that is shifted up beside one that fills what it leaves -/
theorem or_fill (c d : Int) (n : Nat) (hn : n ≤ 64) (c0 : 0 ≤ c) (c1 : c < 2 ^ n) (d0 : 0 ≤ d) (d1 : d < 2 ^ (64 - n)) : Go.bits .or .u64 (c * 2 ^ (64 - n)) d = c * 2 ^ (64 - n) + d := by
  have hp := pow_split n hn
  have p1 := pow_pos n
  have p2 := pow_pos (64 - n)
  have e1 : (c + 1) * 2 ^ (64 - n) ≤ 2 ^ n * 2 ^ (64 - n) := Int.mul_le_mul_of_nonneg_right (by omega) (by omega)
  rw [Int.add_mul, Int.one_mul, hp] at e1
  have e0 : 0 ≤ c * 2 ^ (64 - n) := Int.mul_nonneg c0 (by omega)
  rw [Go.u64_or _ _ e0 (by omega) d0 (by omega)]
  obtain ⟨C, rfl⟩ := Int.eq_ofNat_of_zero_le c0
  obtain ⟨D, rfl⟩ := Int.eq_ofNat_of_zero_le d0
  have hD : D < 2 ^ (64 - n) := by
    have : ((2 ^ (64 - n) : Nat) : Int) = 2 ^ (64 - n) := by simp
    omega
  have hC : ((C : Int) * 2 ^ (64 - n)).toNat = C * 2 ^ (64 - n) := by
    have : (C : Int) * 2 ^ (64 - n) = ((C * 2 ^ (64 - n) : Nat) : Int) := by simp
    rw [this]; rfl
  rw [hC, Int.toNat_natCast, ← Nat.shiftLeft_eq, ← Nat.shiftLeft_add_eq_or_of_lt hD, Nat.shiftLeft_eq]
  simp
theorem shl_u64 (x : Int) (n : Nat) (hn : n ≤ 64) (h : Int) (hh : h = (n : Int)) : shl .u64 x h = (x * 2 ^ n) % 18446744073709551616 := by
  subst hh
  unfold shl
  rw [u64w, show min ((n : Int)).toNat IntKind.u64.bits = n by simp [IntKind.bits]; omega]
theorem shr_u64 (x : Int) (n : Nat) (hn : n ≤ 64) (h : Int) (hh : h = (n : Int)) : shr .u64 x h = x / 2 ^ n := by
  subst hh
  unfold shr
  rw [show min ((n : Int)).toNat IntKind.u64.bits = n by simp [IntKind.bits]; omega]
theorem shr_i64 (x : Int) (n : Nat) (hn : n ≤ 64) (h : Int) (hh : h = (n : Int)) : shr .i64 x h = x / 2 ^ n := by
  subst hh
  unfold shr
  rw [show min ((n : Int)).toNat IntKind.i64.bits = n by simp [IntKind.bits]; omega]
/-- (x * Q) mod (P * Q) -/
theorem mul_mod (x P Q : Int) (hQ : 0 < Q) : (x * Q) % (P * Q) = (x % P) * Q := by
  rw [Int.mul_comm x Q, Int.mul_comm P Q, Int.mul_emod_mul_of_pos x P hQ, Int.mul_comm]
theorem Shift_end {q0 q1 h l X D : Int} (hq : Wd.ok q0 q1) (hv : Wd.vl q0 q1 = X / D) (hl : 0 ≤ l) (hgt : (h > 9223372036854775808 ∨ (h = 9223372036854775808 ∧ l > 0)) ↔ 2 * (X % D) > D) (heq : (h = 9223372036854775808 ∧ l = 0) ↔ 2 * (X % D) = D) (k : Nat) :
    (if h > 9223372036854775808 then (wide_Shift.j1 (k + 1) true q0 q1) else (if h = 9223372036854775808 then (if l > 0 then (wide_Shift.j1 (k + 1) true q0 q1) else (wide_Shift.j1 (k + 1) ((Go.bits .and .u64 q1 1) == 1) q0 q1)) else (wide_Shift.j1 (k + 1) false q0 q1))) = some (Wd.wr (Wd.rnd X D)) := by
  have ht : wide_Shift.j1 (k + 1) true q0 q1 = some (Wd.wr (X / D + 1)) := by
    simp only [wide_Shift.j1, if_true]
    rw [Of_f 1 (by omega) (by omega)]
    simp only [Option.bind_some]
    rw [Add_f hq (Wd.wr_ok 1), hv, Wd.vl_wr_id (by omega) (by omega)]; rfl
  have hf : wide_Shift.j1 (k + 1) false q0 q1 = some (Wd.wr (X / D)) := by
    simp only [wide_Shift.j1]
    rw [← hv, Wd.wr_vl hq]; rfl
  have ha : Go.bits .and .u64 q1 1 = X / D % 2 := by
    rw [and1 q1 hq.2.2.1 hq.2.2.2, ← hv]; unfold Wd.vl; omega
  rw [ha, ht, hf]
  unfold Wd.rnd
  by_cases c1 : 2 * (X % D) > D
  · rw [if_pos (c := 2 * (X % D) > D ∨ 2 * (X % D) = D ∧ X / D % 2 = 1) (.inl c1)]
    rcases hgt.mpr c1 with h1 | ⟨h1, h2⟩
    · rw [if_pos h1]
    · rw [if_neg (by omega), if_pos h1, if_pos h2]
  · have n1 := fun h => c1 (hgt.mp h)
    rw [if_neg (fun h1 => n1 (.inl h1))]
    by_cases c2 : 2 * (X % D) = D
    · obtain ⟨h1, h2⟩ := heq.mpr c2
      rw [if_pos h1, if_neg (by omega)]
      by_cases c3 : X / D % 2 = 1
      · rw [if_pos (c := 2 * (X % D) > D ∨ 2 * (X % D) = D ∧ X / D % 2 = 1) (.inr ⟨c2, c3⟩), show (X / D % 2 == 1) = true by simpa using c3, ht]
      · rw [if_neg (c := 2 * (X % D) > D ∨ 2 * (X % D) = D ∧ X / D % 2 = 1) (fun h => h.elim c1 (fun h => c3 h.2)), show (X / D % 2 == 1) = false by simpa using c3, hf]
    · rw [if_neg (c := 2 * (X % D) > D ∨ 2 * (X % D) = D ∧ X / D % 2 = 1) (fun h => h.elim c1 (fun h => c2 h.1))]
      by_cases c4 : h = 9223372036854775808
      · exfalso
        by_cases c5 : l > 0
        · exact n1 (.inr ⟨c4, c5⟩)
        · exact c2 (heq.mp ⟨c4, by omega⟩)
      · rw [if_neg c4]
theorem Shift_lo {a0 a1 : Int} (ha : Wd.ok a0 a1) (n : Nat) (h1 : 1 ≤ n) (h2 : n < 64) (k : Nat) : wide_Shift.j0 (k + 1 + 1) n false a0 a1 = some (Wd.wr (Wd.rnd (Wd.vl a0 a1) (2 ^ n))) := by
  obtain ⟨a2, a3, a4, a5⟩ := ha
  have hp := pow_split n (by omega)
  have p1 := pow_pos n
  have p2 := pow_pos (64 - n)
  have hev : ∃ H, (2 : Int) ^ n = 2 * H := ⟨2 ^ (n - 1), by rw [← Int.pow_succ']; congr 1; omega⟩
  have ew : wrap64 (64 - (n : Int)) = ((64 - n : Nat) : Int) := by rw [wrap64_w, Wd.w64_id (by omega) (by omega)]; omega
  simp only [wide_Shift.j0, Bool.false_eq_true, if_false]
  have hd : wide_down.f a0 a1 n = some (a0 / 2 ^ n, (a0 % 2 ^ n) * 2 ^ (64 - n) + a1 / 2 ^ n, (a1 % 2 ^ n) * 2 ^ (64 - n), 0) := by
    unfold wide_down.f
    rw [if_neg (by omega), if_pos (by omega), ew]
    clear ew
    rw [if_pos (by omega), shr_i64 _ n (by omega) _ rfl, shl_u64 _ (64 - n) (by omega) _ rfl, shr_u64 _ n (by omega) _ rfl, shl_u64 _ (64 - n) (by omega) _ rfl, u64w]
    have em : a0 % 18446744073709551616 % 2 ^ n = a0 % 2 ^ n := Int.emod_emod_of_dvd a0 ⟨2 ^ (64 - n), hp.symm⟩
    have e1 : a0 % 18446744073709551616 * 2 ^ (64 - n) % 18446744073709551616 = (a0 % 2 ^ n) * 2 ^ (64 - n) := by
      conv => lhs; rhs; rw [← hp]
      rw [mul_mod _ _ _ (by omega), em]
    have e2 : a1 * 2 ^ (64 - n) % 18446744073709551616 = (a1 % 2 ^ n) * 2 ^ (64 - n) := by
      conv => lhs; rhs; rw [← hp]
      rw [mul_mod _ _ _ (by omega)]
    have d1 : a1 / 2 ^ n < 2 ^ (64 - n) := Int.ediv_lt_of_lt_mul (by omega) (by rw [Int.mul_comm]; omega)
    rw [e1, e2, or_fill _ _ n (by omega) (Int.emod_nonneg _ (by omega)) (Int.emod_lt_of_pos _ (by omega)) (Int.ediv_nonneg a4 (by omega)) d1]
  rw [hd]
  clear ew
  simp only [Option.bind_some]
  obtain ⟨H, hH⟩ := hev
  have d0 : 0 ≤ a1 / 2 ^ n := Int.ediv_nonneg a4 (by omega)
  have d1 : a1 / 2 ^ n < 2 ^ (64 - n) := Int.ediv_lt_of_lt_mul (by omega) (by rw [Int.mul_comm]; omega)
  have c0 := Int.emod_nonneg a0 (show (2 : Int) ^ n ≠ 0 by omega)
  have c1 := Int.emod_lt_of_pos a0 (show (0 : Int) < 2 ^ n by omega)
  have r0 := Int.emod_nonneg a1 (show (2 : Int) ^ n ≠ 0 by omega)
  have r1 := Int.emod_lt_of_pos a1 (show (0 : Int) < 2 ^ n by omega)
  have ea := Int.emod_add_mul_ediv a0 (2 ^ n)
  have e1 := Int.emod_add_mul_ediv a1 (2 ^ n)
  have hhi : -9223372036854775808 ≤ a0 / 2 ^ n ∧ a0 / 2 ^ n ≤ 9223372036854775807 := by
    constructor
    · apply Int.le_ediv_of_mul_le (by omega)
      have : (-9223372036854775808 : Int) * 2 ^ n ≤ -9223372036854775808 * 1 := Int.mul_le_mul_of_nonpos_left (by omega) (by omega)
      omega
    · apply Int.ediv_le_of_le_mul (by omega)
      have : (9223372036854775807 : Int) * 1 ≤ 9223372036854775807 * 2 ^ n := Int.mul_le_mul_of_nonneg_left (by omega) (by omega)
      omega
  generalize (2 : Int) ^ n = P at *
  generalize (2 : Int) ^ (64 - n) = Q at *
  have m1 : (a0 % P + 1) * Q ≤ P * Q := Int.mul_le_mul_of_nonneg_right (by omega) (by omega)
  rw [Int.add_mul, Int.one_mul, hp] at m1
  have m0 : 0 ≤ a0 % P * Q := Int.mul_nonneg c0 (by omega)
  have hX : Wd.vl a0 a1 = a1 + P * (a0 * Q) := by
    unfold Wd.vl; rw [← hp]; grind
  have hmod : Wd.vl a0 a1 % P = a1 % P := by rw [hX, Int.add_mul_emod_self_left]
  have hdiv : Wd.vl a0 a1 / P = a1 / P + a0 * Q := by rw [hX, Int.add_mul_ediv_left _ _ (by omega)]
  have hq : Wd.ok (a0 / P) (a0 % P * Q + a1 / P) := ⟨hhi.1, hhi.2, by omega, by omega⟩
  have hv : Wd.vl (a0 / P) (a0 % P * Q + a1 / P) = Wd.vl a0 a1 / P := by
    rw [hdiv]; unfold Wd.vl
    rw [← hp]
    have : a0 * Q = a0 % P * Q + a0 / P * (P * Q) := by
      conv => lhs; rw [← ea]
      grind
    omega
  refine Shift_end hq hv (by omega) ?_ ?_ k
  · rw [hmod]
    have : (a1 % P * Q > 9223372036854775808) ↔ 2 * (a1 % P) > P := by
      constructor
      · intro h
        by_cases c : 2 * (a1 % P) > P
        · exact c
        · have : 2 * (a1 % P) * Q ≤ P * Q := Int.mul_le_mul_of_nonneg_right (by omega) (by omega)
          rw [Int.mul_assoc] at this; omega
      · intro h
        have : (P + 1) * Q ≤ 2 * (a1 % P) * Q := Int.mul_le_mul_of_nonneg_right (by omega) (by omega)
        rw [Int.add_mul, Int.one_mul, hp, Int.mul_assoc] at this; omega
    rw [← this]
    omega
  · rw [hmod]
    constructor
    · rintro ⟨h, _⟩
      have : 2 * (a1 % P) * Q = P * Q := by rw [hp, Int.mul_assoc]; omega
      exact Int.eq_of_mul_eq_mul_right (by omega) this
    · intro h
      have : 2 * (a1 % P) * Q = P * Q := by rw [h]
      rw [hp, Int.mul_assoc] at this; omega
theorem Shift_hi {a0 a1 : Int} (ha : Wd.ok a0 a1) (m : Nat) (h2 : m ≤ 62) (k : Nat) : wide_Shift.j0 (k + 1 + 1) ((m + 64 : Nat) : Int) false a0 a1 = some (Wd.wr (Wd.rnd (Wd.vl a0 a1) (18446744073709551616 * 2 ^ m))) := by
  obtain ⟨a2, a3, a4, a5⟩ := ha
  have hp := pow_split m (by omega)
  have p1 := pow_pos m
  have p2 := pow_pos (64 - m)
  have ew : wrap64 (((m + 64 : Nat) : Int) - 64) = (m : Int) := by rw [wrap64_w, Wd.w64_id (by omega) (by omega)]; omega
  have ew2 : wrap64 (64 - (m : Int)) = ((64 - m : Nat) : Int) := by rw [wrap64_w, Wd.w64_id (by omega) (by omega)]; omega
  simp only [wide_Shift.j0, Bool.false_eq_true, if_false]
  have hd : wide_down.f a0 a1 ((m + 64 : Nat) : Int) = some (a0 / 9223372036854775808, (a0 / 2 ^ m) % 18446744073709551616, (a0 % 2 ^ m) * 2 ^ (64 - m) + a1 / 2 ^ m, (a1 % 2 ^ m) * 2 ^ (64 - m)) := by
    unfold wide_down.f
    rw [ew, ew2]
    clear ew ew2
    rw [if_pos (by omega), if_pos (by omega), if_pos (by omega), shr_i64 _ m (by omega) _ rfl, shl_u64 _ (64 - m) (by omega) _ rfl, shr_u64 _ m (by omega) _ rfl, shl_u64 _ (64 - m) (by omega) _ rfl, u64w, u64w]
    have em : a0 % 18446744073709551616 % 2 ^ m = a0 % 2 ^ m := Int.emod_emod_of_dvd a0 ⟨2 ^ (64 - m), hp.symm⟩
    have e1 : a0 % 18446744073709551616 * 2 ^ (64 - m) % 18446744073709551616 = (a0 % 2 ^ m) * 2 ^ (64 - m) := by
      conv => lhs; rhs; rw [← hp]
      rw [mul_mod _ _ _ (by omega), em]
    have e2 : a1 * 2 ^ (64 - m) % 18446744073709551616 = (a1 % 2 ^ m) * 2 ^ (64 - m) := by
      conv => lhs; rhs; rw [← hp]
      rw [mul_mod _ _ _ (by omega)]
    have d1 : a1 / 2 ^ m < 2 ^ (64 - m) := Int.ediv_lt_of_lt_mul (by omega) (by rw [Int.mul_comm]; omega)
    rw [e1, e2, or_fill _ _ m (by omega) (Int.emod_nonneg _ (by omega)) (Int.emod_lt_of_pos _ (by omega)) (Int.ediv_nonneg a4 (by omega)) d1]
  rw [hd]
  clear ew ew2
  simp only [Option.bind_some]
  have d0 : 0 ≤ a1 / 2 ^ m := Int.ediv_nonneg a4 (by omega)
  have d1 : a1 / 2 ^ m < 2 ^ (64 - m) := Int.ediv_lt_of_lt_mul (by omega) (by rw [Int.mul_comm]; omega)
  have c0 := Int.emod_nonneg a0 (show (2 : Int) ^ m ≠ 0 by omega)
  have c1 := Int.emod_lt_of_pos a0 (show (0 : Int) < 2 ^ m by omega)
  have r0 := Int.emod_nonneg a1 (show (2 : Int) ^ m ≠ 0 by omega)
  have r1 := Int.emod_lt_of_pos a1 (show (0 : Int) < 2 ^ m by omega)
  have ea := Int.emod_add_mul_ediv a0 (2 ^ m)
  have e1 := Int.emod_add_mul_ediv a1 (2 ^ m)
  have hhi : -9223372036854775808 ≤ a0 / 2 ^ m ∧ a0 / 2 ^ m ≤ 9223372036854775807 := by
    constructor
    · apply Int.le_ediv_of_mul_le (by omega)
      have : (-9223372036854775808 : Int) * 2 ^ m ≤ -9223372036854775808 * 1 := Int.mul_le_mul_of_nonpos_left (by omega) (by omega)
      omega
    · apply Int.ediv_le_of_le_mul (by omega)
      have : (9223372036854775807 : Int) * 1 ≤ 9223372036854775807 * 2 ^ m := Int.mul_le_mul_of_nonneg_left (by omega) (by omega)
      omega
  have hneg : a0 < 0 ↔ a0 / 2 ^ m < 0 := by
    constructor
    · intro h; exact Int.ediv_neg_of_neg_of_pos h (by omega)
    · intro h
      by_cases c : a0 < 0
      · exact c
      · have := Int.ediv_nonneg (show 0 ≤ a0 by omega) (show (0 : Int) ≤ 2 ^ m by omega); omega
  generalize (2 : Int) ^ m = P at *
  generalize (2 : Int) ^ (64 - m) = Q at *
  have b1 : (a0 % P + 1) * Q ≤ P * Q := Int.mul_le_mul_of_nonneg_right (by omega) (by omega)
  rw [Int.add_mul, Int.one_mul, hp] at b1
  have b0 : 0 ≤ a0 % P * Q := Int.mul_nonneg c0 (by omega)
  have b3 : (a1 % P + 1) * Q ≤ P * Q := Int.mul_le_mul_of_nonneg_right (by omega) (by omega)
  rw [Int.add_mul, Int.one_mul, hp] at b3
  have b2 : 0 ≤ a1 % P * Q := Int.mul_nonneg r0 (by omega)
  have hX : Wd.vl a0 a1 = (a1 + 18446744073709551616 * (a0 % P)) + (18446744073709551616 * P) * (a0 / P) := by
    unfold Wd.vl; conv => lhs; rw [← ea]
    grind
  have hr : 0 ≤ a1 + 18446744073709551616 * (a0 % P) ∧ a1 + 18446744073709551616 * (a0 % P) < 18446744073709551616 * P := by omega
  have hmod : Wd.vl a0 a1 % (18446744073709551616 * P) = a1 + 18446744073709551616 * (a0 % P) := by
    rw [hX, Int.add_mul_emod_self_left, Int.emod_eq_of_lt hr.1 hr.2]
  have hdiv : Wd.vl a0 a1 / (18446744073709551616 * P) = a0 / P := by
    rw [hX, Int.add_mul_ediv_left _ _ (by omega), Int.ediv_eq_zero_of_lt hr.1 hr.2, Int.zero_add]
  have hq : Wd.ok (a0 / 9223372036854775808) (a0 / P % 18446744073709551616) := by unfold Wd.ok; omega
  have hv : Wd.vl (a0 / 9223372036854775808) (a0 / P % 18446744073709551616) = Wd.vl a0 a1 / (18446744073709551616 * P) := by
    rw [hdiv]; unfold Wd.vl; omega
  -- all that falls out, Q times
  have hA : (a1 + 18446744073709551616 * (a0 % P)) * Q = (a0 % P * Q + a1 / P) * 18446744073709551616 + a1 % P * Q := by
    have : a1 * Q = a1 % P * Q + a1 / P * (P * Q) := by
      conv => lhs; rw [← e1]
      grind
    rw [Int.add_mul, this, hp]; grind
  refine Shift_end hq hv b2 ?_ ?_ k
  · rw [hmod]
    have : (2 * (a1 + 18446744073709551616 * (a0 % P)) > 18446744073709551616 * P) ↔ 2 * ((a1 + 18446744073709551616 * (a0 % P)) * Q) > 18446744073709551616 * (P * Q) := by
      rw [← Int.mul_assoc, ← Int.mul_assoc]
      constructor
      · intro h; exact Int.mul_lt_mul_of_pos_right h (by omega)
      · intro h; exact Int.lt_of_mul_lt_mul_right h (by omega)
    rw [this, hA, hp]
    omega
  · rw [hmod]
    have : (2 * (a1 + 18446744073709551616 * (a0 % P)) = 18446744073709551616 * P) ↔ 2 * ((a1 + 18446744073709551616 * (a0 % P)) * Q) = 18446744073709551616 * (P * Q) := by
      rw [← Int.mul_assoc, ← Int.mul_assoc]
      constructor
      · intro h; rw [h]
      · intro h; exact Int.eq_of_mul_eq_mul_right (by omega) h
    rw [this, hA, hp]
    omega
/-- Shift, at every count that it takes -/
theorem Shift_f {a0 a1 : Int} (ha : Wd.ok a0 a1) (n : Nat) (h1 : 1 ≤ n) (h2 : n ≤ 126) (k : Nat) (hk : 2 ≤ k) : wide_Shift.f k a0 a1 n = some (Wd.wr (Wd.rnd (Wd.vl a0 a1) (2 ^ n))) := by
  obtain ⟨k, rfl⟩ : ∃ m, k = m + 1 + 1 := ⟨k - 2, by omega⟩
  unfold wide_Shift.f
  rw [if_neg (by omega), decide_eq_false (by omega)]
  by_cases c : n < 64
  · exact Shift_lo ha n h1 c k
  · obtain ⟨m, rfl⟩ : ∃ m, n = m + 64 := ⟨n - 64, by omega⟩
    rw [Shift_hi ha m (by omega) k, Int.pow_add, Int.mul_comm]; rfl
theorem awake_f (k : Nat) (hk : 3 ≤ k) : carousellaw2_awake.f k = some true := by
  unfold carousellaw2_awake.f
  rw [Prod_f _ _ (by omega) (by omega) (by omega) (by omega), show Wd.wr (4611686018427387904 * 4) = (1, 0) by decide]
  simp only [Option.bind_some]
  rw [if_pos (by decide), Of_f 3 (by omega) (by omega), show Wd.wr 3 = (0, 3) by decide]
  simp only [Option.bind_some]
  have := Shift_f (show Wd.ok 0 3 by unfold Wd.ok; omega) 1 (by omega) (by omega) k (by omega)
  rw [show ((1 : Nat) : Int) = 1 from rfl] at this
  rw [this, show Wd.wr (Wd.rnd (Wd.vl 0 3) (2 ^ 1)) = (0, 2) by decide]
  simp only [Option.bind_some]
  rw [Of_f 2 (by omega) (by omega), show Wd.wr 2 = (0, 2) by decide]
  simp only [Option.bind_some]
  rw [if_pos (by decide), Of_f (-1) (by omega) (by omega), show Wd.wr (-1) = (-1, 18446744073709551615) by decide]
  simp
theorem ps_eq (a b c : Int) : carouselref1_plus.s a b c = (a + b + c) % 18446744073709551616 := by
  unfold carouselref1_plus.s; rw [u64w, u64w]; omega
theorem pc_eq (a b c : Int) (a0 : 0 ≤ a) (a1 : a < 18446744073709551616) (b0 : 0 ≤ b) (b1 : b < 18446744073709551616) (c0 : 0 ≤ c) (c1 : c ≤ 1) : carouselref1_plus.c a b c = (a + b + c) / 18446744073709551616 := by
  unfold carouselref1_plus.c; rw [ps_eq, u64w]; split <;> (try split) <;> omega
theorem plus_f {a0 a1 a2 a3 b0 b1 b2 b3 : Int} (ha : Bn.ok a0 a1 a2 a3) (hb : Bn.ok b0 b1 b2 b3) : ∃ r0 r1 r2 r3, carouselref1_plus.f a0 a1 a2 a3 b0 b1 b2 b3 = some (r0, r1, r2, r3) ∧ Bn.ok r0 r1 r2 r3 ∧ Bn.bv r0 r1 r2 r3 = (Bn.bv a0 a1 a2 a3 + Bn.bv b0 b1 b2 b3) % 115792089237316195423570985008687907853269984665640564039457584007913129639936 := by
  refine ⟨_, _, _, _, rfl, ?_⟩
  unfold Bn.ok at ha hb
  simp only [ps_eq]
  have e1 := pc_eq a0 b0 0 (by omega) (by omega) (by omega) (by omega) (by omega) (by omega)
  generalize carouselref1_plus.c a0 b0 0 = c1 at *
  have e2 := pc_eq a1 b1 c1 (by omega) (by omega) (by omega) (by omega) (by omega) (by omega)
  generalize carouselref1_plus.c a1 b1 c1 = c2 at *
  have e3 := pc_eq a2 b2 c2 (by omega) (by omega) (by omega) (by omega) (by omega) (by omega)
  generalize carouselref1_plus.c a2 b2 c2 = c3 at *
  unfold Bn.ok Bn.bv
  omega
theorem rsize_f (a : Int) (h0 : -9223372036854775808 ≤ a) (h1 : a ≤ 9223372036854775807) : carouselref1_size.f a = some (if a < 0 then -a else a) := by
  unfold carouselref1_size.f
  split
  · rw [u64w, u64w]; congr 1; unfold wrap64; omega
  · rw [u64w]; congr 1; omega
theorem From_f (a : Int) (h0 : -9223372036854775808 ≤ a) (h1 : a ≤ 9223372036854775807) : carouselref1_From.f a = some (decide (a < 0), if a < 0 then -a else a, 0, 0, 0) := by
  unfold carouselref1_From.f
  rw [rsize_f a h0 h1]; rfl
theorem xor_all (x : Int) (h0 : 0 ≤ x) (h1 : x < 18446744073709551616) : Go.bits .xor .u64 18446744073709551615 x = 18446744073709551615 - x := by
  rw [Go.u64_xor 18446744073709551615 x (by omega) (by omega) h0 (by omega)]
  obtain ⟨X, rfl⟩ := Int.eq_ofNat_of_zero_le h0
  have hx : X < 2 ^ 64 := by omega
  have e : (18446744073709551615 : Int).toNat = 2 ^ 64 - 1 := rfl
  rw [e, Int.toNat_natCast]
  have h : (2 ^ 64 - 1) ^^^ X = 2 ^ 64 - 1 - X := by
    apply Nat.eq_of_testBit_eq
    intro i
    rw [Nat.testBit_xor, Nat.testBit_two_pow_sub_one]
    rw [show 2 ^ 64 - 1 - X = 2 ^ 64 - (X + 1) by omega, Nat.testBit_two_pow_sub_succ hx]
    by_cases c : i < 64
    · simp [c]
    · have t : X.testBit i = false := Nat.testBit_lt_two_pow (Nat.lt_of_lt_of_le hx (Nat.pow_le_pow_right (by decide) (show 64 ≤ i by omega)))
      simp [c, t]
  rw [h]
  omega
theorem Wide_f {n : Bool} {a0 a1 a2 a3 : Int} (h : Bn.ok a0 a1 a2 a3) : carouselref1_Wide.f n a0 a1 a2 a3 = some (Wd.wr (Bn.nv n a0 a1 a2 a3)) := by
  unfold Bn.ok at h
  unfold carouselref1_Wide.f Bn.nv Bn.bv Wd.wr Wd.w64
  cases n
  · simp only [Bool.false_eq_true, if_false]
    unfold wrap64
    congr 1
    rw [Prod.mk.injEq]
    omega
  · simp only [if_true]
    rw [xor_all a0 (by omega) (by omega), xor_all a1 (by omega) (by omega), u64w, u64w]
    unfold wrap64
    split <;> (congr 1; rw [Prod.mk.injEq]; omega)
theorem Times_f (a b : Int) (a0 : -9223372036854775808 ≤ a) (a1 : a ≤ 9223372036854775807) (b0 : -9223372036854775808 ≤ b) (b1 : b ≤ 9223372036854775807) :
    ∃ q0 q1 q2 q3, carouselref1_Times.f a b = some ((decide (a < 0)) != (decide (b < 0)), q0, q1, q2, q3) ∧ Bn.ok q0 q1 q2 q3 ∧ Bn.bv q0 q1 q2 q3 ≤ 85070591730234615865843651857942052864 ∧ Bn.nv ((decide (a < 0)) != (decide (b < 0))) q0 q1 q2 q3 = a * b := by
  unfold carouselref1_Times.f
  rw [rsize_f a a0 a1, rsize_f b b0 b1]
  simp only [Option.bind_some]
  have hab : (if a < 0 then -a else a) * (if b < 0 then -b else b) = if ((decide (a < 0)) != (decide (b < 0))) = true then -(a * b) else a * b := by
    by_cases c : a < 0 <;> by_cases d : b < 0 <;> simp [c, d, Int.neg_mul, Int.mul_neg]
  have hx : 0 ≤ (if a < 0 then -a else a) ∧ (if a < 0 then -a else a) ≤ 9223372036854775808 := by split <;> omega
  have hy : 0 ≤ (if b < 0 then -b else b) ∧ (if b < 0 then -b else b) ≤ 9223372036854775808 := by split <;> omega
  generalize (if a < 0 then -a else a) = x at *
  generalize (if b < 0 then -b else b) = y at *
  rw [and32 x hx.1 (by omega), and32 y hy.1 (by omega)]
  have es := split_mul (x % 4294967296) (x / 4294967296) (y % 4294967296) (y / 4294967296)
  rw [show x / 4294967296 * 4294967296 + x % 4294967296 = x by omega, show y / 4294967296 * 4294967296 + y % 4294967296 = y by omega] at es
  have z0 : 0 ≤ x % 4294967296 ∧ x % 4294967296 ≤ 4294967295 := by omega
  have z1 : 0 ≤ x / 4294967296 ∧ x / 4294967296 ≤ 2147483648 := by omega
  have z2 : 0 ≤ y % 4294967296 ∧ y % 4294967296 ≤ 4294967295 := by omega
  have z3 : 0 ≤ y / 4294967296 ∧ y / 4294967296 ≤ 2147483648 := by omega
  have p00 := mul_le z0.1 z0.2 z2.1 z2.2
  have p01 := mul_le z0.1 z0.2 z3.1 z3.2
  have p10 := mul_le z1.1 z1.2 z2.1 z2.2
  have p11 := mul_le z1.1 z1.2 z3.1 z3.2
  have hxy := mul_le hx.1 hx.2 hy.1 hy.2
  generalize x * y = P at *
  generalize x % 4294967296 * (y % 4294967296) = A at *
  generalize x % 4294967296 * (y / 4294967296) = B at *
  generalize x / 4294967296 * (y % 4294967296) = C at *
  generalize x / 4294967296 * (y / 4294967296) = D at *
  simp only [u64w]
  rw [Int.emod_eq_of_lt p00.1 (by omega), Int.emod_eq_of_lt p01.1 (by omega), Int.emod_eq_of_lt p10.1 (by omega), Int.emod_eq_of_lt p11.1 (by omega)]
  obtain ⟨r0, r1, r2, r3, e1, o1, v1⟩ := plus_f (a0 := A) (a1 := D) (a2 := 0) (a3 := 0) (b0 := B * 4294967296 % 18446744073709551616) (b1 := B / 4294967296) (b2 := 0) (b3 := 0) (by unfold Bn.ok; omega) (by unfold Bn.ok; omega)
  rw [e1]
  simp only [Option.bind_some]
  obtain ⟨s0, s1, s2, s3, e2, o2, v2⟩ := plus_f (a0 := r0) (a1 := r1) (a2 := r2) (a3 := r3) (b0 := C * 4294967296 % 18446744073709551616) (b1 := C / 4294967296) (b2 := 0) (b3 := 0) o1 (by unfold Bn.ok; omega)
  rw [e2]
  simp only [Option.bind_some]
  have V : Bn.bv s0 s1 s2 s3 = P := by
    rw [v2, v1]
    unfold Bn.bv
    omega
  refine ⟨s0, s1, s2, s3, rfl, o2, by omega, ?_⟩
  unfold Bn.nv
  rw [V]
  split at hab <;> split <;> first | omega | contradiction
theorem Prods_all (a b : Int) (a0 : -9223372036854775808 ≤ a) (a1 : a ≤ 9223372036854775807) (b0 : -9223372036854775808 ≤ b) (b1 : b ≤ 9223372036854775807) : ∃ k, carousellaw2_WideProds.f k a b = some true := by
  refine ⟨10, ?_⟩
  unfold carousellaw2_WideProds.f
  rw [awake_f 10 (by omega)]
  simp only [Option.bind_some, if_true]
  have hP : carouselref1_Prod.f a b = some (Wd.wr (a * b)) := by
    unfold carouselref1_Prod.f
    obtain ⟨q0, q1, q2, q3, e, o, -, v⟩ := Times_f a b a0 a1 b0 b1
    rw [e]
    simp only [Option.bind_some]
    rw [Wide_f o, v]
    rfl
  have hF : Bn.ok (if a < 0 then -a else a) 0 0 0 := by unfold Bn.ok; split <;> omega
  have hFn : Bn.nv (decide (a < 0)) (if a < 0 then -a else a) 0 0 0 = a := by
    unfold Bn.nv; rw [Bn.bv_small]
    by_cases z : a < 0
    · simp [z]
    · simp [z]
  rw [Prod_f a b a0 a1 b0 b1, hP, Of_f a a0 a1, From_f a a0 a1, Prod_f a 1 a0 a1 (by omega) (by omega), Prod_f b a b0 b1 a0 a1]
  simp only [Option.bind_some, beq_self_eq_true, Bool.and_self, if_true]
  rw [Wide_f hF, hFn, Int.mul_one, Int.mul_comm b a]
  simp only [Option.bind_some, beq_self_eq_true, Bool.and_self, if_true]
theorem WideProds : carousellaw2_WideProds.Pure := by
  intro a b ha hb
  exact Prods_all a b (wf_i64 ha).1 (wf_i64 ha).2 (wf_i64 hb).1 (wf_i64 hb).2
end Go.Proofs.Ytalghnbolnimiaa.Pure
