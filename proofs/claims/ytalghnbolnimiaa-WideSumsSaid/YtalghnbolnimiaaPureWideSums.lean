/- The plain law behind WideSums: what the functions compute answers as the statement says, for every input. No condition. -/
import Derived.Test.YtalghnbolnimiaaPWideSumsx7
import Derived.Laws.BitsAllLaws
import Derived.Test.YtalghnbolnimiaaWideMath
import Derived.Test.YtalghnbolnimiaaFixMath
import Derived.Test.YtalghnbolnimiaaBigMath
namespace Go.Proofs.Ytalghnbolnimiaa.Pure
open Go.RowKit Go.Proofs.Ytalghnbolnimiaa.PWideSums Go.Proofs.YtalghnbolnimiaaW.PrintWords Go.Proofs.YtalghnbolnimiaaW.PrintLast
set_option linter.unusedVariables false
set_option linter.unusedSimpArgs false
theorem w64 {x : Int} (h1 : -9223372036854775808 ≤ x) (h2 : x ≤ 9223372036854775807) : wrap64 x = x := by unfold wrap64; omega
theorem drop_rd (l : List Int) (i : Nat) (h : i < l.length) : l.drop i = rd l i :: l.drop (i + 1) := by
  rw [List.drop_eq_getElem_cons h]
  congr 1
  unfold rd
  rw [show (i : Int).toNat = i from rfl, List.getD_eq_getElem?_getD, List.getElem?_eq_getElem h]; rfl
theorem rd_mem (l : List Int) (i : Nat) (h : i < l.length) : rd l i ∈ l := by
  have := drop_rd l i h
  exact List.mem_of_mem_drop (i := i) (by rw [this]; exact List.mem_cons_self ..)
theorem k_succ {k n : Nat} (h : n < k) : ∃ m, k = m + 1 ∧ n ≤ m := ⟨k - 1, by omega, by omega⟩
theorem wf_i64 {x : Int} (h : (Lit.int .i64 x).wf = true) : -9223372036854775808 ≤ x ∧ x ≤ 9223372036854775807 := by
  simp only [Lit.wf, Bool.and_eq_true, decide_eq_true_eq] at h
  have h1 : IntKind.i64.min = -9223372036854775808 := rfl
  have h2 : IntKind.i64.max = 9223372036854775807 := rfl
  omega
theorem u64w (n : Int) : IntKind.u64.wrap n = n % 18446744073709551616 := by simp [IntKind.wrap, IntKind.bits, IntKind.signed]
theorem wrap64_w (n : Int) : wrap64 n = Wd.w64 n := by unfold wrap64 Wd.w64; rfl
theorem and32 (x : Int) (h0 : 0 ≤ x) (h1 : x ≤ 18446744073709551615) : Go.bits .and .u64 x 4294967295 = x % 4294967296 := by
  rw [Go.u64_and x 4294967295 h0 (by omega) (by omega) (by omega)]
  have : (4294967295 : Int).toNat = 2 ^ 32 - 1 := rfl
  rw [this, Nat.and_two_pow_sub_one_eq_mod]
  omega
theorem and1 (x : Int) (h0 : 0 ≤ x) (h1 : x ≤ 18446744073709551615) : Go.bits .and .u64 x 1 = x % 2 := by
  rw [Go.u64_and x 1 h0 (by omega) (by omega) (by omega)]
  have : (1 : Int).toNat = 2 ^ 1 - 1 := rfl
  rw [this, Nat.and_two_pow_sub_one_eq_mod]
  omega
theorem Of_f (a : Int) (h0 : -9223372036854775808 ≤ a) (h1 : a ≤ 9223372036854775807) : wide_Of.f a = some (Wd.wr a) := by
  unfold wide_Of.f Wd.wr Wd.w64
  rw [u64w]; congr 1; rw [Prod.mk.injEq]; omega
theorem Add64_f (a b c : Int) (h0 : 0 ≤ a) (h1 : 0 ≤ b) (h2 : 0 ≤ c) (h3 : c ≤ 1) : bits_Add64.f a b c = some ((a + b + c) % 18446744073709551616, (a + b + c) / 18446744073709551616) := by
  unfold bits_Add64.f; rw [if_pos ⟨h0, h1, h2, h3⟩]
theorem Add_f {a0 a1 b0 b1 : Int} (ha : Wd.ok a0 a1) (hb : Wd.ok b0 b1) : wide_Add.f a0 a1 b0 b1 = some (Wd.wr (Wd.vl a0 a1 + Wd.vl b0 b1)) := by
  obtain ⟨a2, a3, a4, a5⟩ := ha
  obtain ⟨b2, b3, b4, b5⟩ := hb
  unfold wide_Add.f
  rw [Add64_f _ _ _ a4 b4 (by omega) (by omega)]
  simp only [Option.bind_some, u64w]
  rw [Add64_f _ _ _ (by omega) (by omega) (by omega) (by omega)]
  simp only [Option.bind_some, wrap64_w, Wd.wr, Wd.vl, Wd.w64]
  congr 1; rw [Prod.mk.injEq]; omega
theorem Sub64_f (a b c : Int) (h0 : 0 ≤ a) (h1 : 0 ≤ b) (h4 : b ≤ 18446744073709551615) (h2 : 0 ≤ c) (h3 : c ≤ 1) : bits_Sub64.f a b c = some ((a - b - c) % 18446744073709551616, if a < b + c then 1 else 0) := by
  unfold bits_Sub64.f; rw [if_pos ⟨h0, h1, h4, h2, h3⟩]
theorem Sub_f {a0 a1 b0 b1 : Int} (ha : Wd.ok a0 a1) (hb : Wd.ok b0 b1) : wide_Sub.f a0 a1 b0 b1 = some (Wd.wr (Wd.vl a0 a1 - Wd.vl b0 b1)) := by
  obtain ⟨a2, a3, a4, a5⟩ := ha
  obtain ⟨b2, b3, b4, b5⟩ := hb
  unfold wide_Sub.f
  rw [Sub64_f _ _ _ a4 b4 b5 (by omega) (by omega)]
  simp only [Option.bind_some, u64w]
  by_cases c : a1 < b1 + 0
  · rw [if_pos c, Sub64_f _ _ _ (by omega) (by omega) (by omega) (by omega) (by omega)]
    simp only [Option.bind_some, wrap64_w, Wd.wr, Wd.vl, Wd.w64]
    congr 1; rw [Prod.mk.injEq]; omega
  · rw [if_neg c, Sub64_f _ _ _ (by omega) (by omega) (by omega) (by omega) (by omega)]
    simp only [Option.bind_some, wrap64_w, Wd.wr, Wd.vl, Wd.w64]
    congr 1; rw [Prod.mk.injEq]; omega
theorem Neg_f {a0 a1 : Int} (ha : Wd.ok a0 a1) : wide_Neg.f a0 a1 = some (Wd.wr (-Wd.vl a0 a1)) := by
  unfold wide_Neg.f
  rw [Sub_f (show Wd.ok 0 0 by unfold Wd.ok; omega) ha]
  simp [Wd.vl]
theorem size_f (a : Int) (h0 : -9223372036854775808 ≤ a) (h1 : a ≤ 9223372036854775807) : wide_size.f a = some (if a < 0 then -a else a) := by
  unfold wide_size.f
  simp only [u64w]
  split <;> (congr 1; omega)
theorem mul_le {a b A B : Int} (h0 : 0 ≤ a) (h1 : a ≤ A) (h2 : 0 ≤ b) (h3 : b ≤ B) : 0 ≤ a * b ∧ a * b ≤ A * B :=
  ⟨Int.mul_nonneg h0 h2, Int.mul_le_mul h1 h3 h2 (by omega)⟩
theorem split_mul (x0 x1 y0 y1 : Int) : (x1 * 4294967296 + x0) * (y1 * 4294967296 + y0) = (x1 * y1) * 18446744073709551616 + ((x1 * y0) + (x0 * y1)) * 4294967296 + x0 * y0 := by grind
theorem Mul64_f (a b : Int) (a0 : 0 ≤ a) (a1 : a ≤ 18446744073709551615) (b0 : 0 ≤ b) (b1 : b ≤ 18446744073709551615) : bits_Mul64.f a b = some (a * b / 18446744073709551616, a * b % 18446744073709551616) := by
  unfold bits_Mul64.f
  rw [and32 a a0 a1, and32 b b0 b1]
  simp only [u64w]
  have ea : a = (a / 4294967296) * 4294967296 + a % 4294967296 := by omega
  have eb : b = (b / 4294967296) * 4294967296 + b % 4294967296 := by omega
  have es := split_mul (a % 4294967296) (a / 4294967296) (b % 4294967296) (b / 4294967296)
  rw [← ea, ← eb] at es
  have h1 : 0 ≤ a / 4294967296 ∧ a / 4294967296 ≤ 4294967295 := by omega
  have h2 : 0 ≤ a % 4294967296 ∧ a % 4294967296 ≤ 4294967295 := by omega
  have h3 : 0 ≤ b / 4294967296 ∧ b / 4294967296 ≤ 4294967295 := by omega
  have h4 : 0 ≤ b % 4294967296 ∧ b % 4294967296 ≤ 4294967295 := by omega
  have p00 := mul_le h2.1 h2.2 h4.1 h4.2
  have p10 := mul_le h1.1 h1.2 h4.1 h4.2
  have p01 := mul_le h2.1 h2.2 h3.1 h3.2
  have p11 := mul_le h1.1 h1.2 h3.1 h3.2
  clear ea eb a0 a1 b0 b1
  generalize a / 4294967296 * (b / 4294967296) = P11 at *
  generalize a / 4294967296 * (b % 4294967296) = P10 at *
  generalize a % 4294967296 * (b / 4294967296) = P01 at *
  generalize a % 4294967296 * (b % 4294967296) = P00 at *
  generalize a * b = S at *
  clear h1 h2 h3 h4
  simp only [Int.reduceMul] at p00 p10 p01 p11
  have r1 : (P10 % 18446744073709551616 + P00 % 18446744073709551616 / 4294967296) % 18446744073709551616 = P10 + P00 / 4294967296 := by omega
  rw [r1, and32 _ (by omega) (by omega)]
  congr 1
  rw [Prod.mk.injEq]
  constructor
  · omega
  · rfl
theorem Prod_f (a b : Int) (a0 : -9223372036854775808 ≤ a) (a1 : a ≤ 9223372036854775807) (b0 : -9223372036854775808 ≤ b) (b1 : b ≤ 9223372036854775807) : wide_Prod.f a b = some (Wd.wr (a * b)) := by
  unfold wide_Prod.f
  rw [size_f a a0 a1, size_f b b0 b1]
  simp only [Option.bind_some]
  have sa : 0 ≤ (if a < 0 then -a else a) ∧ (if a < 0 then -a else a) ≤ 9223372036854775808 := by split <;> omega
  have sb : 0 ≤ (if b < 0 then -b else b) ∧ (if b < 0 then -b else b) ≤ 9223372036854775808 := by split <;> omega
  rw [Mul64_f _ _ sa.1 (by omega) sb.1 (by omega)]
  simp only [Option.bind_some]
  have hp := mul_le sa.1 sa.2 sb.1 sb.2
  simp only [Int.reduceMul] at hp
  have hab : a * b = if ((decide (a < 0)) != (decide (b < 0))) = true then -((if a < 0 then -a else a) * (if b < 0 then -b else b)) else (if a < 0 then -a else a) * (if b < 0 then -b else b) := by
    by_cases ca : a < 0 <;> by_cases cb : b < 0 <;> simp [ca, cb, Int.neg_mul, Int.mul_neg]
  generalize (if a < 0 then -a else a) * (if b < 0 then -b else b) = S at *
  rw [hab]
  split
  · have hw : Wd.ok (wrap64 (S / 18446744073709551616)) (S % 18446744073709551616) := by
      rw [wrap64_w, Wd.w64_id (by omega) (by omega)]; unfold Wd.ok; omega
    rw [Neg_f hw]
    simp only [Option.bind_some]
    rw [wrap64_w, Wd.w64_id (by omega) (by omega)]
    have : Wd.vl (S / 18446744073709551616) (S % 18446744073709551616) = S := by unfold Wd.vl; omega
    rw [this]
  · simp only [wrap64_w]; rfl
theorem pow_split (n : Nat) (h : n ≤ 64) : (2 : Int) ^ n * 2 ^ (64 - n) = 18446744073709551616 := by
  rw [← Int.pow_add, show n + (64 - n) = 64 by omega]; rfl
theorem pow_pos (n : Nat) : (1 : Int) ≤ 2 ^ n := by
  have : (0 : Int) < 2 ^ n := Int.pow_pos (by decide)
  omega
/-- a word that is shifted up beside one that fills what it leaves -/
theorem or_fill (c d : Int) (n : Nat) (hn : n ≤ 64) (c0 : 0 ≤ c) (c1 : c < 2 ^ n) (d0 : 0 ≤ d) (d1 : d < 2 ^ (64 - n)) : Go.bits .or .u64 (c * 2 ^ (64 - n)) d = c * 2 ^ (64 - n) + d := by
  have hp := pow_split n hn
  have p1 := pow_pos n
  have p2 := pow_pos (64 - n)
  have e1 : (c + 1) * 2 ^ (64 - n) ≤ 2 ^ n * 2 ^ (64 - n) := Int.mul_le_mul_of_nonneg_right (by omega) (by omega)
  rw [Int.add_mul, Int.one_mul, hp] at e1
  have e0 : 0 ≤ c * 2 ^ (64 - n) := Int.mul_nonneg c0 (by omega)
  rw [Go.u64_or _ _ e0 (by omega) d0 (by omega)]
  obtain ⟨C, rfl⟩ := Int.eq_ofNat_of_zero_le c0
  obtain ⟨D, rfl⟩ := Int.eq_ofNat_of_zero_le d0
  have hD : D < 2 ^ (64 - n) := by
    have : ((2 ^ (64 - n) : Nat) : Int) = 2 ^ (64 - n) := by simp
    omega
  have hC : ((C : Int) * 2 ^ (64 - n)).toNat = C * 2 ^ (64 - n) := by
    have : (C : Int) * 2 ^ (64 - n) = ((C * 2 ^ (64 - n) : Nat) : Int) := by simp
    rw [this]; rfl
  rw [hC, Int.toNat_natCast, ← Nat.shiftLeft_eq, ← Nat.shiftLeft_add_eq_or_of_lt hD, Nat.shiftLeft_eq]
  simp
theorem shl_u64 (x : Int) (n : Nat) (hn : n ≤ 64) (h : Int) (hh : h = (n : Int)) : shl .u64 x h = (x * 2 ^ n) % 18446744073709551616 := by
  subst hh
  unfold shl
  rw [u64w, show min ((n : Int)).toNat IntKind.u64.bits = n by simp [IntKind.bits]; omega]
theorem shr_u64 (x : Int) (n : Nat) (hn : n ≤ 64) (h : Int) (hh : h = (n : Int)) : shr .u64 x h = x / 2 ^ n := by
  subst hh
  unfold shr
  rw [show min ((n : Int)).toNat IntKind.u64.bits = n by simp [IntKind.bits]; omega]
theorem shr_i64 (x : Int) (n : Nat) (hn : n ≤ 64) (h : Int) (hh : h = (n : Int)) : shr .i64 x h = x / 2 ^ n := by
  subst hh
  unfold shr
  rw [show min ((n : Int)).toNat IntKind.i64.bits = n by simp [IntKind.bits]; omega]
/-- (x * Q) mod (P * Q) -/
theorem mul_mod (x P Q : Int) (hQ : 0 < Q) : (x * Q) % (P * Q) = (x % P) * Q := by
  rw [Int.mul_comm x Q, Int.mul_comm P Q, Int.mul_emod_mul_of_pos x P hQ, Int.mul_comm]
theorem Shift_end {q0 q1 h l X D : Int} (hq : Wd.ok q0 q1) (hv : Wd.vl q0 q1 = X / D) (hl : 0 ≤ l) (hgt : (h > 9223372036854775808 ∨ (h = 9223372036854775808 ∧ l > 0)) ↔ 2 * (X % D) > D) (heq : (h = 9223372036854775808 ∧ l = 0) ↔ 2 * (X % D) = D) (k : Nat) :
    (if h > 9223372036854775808 then (wide_Shift.j1 (k + 1) true q0 q1) else (if h = 9223372036854775808 then (if l > 0 then (wide_Shift.j1 (k + 1) true q0 q1) else (wide_Shift.j1 (k + 1) ((Go.bits .and .u64 q1 1) == 1) q0 q1)) else (wide_Shift.j1 (k + 1) false q0 q1))) = some (Wd.wr (Wd.rnd X D)) := by
  have ht : wide_Shift.j1 (k + 1) true q0 q1 = some (Wd.wr (X / D + 1)) := by
    simp only [wide_Shift.j1, if_true]
    rw [Of_f 1 (by omega) (by omega)]
    simp only [Option.bind_some]
    rw [Add_f hq (Wd.wr_ok 1), hv, Wd.vl_wr_id (by omega) (by omega)]; rfl
  have hf : wide_Shift.j1 (k + 1) false q0 q1 = some (Wd.wr (X / D)) := by
    simp only [wide_Shift.j1]
    rw [← hv, Wd.wr_vl hq]; rfl
  have ha : Go.bits .and .u64 q1 1 = X / D % 2 := by
    rw [and1 q1 hq.2.2.1 hq.2.2.2, ← hv]; unfold Wd.vl; omega
  rw [ha, ht, hf]
  unfold Wd.rnd
  by_cases c1 : 2 * (X % D) > D
  · rw [if_pos (c := 2 * (X % D) > D ∨ 2 * (X % D) = D ∧ X / D % 2 = 1) (.inl c1)]
    rcases hgt.mpr c1 with h1 | ⟨h1, h2⟩
    · rw [if_pos h1]
    · rw [if_neg (by omega), if_pos h1, if_pos h2]
  · have n1 := fun h => c1 (hgt.mp h)
    rw [if_neg (fun h1 => n1 (.inl h1))]
    by_cases c2 : 2 * (X % D) = D
    · obtain ⟨h1, h2⟩ := heq.mpr c2
      rw [if_pos h1, if_neg (by omega)]
      by_cases c3 : X / D % 2 = 1
      · rw [if_pos (c := 2 * (X % D) > D ∨ 2 * (X % D) = D ∧ X / D % 2 = 1) (.inr ⟨c2, c3⟩), show (X / D % 2 == 1) = true by simpa using c3, ht]
      · rw [if_neg (c := 2 * (X % D) > D ∨ 2 * (X % D) = D ∧ X / D % 2 = 1) (fun h => h.elim c1 (fun h => c3 h.2)), show (X / D % 2 == 1) = false by simpa using c3, hf]
    · rw [if_neg (c := 2 * (X % D) > D ∨ 2 * (X % D) = D ∧ X / D % 2 = 1) (fun h => h.elim c1 (fun h => c2 h.1))]
      by_cases c4 : h = 9223372036854775808
      · exfalso
        by_cases c5 : l > 0
        · exact n1 (.inr ⟨c4, c5⟩)
        · exact c2 (heq.mp ⟨c4, by omega⟩)
      · rw [if_neg c4]
theorem Shift_lo {a0 a1 : Int} (ha : Wd.ok a0 a1) (n : Nat) (h1 : 1 ≤ n) (h2 : n < 64) (k : Nat) : wide_Shift.j0 (k + 1 + 1) n false a0 a1 = some (Wd.wr (Wd.rnd (Wd.vl a0 a1) (2 ^ n))) := by
  obtain ⟨a2, a3, a4, a5⟩ := ha
  have hp := pow_split n (by omega)
  have p1 := pow_pos n
  have p2 := pow_pos (64 - n)
  have hev : ∃ H, (2 : Int) ^ n = 2 * H := ⟨2 ^ (n - 1), by rw [← Int.pow_succ']; congr 1; omega⟩
  have ew : wrap64 (64 - (n : Int)) = ((64 - n : Nat) : Int) := by rw [wrap64_w, Wd.w64_id (by omega) (by omega)]; omega
  simp only [wide_Shift.j0, Bool.false_eq_true, if_false]
  have hd : wide_down.f a0 a1 n = some (a0 / 2 ^ n, (a0 % 2 ^ n) * 2 ^ (64 - n) + a1 / 2 ^ n, (a1 % 2 ^ n) * 2 ^ (64 - n), 0) := by
    unfold wide_down.f
    rw [if_neg (by omega), if_pos (by omega), ew]
    clear ew
    rw [if_pos (by omega), shr_i64 _ n (by omega) _ rfl, shl_u64 _ (64 - n) (by omega) _ rfl, shr_u64 _ n (by omega) _ rfl, shl_u64 _ (64 - n) (by omega) _ rfl, u64w]
    have em : a0 % 18446744073709551616 % 2 ^ n = a0 % 2 ^ n := Int.emod_emod_of_dvd a0 ⟨2 ^ (64 - n), hp.symm⟩
    have e1 : a0 % 18446744073709551616 * 2 ^ (64 - n) % 18446744073709551616 = (a0 % 2 ^ n) * 2 ^ (64 - n) := by
      conv => lhs; rhs; rw [← hp]
      rw [mul_mod _ _ _ (by omega), em]
    have e2 : a1 * 2 ^ (64 - n) % 18446744073709551616 = (a1 % 2 ^ n) * 2 ^ (64 - n) := by
      conv => lhs; rhs; rw [← hp]
      rw [mul_mod _ _ _ (by omega)]
    have d1 : a1 / 2 ^ n < 2 ^ (64 - n) := Int.ediv_lt_of_lt_mul (by omega) (by rw [Int.mul_comm]; omega)
    rw [e1, e2, or_fill _ _ n (by omega) (Int.emod_nonneg _ (by omega)) (Int.emod_lt_of_pos _ (by omega)) (Int.ediv_nonneg a4 (by omega)) d1]
  rw [hd]
  clear ew
  simp only [Option.bind_some]
  obtain ⟨H, hH⟩ := hev
  have d0 : 0 ≤ a1 / 2 ^ n := Int.ediv_nonneg a4 (by omega)
  have d1 : a1 / 2 ^ n < 2 ^ (64 - n) := Int.ediv_lt_of_lt_mul (by omega) (by rw [Int.mul_comm]; omega)
  have c0 := Int.emod_nonneg a0 (show (2 : Int) ^ n ≠ 0 by omega)
  have c1 := Int.emod_lt_of_pos a0 (show (0 : Int) < 2 ^ n by omega)
  have r0 := Int.emod_nonneg a1 (show (2 : Int) ^ n ≠ 0 by omega)
  have r1 := Int.emod_lt_of_pos a1 (show (0 : Int) < 2 ^ n by omega)
  have ea := Int.emod_add_mul_ediv a0 (2 ^ n)
  have e1 := Int.emod_add_mul_ediv a1 (2 ^ n)
  have hhi : -9223372036854775808 ≤ a0 / 2 ^ n ∧ a0 / 2 ^ n ≤ 9223372036854775807 := by
    constructor
    · apply Int.le_ediv_of_mul_le (by omega)
      have : (-9223372036854775808 : Int) * 2 ^ n ≤ -9223372036854775808 * 1 := Int.mul_le_mul_of_nonpos_left (by omega) (by omega)
      omega
    · apply Int.ediv_le_of_le_mul (by omega)
      have : (9223372036854775807 : Int) * 1 ≤ 9223372036854775807 * 2 ^ n := Int.mul_le_mul_of_nonneg_left (by omega) (by omega)
      omega
  generalize (2 : Int) ^ n = P at *
  generalize (2 : Int) ^ (64 - n) = Q at *
  have m1 : (a0 % P + 1) * Q ≤ P * Q := Int.mul_le_mul_of_nonneg_right (by omega) (by omega)
  rw [Int.add_mul, Int.one_mul, hp] at m1
  have m0 : 0 ≤ a0 % P * Q := Int.mul_nonneg c0 (by omega)
  have hX : Wd.vl a0 a1 = a1 + P * (a0 * Q) := by
    unfold Wd.vl; rw [← hp]; grind
  have hmod : Wd.vl a0 a1 % P = a1 % P := by rw [hX, Int.add_mul_emod_self_left]
  have hdiv : Wd.vl a0 a1 / P = a1 / P + a0 * Q := by rw [hX, Int.add_mul_ediv_left _ _ (by omega)]
  have hq : Wd.ok (a0 / P) (a0 % P * Q + a1 / P) := ⟨hhi.1, hhi.2, by omega, by omega⟩
  have hv : Wd.vl (a0 / P) (a0 % P * Q + a1 / P) = Wd.vl a0 a1 / P := by
    rw [hdiv]; unfold Wd.vl
    rw [← hp]
    have : a0 * Q = a0 % P * Q + a0 / P * (P * Q) := by
      conv => lhs; rw [← ea]
      grind
    omega
  refine Shift_end hq hv (by omega) ?_ ?_ k
  · rw [hmod]
    have : (a1 % P * Q > 9223372036854775808) ↔ 2 * (a1 % P) > P := by
      constructor
      · intro h
        by_cases c : 2 * (a1 % P) > P
        · exact c
        · have : 2 * (a1 % P) * Q ≤ P * Q := Int.mul_le_mul_of_nonneg_right (by omega) (by omega)
          rw [Int.mul_assoc] at this; omega
      · intro h
        have : (P + 1) * Q ≤ 2 * (a1 % P) * Q := Int.mul_le_mul_of_nonneg_right (by omega) (by omega)
        rw [Int.add_mul, Int.one_mul, hp, Int.mul_assoc] at this; omega
    rw [← this]
    omega
  · rw [hmod]
    constructor
    · rintro ⟨h, _⟩
      have : 2 * (a1 % P) * Q = P * Q := by rw [hp, Int.mul_assoc]; omega
      exact Int.eq_of_mul_eq_mul_right (by omega) this
    · intro h
      have : 2 * (a1 % P) * Q = P * Q := by rw [h]
      rw [hp, Int.mul_assoc] at this; omega
theorem Shift_hi {a0 a1 : Int} (ha : Wd.ok a0 a1) (m : Nat) (h2 : m ≤ 62) (k : Nat) : wide_Shift.j0 (k + 1 + 1) ((m + 64 : Nat) : Int) false a0 a1 = some (Wd.wr (Wd.rnd (Wd.vl a0 a1) (18446744073709551616 * 2 ^ m))) := by
  obtain ⟨a2, a3, a4, a5⟩ := ha
  have hp := pow_split m (by omega)
  have p1 := pow_pos m
  have p2 := pow_pos (64 - m)
  have ew : wrap64 (((m + 64 : Nat) : Int) - 64) = (m : Int) := by rw [wrap64_w, Wd.w64_id (by omega) (by omega)]; omega
  have ew2 : wrap64 (64 - (m : Int)) = ((64 - m : Nat) : Int) := by rw [wrap64_w, Wd.w64_id (by omega) (by omega)]; omega
  simp only [wide_Shift.j0, Bool.false_eq_true, if_false]
  have hd : wide_down.f a0 a1 ((m + 64 : Nat) : Int) = some (a0 / 9223372036854775808, (a0 / 2 ^ m) % 18446744073709551616, (a0 % 2 ^ m) * 2 ^ (64 - m) + a1 / 2 ^ m, (a1 % 2 ^ m) * 2 ^ (64 - m)) := by
    unfold wide_down.f
    rw [ew, ew2]
    clear ew ew2
    rw [if_pos (by omega), if_pos (by omega), if_pos (by omega), shr_i64 _ m (by omega) _ rfl, shl_u64 _ (64 - m) (by omega) _ rfl, shr_u64 _ m (by omega) _ rfl, shl_u64 _ (64 - m) (by omega) _ rfl, u64w, u64w]
    have em : a0 % 18446744073709551616 % 2 ^ m = a0 % 2 ^ m := Int.emod_emod_of_dvd a0 ⟨2 ^ (64 - m), hp.symm⟩
    have e1 : a0 % 18446744073709551616 * 2 ^ (64 - m) % 18446744073709551616 = (a0 % 2 ^ m) * 2 ^ (64 - m) := by
      conv => lhs; rhs; rw [← hp]
      rw [mul_mod _ _ _ (by omega), em]
    have e2 : a1 * 2 ^ (64 - m) % 18446744073709551616 = (a1 % 2 ^ m) * 2 ^ (64 - m) := by
      conv => lhs; rhs; rw [← hp]
      rw [mul_mod _ _ _ (by omega)]
    have d1 : a1 / 2 ^ m < 2 ^ (64 - m) := Int.ediv_lt_of_lt_mul (by omega) (by rw [Int.mul_comm]; omega)
    rw [e1, e2, or_fill _ _ m (by omega) (Int.emod_nonneg _ (by omega)) (Int.emod_lt_of_pos _ (by omega)) (Int.ediv_nonneg a4 (by omega)) d1]
  rw [hd]
  clear ew ew2
  simp only [Option.bind_some]
  have d0 : 0 ≤ a1 / 2 ^ m := Int.ediv_nonneg a4 (by omega)
  have d1 : a1 / 2 ^ m < 2 ^ (64 - m) := Int.ediv_lt_of_lt_mul (by omega) (by rw [Int.mul_comm]; omega)
  have c0 := Int.emod_nonneg a0 (show (2 : Int) ^ m ≠ 0 by omega)
  have c1 := Int.emod_lt_of_pos a0 (show (0 : Int) < 2 ^ m by omega)
  have r0 := Int.emod_nonneg a1 (show (2 : Int) ^ m ≠ 0 by omega)
  have r1 := Int.emod_lt_of_pos a1 (show (0 : Int) < 2 ^ m by omega)
  have ea := Int.emod_add_mul_ediv a0 (2 ^ m)
  have e1 := Int.emod_add_mul_ediv a1 (2 ^ m)
  have hhi : -9223372036854775808 ≤ a0 / 2 ^ m ∧ a0 / 2 ^ m ≤ 9223372036854775807 := by
    constructor
    · apply Int.le_ediv_of_mul_le (by omega)
      have : (-9223372036854775808 : Int) * 2 ^ m ≤ -9223372036854775808 * 1 := Int.mul_le_mul_of_nonpos_left (by omega) (by omega)
      omega
    · apply Int.ediv_le_of_le_mul (by omega)
      have : (9223372036854775807 : Int) * 1 ≤ 9223372036854775807 * 2 ^ m := Int.mul_le_mul_of_nonneg_left (by omega) (by omega)
      omega
  have hneg : a0 < 0 ↔ a0 / 2 ^ m < 0 := by
    constructor
    · intro h; exact Int.ediv_neg_of_neg_of_pos h (by omega)
    · intro h
      by_cases c : a0 < 0
      · exact c
      · have := Int.ediv_nonneg (show 0 ≤ a0 by omega) (show (0 : Int) ≤ 2 ^ m by omega); omega
  generalize (2 : Int) ^ m = P at *
  generalize (2 : Int) ^ (64 - m) = Q at *
  have b1 : (a0 % P + 1) * Q ≤ P * Q := Int.mul_le_mul_of_nonneg_right (by omega) (by omega)
  rw [Int.add_mul, Int.one_mul, hp] at b1
  have b0 : 0 ≤ a0 % P * Q := Int.mul_nonneg c0 (by omega)
  have b3 : (a1 % P + 1) * Q ≤ P * Q := Int.mul_le_mul_of_nonneg_right (by omega) (by omega)
  rw [Int.add_mul, Int.one_mul, hp] at b3
  have b2 : 0 ≤ a1 % P * Q := Int.mul_nonneg r0 (by omega)
  have hX : Wd.vl a0 a1 = (a1 + 18446744073709551616 * (a0 % P)) + (18446744073709551616 * P) * (a0 / P) := by
    unfold Wd.vl; conv => lhs; rw [← ea]
    grind
  have hr : 0 ≤ a1 + 18446744073709551616 * (a0 % P) ∧ a1 + 18446744073709551616 * (a0 % P) < 18446744073709551616 * P := by omega
  have hmod : Wd.vl a0 a1 % (18446744073709551616 * P) = a1 + 18446744073709551616 * (a0 % P) := by
    rw [hX, Int.add_mul_emod_self_left, Int.emod_eq_of_lt hr.1 hr.2]
  have hdiv : Wd.vl a0 a1 / (18446744073709551616 * P) = a0 / P := by
    rw [hX, Int.add_mul_ediv_left _ _ (by omega), Int.ediv_eq_zero_of_lt hr.1 hr.2, Int.zero_add]
  have hq : Wd.ok (a0 / 9223372036854775808) (a0 / P % 18446744073709551616) := by unfold Wd.ok; omega
  have hv : Wd.vl (a0 / 9223372036854775808) (a0 / P % 18446744073709551616) = Wd.vl a0 a1 / (18446744073709551616 * P) := by
    rw [hdiv]; unfold Wd.vl; omega
  -- all that falls out, Q times
  have hA : (a1 + 18446744073709551616 * (a0 % P)) * Q = (a0 % P * Q + a1 / P) * 18446744073709551616 + a1 % P * Q := by
    have : a1 * Q = a1 % P * Q + a1 / P * (P * Q) := by
      conv => lhs; rw [← e1]
      grind
    rw [Int.add_mul, this, hp]; grind
  refine Shift_end hq hv b2 ?_ ?_ k
  · rw [hmod]
    have : (2 * (a1 + 18446744073709551616 * (a0 % P)) > 18446744073709551616 * P) ↔ 2 * ((a1 + 18446744073709551616 * (a0 % P)) * Q) > 18446744073709551616 * (P * Q) := by
      rw [← Int.mul_assoc, ← Int.mul_assoc]
      constructor
      · intro h; exact Int.mul_lt_mul_of_pos_right h (by omega)
      · intro h; exact Int.lt_of_mul_lt_mul_right h (by omega)
    rw [this, hA, hp]
    omega
  · rw [hmod]
    have : (2 * (a1 + 18446744073709551616 * (a0 % P)) = 18446744073709551616 * P) ↔ 2 * ((a1 + 18446744073709551616 * (a0 % P)) * Q) = 18446744073709551616 * (P * Q) := by
      rw [← Int.mul_assoc, ← Int.mul_assoc]
      constructor
      · intro h; rw [h]
      · intro h; exact Int.eq_of_mul_eq_mul_right (by omega) h
    rw [this, hA, hp]
    omega
/-- Shift, at every count that it takes -/
theorem Shift_f {a0 a1 : Int} (ha : Wd.ok a0 a1) (n : Nat) (h1 : 1 ≤ n) (h2 : n ≤ 126) (k : Nat) (hk : 2 ≤ k) : wide_Shift.f k a0 a1 n = some (Wd.wr (Wd.rnd (Wd.vl a0 a1) (2 ^ n))) := by
  obtain ⟨k, rfl⟩ : ∃ m, k = m + 1 + 1 := ⟨k - 2, by omega⟩
  unfold wide_Shift.f
  rw [if_neg (by omega), decide_eq_false (by omega)]
  by_cases c : n < 64
  · exact Shift_lo ha n h1 c k
  · obtain ⟨m, rfl⟩ : ∃ m, n = m + 64 := ⟨n - 64, by omega⟩
    rw [Shift_hi ha m (by omega) k, Int.pow_add, Int.mul_comm]; rfl
theorem awake_f (k : Nat) (hk : 3 ≤ k) : carousellaw2_awake.f k = some true := by
  unfold carousellaw2_awake.f
  rw [Prod_f _ _ (by omega) (by omega) (by omega) (by omega), show Wd.wr (4611686018427387904 * 4) = (1, 0) by decide]
  simp only [Option.bind_some]
  rw [if_pos (by decide), Of_f 3 (by omega) (by omega), show Wd.wr 3 = (0, 3) by decide]
  simp only [Option.bind_some]
  have := Shift_f (show Wd.ok 0 3 by unfold Wd.ok; omega) 1 (by omega) (by omega) k (by omega)
  rw [show ((1 : Nat) : Int) = 1 from rfl] at this
  rw [this, show Wd.wr (Wd.rnd (Wd.vl 0 3) (2 ^ 1)) = (0, 2) by decide]
  simp only [Option.bind_some]
  rw [Of_f 2 (by omega) (by omega), show Wd.wr 2 = (0, 2) by decide]
  simp only [Option.bind_some]
  rw [if_pos (by decide), Of_f (-1) (by omega) (by omega), show Wd.wr (-1) = (-1, 18446744073709551615) by decide]
  simp
theorem ps_eq (a b c : Int) : carouselref1_plus.s a b c = (a + b + c) % 18446744073709551616 := by
  unfold carouselref1_plus.s; rw [u64w, u64w]; omega
theorem pc_eq (a b c : Int) (a0 : 0 ≤ a) (a1 : a < 18446744073709551616) (b0 : 0 ≤ b) (b1 : b < 18446744073709551616) (c0 : 0 ≤ c) (c1 : c ≤ 1) : carouselref1_plus.c a b c = (a + b + c) / 18446744073709551616 := by
  unfold carouselref1_plus.c; rw [ps_eq, u64w]; split <;> (try split) <;> omega
theorem ms_eq (a b c : Int) : carouselref1_minus.s a b c = (a - b - c) % 18446744073709551616 := by
  unfold carouselref1_minus.s; rw [u64w, u64w]; omega
theorem mc_eq (a b c : Int) (a0 : 0 ≤ a) (a1 : a < 18446744073709551616) (b0 : 0 ≤ b) (b1 : b < 18446744073709551616) (c0 : 0 ≤ c) (c1 : c ≤ 1) : carouselref1_minus.c a b c = -((a - b - c) / 18446744073709551616) := by
  unfold carouselref1_minus.c; rw [u64w]; split <;> (try split) <;> omega
theorem plus_f {a0 a1 a2 a3 b0 b1 b2 b3 : Int} (ha : Bn.ok a0 a1 a2 a3) (hb : Bn.ok b0 b1 b2 b3) : ∃ r0 r1 r2 r3, carouselref1_plus.f a0 a1 a2 a3 b0 b1 b2 b3 = some (r0, r1, r2, r3) ∧ Bn.ok r0 r1 r2 r3 ∧ Bn.bv r0 r1 r2 r3 = (Bn.bv a0 a1 a2 a3 + Bn.bv b0 b1 b2 b3) % 115792089237316195423570985008687907853269984665640564039457584007913129639936 := by
  refine ⟨_, _, _, _, rfl, ?_⟩
  unfold Bn.ok at ha hb
  simp only [ps_eq]
  have e1 := pc_eq a0 b0 0 (by omega) (by omega) (by omega) (by omega) (by omega) (by omega)
  generalize carouselref1_plus.c a0 b0 0 = c1 at *
  have e2 := pc_eq a1 b1 c1 (by omega) (by omega) (by omega) (by omega) (by omega) (by omega)
  generalize carouselref1_plus.c a1 b1 c1 = c2 at *
  have e3 := pc_eq a2 b2 c2 (by omega) (by omega) (by omega) (by omega) (by omega) (by omega)
  generalize carouselref1_plus.c a2 b2 c2 = c3 at *
  unfold Bn.ok Bn.bv
  omega
theorem minus_f {a0 a1 a2 a3 b0 b1 b2 b3 : Int} (ha : Bn.ok a0 a1 a2 a3) (hb : Bn.ok b0 b1 b2 b3) : ∃ r0 r1 r2 r3, carouselref1_minus.f a0 a1 a2 a3 b0 b1 b2 b3 = some (r0, r1, r2, r3) ∧ Bn.ok r0 r1 r2 r3 ∧ Bn.bv r0 r1 r2 r3 = (Bn.bv a0 a1 a2 a3 - Bn.bv b0 b1 b2 b3) % 115792089237316195423570985008687907853269984665640564039457584007913129639936 := by
  refine ⟨_, _, _, _, rfl, ?_⟩
  unfold Bn.ok at ha hb
  simp only [ms_eq]
  have e1 := mc_eq a0 b0 0 (by omega) (by omega) (by omega) (by omega) (by omega) (by omega)
  generalize carouselref1_minus.c a0 b0 0 = c1 at *
  have e2 := mc_eq a1 b1 c1 (by omega) (by omega) (by omega) (by omega) (by omega) (by omega)
  generalize carouselref1_minus.c a1 b1 c1 = c2 at *
  have e3 := mc_eq a2 b2 c2 (by omega) (by omega) (by omega) (by omega) (by omega) (by omega)
  generalize carouselref1_minus.c a2 b2 c2 = c3 at *
  unfold Bn.ok Bn.bv
  omega
theorem less_f {a0 a1 a2 a3 b0 b1 b2 b3 : Int} (ha : Bn.ok a0 a1 a2 a3) (hb : Bn.ok b0 b1 b2 b3) : carouselref1_less.f a0 a1 a2 a3 b0 b1 b2 b3 = some (decide (Bn.bv a0 a1 a2 a3 < Bn.bv b0 b1 b2 b3)) := by
  unfold carouselref1_less.f carouselref1_less.s
  unfold Bn.ok at ha hb
  unfold Bn.bv
  congr 1
  symm
  repeat' split
  · rw [decide_eq_false]; omega
  all_goals (apply decide_eq_decide.mpr; omega)
theorem Plus_f {n m : Bool} {a0 a1 a2 a3 b0 b1 b2 b3 : Int} (ha : Bn.ok a0 a1 a2 a3) (hb : Bn.ok b0 b1 b2 b3) (hs : Bn.bv a0 a1 a2 a3 + Bn.bv b0 b1 b2 b3 < 115792089237316195423570985008687907853269984665640564039457584007913129639936) :
    ∃ s r0 r1 r2 r3, carouselref1_Plus.f n a0 a1 a2 a3 m b0 b1 b2 b3 = some (s, r0, r1, r2, r3) ∧ Bn.ok r0 r1 r2 r3 ∧ Bn.nv s r0 r1 r2 r3 = Bn.nv n a0 a1 a2 a3 + Bn.nv m b0 b1 b2 b3 := by
  have A := Bn.bv_range ha
  have B := Bn.bv_range hb
  unfold carouselref1_Plus.f
  by_cases c : n = m
  · subst c
    obtain ⟨r0, r1, r2, r3, e, h, v⟩ := plus_f ha hb
    rw [if_pos (by simp), e]
    refine ⟨n, r0, r1, r2, r3, rfl, h, ?_⟩
    rw [Int.emod_eq_of_lt (by omega) hs] at v
    unfold Bn.nv
    split <;> omega
  · have c' : m = !n := by cases n <;> cases m <;> simp at c ⊢
    subst c'
    rw [if_neg (by simp), less_f ha hb]
    simp only [Option.bind_some]
    by_cases d : Bn.bv a0 a1 a2 a3 < Bn.bv b0 b1 b2 b3
    · rw [if_pos (decide_eq_true d)]
      obtain ⟨r0, r1, r2, r3, e, h, v⟩ := minus_f hb ha
      rw [e]
      refine ⟨!n, r0, r1, r2, r3, rfl, h, ?_⟩
      rw [Int.emod_eq_of_lt (by omega) (by omega)] at v
      unfold Bn.nv
      cases n <;> simp <;> omega
    · rw [if_neg (by simpa using d)]
      obtain ⟨r0, r1, r2, r3, e, h, v⟩ := minus_f ha hb
      rw [e]
      refine ⟨n, r0, r1, r2, r3, rfl, h, ?_⟩
      rw [Int.emod_eq_of_lt (by omega) (by omega)] at v
      unfold Bn.nv
      cases n <;> simp <;> omega
theorem rsize_f (a : Int) (h0 : -9223372036854775808 ≤ a) (h1 : a ≤ 9223372036854775807) : carouselref1_size.f a = some (if a < 0 then -a else a) := by
  unfold carouselref1_size.f
  split
  · rw [u64w, u64w]; congr 1; unfold wrap64; omega
  · rw [u64w]; congr 1; omega
theorem From_f (a : Int) (h0 : -9223372036854775808 ≤ a) (h1 : a ≤ 9223372036854775807) : carouselref1_From.f a = some (decide (a < 0), if a < 0 then -a else a, 0, 0, 0) := by
  unfold carouselref1_From.f
  rw [rsize_f a h0 h1]; rfl
theorem or_zero {x y : Int} (x0 : 0 ≤ x) (x1 : x < 18446744073709551616) (y0 : 0 ≤ y) (y1 : y < 18446744073709551616) : (Go.bits .or .u64 x y = 0 ↔ x = 0 ∧ y = 0) ∧ 0 ≤ Go.bits .or .u64 x y ∧ Go.bits .or .u64 x y < 18446744073709551616 := by
  rw [Go.u64_or x y x0 (by omega) y0 (by omega)]
  obtain ⟨X, rfl⟩ := Int.eq_ofNat_of_zero_le x0
  obtain ⟨Y, rfl⟩ := Int.eq_ofNat_of_zero_le y0
  have hx : X < 2 ^ 64 := by omega
  have hy : Y < 2 ^ 64 := by omega
  have h := Nat.or_lt_two_pow hx hy
  simp only [Int.toNat_natCast]
  have z : X ||| Y = 0 ↔ X = 0 ∧ Y = 0 := Nat.or_eq_zero_iff
  refine ⟨?_, by omega, by omega⟩
  constructor
  · intro e
    have := z.mp (by omega)
    omega
  · intro e
    have := z.mpr (by omega)
    omega
theorem Held_f {n : Bool} {a0 a1 a2 a3 : Int} (h : Bn.ok a0 a1 a2 a3) (k : Nat) (hk : 1 ≤ k) : carouselref1_Held.f k n a0 a1 a2 a3 = some (Fx.clamp (Bn.nv n a0 a1 a2 a3)) := by
  obtain ⟨k, rfl⟩ : ∃ m, k = m + 1 := ⟨k - 1, by omega⟩
  unfold Bn.ok at h
  have o1 := or_zero (x := a1) (y := a2) (by omega) (by omega) (by omega) (by omega)
  have o2 := or_zero o1.2.1 o1.2.2 (y := a3) (by omega) (by omega)
  unfold carouselref1_Held.f Bn.nv Bn.bv Fx.clamp
  by_cases c : Go.bits .or .u64 (Go.bits .or .u64 a1 a2) a3 = 0
  · rw [if_pos c]
    have := o2.1.mp c
    have := o1.1.mp this.1
    clear o1 o2 c
    by_cases d : a0 ≥ 9223372036854775808
    · rw [decide_eq_true d]
      simp only [carouselref1_Held.j0, if_true]
      split <;> (congr 1; omega)
    · rw [decide_eq_false d]
      simp only [carouselref1_Held.j0, Bool.false_eq_true, if_false]
      split <;> (congr 1; unfold wrap64; omega)
  · rw [if_neg c]
    have : ¬ (a1 = 0 ∧ a2 = 0 ∧ a3 = 0) := fun e => c (o2.1.mpr ⟨o1.1.mpr ⟨e.1, e.2.1⟩, e.2.2⟩)
    clear o1 o2 c
    simp only [carouselref1_Held.j0, if_true]
    split <;> (congr 1; omega)
theorem Fix_f {h l : Int} (hv : Wd.ok h l) (k : Nat) (hk : 1 ≤ k) : wide_Fix.f k h l = some (Fx.clamp (Wd.vl h l)) := by
  obtain ⟨k, rfl⟩ : ∃ m, k = m + 1 := ⟨k - 1, by omega⟩
  unfold Wd.ok at hv
  unfold wide_Fix.f Wd.vl Fx.clamp
  by_cases c : h > 0
  · rw [if_pos c]
    simp only [wide_Fix.j0, if_true]
    congr 1; omega
  · rw [if_neg c]
    by_cases d : h = 0
    · subst d
      rw [if_pos rfl]
      by_cases e : l ≥ 9223372036854775808
      · rw [decide_eq_true e]
        simp only [wide_Fix.j0, if_true]
        congr 1; omega
      · rw [decide_eq_false e]
        simp only [wide_Fix.j0, Bool.false_eq_true, if_false]
        rw [if_neg (by omega), if_neg (by omega)]
        congr 1; unfold wrap64; omega
    · rw [if_neg d]
      simp only [wide_Fix.j0, Bool.false_eq_true, if_false]
      split
      · congr 1; omega
      · split
        · split
          · congr 1; omega
          · congr 1; unfold wrap64; omega
        · congr 1; omega
theorem wok (x : Int) : Wd.ok (Wd.wr x).1 (Wd.wr x).2 := Wd.wr_ok x
theorem wadd (x y : Int) : wide_Add.f (Wd.wr x).1 (Wd.wr x).2 (Wd.wr y).1 (Wd.wr y).2 = some (Wd.wr (x + y)) := by
  rw [Add_f (wok x) (wok y)]
  congr 1
  obtain ⟨m, hm⟩ := Wd.vl_wr x
  obtain ⟨n, hn⟩ := Wd.vl_wr y
  rw [hm, hn]
  exact Wd.wr_congr (m + n) (by omega)
theorem Sums_l0 (l : List Int) (cut : Int) (hm : l.length ≤ 200) (hl : ∀ x ∈ l, -9223372036854775808 ≤ x ∧ x ≤ 9223372036854775807) : ∀ (c i : Nat) (A B : Int) (k : Nat), i + c = l.length → c < k →
    ∃ A' B', A' + B' = A + B + (l.drop i).sum ∧ carousellaw2_WideSums.l0 k l cut i (Wd.wr A).1 (Wd.wr A).2 (Wd.wr B).1 (Wd.wr B).2 (Wd.wr (A + B)).1 (Wd.wr (A + B)).2 = carousellaw2_WideSums.l1 (k - c - 1) l 0 (Wd.wr A').1 (Wd.wr A').2 (Wd.wr B').1 (Wd.wr B').2 (Wd.wr (A' + B')).1 (Wd.wr (A' + B')).2 false 0 0 0 0 := by
  intro c
  induction c with
  | zero =>
    intro i A B k hi hk
    obtain ⟨k, rfl, -⟩ := k_succ hk
    simp only [carousellaw2_WideSums.l0]
    rw [if_neg (by omega), List.drop_of_length_le (by omega)]
    exact ⟨A, B, by simp, by simp⟩
  | succ c ih =>
    intro i A B k hi hk
    obtain ⟨k, rfl, hk⟩ := k_succ hk
    have e := drop_rd l i (by omega)
    have b := hl _ (rd_mem l i (by omega))
    simp only [carousellaw2_WideSums.l0]
    rw [if_pos (by omega), if_pos (by omega), Of_f _ b.1 b.2]
    simp only [Option.bind_some]
    rw [wadd]
    simp only [Option.bind_some]
    rw [w64 (x := (i : Int) + 1) (by omega) (by omega), e, List.sum_cons]
    by_cases d : (i : Int) < cut
    · rw [if_pos d, wadd]
      simp only [Option.bind_some]
      obtain ⟨A', B', h1, h2⟩ := ih (i + 1) (A + rd l i) B k (by omega) (by omega)
      refine ⟨A', B', by omega, ?_⟩
      rw [show A + B + rd l i = A + rd l i + B by omega, show k + 1 - (c + 1) - 1 = k - c - 1 by omega, ← h2]
      rw [Int.natCast_add]; rfl
    · rw [if_neg d, wadd]
      simp only [Option.bind_some]
      obtain ⟨A', B', h1, h2⟩ := ih (i + 1) A (B + rd l i) k (by omega) (by omega)
      refine ⟨A', B', by omega, ?_⟩
      rw [show A + B + rd l i = A + (B + rd l i) by omega, show k + 1 - (c + 1) - 1 = k - c - 1 by omega, ← h2]
      rw [Int.natCast_add]; rfl
theorem Sums_l1 (l : List Int) (hm : l.length ≤ 200) (hl : ∀ x ∈ l, -9223372036854775808 ≤ x ∧ x ≤ 9223372036854775807) (A B : Int) : ∀ (c i : Nat) (n : Bool) (n0 n1 n2 n3 : Int) (k : Nat), i + c = l.length → c + 1 < k → Bn.ok n0 n1 n2 n3 → Bn.bv n0 n1 n2 n3 ≤ i * 9223372036854775808 → Bn.nv n n0 n1 n2 n3 + (l.drop i).sum = A + B →
    carousellaw2_WideSums.l1 k l i (Wd.wr A).1 (Wd.wr A).2 (Wd.wr B).1 (Wd.wr B).2 (Wd.wr (A + B)).1 (Wd.wr (A + B)).2 n n0 n1 n2 n3 = some true := by
  intro c
  induction c with
  | zero =>
    intro i n n0 n1 n2 n3 k hi hk ho hb hv
    obtain ⟨k, rfl, hk⟩ := k_succ (show 1 < k by omega)
    simp only [carousellaw2_WideSums.l1]
    rw [if_neg (by omega), wadd]
    simp only [Option.bind_some, beq_self_eq_true, Bool.and_self, if_true]
    rw [Fix_f (wok _) k (by omega), Held_f ho k (by omega)]
    simp only [Option.bind_some]
    rw [List.drop_of_length_le (by omega)] at hv
    simp only [List.sum_nil, Int.add_zero] at hv
    have r := Bn.bv_range ho
    have hv' : -1844674407370955161600 ≤ A + B ∧ A + B ≤ 1844674407370955161600 := by
      rw [← hv]; unfold Bn.nv; split <;> omega
    rw [Wd.vl_wr_id (by omega) (by omega), hv]
    simp
  | succ c ih =>
    intro i n n0 n1 n2 n3 k hi hk ho hb hv
    obtain ⟨k, rfl, hk⟩ := k_succ (show c + 2 < k by omega)
    have e := drop_rd l i (by omega)
    have b := hl _ (rd_mem l i (by omega))
    simp only [carousellaw2_WideSums.l1]
    rw [if_pos (by omega), if_pos (by omega), From_f _ b.1 b.2]
    simp only [Option.bind_some]
    rw [e, List.sum_cons] at hv
    have hf : Bn.ok (if rd l i < 0 then -rd l i else rd l i) 0 0 0 := by unfold Bn.ok; split <;> omega
    have hfv : Bn.bv (if rd l i < 0 then -rd l i else rd l i) 0 0 0 ≤ 9223372036854775808 := by rw [Bn.bv_small]; split <;> omega
    have hfn : Bn.nv (decide (rd l i < 0)) (if rd l i < 0 then -rd l i else rd l i) 0 0 0 = rd l i := by
      unfold Bn.nv; rw [Bn.bv_small]
      by_cases z : rd l i < 0
      · simp [z]
      · simp [z]
    obtain ⟨s, r0, r1, r2, r3, er, okr, vr⟩ := Plus_f (n := n) (m := decide (rd l i < 0)) ho hf (by omega)
    rw [er]
    simp only [Option.bind_some]
    rw [w64 (x := (i : Int) + 1) (by omega) (by omega)]
    have rr := Bn.bv_range okr
    have ra := Bn.bv_range ho
    have rb := Bn.bv_range hf
    have := ih (i + 1) s r0 r1 r2 r3 k (by omega) (by omega) okr (by
      rw [Int.natCast_add, Int.add_mul]
      clear hv hfn er ih
      unfold Bn.nv at vr
      split at vr <;> split at vr <;> split at vr <;> omega) (by rw [vr, hfn]; omega)
    rw [Int.natCast_add] at this
    exact this
theorem Sums_all (l : List Int) (cut : Int) (hl : ∀ x ∈ l, -9223372036854775808 ≤ x ∧ x ≤ 9223372036854775807) : ∃ k, carousellaw2_WideSums.f k l cut = some true := by
  refine ⟨1000, ?_⟩
  unfold carousellaw2_WideSums.f
  rw [awake_f 1000 (by omega)]
  simp only [Option.bind_some, if_true]
  have out : carousellaw2_WideSums.j0 1000 l cut true = some true := by simp only [carousellaw2_WideSums.j0, if_true]
  by_cases c1 : (l.length : Int) > 200
  · rw [if_pos c1]; exact out
  · rw [if_neg c1]
    by_cases c2 : cut < 0
    · rw [if_pos c2]; exact out
    · rw [if_neg c2]
      by_cases c3 : cut > (l.length : Int)
      · rw [decide_eq_true c3]; exact out
      · rw [decide_eq_false c3]
        simp only [carousellaw2_WideSums.j0, Bool.false_eq_true, if_false]
        obtain ⟨A, B, h1, h2⟩ := Sums_l0 l cut (by omega) hl l.length 0 0 0 999 (by omega) (by omega)
        rw [show Wd.wr 0 = (0, 0) by decide, show Wd.wr (0 + 0) = (0, 0) by decide] at h2
        simp only [Int.natCast_zero] at h2
        have h3 := Sums_l1 l (by omega) hl A B l.length 0 false 0 0 0 0 (999 - l.length - 1) (by omega) (by omega) (by unfold Bn.ok; omega) (by unfold Bn.bv; omega) (by simp [Bn.nv, Bn.bv] at h1 ⊢; omega)
        rw [h2]
        exact h3
theorem WideSums : carousellaw2_WideSums.Pure := by
  intro l cut _ _ hl _
  exact Sums_all l cut (fun x hx => wf_i64 (hl x hx))
end Go.Proofs.Ytalghnbolnimiaa.Pure
