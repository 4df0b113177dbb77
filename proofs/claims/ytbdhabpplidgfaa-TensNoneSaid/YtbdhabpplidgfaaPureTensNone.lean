/- The plain law behind TensNone: what the functions compute answers as the statement says, for every input. No condition. -/
import Derived.Test.YtbdhabpplidgfaaPTensNonex11
import Derived.Laws.BitsAllLaws
import Derived.Test.YtbdhabpplidgfaaFixMath
import Derived.Test.YtbdhabpplidgfaaShapeMath
import Derived.Test.YtbdhabpplidgfaaBigMath
import Derived.Test.YtbdhabpplidgfaaWideMath
namespace Go.Proofs.Ytbdhabpplidgfaa.Pure
open Go.RowKit Go.Proofs.Ytbdhabpplidgfaa.PTensNone Go.Proofs.YtbdhabpplidgfaaW.PrintWords Go.Proofs.YtbdhabpplidgfaaW.PrintLast Go.Proofs.YtbdhabpplidgfaaW.PrintMore
set_option linter.unusedVariables false
set_option linter.unusedSimpArgs false
theorem w64 {x : Int} (h1 : -9223372036854775808 ≤ x) (h2 : x ≤ 9223372036854775807) : wrap64 x = x := by unfold wrap64; omega
theorem drop_rd (l : List Int) (i : Nat) (h : i < l.length) : l.drop i = rd l i :: l.drop (i + 1) := by
  rw [List.drop_eq_getElem_cons h]
  congr 1
  unfold rd
  rw [show (i : Int).toNat = i from rfl, List.getD_eq_getElem?_getD, List.getElem?_eq_getElem h]; rfl
theorem rd_mem (l : List Int) (i : Nat) (h : i < l.length) : rd l i ∈ l := by
  have := drop_rd l i h
  exact List.mem_of_mem_drop (i := i) (by rw [this]; exact List.mem_cons_self ..)
theorem mul_bd {a b A B : Int} (h0 : 0 ≤ a) (h1 : a ≤ A) (h2 : 0 ≤ b) (h3 : b ≤ B) : 0 ≤ a * b ∧ a * b ≤ A * B :=
  ⟨Int.mul_nonneg h0 h2, Int.mul_le_mul h1 h3 h2 (by omega)⟩
theorem k_succ {k n : Nat} (h : n < k) : ∃ m, k = m + 1 ∧ n ≤ m := ⟨k - 1, by omega, by omega⟩
theorem product_l0 (l : List Int) (hl : l.length ≤ 4) : ∀ (d i : Nat) (n : Int) (k : Nat), i + d = l.length → 1 ≤ n → n ≤ 4096 → 2 * d < k →
    shape_product.l0 k n l l.length i = some (Shp.gp n (l.drop i)) := by
  intro d
  induction d with
  | zero =>
    intro i n k hi h1 h2 hk
    obtain ⟨k, rfl, -⟩ := k_succ hk
    simp only [shape_product.l0]
    rw [if_neg (by omega), List.drop_of_length_le (by omega)]; rfl
  | succ d ih =>
    intro i n k hi h1 h2 hk
    obtain ⟨k, rfl, hk⟩ := k_succ hk
    obtain ⟨k, rfl, hk⟩ := k_succ (n := 2 * d + 1) (k := k) (by omega)
    have e := drop_rd l i (by omega)
    simp only [shape_product.l0, shape_product.j1]
    rw [if_pos (by omega), if_pos (by omega), if_pos (by omega), e]
    generalize rd l i = x at *
    simp only [Shp.gp]
    by_cases c1 : x < 1
    · simp [c1]
    by_cases c2 : 4096 < x
    · simp [c1, c2]
    have hb := mul_bd (a := n) (b := x) (by omega) h2 (by omega) (show x ≤ 4096 by omega)
    have hb1 := Shp.mul_le1 h1 (show 1 ≤ x by omega)
    rw [w64 (x := n * x) (by omega) (by omega), w64 (x := (i : Int) + 1) (by omega) (by omega)]
    simp only [if_neg c1, if_neg c2, show ¬ (x > 4096) from c2, decide_false]
    by_cases c3 : 4096 < n * x
    · simp [c3]
    · simp only [if_neg c3, show ¬ (n * x > 4096) from c3, if_false]
      have := ih (i + 1) (n * x) k (by omega) (by omega) (by omega) (by omega)
      rw [Int.natCast_add] at this
      simpa using this
theorem product_f (l : List Int) (k : Nat) (hk : 10 ≤ k) : shape_product.f k l = some (Shp.siz l) := by
  unfold shape_product.f
  by_cases h : l.length ≤ 4
  · rw [if_neg (by omega), ← Shp.gp_siz l h]
    have := product_l0 l h l.length 0 1 k (by omega) (by omega) (by omega) (by omega)
    simpa using this
  · rw [if_pos (by omega), Shp.siz_long l h]
theorem Good_f (l : List Int) (k : Nat) (hk : 10 ≤ k) : shape_Good.f k l = some (Shp.good l) := by
  unfold shape_Good.f; rw [product_f l k hk, ← Shp.siz_pos]; rfl
theorem Size_f (l : List Int) (k : Nat) (hk : 10 ≤ k) : shape_Size.f k l = some (Shp.siz l) := by
  unfold shape_Size.f; rw [product_f l k hk]; rfl
theorem eq_drop {a b : List Int} {i : Nat} (ha : i < a.length) (hb : i < b.length) : decide (a.drop i = b.drop i) = (decide (rd a i = rd b i) && decide (a.drop (i + 1) = b.drop (i + 1))) := by
  rw [drop_rd a i ha, drop_rd b i hb]; simp
theorem Equal_l0 (a b : List Int) (h : a.length = b.length) (hm : a.length ≤ 9223372036854775000) : ∀ (d i k : Nat), i + d = a.length → d < k →
    slices_Equal_int_int.l0 k a b a.length i = some (decide (a.drop i = b.drop i)) := by
  intro d
  induction d with
  | zero =>
    intro i k hi hk
    obtain ⟨k, rfl, -⟩ := k_succ hk
    simp only [slices_Equal_int_int.l0]
    rw [if_neg (by omega), List.drop_of_length_le (by omega), List.drop_of_length_le (by omega)]; simp
  | succ d ih =>
    intro i k hi hk
    obtain ⟨k, rfl, hk⟩ := k_succ hk
    simp only [slices_Equal_int_int.l0]
    rw [if_pos (by omega), if_pos (by omega), if_pos (by omega), if_pos (by omega), eq_drop (by omega) (by omega), w64 (x := (i : Int) + 1) (by omega) (by omega)]
    have := ih (i + 1) k (by omega) (by omega)
    rw [Int.natCast_add] at this
    by_cases c : rd a i = rd b i
    · rw [if_pos c]; simpa [c] using this
    · rw [if_neg c]; simp [c]
theorem Same_f (a b : List Int) (hm : a.length ≤ 9223372036854775000) (k : Nat) (hk : a.length < k) : shape_Same.f k a b = some (decide (a = b)) := by
  unfold shape_Same.f slices_Equal_int_int.f
  by_cases h : a.length = b.length
  · rw [if_pos (by omega)]
    have := Equal_l0 a b h hm a.length 0 k (by omega) hk
    simp at this; simp [this]
  · rw [if_neg (by omega)]
    have : a ≠ b := fun e => h (by rw [e])
    simp [this]
/-- a list that is filled from its end on -/
theorem set_fill (i : Nat) (r : List Int) (x : Int) : (List.replicate (i + 1) 0 ++ r).set ((i : Int)).toNat x = List.replicate i 0 ++ x :: r := by
  rw [show ((i : Int)).toNat = i from rfl, List.replicate_succ', List.append_assoc, List.set_append_right _ _ (by simp)]
  simp
theorem Strides_l0 (l : List Int) (hg : Shp.good l = true) : ∀ (i k : Nat), i ≤ l.length → i < k →
    shape_Strides.l0 k l (List.replicate i 0 ++ Shp.strs (l.drop i)) (Shp.pl (l.drop i)) ((i : Int) - 1) = some (Shp.strs l) := by
  have hi := Shp.good_iff.mp hg
  intro i
  induction i with
  | zero =>
    intro k _ hk
    obtain ⟨k, rfl, -⟩ := k_succ hk
    simp only [shape_Strides.l0]
    rw [if_neg (by omega)]; simp
  | succ i ih =>
    intro k hl hk
    obtain ⟨k, rfl, hk⟩ := k_succ hk
    have e := drop_rd l i (by omega)
    have hx := hi.2.1 _ (rd_mem l i (by omega))
    have hpd := Shp.pl_drop hi.2.1 i
    have hpl := Shp.pl_pos (l := l.drop (i + 1)) (fun y hy => hi.2.1 y (List.mem_of_mem_drop hy))
    simp only [shape_Strides.l0]
    have e1 : ((i + 1 : Nat) : Int) - 1 = (i : Int) := by omega
    rw [e1]
    have hlen : (List.replicate (i + 1) (0 : Int) ++ Shp.strs (l.drop (i + 1))).length = l.length := by
      simp [Shp.strs_length]; omega
    rw [if_pos (by omega), if_pos (by omega), if_pos (by omega), if_pos (by omega), set_fill]
    have := ih k (by omega) (by omega)
    rw [e] at this hpd
    simp only [Shp.strs, Shp.pl] at this hpd
    have hx2 := Shp.mul_le1 hx hpl
    rw [Int.mul_comm (Shp.pl (List.drop (i + 1) l)), w64 (x := rd l i * _) (by omega) (by omega), w64 (x := (i : Int) - 1) (by omega) (by omega)]
    exact this
theorem Strides_f (l : List Int) (k : Nat) (hk : 10 ≤ k) : shape_Strides.f k l = some (if Shp.good l = true then Shp.strs l else []) := by
  unfold shape_Strides.f
  rw [Good_f l k hk]
  cases hg : Shp.good l
  · rfl
  · have hi := Shp.good_iff.mp hg
    simp only [Option.bind_some, if_true]
    rw [if_pos (by omega), if_pos (by omega), w64 (by omega) (by omega)]
    have := Strides_l0 l hg l.length k (by omega) (by omega)
    simpa [Shp.strs, Shp.pl] using this
theorem rd_rev (l : List Int) (i : Nat) (h : i < l.length) : rd l ((l.length : Int) - 1 - i) = rd l.reverse i := by
  unfold rd
  have e : ((l.length : Int) - 1 - i).toNat = l.length - 1 - i := by omega
  rw [e, show ((i : Int)).toNat = i from rfl, List.getD_eq_getElem?_getD, List.getD_eq_getElem?_getD, List.getElem?_reverse h]
def sd (l : List Int) (i : Nat) : Int := if i < l.length then rd l.reverse i else 1
theorem side_f (l : List Int) (i : Nat) (h : l.length ≤ 4) (hi : i ≤ 10) : shape_side.f l i = some (sd l i) := by
  unfold shape_side.f sd
  by_cases c : i < l.length
  · rw [if_neg (by omega), if_pos c, w64 (x := (l.length : Int) - 1) (by omega) (by omega), w64 (x := (l.length : Int) - 1 - i) (by omega) (by omega), if_pos (by omega), if_pos (by omega), rd_rev l i c]
  · rw [if_pos (by omega), if_neg c]
def fin' (z : List Int) : List Int × Int := if Shp.good z = true then (z, 0) else ([], 2)
def ends (T : List Int) : Option (List Int) → List Int × Int
  | none => ([], 4)
  | some l => fin' (l.reverse ++ T)
theorem ends_map (T : List Int) (v : Int) (o : Option (List Int)) : ends T (o.map (v :: ·)) = ends (v :: T) o := by
  cases o <;> simp [ends]
theorem mx_mxx (x y : Int) : mx x y = Shp.mxx x y := rfl
/-- one step, whichever sides are there -/
theorem jn_step (a b : List Int) (ha : ∀ x ∈ a, 1 ≤ x) (hb : ∀ x ∈ b, 1 ≤ x) (i : Nat) (hi : i < max a.length b.length) (T : List Int) :
    ends T (Shp.jn (a.reverse.drop i) (b.reverse.drop i)) =
      if sd a i = sd b i ∨ sd a i = 1 ∨ sd b i = 1 then ends (Shp.mxx (sd a i) (sd b i) :: T) (Shp.jn (a.reverse.drop (i + 1)) (b.reverse.drop (i + 1))) else ([], 4) := by
  unfold sd
  by_cases ca : i < a.length
  · have ea := drop_rd a.reverse i (by simpa using ca)
    have hxa := ha (rd a.reverse i) (by simpa using rd_mem a.reverse i (by simpa using ca))
    by_cases cb : i < b.length
    · have eb := drop_rd b.reverse i (by simpa using cb)
      rw [ea, eb, if_pos ca, if_pos cb]
      simp only [Shp.jn]
      split
      · rw [ends_map]
      · rfl
    · have eb : b.reverse.drop i = [] := List.drop_of_length_le (by simp; omega)
      have eb' : b.reverse.drop (i + 1) = [] := List.drop_of_length_le (by simp; omega)
      rw [ea, eb, eb', if_pos ca, if_neg cb, Shp.jn_nil, Shp.jn_nil, if_pos (by omega)]
      have : Shp.mxx (rd a.reverse i) 1 = rd a.reverse i := by unfold Shp.mxx; split <;> omega
      rw [this]; simp [ends]
  · have cb : i < b.length := by omega
    have eb := drop_rd b.reverse i (by simpa using cb)
    have hxb := hb (rd b.reverse i) (by simpa using rd_mem b.reverse i (by simpa using cb))
    have ea : a.reverse.drop i = [] := List.drop_of_length_le (by simp; omega)
    have ea' : a.reverse.drop (i + 1) = [] := List.drop_of_length_le (by simp; omega)
    rw [ea, eb, ea', if_neg ca, if_pos cb, if_pos (by omega)]
    have : Shp.mxx 1 (rd b.reverse i) = rd b.reverse i := by unfold Shp.mxx; split <;> omega
    rw [this]; simp [ends, Shp.jn]
theorem Join_l0 (a b : List Int) (hga : Shp.good a = true) (hgb : Shp.good b = true) : ∀ (d i : Nat) (T : List Int) (k : Nat), i + d = max a.length b.length → T.length = i → 2 * d + 11 < k →
    shape_Join.l0 k a b (List.replicate d 0 ++ T) ((max a.length b.length : Nat) : Int) i = some (ends T (Shp.jn (a.reverse.drop i) (b.reverse.drop i))) := by
  have ia := Shp.good_iff.mp hga
  have ib := Shp.good_iff.mp hgb
  intro d
  induction d with
  | zero =>
    intro i T k hd hT hk
    obtain ⟨k, rfl, -⟩ := k_succ hk
    simp only [shape_Join.l0]
    rw [if_neg (by omega), List.drop_of_length_le (by simp; omega), List.drop_of_length_le (by simp; omega), Good_f _ _ (by omega)]
    simp only [Shp.jn, ends, fin', List.replicate, List.nil_append, List.reverse_nil, Option.bind_some]
    split <;> rename_i h <;> simp [h]
  | succ d ih =>
    intro i T k hd hT hk
    obtain ⟨k, rfl, hk⟩ := k_succ hk
    have hs := jn_step a b ia.2.1 ib.2.1 i (by omega) T
    rw [hs]
    simp only [shape_Join.l0]
    have hlen : (List.replicate (d + 1) (0 : Int) ++ T).length = max a.length b.length := by simp; omega
    rw [if_pos (by omega), side_f a i ia.1 (by omega), side_f b i ib.1 (by omega)]
    simp only [Option.bind_some, hlen]
    have d0 : (0 : Int) ≤ (d : Int) := by omega
    have d1 : (d : Int) < ((max a.length b.length : Nat) : Int) := by omega
    have ew : wrap64 (wrap64 (((max a.length b.length : Nat) : Int) - 1) - i) = (d : Int) := by
      rw [w64 (x := _ - 1) (by omega) (by omega), w64 (by omega) (by omega)]; omega
    have ei : wrap64 ((i : Int) + 1) = ((i + 1 : Nat) : Int) := by rw [w64 (by omega) (by omega)]; omega
    rw [ew, ei, set_fill, mx_mxx]
    clear ew ei
    have := ih (i + 1) (Shp.mxx (sd a i) (sd b i) :: T) k (by omega) (by simp; omega) (by omega)
    by_cases c1 : sd a i = sd b i
    · rw [if_pos c1, if_pos d0, if_pos d1, this, if_pos (.inl c1)]
    · by_cases c2 : sd a i = 1
      · rw [if_neg c1, if_pos c2, if_pos d0, if_pos d1, this, if_pos (.inr (.inl c2))]
      · by_cases c3 : sd b i = 1
        · rw [if_neg c1, if_neg c2, if_pos c3, if_pos d0, if_pos d1, this, if_pos (.inr (.inr c3))]
        · rw [if_neg c1, if_neg c2, if_neg c3, if_neg (by omega)]
theorem Join_f (a b : List Int) (k : Nat) (hk : 24 ≤ k) : shape_Join.f k a b = some (Shp.join a b) := by
  obtain ⟨k', rfl, hk'⟩ := k_succ (n := 23) (k := k) (by omega)
  unfold shape_Join.f
  rw [Good_f a _ (by omega), Good_f b _ (by omega)]
  cases hga : Shp.good a
  · simp [shape_Join.j0, Shp.join_bad (.inl hga)]
  cases hgb : Shp.good b
  · simp [shape_Join.j0, Shp.join_bad (.inr hgb)]
  have ia := Shp.good_iff.mp hga
  have ib := Shp.good_iff.mp hgb
  have em : mx (a.length : Int) (b.length : Int) = ((max a.length b.length : Nat) : Int) := by unfold mx; split <;> omega
  simp only [Option.bind_some, if_true, shape_Join.j0, em, Bool.not_true, Bool.false_eq_true, if_false]
  rw [if_pos (by omega), if_pos (by omega)]
  have := Join_l0 a b hga hgb (max a.length b.length) 0 [] k' (by omega) rfl (by omega)
  simp only [List.append_nil, List.drop_zero] at this
  rw [show (((max a.length b.length : Nat) : Int)).toNat = max a.length b.length from rfl, List.length_replicate]
  rw [show ((0 : Nat) : Int) = 0 from rfl] at this
  rw [this, Shp.join, if_pos ⟨hga, hgb⟩]
  congr 1
  cases Shp.jn a.reverse b.reverse <;> simp [ends, fin']
theorem wf_i64 {x : Int} (h : (Lit.int .i64 x).wf = true) : -9223372036854775808 ≤ x ∧ x ≤ 9223372036854775807 := by
  simp only [Lit.wf, Bool.and_eq_true, decide_eq_true_eq] at h
  have h1 : IntKind.i64.min = -9223372036854775808 := rfl
  have h2 : IntKind.i64.max = 9223372036854775807 := rfl
  omega
theorem u64w (n : Int) : IntKind.u64.wrap n = n % 18446744073709551616 := by simp [IntKind.wrap, IntKind.bits, IntKind.signed]
theorem and32 (x : Int) (h0 : 0 ≤ x) (h1 : x ≤ 18446744073709551615) : Go.bits .and .u64 x 4294967295 = x % 4294967296 := by
  rw [Go.u64_and x 4294967295 h0 (by omega) (by omega) (by omega)]
  have : (4294967295 : Int).toNat = 2 ^ 32 - 1 := rfl
  rw [this, Nat.and_two_pow_sub_one_eq_mod]
  omega
theorem and1 (x : Int) (h0 : 0 ≤ x) (h1 : x ≤ 18446744073709551615) : Go.bits .and .u64 x 1 = x % 2 := by
  rw [Go.u64_and x 1 h0 (by omega) (by omega) (by omega)]
  have : (1 : Int).toNat = 2 ^ 1 - 1 := rfl
  rw [this, Nat.and_two_pow_sub_one_eq_mod]
  omega
theorem mul_le {a b A B : Int} (h0 : 0 ≤ a) (h1 : a ≤ A) (h2 : 0 ≤ b) (h3 : b ≤ B) : 0 ≤ a * b ∧ a * b ≤ A * B :=
  ⟨Int.mul_nonneg h0 h2, Int.mul_le_mul h1 h3 h2 (by omega)⟩
theorem split_mul (x0 x1 y0 y1 : Int) : (x1 * 4294967296 + x0) * (y1 * 4294967296 + y0) = (x1 * y1) * 18446744073709551616 + ((x1 * y0) + (x0 * y1)) * 4294967296 + x0 * y0 := by grind
theorem Mul64_f (a b : Int) (a0 : 0 ≤ a) (a1 : a ≤ 18446744073709551615) (b0 : 0 ≤ b) (b1 : b ≤ 18446744073709551615) : bits_Mul64.f a b = some (a * b / 18446744073709551616, a * b % 18446744073709551616) := by
  unfold bits_Mul64.f
  rw [and32 a a0 a1, and32 b b0 b1]
  simp only [u64w]
  have ea : a = (a / 4294967296) * 4294967296 + a % 4294967296 := by omega
  have eb : b = (b / 4294967296) * 4294967296 + b % 4294967296 := by omega
  have es := split_mul (a % 4294967296) (a / 4294967296) (b % 4294967296) (b / 4294967296)
  rw [← ea, ← eb] at es
  have h1 : 0 ≤ a / 4294967296 ∧ a / 4294967296 ≤ 4294967295 := by omega
  have h2 : 0 ≤ a % 4294967296 ∧ a % 4294967296 ≤ 4294967295 := by omega
  have h3 : 0 ≤ b / 4294967296 ∧ b / 4294967296 ≤ 4294967295 := by omega
  have h4 : 0 ≤ b % 4294967296 ∧ b % 4294967296 ≤ 4294967295 := by omega
  have p00 := mul_le h2.1 h2.2 h4.1 h4.2
  have p10 := mul_le h1.1 h1.2 h4.1 h4.2
  have p01 := mul_le h2.1 h2.2 h3.1 h3.2
  have p11 := mul_le h1.1 h1.2 h3.1 h3.2
  clear ea eb a0 a1 b0 b1
  generalize a / 4294967296 * (b / 4294967296) = P11 at *
  generalize a / 4294967296 * (b % 4294967296) = P10 at *
  generalize a % 4294967296 * (b / 4294967296) = P01 at *
  generalize a % 4294967296 * (b % 4294967296) = P00 at *
  generalize a * b = S at *
  clear h1 h2 h3 h4
  simp only [Int.reduceMul] at p00 p10 p01 p11
  have r1 : (P10 % 18446744073709551616 + P00 % 18446744073709551616 / 4294967296) % 18446744073709551616 = P10 + P00 / 4294967296 := by omega
  rw [r1, and32 _ (by omega) (by omega)]
  congr 1
  rw [Prod.mk.injEq]
  constructor
  · omega
  · rfl
theorem pow_split (n : Nat) (h : n ≤ 64) : (2 : Int) ^ n * 2 ^ (64 - n) = 18446744073709551616 := by
  rw [← Int.pow_add, show n + (64 - n) = 64 by omega]; rfl
theorem pow_pos (n : Nat) : (1 : Int) ≤ 2 ^ n := by
  have : (0 : Int) < 2 ^ n := Int.pow_pos (by decide)
  omega
/-- a word that is shifted up beside one that fills what it leaves -/
theorem or_fill (c d : Int) (n : Nat) (hn : n ≤ 64) (c0 : 0 ≤ c) (c1 : c < 2 ^ n) (d0 : 0 ≤ d) (d1 : d < 2 ^ (64 - n)) : Go.bits .or .u64 (c * 2 ^ (64 - n)) d = c * 2 ^ (64 - n) + d := by
  have hp := pow_split n hn
  have p1 := pow_pos n
  have p2 := pow_pos (64 - n)
  have e1 : (c + 1) * 2 ^ (64 - n) ≤ 2 ^ n * 2 ^ (64 - n) := Int.mul_le_mul_of_nonneg_right (by omega) (by omega)
  rw [Int.add_mul, Int.one_mul, hp] at e1
  have e0 : 0 ≤ c * 2 ^ (64 - n) := Int.mul_nonneg c0 (by omega)
  rw [Go.u64_or _ _ e0 (by omega) d0 (by omega)]
  obtain ⟨C, rfl⟩ := Int.eq_ofNat_of_zero_le c0
  obtain ⟨D, rfl⟩ := Int.eq_ofNat_of_zero_le d0
  have hD : D < 2 ^ (64 - n) := by
    have : ((2 ^ (64 - n) : Nat) : Int) = 2 ^ (64 - n) := by simp
    omega
  have hC : ((C : Int) * 2 ^ (64 - n)).toNat = C * 2 ^ (64 - n) := by
    have : (C : Int) * 2 ^ (64 - n) = ((C * 2 ^ (64 - n) : Nat) : Int) := by simp
    rw [this]; rfl
  rw [hC, Int.toNat_natCast, ← Nat.shiftLeft_eq, ← Nat.shiftLeft_add_eq_or_of_lt hD, Nat.shiftLeft_eq]
  simp
theorem add64w (x c : Int) (h0 : 0 ≤ x) (h1 : 0 ≤ c) (h2 : c ≤ 1) : bits_Add64.f x c 0 = some ((x + c) % 18446744073709551616, (x + c) / 18446744073709551616) := by
  unfold bits_Add64.f
  rw [if_pos ⟨h0, h1, by omega, by omega⟩]
  simp
theorem fsize_f (a : Int) (h : Fx.ok a) : fix_size.f a = some (Fx.ab a) := by
  unfold fix_size.f Fx.ab
  unfold Fx.ok at h
  split
  · rw [u64w, u64w]; congr 1; omega
  · rw [u64w]; congr 1; omega
theorem fheld_f (hi lo : Int) (b : Bool) (h0 : 0 ≤ hi) (l0 : 0 ≤ lo) (l1 : lo < 18446744073709551616) (k : Nat) : fix_held.f (k + 1) hi lo b = some (Fx.clamp (Fx.sg b (hi * 18446744073709551616 + lo))) := by
  unfold fix_held.f Fx.clamp Fx.sg
  cases b
  · simp only [fix_held.j0, Bool.false_eq_true, if_false]
    split
    · congr 1; omega
    · split
      · congr 1; omega
      · congr 1; unfold wrap64; omega
  · simp only [if_true]
    split
    · simp only [fix_held.j0, if_true]; congr 1; omega
    · by_cases c : lo ≥ 9223372036854775808
      · rw [decide_eq_true c]
        simp only [fix_held.j0, if_true]; congr 1; omega
      · rw [decide_eq_false c]
        simp only [fix_held.j0, if_true, Bool.false_eq_true, if_false]
        congr 1; unfold wrap64; omega
theorem fadd_f (a b : Int) (ha : Fx.ok a) (hb : Fx.ok b) (k : Nat) : fix_Add.f (k + 1) a b = some (Fx.add a b) := by
  unfold fix_Add.f Fx.add Fx.clamp
  unfold Fx.ok at ha hb
  by_cases c : a < 0
  · by_cases d : b < 0
    · by_cases e : wrap64 (a + b) < 0
      · simp only [fix_Add.j0, c, d, e, decide_true]
        simp
        unfold wrap64 at *; omega
      · simp only [fix_Add.j0, c, d, e, decide_true, decide_false]
        simp
        unfold wrap64 at *; omega
    · simp only [fix_Add.j0, c, d, decide_true, decide_false]
      simp
      unfold wrap64 at *; omega
  · by_cases d : b < 0
    · simp only [fix_Add.j0, c, d, decide_true, decide_false]
      simp
      unfold wrap64 at *; omega
    · by_cases e : wrap64 (a + b) < 0
      · simp only [fix_Add.j0, c, d, e, decide_true, decide_false]
        simp
        unfold wrap64 at *; omega
      · simp only [fix_Add.j0, c, d, e, decide_true, decide_false]
        simp
        unfold wrap64 at *; omega
theorem fmul_f (a b : Int) (ha : Fx.ok a) (hb : Fx.ok b) (k : Nat) (hk : 2 ≤ k) : fix_Mul.f k a b = some (Fx.mul a b) := by
  unfold fix_Mul.f Fx.mul
  rw [fsize_f a ha, fsize_f b hb]
  simp only [Option.bind_some]
  have x0 := Fx.ab_nonneg a
  have x1 := Fx.ab_le ha
  have y0 := Fx.ab_nonneg b
  have y1 := Fx.ab_le hb
  rw [Mul64_f _ _ x0 (by omega) y0 (by omega)]
  simp only [Option.bind_some]
  have p0 : 0 ≤ Fx.ab a * Fx.ab b := Int.mul_nonneg x0 y0
  have p1 : Fx.ab a * Fx.ab b ≤ 9223372036854775808 * 9223372036854775808 := Int.mul_le_mul x1 y1 y0 (by omega)
  show _ = some (Fx.clamp (Fx.sg ((decide (a < 0)) != (decide (b < 0))) _))
  generalize hP : Fx.ab a * Fx.ab b = P at *
  have hbl : ∀ (z : Bool) (x8 x9 : Int) (k : Nat), fix_Mul.j0 (k + 1) a b x8 x9 z = if z = true then ((bits_Add64.f x8 1 0).bind fun bt152 => ((fix_held.f k (IntKind.u64.wrap (x9 + bt152.2)) bt152.1 ((decide (a < 0)) != (decide (b < 0)))).bind fun t154 => (some t154))) else ((fix_held.f k x9 x8 ((decide (a < 0)) != (decide (b < 0)))).bind fun t155 => (some t155)) := fun _ _ _ _ => rfl
  obtain ⟨k, rfl⟩ : ∃ j, k = j + 2 := ⟨k - 2, by omega⟩
  simp only [hbl]
  generalize ((decide (a < 0)) != (decide (b < 0))) = bl
  rw [and32 _ (by omega) (by omega)]
  have w : IntKind.u64.wrap (P / 18446744073709551616 * 4294967296) = (P / 79228162514264337593543950336) * 0 + P / 18446744073709551616 % 4294967296 * 2 ^ (64 - 32) := by
    rw [u64w]
    have : (2 : Int) ^ (64 - 32) = 4294967296 := by decide
    rw [this]
    omega
  rw [w, Int.mul_zero, Int.zero_add, or_fill (P / 18446744073709551616 % 4294967296) (P % 18446744073709551616 / 4294967296) 32 (by omega) (by omega) (by omega) (by omega) (by omega)]
  have hq : P / 18446744073709551616 % 4294967296 * 2 ^ (64 - 32) + P % 18446744073709551616 / 4294967296 = P / 4294967296 % 18446744073709551616 := by
    have : (2 : Int) ^ (64 - 32) = 4294967296 := by decide
    rw [this]
    omega
  rw [hq]
  have hr : P % 18446744073709551616 % 4294967296 = P % 4294967296 := by omega
  have ho : P / 18446744073709551616 / 4294967296 = P / 4294967296 / 18446744073709551616 := by omega
  rw [hr, ho]
  have he : Fx.rhe P 4294967296 = P / 4294967296 + (if 2 * (P % 4294967296) > 4294967296 ∨ (2 * (P % 4294967296) = 4294967296 ∧ P / 4294967296 % 2 = 1) then 1 else 0) := rfl
  rw [he]
  have q0 : 0 ≤ P / 4294967296 := by omega
  have q1 : P / 4294967296 ≤ 19807040628566084398385987584 := by omega
  have r0 : 0 ≤ P % 4294967296 := by omega
  have r1 : P % 4294967296 < 4294967296 := by omega
  clear he hr ho hq w hP p0 p1 hbl
  generalize P / 4294967296 = q at *
  generalize P % 4294967296 = r at *
  rw [and1 (q % 18446744073709551616) (by omega) (by omega)]
  have up : ∀ z, z = Fx.clamp (Fx.sg bl (q + 1)) → ((bits_Add64.f (q % 18446744073709551616) 1 0).bind fun bt152 => ((fix_held.f (k + 1) (IntKind.u64.wrap (q / 18446744073709551616 + bt152.2)) bt152.1 bl).bind fun t154 => (some t154))) = some z := by
    intro z hz
    rw [add64w _ 1 (by omega) (by omega) (by omega)]
    simp only [Option.bind_some]
    rw [u64w, fheld_f _ _ bl (by omega) (by omega) (by omega)]
    simp only [Option.bind_some]
    rw [hz]
    congr 3
    omega
  have down : ∀ z, z = Fx.clamp (Fx.sg bl q) → ((fix_held.f (k + 1) (q / 18446744073709551616) (q % 18446744073709551616) bl).bind fun t155 => (some t155)) = some z := by
    intro z hz
    rw [fheld_f _ _ bl (by omega) (by omega) (by omega)]
    simp only [Option.bind_some]
    rw [hz]
    congr 3
    omega
  by_cases c1 : r > 2147483648
  · rw [if_pos c1, if_pos trivial, if_pos (by omega)]
    exact up _ rfl
  · rw [if_neg c1]
    by_cases c2 : r = 2147483648
    · rw [if_pos c2]
      by_cases c3 : q % 2 = 1
      · rw [show q % 18446744073709551616 % 2 = 1 by omega, if_pos (show ((1 : Int) == 1) = true by rfl), if_pos (by omega)]
        exact up _ rfl
      · rw [show q % 18446744073709551616 % 2 = 0 by omega, if_neg (show ¬ (((0 : Int) == 1) = true) by decide), if_neg (by omega)]
        refine down _ ?_
        simp
    · rw [if_neg c2, if_neg (show ¬ (false = true) by decide), if_neg (by omega)]
      refine down _ ?_
      simp
theorem tGood_f (d v : List Int) (k : Nat) (hk : 10 ≤ k) : tens_Good.f k d v = some (Shp.good d && decide ((v.length : Int) = Shp.siz d)) := by
  unfold tens_Good.f
  rw [Good_f d k hk]
  simp only [Option.bind_some]
  cases h : Shp.good d
  · simp
  · rw [if_pos rfl, Size_f d k hk]
    simp only [Option.bind_some, Bool.true_and]
    congr 1
theorem fsub_f (a b : Int) (ha : Fx.ok a) (hb : Fx.ok b) (k : Nat) : fix_Sub.f (k + 1) a b = some (Fx.sub a b) := by
  unfold fix_Sub.f Fx.sub Fx.clamp
  unfold Fx.ok at ha hb
  by_cases c : a < 0
  · by_cases d : b < 0
    · simp only [fix_Sub.j0, c, d, decide_true, decide_false]
      simp
      unfold wrap64 at *; omega
    · by_cases e : wrap64 (a - b) < 0
      · simp only [fix_Sub.j0, c, d, e, decide_true, decide_false]
        simp
        unfold wrap64 at *; omega
      · simp only [fix_Sub.j0, c, d, e, decide_true, decide_false]
        simp
        unfold wrap64 at *; omega
  · by_cases d : b < 0
    · by_cases e : wrap64 (a - b) < 0
      · simp only [fix_Sub.j0, c, d, e, decide_true, decide_false]
        simp
        unfold wrap64 at *; omega
      · simp only [fix_Sub.j0, c, d, e, decide_true, decide_false]
        simp
        unfold wrap64 at *; omega
    · simp only [fix_Sub.j0, c, d, decide_true, decide_false]
      simp
      unfold wrap64 at *; omega
def tab (n : Nat) (g : Nat → Int) : List Int := (List.range n).map g
theorem tab_length (n : Nat) (g : Nat → Int) : (tab n g).length = n := by simp [tab]
theorem rd_tab (n : Nat) (g : Nat → Int) (i : Nat) (h : i < n) : rd (tab n g) i = g i := by
  unfold rd tab
  rw [show (i : Int).toNat = i from rfl]
  simp [List.getD_eq_getElem?_getD, List.getElem?_eq_getElem, h]
theorem rd_get (l : List Int) (i : Nat) (h : i < l.length) : rd l i = l[i] := by
  unfold rd
  rw [show (i : Int).toNat = i from rfl]
  simp [List.getD_eq_getElem?_getD, List.getElem?_eq_getElem, h]
theorem rd_ext {a b : List Int} (h : a.length = b.length) (e : ∀ i, i < a.length → rd a i = rd b i) : a = b := by
  apply List.ext_getElem h
  intro i h1 h2
  have := e i h1
  rwa [rd_get a i h1, rd_get b i h2] at this
theorem tab_ext {n : Nat} {f g : Nat → Int} (e : ∀ i, i < n → f i = g i) : tab n f = tab n g := by
  unfold tab
  apply List.map_congr_left
  intro i hi
  exact e i (List.mem_range.mp hi)
theorem tab_rd (l : List Int) : tab l.length (fun i => rd l i) = l := by
  apply rd_ext (tab_length _ _)
  intro i hi
  rw [tab_length] at hi
  exact rd_tab _ _ i hi
theorem tab_const (n : Nat) (v : Int) : tab n (fun _ => v) = List.replicate n v := by
  unfold tab
  induction n with
  | zero => rfl
  | succ n ih => rw [List.range_succ, List.map_append, ih, List.replicate_succ']; rfl
theorem set_take' (l : List Int) (i : Nat) (x : Int) (h : i < l.length) : (l.set i x).take (i + 1) = l.take i ++ [x] := by
  rw [List.take_succ_eq_append_getElem (by simpa using h), List.take_set_of_le (by omega)]
  simp
/-- a loop that sets one cell after the other -/
theorem loop_set {R : Type} (L : Nat → Int → List Int → Option R) (n : Nat) (g : Nat → Int) (fin : List Int → Option R) (K : Nat)
    (step : ∀ k (i : Nat) o, K ≤ k → i < n → o.length = n → L (k + 1) (i : Int) o = L k ((i : Int) + 1) (o.set i (g i)))
    (stop : ∀ k o, o.length = n → L (k + 1) (n : Int) o = fin o) :
    ∀ (c i : Nat) (o : List Int) (k : Nat), i + c = n → o.length = n → K + c + 1 ≤ k → L k (i : Int) o = fin (o.take i ++ (List.range' i c).map g) := by
  intro c
  induction c with
  | zero =>
    intro i o k hi ho hk
    obtain ⟨k, rfl⟩ : ∃ j, k = j + 1 := ⟨k - 1, by omega⟩
    rw [show i = n by omega, stop k o ho, List.take_of_length_le (by omega)]
    simp
  | succ c ih =>
    intro i o k hi ho hk
    obtain ⟨k, rfl⟩ : ∃ j, k = j + 1 := ⟨k - 1, by omega⟩
    rw [step k i o (by omega) (by omega) ho]
    have := ih (i + 1) (o.set i (g i)) k (by omega) (by simpa using ho) (by omega)
    rw [Int.natCast_add] at this
    rw [show ((i : Int) + 1) = (i : Int) + ((1 : Nat) : Int) from rfl, this, set_take' o i _ (by omega), List.range'_succ]
    simp
theorem loop_set0 {R : Type} (L : Nat → Int → List Int → Option R) (n : Nat) (g : Nat → Int) (fin : List Int → Option R) (K : Nat)
    (step : ∀ k (i : Nat) o, K ≤ k → i < n → o.length = n → L (k + 1) (i : Int) o = L k ((i : Int) + 1) (o.set i (g i)))
    (stop : ∀ k o, o.length = n → L (k + 1) (n : Int) o = fin o) (o : List Int) (k : Nat) (ho : o.length = n) (hk : K + n + 1 ≤ k) : L k 0 o = fin (tab n g) := by
  have := loop_set L n g fin K step stop n 0 o k (by omega) ho hk
  simp only [List.take_zero, List.nil_append] at this
  rw [show ((0 : Nat) : Int) = 0 from rfl] at this
  rw [this]; unfold tab; rw [List.range_eq_range']
theorem tab_succ (n : Nat) (g : Nat → Int) : tab (n + 1) g = tab n g ++ [g n] := by
  unfold tab; rw [List.range_succ, List.map_append]; rfl
theorem rd_set (l : List Int) (i : Nat) (x : Int) (h : i < l.length) : rd (l.set i x) i = x := by
  rw [rd_get _ i (by simpa using h)]; simp
theorem good_len {d : List Int} (h : Shp.good d = true) : d.length ≤ 4 := (Shp.good_iff.mp h).1
theorem bmul_f (a b : Int) (a0 : 0 ≤ a) (a1 : a ≤ 18446744073709551615) (b0 : 0 ≤ b) (b1 : b ≤ 18446744073709551615) : bits_Mul.f a b = some (a * b / 18446744073709551616, a * b % 18446744073709551616) := by
  unfold bits_Mul.f
  rw [Mul64_f a b a0 a1 b0 b1]
  rfl
theorem tRepeat_f (v n : Int) (h1 : 1 ≤ n) (h2 : n ≤ 4096) : slices_Repeat_Fix.f [v] n = some (List.replicate n.toNat v) := by
  unfold slices_Repeat_Fix.f
  rw [bmul_f 1 n (by omega) (by omega) (by omega) (by omega)]
  simp only [Option.bind_some]
  rw [if_pos ⟨rfl, h1, h2, by omega, by omega⟩]
  rfl
def tnew (d : List Int) (v : Int) : List Int × List Int × Int := if Shp.good d = true then (d, List.replicate (Shp.siz d).toNat v, 0) else ([], [], 1)
theorem siz_one {d : List Int} (h : Shp.good d = true) : 1 ≤ Shp.siz d := by
  rw [Shp.siz_good h]; exact Shp.pl_pos (Shp.good_iff.mp h).2.1
theorem tNew_f (d : List Int) (v : Int) (k : Nat) (hk : 10 ≤ k) : tens_New.f k d v = some (tnew d v) := by
  unfold tens_New.f tnew
  rw [Good_f d k hk]
  simp only [Option.bind_some]
  cases h : Shp.good d
  · simp
  · have := siz_one h
    have := Shp.siz_le d
    have hl := good_len h
    rw [if_pos rfl, if_pos rfl]
    unfold slices_Clone_int_int.f
    rw [if_pos (by omega), Size_f d k hk]
    simp only [Option.bind_some]
    rw [tRepeat_f v _ (by omega) (by omega)]
    rfl
theorem bcs_drop (d : List Int) : ∀ (b : List Int) (j : Nat), Shp.bcs d b = true → Shp.bcs (d.drop j) (b.drop j) = true := by
  induction d with
  | nil => intro b j h; cases b <;> simp_all [Shp.bcs]
  | cons x d ih =>
    intro b j h
    cases b with
    | nil => simp [Shp.bcs] at h
    | cons y b =>
      cases j with
      | zero => exact h
      | succ j =>
        simp only [Shp.bcs, Bool.and_eq_true] at h
        exact ih b j h.2
theorem set_self (o : List Int) (t : Nat) (h : t < o.length) : o.set t (rd o t) = o := by
  rw [rd_get o t h]; simp
theorem set_set (o : List Int) (t : Nat) (a b : Int) : (o.set t a).set t b = o.set t b := by simp
theorem rd_drop (l : List Int) (i j : Nat) (h : i + j < l.length) : rd (l.drop i) j = rd l ((i + j : Nat) : Int) := by
  rw [rd_get _ _ (by simp; omega), rd_get _ _ h]; simp
theorem rd_strs (d : List Int) : ∀ (j : Nat), j < d.length → rd (Shp.strs d) j = Shp.pl (d.drop (j + 1)) := by
  induction d with
  | nil => intro j h; simp at h
  | cons x d ih =>
    intro j h
    cases j with
    | zero => rfl
    | succ j =>
      have := ih j (by simpa using h)
      simp only [Shp.strs, List.drop_succ_cons]
      rw [← this]
      unfold rd
      rw [show ((j + 1 : Nat) : Int).toNat = j + 1 from rfl, show ((j : Nat) : Int).toNat = j from rfl]
      simp [List.getD_eq_getElem?_getD]
theorem all_drop {l : List Int} (h : ∀ x ∈ l, 1 ≤ x) (j : Nat) : ∀ x ∈ l.drop j, 1 ≤ x := fun x hx => h x (List.mem_of_mem_drop hx)
theorem pl_drop_le {l : List Int} (h : ∀ x ∈ l, 1 ≤ x) (j : Nat) : 1 ≤ Shp.pl (l.drop j) ∧ Shp.pl (l.drop j) ≤ Shp.pl l :=
  ⟨Shp.pl_pos (all_drop h j), Shp.pl_drop h j⟩
theorem Spread_l1 (d big : List Int) (hl : d.length ≤ big.length) (hb4 : big.length ≤ 4) (hbcs : Shp.bcs d (big.drop (big.length - d.length)) = true) (hd : ∀ x ∈ d, 1 ≤ x) (hB : ∀ x ∈ big, 1 ≤ x) (hp : Shp.pl d ≤ 4096) (t : Nat) (ht : t ≤ 4096) (n : Int) :
    ∀ (j k : Nat) (o : List Int), j ≤ d.length → t < o.length → rd o t = Shp.fr (d.drop j) ((big.drop (big.length - d.length)).drop j) t →
    shape_Spread.l1 (k + j + 1) d big (Shp.strs d) ((big.length - d.length : Nat) : Int) o t ((t : Int) / Shp.pl ((big.drop (big.length - d.length)).drop j)) (((big.length - d.length : Nat) : Int) + j - 1) n t = shape_Spread.l0 k d big (Shp.strs d) ((big.length - d.length : Nat) : Int) (o.set t (Shp.fr d (big.drop (big.length - d.length)) t)) n ((t : Int) + 1) := by
  have hblen : (big.drop (big.length - d.length)).length = d.length := by simp; omega
  have hBd := all_drop hB (big.length - d.length)
  intro j
  induction j with
  | zero =>
    intro k o _ hto hr
    simp only [shape_Spread.l1]
    rw [if_neg (by omega), w64 (x := (t : Int) + 1) (by omega) (by omega)]
    simp only [List.drop_zero] at hr
    rw [← hr, set_self o t hto]
  | succ j ih =>
    intro k o hj hto hr
    have ed := drop_rd d j (by omega)
    have eb := drop_rd (big.drop (big.length - d.length)) j (by omega)
    have hx := hd _ (rd_mem d j (by omega))
    have hy := hBd _ (rd_mem _ j (show j < (big.drop (big.length - d.length)).length by omega))
    have hbj : rd (big.drop (big.length - d.length)) j = rd big ((big.length - d.length + j : Nat) : Int) := rd_drop big _ j (by omega)
    have p1 := pl_drop_le hBd (j + 1)
    have pd1 := pl_drop_le hd (j + 1)
    have pd0 := pl_drop_le hd j
    have fb := Shp.fr_bound (bcs_drop d _ (j + 1) hbcs) (all_drop hd (j + 1)) (all_drop hBd (j + 1)) (t : Int)
    have fb0 := Shp.fr_bound (bcs_drop d _ j hbcs) (all_drop hd j) (all_drop hBd j) (t : Int)
    have fc := Shp.fr_cons (rd d j) (d.drop (j + 1)) (rd (big.drop (big.length - d.length)) j) ((big.drop (big.length - d.length)).drop (j + 1)) t (by simp; omega)
    rw [← ed, ← eb] at fc
    have hst := rd_strs d j (by omega)
    have hsl := Shp.strs_length d
    have q0 : 0 ≤ (t : Int) / Shp.pl ((big.drop (big.length - d.length)).drop (j + 1)) := Int.ediv_nonneg (by omega) (by omega)
    have q1 : (t : Int) / Shp.pl ((big.drop (big.length - d.length)).drop (j + 1)) ≤ t := Int.ediv_le_self _ (by omega)
    have e10 : ((big.length - d.length : Nat) : Int) + ((j + 1 : Nat) : Int) - 1 = ((big.length - d.length + j : Nat) : Int) := by omega
    have hplj : Shp.pl ((big.drop (big.length - d.length)).drop j) = rd (big.drop (big.length - d.length)) j * Shp.pl ((big.drop (big.length - d.length)).drop (j + 1)) := by rw [eb]; rfl
    have hdiv : ((t : Int) / Shp.pl ((big.drop (big.length - d.length)).drop (j + 1))).tdiv (rd big ((big.length - d.length + j : Nat) : Int)) = (t : Int) / Shp.pl ((big.drop (big.length - d.length)).drop j) := by
      rw [Int.tdiv_eq_ediv_of_nonneg q0, hplj, ← hbj, Int.ediv_ediv_of_nonneg (by omega), Int.mul_comm]
    have hmod : ((t : Int) / Shp.pl ((big.drop (big.length - d.length)).drop (j + 1))).tmod (rd big ((big.length - d.length + j : Nat) : Int)) = (t : Int) / Shp.pl ((big.drop (big.length - d.length)).drop (j + 1)) % rd (big.drop (big.length - d.length)) j := by
      rw [Int.tmod_eq_emod_of_nonneg q0, hbj]
    have back : ((big.length - d.length + j : Nat) : Int) - 1 = ((big.length - d.length : Nat) : Int) + j - 1 := by omega
    rw [e10, show k + (j + 1) + 1 = (k + j + 1) + 1 by omega]
    generalize hK : (t : Int) / Shp.pl ((big.drop (big.length - d.length)).drop (j + 1)) = r at *
    conv => lhs; unfold shape_Spread.l1
    rw [w64 (x := ((big.length - d.length + j : Nat) : Int) - ((big.length - d.length : Nat) : Int)) (by omega) (by omega), show ((big.length - d.length + j : Nat) : Int) - ((big.length - d.length : Nat) : Int) = (j : Int) by omega]
    rw [if_pos (c := ((big.length - d.length + j : Nat) : Int) ≥ _) (by omega), if_pos (c := (0 : Int) ≤ (j : Int)) (by omega), if_pos (c := (j : Int) < (d.length : Int)) (by omega)]
    have r1 : wrap64 r = r := w64 (by omega) (by omega)
    have rq : wrap64 ((t : Int) / Shp.pl ((big.drop (big.length - d.length)).drop j)) = (t : Int) / Shp.pl ((big.drop (big.length - d.length)).drop j) := by
      have p0 := pl_drop_le hBd j
      have := Int.ediv_nonneg (show (0 : Int) ≤ t by omega) (show 0 ≤ Shp.pl ((big.drop (big.length - d.length)).drop j) by omega)
      have := Int.ediv_le_self (Shp.pl ((big.drop (big.length - d.length)).drop j)) (show (0 : Int) ≤ t by omega)
      exact w64 (by omega) (by omega)
    by_cases c : rd d j > 1
    · rw [if_pos c, if_pos (c := (0 : Int) ≤ (t : Int)) (by omega), if_pos (by omega), if_pos (by omega), if_pos (by omega), if_neg (by omega), if_pos (by omega), hmod, hst, hdiv, rq, w64 (x := ((big.length - d.length + j : Nat) : Int) - 1) (by omega) (by omega), back]
      have m0 := Int.emod_nonneg r (show rd (big.drop (big.length - d.length)) j ≠ 0 by omega)
      rw [if_neg (show ¬ rd d j = 1 by omega)] at fc
      have hs0 := Int.mul_nonneg m0 (show 0 ≤ Shp.pl (d.drop (j + 1)) by omega)
      rw [w64 (x := r % rd (big.drop (big.length - d.length)) j * Shp.pl (d.drop (j + 1))) (by omega) (by omega), hr, w64 (by omega) (by omega), show (t : Int).toNat = t from rfl]
      rw [ih k _ (by omega) (by simpa using hto) (by rw [rd_set _ _ _ hto, fc]; omega), set_set]
    · have x1 : rd d j = 1 := by omega
      rw [if_pos x1] at fc
      rw [if_neg c, if_pos (by omega), if_pos (by omega), if_neg (by omega), hdiv, rq, w64 (x := ((big.length - d.length + j : Nat) : Int) - 1) (by omega) (by omega), back]
      rw [ih k _ (by omega) hto (by rw [hr, fc]; omega)]
def frv (d big : List Int) (t : Nat) : Int := Shp.fr d (big.drop (big.length - d.length)) t
theorem Spread_l0 (d big : List Int) (hl : d.length ≤ big.length) (hb4 : big.length ≤ 4) (hbcs : Shp.bcs d (big.drop (big.length - d.length)) = true) (hd : ∀ x ∈ d, 1 ≤ x) (hB : ∀ x ∈ big, 1 ≤ x) (hp : Shp.pl d ≤ 4096) (n : Nat) (hn : (n : Int) = Shp.pl big) (hn2 : n ≤ 4096) :
    ∀ (c t k : Nat), t + c = n → 10 + c * 6 ≤ k → shape_Spread.l0 k d big (Shp.strs d) ((big.length - d.length : Nat) : Int) (tab t (frv d big) ++ List.replicate c 0) n t = some (tab n (frv d big)) := by
  intro c
  induction c with
  | zero =>
    intro t k h hk
    obtain ⟨k, rfl⟩ : ∃ m, k = m + 1 := ⟨k - 1, by omega⟩
    simp only [shape_Spread.l0]
    rw [if_neg (by omega), show t = n by omega]; simp
  | succ c ih =>
    intro t k h hk
    have hlen : (tab t (frv d big) ++ List.replicate (c + 1) 0).length = n := by simp [tab_length]; omega
    obtain ⟨k, rfl⟩ : ∃ m, k = m + (d.length + 2) := ⟨k - (d.length + 2), by omega⟩
    have e : k + (d.length + 2) = (k + d.length + 1) + 1 := by omega
    rw [e]
    simp only [shape_Spread.l0]
    have hdr : ∀ l : List Int, l.drop l.length = [] := fun l => List.drop_length ..
    have hbl : (big.drop (big.length - d.length)).length = d.length := by simp; omega
    have hz : rd (tab t (frv d big) ++ List.replicate (c + 1) 0) t = 0 := by
      rw [rd_get _ _ (by omega), List.getElem_append_right (by simp [tab_length])]; simp
    have hbig : (big.drop (big.length - d.length)).drop d.length = [] := by
      have := hdr (big.drop (big.length - d.length)); rw [hbl] at this; exact this
    have h0 : Shp.fr (d.drop d.length) ((big.drop (big.length - d.length)).drop d.length) t = 0 := by rw [hbig, hdr]; rfl
    have := Spread_l1 d big hl hb4 hbcs hd hB hp t (by omega) n d.length k (tab t (frv d big) ++ List.replicate (c + 1) 0) (Nat.le_refl _) (by omega) (by rw [hz, h0])
    rw [hbig, show Shp.pl [] = 1 from rfl, Int.ediv_one, show ((big.length - d.length : Nat) : Int) + (d.length : Int) - 1 = (big.length : Int) - 1 by omega] at this
    rw [if_pos (by omega), w64 (x := (big.length : Int) - 1) (by omega) (by omega), this]
    have e2 : (tab t (frv d big) ++ List.replicate (c + 1) 0).set t (Shp.fr d (big.drop (big.length - d.length)) t) = tab (t + 1) (frv d big) ++ List.replicate c 0 := by
      rw [List.set_append_right _ _ (by simp [tab_length]), tab_length, Nat.sub_self, tab_succ, List.replicate_succ]
      simp [frv]
    rw [e2]
    have := ih (t + 1) k (by omega) (by omega)
    rw [Int.natCast_add] at this
    exact this
theorem Spread_f (d big : List Int) (h : Shp.join d big = (big, 0)) (k : Nat) (hk : 24600 ≤ k) : shape_Spread.f k d big = some (tab (Shp.siz big).toNat (frv d big)) := by
  obtain ⟨g1, g2, hl, hb⟩ := Shp.join_big'.mp h
  have i1 := Shp.good_iff.mp g1
  have i2 := Shp.good_iff.mp g2
  have s0 := Shp.siz_nonneg big
  have s1 := Shp.siz_le big
  have sg := Shp.siz_good g2
  unfold shape_Spread.f
  rw [Strides_f d k (by omega), if_pos g1, Option.bind_some, Size_f big k (by omega), Option.bind_some, if_pos s0, if_pos (by omega), Option.bind_some, w64 (x := (big.length : Int) - (d.length : Int)) (by omega) (by omega), List.length_replicate]
  have := Spread_l0 d big hl i2.1 hb i1.2.1 i2.2.1 i1.2.2 (Shp.siz big).toNat (by omega) (by omega) (Shp.siz big).toNat 0 k (by omega) (by omega)
  rw [show ((big.length - d.length : Nat) : Int) = (big.length : Int) - (d.length : Int) by omega] at this
  exact this
/-- two tensors, number by number -/
def teach (op : Int → Int → Int) (ad av bd bv : List Int) : List Int × List Int × Int :=
  if (Shp.good ad && decide ((av.length : Int) = Shp.siz ad)) = true ∧ (Shp.good bd && decide ((bv.length : Int) = Shp.siz bd)) = true then
    (if (Shp.join ad bd).2 = 0 then ((Shp.join ad bd).1, tab (Shp.siz (Shp.join ad bd).1).toNat (fun i => op (rd av (frv ad (Shp.join ad bd).1 i)) (rd bv (frv bd (Shp.join ad bd).1 i))), 0)
     else ([], [], (Shp.join ad bd).2))
  else ([], [], 1)
theorem join_parts {a b : List Int} (h : (Shp.join a b).2 = 0) : Shp.join a (Shp.join a b).1 = ((Shp.join a b).1, 0) ∧ Shp.join b (Shp.join a b).1 = ((Shp.join a b).1, 0) ∧ Shp.good (Shp.join a b).1 = true := by
  have e : Shp.join a b = ((Shp.join a b).1, 0) := by rw [← h]
  have h1 := Shp.join_again e
  have e2 := (Shp.join_comm b a).trans e
  have h2 := Shp.join_again e2
  exact ⟨(Shp.join_comm a _).trans h1, (Shp.join_comm b _).trans h2, (Shp.join_zero e).2.2.1⟩
theorem frv_bound {d big : List Int} (h : Shp.join d big = (big, 0)) (t : Nat) : 0 ≤ frv d big t ∧ frv d big t < Shp.siz d := by
  obtain ⟨g1, g2, hl, hb⟩ := Shp.join_big'.mp h
  rw [Shp.siz_good g1]
  exact Shp.fr_bound hb (Shp.good_iff.mp g1).2.1 (all_drop (Shp.good_iff.mp g2).2.1 _) t
theorem tBoth_j (J : Nat → Bool → List Int → List Int → List Int → List Int → Option (List Int × List Int × Int)) (L : Nat → List Int → List Int → Int → Int → List Int → List Int → List Int → List Int → List Int → List Int → Option (List Int × List Int × Int))
    (op : Int → Int → Int) (F : Nat → Int → Int → Option Int) (hF : ∀ a b k, Fx.ok a → Fx.ok b → 2 ≤ k → F k a b = some (op a b))
    (hJ : ∀ k x ad av bd bv, J (k + 1) x ad av bd bv = if x = true then (some (([] : List Int), ([] : List Int), 1)) else ((shape_Join.f k ad bd).bind fun bt => (if bt.2 = 0 then ((tens_New.f k bt.1 0).bind fun bt1 => ((shape_Spread.f k ad bt.1).bind fun t => ((shape_Spread.f k bd bt.1).bind fun s => (L k t s (bt1.2.1.length : Int) 0 ad av bd bv bt1.1 bt1.2.1)))) else (some (([] : List Int), ([] : List Int), bt.2)))))
    (hL : ∀ k t s n i ad av bd bv d o, L (k + 1) t s n i ad av bd bv d o = if i < n then (if 0 ≤ i then (if i < (t.length : Int) then (if 0 ≤ (rd t i) then (if (rd t i) < (av.length : Int) then (if i < (s.length : Int) then (if 0 ≤ (rd s i) then (if (rd s i) < (bv.length : Int) then ((F k (rd av (rd t i)) (rd bv (rd s i))).bind fun r => (if i < (o.length : Int) then (L k t s n (wrap64 (i + 1)) ad av bd bv d (o.set (i : Int).toNat r)) else (none))) else (none)) else (none)) else (none)) else (none)) else (none)) else (none)) else (none)) else (some (d, o, 0)))
    (ad av bd bv : List Int) (ha : ∀ x ∈ av, Fx.ok x) (hb : ∀ x ∈ bv, Fx.ok x) (h1 : (Shp.good ad && decide ((av.length : Int) = Shp.siz ad)) = true) (h2 : (Shp.good bd && decide ((bv.length : Int) = Shp.siz bd)) = true) (k : Nat) (hk : 24700 ≤ k) :
    J k false ad av bd bv = some (teach op ad av bd bv) := by
  obtain ⟨k, rfl⟩ : ∃ m, k = m + 1 := ⟨k - 1, by omega⟩
  rw [hJ, if_neg (by simp), Join_f ad bd k (by omega), Option.bind_some]
  unfold teach
  rw [if_pos (c := _ ∧ _) ⟨h1, h2⟩]
  by_cases c : (Shp.join ad bd).2 = 0
  · rw [if_pos c, if_pos c]
    obtain ⟨j1, j2, jg⟩ := join_parts c
    generalize (Shp.join ad bd).1 = d at *
    have s1 := Shp.siz_le d
    have s0 := siz_one jg
    simp only [Bool.and_eq_true, decide_eq_true_eq] at h1 h2
    rw [tNew_f d 0 k (by omega), Option.bind_some]
    unfold tnew
    rw [if_pos jg]
    simp only []
    rw [Spread_f ad d j1 k (by omega), Option.bind_some, Spread_f bd d j2 k (by omega), Option.bind_some]
    have := loop_set0 (fun k i o => L k (tab (Shp.siz d).toNat (frv ad d)) (tab (Shp.siz d).toNat (frv bd d)) ((List.replicate (Shp.siz d).toNat (0 : Int)).length : Int) i ad av bd bv d o) (Shp.siz d).toNat (fun i => op (rd av (frv ad d i)) (rd bv (frv bd d i))) (fun o => some (d, o, 0)) 2
      (fun k i o hk2 hi ho => by
        have b1 := frv_bound j1 i
        have b2 := frv_bound j2 i
        have hl : ((List.replicate (Shp.siz d).toNat (0 : Int)).length : Int) = Shp.siz d := by simp; omega
        simp only [hl]
        rw [hL, if_pos (by omega), if_pos (by omega), tab_length, if_pos (by omega), rd_tab _ _ _ hi, if_pos b1.1, if_pos (by omega), tab_length, if_pos (by omega), rd_tab _ _ _ hi, if_pos b2.1, if_pos (by omega)]
        have m1 : rd av (frv ad d i) ∈ av := by
          have := rd_mem av (frv ad d i).toNat (by omega)
          rwa [Int.toNat_of_nonneg b1.1] at this
        have m2 : rd bv (frv bd d i) ∈ bv := by
          have := rd_mem bv (frv bd d i).toNat (by omega)
          rwa [Int.toNat_of_nonneg b2.1] at this
        rw [hF _ _ _ (ha _ m1) (hb _ m2) hk2, Option.bind_some, if_pos (by omega), w64 (x := (i : Int) + 1) (by omega) (by omega)]
        rfl)
      (fun k o ho => by
        have hl : ((List.replicate (Shp.siz d).toNat (0 : Int)).length : Int) = ((Shp.siz d).toNat : Int) := by simp
        simp only [hl]
        rw [hL, if_neg (by omega)]) (List.replicate (Shp.siz d).toNat 0) k (by simp) (by omega)
    exact this
  · rw [if_neg c, if_neg c]
theorem tBoth_f (T : Nat → List Int → List Int → List Int → List Int → Option (List Int × List Int × Int)) (J : Nat → Bool → List Int → List Int → List Int → List Int → Option (List Int × List Int × Int))
    (op : Int → Int → Int)
    (hT : ∀ k ad av bd bv, T k ad av bd bv = (tens_Good.f k ad av).bind fun t => (if t = true then ((tens_Good.f k bd bv).bind fun t => (J k (!t) ad av bd bv)) else (J k true ad av bd bv)))
    (hJ1 : ∀ k ad av bd bv, J (k + 1) true ad av bd bv = some ([], [], 1))
    (ad av bd bv : List Int) (k : Nat) (hk : 24700 ≤ k) 
    (hJ0 : (Shp.good ad && decide ((av.length : Int) = Shp.siz ad)) = true → (Shp.good bd && decide ((bv.length : Int) = Shp.siz bd)) = true → J k false ad av bd bv = some (teach op ad av bd bv)) :
    T k ad av bd bv = some (teach op ad av bd bv) := by
  obtain ⟨k, rfl⟩ : ∃ m, k = m + 1 := ⟨k - 1, by omega⟩
  rw [hT, tGood_f ad av _ (by omega), Option.bind_some]
  by_cases c1 : (Shp.good ad && decide ((av.length : Int) = Shp.siz ad)) = true
  · rw [if_pos c1, tGood_f bd bv _ (by omega), Option.bind_some]
    by_cases c2 : (Shp.good bd && decide ((bv.length : Int) = Shp.siz bd)) = true
    · have := hJ0 c1 c2
      rw [c2]; exact this
    · have e : (Shp.good bd && decide ((bv.length : Int) = Shp.siz bd)) = false := by simpa using c2
      rw [e]
      show J (k + 1) true ad av bd bv = _
      rw [hJ1]; unfold teach; rw [if_neg (fun h => c2 h.2)]
  · rw [if_neg c1, hJ1]; unfold teach; rw [if_neg (fun h => c1 h.1)]
theorem tAdd_f (ad av bd bv : List Int) (ha : ∀ x ∈ av, Fx.ok x) (hb : ∀ x ∈ bv, Fx.ok x) (k : Nat) (hk : 24700 ≤ k) : tens_Add.f k ad av bd bv = some (teach Fx.add ad av bd bv) := by
  unfold tens_Add.f
  have := tBoth_f tens_both_Add.f tens_both_Add.j0 Fx.add (fun _ _ _ _ _ => rfl) (fun _ _ _ _ _ => rfl) ad av bd bv k hk
    (fun h1 h2 => tBoth_j tens_both_Add.j0 tens_both_Add.l0 Fx.add fix_Add.f (fun a b k ha hb hk => by obtain ⟨k, rfl⟩ : ∃ m, k = m + 1 := ⟨k - 1, by omega⟩; exact fadd_f a b ha hb k) (fun _ _ _ _ _ _ => rfl) (fun _ _ _ _ _ _ _ _ _ _ _ => rfl) ad av bd bv ha hb h1 h2 k hk)
  rw [this]; rfl
theorem tSub_f (ad av bd bv : List Int) (ha : ∀ x ∈ av, Fx.ok x) (hb : ∀ x ∈ bv, Fx.ok x) (k : Nat) (hk : 24700 ≤ k) : tens_Sub.f k ad av bd bv = some (teach Fx.sub ad av bd bv) := by
  unfold tens_Sub.f
  have := tBoth_f tens_both_Sub.f tens_both_Sub.j0 Fx.sub (fun _ _ _ _ _ => rfl) (fun _ _ _ _ _ => rfl) ad av bd bv k hk
    (fun h1 h2 => tBoth_j tens_both_Sub.j0 tens_both_Sub.l0 Fx.sub fix_Sub.f (fun a b k ha hb hk => by obtain ⟨k, rfl⟩ : ∃ m, k = m + 1 := ⟨k - 1, by omega⟩; exact fsub_f a b ha hb k) (fun _ _ _ _ _ _ => rfl) (fun _ _ _ _ _ _ _ _ _ _ _ => rfl) ad av bd bv ha hb h1 h2 k hk)
  rw [this]; rfl
theorem tMul_f (ad av bd bv : List Int) (ha : ∀ x ∈ av, Fx.ok x) (hb : ∀ x ∈ bv, Fx.ok x) (k : Nat) (hk : 24700 ≤ k) : tens_Mul.f k ad av bd bv = some (teach Fx.mul ad av bd bv) := by
  unfold tens_Mul.f
  have := tBoth_f tens_both_Mul.f tens_both_Mul.j0 Fx.mul (fun _ _ _ _ _ => rfl) (fun _ _ _ _ _ => rfl) ad av bd bv k hk
    (fun h1 h2 => tBoth_j tens_both_Mul.j0 tens_both_Mul.l0 Fx.mul fix_Mul.f (fun a b k ha hb hk => fmul_f a b ha hb k hk) (fun _ _ _ _ _ _ => rfl) (fun _ _ _ _ _ _ _ _ _ _ _ => rfl) ad av bd bv ha hb h1 h2 k hk)
  rw [this]; rfl
theorem great_f (d v : List Int) (n : Int) : carousellaw6_great.f d v n = some (decide ((d.length : Int) > 10) || decide ((v.length : Int) > n)) := by
  unfold carousellaw6_great.f
  by_cases c : (d.length : Int) > 10
  · rw [if_pos c, decide_eq_true c]; rfl
  · rw [if_neg c, decide_eq_false c]; rfl
theorem EqualF_l0 (a b : List Int) (h : a.length = b.length) (hm : a.length ≤ 9223372036854775000) : ∀ (d i k : Nat), i + d = a.length → d < k →
    slices_Equal_Fix.l0 k a b a.length i = some (decide (a.drop i = b.drop i)) := by
  intro d
  induction d with
  | zero =>
    intro i k hi hk
    obtain ⟨k, rfl, -⟩ := k_succ hk
    simp only [slices_Equal_Fix.l0]
    rw [if_neg (by omega), List.drop_of_length_le (by omega), List.drop_of_length_le (by omega)]; simp
  | succ d ih =>
    intro i k hi hk
    obtain ⟨k, rfl, hk⟩ := k_succ hk
    simp only [slices_Equal_Fix.l0]
    rw [if_pos (by omega), if_pos (by omega), if_pos (by omega), if_pos (by omega), eq_drop (by omega) (by omega), w64 (x := (i : Int) + 1) (by omega) (by omega)]
    have := ih (i + 1) k (by omega) (by omega)
    rw [Int.natCast_add] at this
    by_cases c : rd a i = rd b i
    · rw [if_pos c]; simpa [c] using this
    · rw [if_neg c]; simp [c]
theorem EqualF_f (a b : List Int) (hm : a.length ≤ 9223372036854775000) (k : Nat) (hk : a.length < k) : slices_Equal_Fix.f k a b = some (decide (a = b)) := by
  unfold slices_Equal_Fix.f
  by_cases h : a.length = b.length
  · rw [if_pos (by omega)]
    have := EqualF_l0 a b h hm a.length 0 k (by omega) hk
    simp at this; simp [this]
  · rw [if_neg (by omega)]
    have : a ≠ b := fun e => h (by rw [e])
    simp [this]
theorem tSame_f (d v e u : List Int) (hd : d.length ≤ 1000000) (hv : v.length ≤ 1000000) (k : Nat) (hk1 : d.length + 1 < k) (hk2 : v.length + 1 < k) : tens_Same.f k d v e u = some (decide (d = e ∧ v = u)) := by
  unfold tens_Same.f
  rw [Same_f d e (by omega) k (by omega), Option.bind_some]
  by_cases c : d = e
  · rw [if_pos (by simp [c]), EqualF_f v u (by omega) k (by omega)]
    simp [c]
  · rw [if_neg (by simp [c])]; simp [c]
theorem rd_set_ne (l : List Int) (i : Nat) (j : Int) (x : Int) (h0 : 0 ≤ j) (h : j ≠ i) : rd (l.set i x) j = rd l j := by
  unfold rd
  have : i ≠ j.toNat := by omega
  simp [List.getD_eq_getElem?_getD, List.getElem?_set, this]
/-- a tensor, scaled -/
def tscale (d v : List Int) (m : Int) : List Int × List Int × Int :=
  if (Shp.good d && decide ((v.length : Int) = Shp.siz d)) = true then (d, tab v.length (fun i => Fx.mul (rd v i) m), 0) else ([], [], 1)
theorem rd_ok' {v : List Int} (hv : ∀ x ∈ v, Fx.ok x) (i : Nat) (h : i < v.length) : Fx.ok (rd v i) := hv _ (rd_mem v i h)
theorem Scale_l0 (d v : List Int) (m : Int) (hv : ∀ x ∈ v, Fx.ok x) (hm : Fx.ok m) (hl : v.length ≤ 100000) :
    ∀ (c i k : Nat) (o : List Int), i + c = v.length → o.length = v.length → (∀ j : Nat, i ≤ j → j < v.length → rd o j = rd v j) → o.take i = tab i (fun t => Fx.mul (rd v t) m) → c + 5000 ≤ k →
    tens_Scale.l0 k m v.length i d o = some (d, tab v.length (fun t => Fx.mul (rd v t) m), 0) := by
  intro c
  induction c with
  | zero =>
    intro i k o hi ho _ ht hk
    obtain ⟨k, rfl⟩ : ∃ m, k = m + 1 := ⟨k - 1, by omega⟩
    simp only [tens_Scale.l0]
    have : i = v.length := by omega
    subst this
    rw [if_neg (by omega), ← ht, List.take_of_length_le (by omega)]
  | succ c ih =>
    intro i k o hi ho hr ht hk
    obtain ⟨k, rfl⟩ : ∃ m, k = m + 1 := ⟨k - 1, by omega⟩
    simp only [tens_Scale.l0]
    rw [if_pos (by omega), if_pos (by omega), if_pos (by omega), hr i (by omega) (by omega), fmul_f _ _ (rd_ok' hv i (by omega)) hm k (by omega), Option.bind_some, w64 (x := (i : Int) + 1) (by omega) (by omega)]
    have := ih (i + 1) k (o.set i (Fx.mul (rd v i) m)) (by omega) (by simpa using ho) (fun j h1 h2 => by
      rw [rd_set_ne o i (j : Int) _ (by omega) (by omega)]; exact hr j (by omega) h2) (by rw [set_take' o i _ (by omega), ht, tab_succ]) (by omega)
    rw [Int.natCast_add] at this
    exact this
theorem tScale_f (d v : List Int) (m : Int) (hv : ∀ x ∈ v, Fx.ok x) (hm : Fx.ok m) (k : Nat) (hk : 10000 ≤ k) : tens_Scale.f k d v m = some (tscale d v m) := by
  unfold tens_Scale.f tscale
  rw [tGood_f d v _ (by omega), Option.bind_some]
  by_cases c1 : (Shp.good d && decide ((v.length : Int) = Shp.siz d)) = true
  rotate_left
  · rw [if_neg c1, if_neg c1]
  rw [if_pos c1, if_pos c1]
  have s1 := Shp.siz_le d
  have c1' := c1
  simp only [Bool.and_eq_true, decide_eq_true_eq] at c1'
  have dl := good_len c1'.1
  unfold tens_Copy.f slices_Clone_int_int.f slices_Clone_Fix.f
  rw [if_pos (by omega), Option.bind_some, if_pos (by omega), Option.bind_some, Option.bind_some]
  have := Scale_l0 d v m hv hm (by omega) v.length 0 k v (by omega) rfl (fun _ _ _ => rfl) (by simp [tab]) (by omega)
  rw [show ((0 : Nat) : Int) = 0 from rfl] at this
  exact this
/-- numbers added where they are spread from -/
def fo (g : Nat → Int) (v o : List Int) : Nat → List Int
  | 0 => o
  | i + 1 => (fo g v o i).set (g i).toNat (Fx.add (rd (fo g v o i) (g i)) (rd v i))
theorem fo_len (g : Nat → Int) (v o : List Int) : ∀ n, (fo g v o n).length = o.length := by
  intro n
  induction n with
  | zero => rfl
  | succ n ih => simp only [fo, List.length_set]; exact ih
theorem fo_ok {g : Nat → Int} {v o : List Int} (ho : ∀ x ∈ o, Fx.ok x) : ∀ n, ∀ x ∈ fo g v o n, Fx.ok x := by
  intro n
  induction n with
  | zero => exact ho
  | succ n ih =>
    intro x hx
    simp only [fo] at hx
    rcases List.mem_or_eq_of_mem_set hx with h | h
    · exact ih x h
    · rw [h]; exact Fx.clamp_ok _
def tfold (d v e : List Int) : List Int × List Int × Int :=
  if (Shp.good d && decide ((v.length : Int) = Shp.siz d)) = true ∧ Shp.good e = true then
    (if Shp.join e d = (d, 0) then (e, fo (frv e d) v (List.replicate (Shp.siz e).toNat 0) v.length, 0) else ([], [], 4)) else ([], [], 1)
theorem rep0_ok (n : Nat) : ∀ x ∈ List.replicate n (0 : Int), Fx.ok x := by
  intro x hx
  rw [List.eq_of_mem_replicate hx]; unfold Fx.ok; omega
theorem Fold_l0 (d v e : List Int) (hv : ∀ x ∈ v, Fx.ok x) (h : Shp.join e d = (d, 0)) (hl : (v.length : Int) = Shp.siz d) (dd : List Int) :
    ∀ (c i k : Nat), i + c = v.length → c + 10 ≤ k →
    tens_Fold.l0 k (tab (Shp.siz d).toNat (frv e d)) v v.length i dd (fo (frv e d) v (List.replicate (Shp.siz e).toNat 0) i) = some (dd, fo (frv e d) v (List.replicate (Shp.siz e).toNat 0) v.length, 0) := by
  have s1 := Shp.siz_le d
  intro c
  induction c with
  | zero =>
    intro i k hi hk
    obtain ⟨k, rfl⟩ : ∃ m, k = m + 1 := ⟨k - 1, by omega⟩
    simp only [tens_Fold.l0]
    rw [if_neg (by omega), show i = v.length by omega]
  | succ c ih =>
    intro i k hi hk
    obtain ⟨k, rfl⟩ : ∃ m, k = m + 1 := ⟨k - 1, by omega⟩
    have b := frv_bound h i
    have fl := fo_len (frv e d) v (List.replicate (Shp.siz e).toNat 0) i
    rw [List.length_replicate] at fl
    have k1 : Fx.ok (rd (fo (frv e d) v (List.replicate (Shp.siz e).toNat 0) i) (frv e d i)) := by
      have := rd_ok' (fo_ok (g := frv e d) (v := v) (rep0_ok (Shp.siz e).toNat) i) (frv e d i).toNat (by rw [fl]; omega)
      rwa [Int.toNat_of_nonneg b.1] at this
    have fa : fix_Add.f k (rd (fo (frv e d) v (List.replicate (Shp.siz e).toNat 0) i) (frv e d i)) (rd v i) = some (Fx.add (rd (fo (frv e d) v (List.replicate (Shp.siz e).toNat 0) i) (frv e d i)) (rd v i)) := by
      obtain ⟨k', rfl⟩ : ∃ m, k = m + 1 := ⟨k - 1, by omega⟩
      exact fadd_f _ _ k1 (rd_ok' hv i (by omega)) k'
    simp only [tens_Fold.l0]
    rw [if_pos (by omega), if_pos (by omega), if_pos (by omega), tab_length, if_pos (by omega), rd_tab _ _ _ (by omega), if_pos b.1, if_pos (by rw [fl]; omega), fa, Option.bind_some, w64 (x := (i : Int) + 1) (by omega) (by omega)]
    have := ih (i + 1) k (by omega) (by omega)
    rw [Int.natCast_add] at this
    exact this
theorem tFold_f (d v e : List Int) (hv : ∀ x ∈ v, Fx.ok x) (k : Nat) (hk : 30000 ≤ k) : tens_Fold.f k d v e = some (tfold d v e) := by
  have oth : ∀ k, tens_Fold.j0 (k + 1) e true d v = some ([], [], 1) := fun k => by simp only [tens_Fold.j0]; rw [if_pos trivial]
  have oth1 : ∀ k, tens_Fold.j1 (k + 1) e true d v = some ([], [], 4) := fun k => by simp only [tens_Fold.j1]; rw [if_pos trivial]
  obtain ⟨k, rfl⟩ : ∃ m, k = m + 2 := ⟨k - 2, by omega⟩
  unfold tens_Fold.f tfold
  rw [tGood_f d v _ (by omega), Option.bind_some]
  by_cases c1 : (Shp.good d && decide ((v.length : Int) = Shp.siz d)) = true
  rotate_left
  · rw [if_neg c1, oth, if_neg (fun h => c1 h.1)]
  rw [if_pos c1, Good_f e _ (by omega), Option.bind_some]
  by_cases c2 : Shp.good e = true
  rotate_left
  · rw [if_neg (c := _ ∧ _) (fun h => c2 h.2), show Shp.good e = false by simpa using c2]
    exact oth _
  rw [if_pos (c := _ ∧ _) ⟨c1, c2⟩, c2]
  have s1 := Shp.siz_le d
  have c1' := c1
  simp only [Bool.and_eq_true, decide_eq_true_eq] at c1'
  have dl := good_len c1'.1
  simp only [Bool.not_true, tens_Fold.j0]
  rw [if_neg (by simp), Join_f e d (k + 1) (by omega), Option.bind_some]
  by_cases c3 : (Shp.join e d).2 = 0
  rotate_left
  · rw [if_neg c3, oth1, if_neg (fun h => c3 (by rw [h]))]
  rw [if_pos c3]
  have jl := good_len (join_parts c3).2.2
  rw [Same_f _ _ (by omega) (k + 1) (by omega), Option.bind_some]
  by_cases c4 : (Shp.join e d).1 = d
  rotate_left
  · rw [decide_eq_false c4, if_neg (fun h => c4 (by rw [h]))]
    exact oth1 k
  have hj : Shp.join e d = (d, 0) := by rw [← c3]; exact Prod.ext c4 rfl
  rw [decide_eq_true c4, if_pos hj]
  simp only [Bool.not_true, tens_Fold.j1]
  rw [if_neg (by simp), tNew_f e 0 k (by omega), Option.bind_some]
  unfold tnew
  rw [if_pos c2]
  simp only []
  rw [Spread_f e d hj k (by omega), Option.bind_some]
  have := Fold_l0 d v e hv hj c1'.2 e v.length 0 k (by omega) (by omega)
  rw [show ((0 : Nat) : Int) = 0 from rfl] at this
  exact this
theorem join_self {d : List Int} (h : Shp.good d = true) : Shp.join d d = (d, 0) := by
  have := Shp.join_again (Shp.join_nil h)
  exact this
theorem frv_self {d : List Int} (h : Shp.good d = true) {t : Nat} (ht : (t : Int) < Shp.siz d) : frv d d t = t := by
  have g := Shp.good_iff.mp h
  unfold frv
  rw [Nat.sub_self, List.drop_zero, Shp.fr_self d g.2.1]
  rw [Shp.siz_good h] at ht
  exact Int.emod_eq_of_lt (by omega) ht
theorem fo_self (v : List Int) (n : Nat) (hv : ∀ x ∈ v, Fx.ok x) (g : Nat → Int) (hg : ∀ i, i < v.length → g i = i) (hn : n = v.length) :
    ∀ i, i ≤ v.length → fo g v (List.replicate n 0) i = v.take i ++ List.replicate (n - i) 0 := by
  intro i
  induction i with
  | zero => intro _; simp [fo]
  | succ i ih =>
    intro hi
    simp only [fo]
    rw [ih (by omega), hg i (by omega), Int.toNat_natCast]
    have l1 : (v.take i).length = i := by rw [List.length_take]; omega
    have e : rd (v.take i ++ List.replicate (n - i) 0) (i : Int) = 0 := by
      unfold rd
      rw [Int.toNat_natCast, List.getD_eq_getElem?_getD, List.getElem?_append_right (by omega), l1, Nat.sub_self, List.getElem?_replicate]
      split <;> rfl
    have e2 : Fx.add 0 (rd v i) = rd v i := by unfold Fx.add; rw [Int.zero_add]; exact Fx.clamp_id (rd_ok' hv i (by omega))
    rw [e, e2, show n - i = (n - (i + 1)) + 1 by omega, List.replicate_succ, List.set_append_right _ _ (by omega), l1, Nat.sub_self, List.set_cons_zero, List.take_succ_eq_append_getElem (by omega), List.append_assoc]
    rw [rd_get v i (by omega)]; rfl
theorem TNone_all (d v : List Int) (hv : ∀ x ∈ v, Fx.ok x) : ∃ k, carousellaw6_TensNone.f k d v = some true := by
  refine ⟨40000, ?_⟩
  have aw : carousellaw6_awake.f 40000 = some true := by decide +kernel
  have oth : ∀ k, carousellaw6_TensNone.j0 (k + 1) true d v = some true := fun k => by simp only [carousellaw6_TensNone.j0]; rw [if_pos trivial]
  unfold carousellaw6_TensNone.f
  rw [aw, Option.bind_some, if_pos rfl, great_f, Option.bind_some]
  by_cases c1 : (decide ((d.length : Int) > 10) || decide ((v.length : Int) > 300)) = true
  · rw [if_pos c1, oth]
  rw [if_neg c1, tGood_f d v _ (by omega), Option.bind_some]
  by_cases c2 : (Shp.good d && decide ((v.length : Int) = Shp.siz d)) = true
  rotate_left
  · rw [show (Shp.good d && decide ((v.length : Int) = Shp.siz d)) = false by simpa using c2]; exact oth _
  rw [c2]
  simp only [Bool.or_eq_true, decide_eq_true_eq, not_or] at c1
  have c2' := c2
  simp only [Bool.and_eq_true, decide_eq_true_eq] at c2'
  obtain ⟨hg, hl⟩ := c2'
  have hn : (Shp.siz d).toNat = v.length := by omega
  have n0 : tnew [] 0 = ([], [0], 0) := rfl
  have n1 : tnew [] 4294967296 = ([], [4294967296], 0) := rfl
  have nd : tnew d 0 = (d, List.replicate v.length 0, 0) := by unfold tnew; rw [if_pos hg, hn]
  have jn := Shp.join_nil hg
  have js := join_self hg
  have fe : ∀ i, frv [] d i = 0 := fun i => by unfold frv; rw [List.length_nil, Nat.sub_zero, List.drop_length]; rfl
  have fs : ∀ i : Nat, i < v.length → frv d d i = i := fun i hi => frv_self hg (by omega)
  have o0 : ∀ x ∈ [(0 : Int)], Fx.ok x := by intro x hx; simp at hx; subst hx; unfold Fx.ok; omega
  have o1 : ∀ x ∈ [(4294967296 : Int)], Fx.ok x := by intro x hx; simp at hx; subst hx; unfold Fx.ok; omega
  have g0 : (Shp.good [] && decide ((([0] : List Int).length : Int) = Shp.siz [])) = true := rfl
  have g1 : (Shp.good [] && decide ((([4294967296] : List Int).length : Int) = Shp.siz [])) = true := rfl
  have ea : teach Fx.add d v [] [0] = (d, v, 0) := by
    unfold teach
    rw [if_pos (c := _ ∧ _) ⟨c2, g0⟩, jn]
    simp only [if_true]
    rw [hn]
    refine congrArg (fun z => (d, z, (0 : Int))) (Eq.trans (tab_ext fun i hi => ?_) (tab_rd v))
    rw [fe, fs i hi]
    show Fx.clamp (rd v i + 0) = _
    rw [Int.add_zero]; exact Fx.clamp_id (rd_ok' hv i hi)
  have em : teach Fx.mul d v [] [4294967296] = (d, v, 0) := by
    unfold teach
    rw [if_pos (c := _ ∧ _) ⟨c2, g1⟩, jn]
    simp only [if_true]
    rw [hn]
    refine congrArg (fun z => (d, z, (0 : Int))) (Eq.trans (tab_ext fun i hi => ?_) (tab_rd v))
    rw [fe, fs i hi]
    exact Fx.mul_one (rd_ok' hv i hi)
  have ef : tfold d v d = (d, v, 0) := by
    unfold tfold
    rw [if_pos (c := _ ∧ _) ⟨c2, hg⟩, if_pos js, hn, fo_self v v.length hv (frv d d) fs rfl v.length (Nat.le_refl _), List.take_length, Nat.sub_self]
    simp
  have es : tscale d v 4294967296 = (d, v, 0) := by
    unfold tscale
    rw [if_pos c2]
    refine congrArg (fun z => (d, z, (0 : Int))) (Eq.trans (tab_ext fun i hi => ?_) (tab_rd v))
    exact Fx.mul_one (rd_ok' hv i hi)
  have eu : teach Fx.sub d v d v = (d, List.replicate v.length 0, 0) := by
    unfold teach
    rw [if_pos (c := _ ∧ _) ⟨c2, c2⟩, js]
    simp only [if_true]
    rw [hn]
    refine congrArg (fun z => (d, z, (0 : Int))) (Eq.trans (tab_ext fun i hi => ?_) (tab_const v.length 0))
    show Fx.clamp _ = _
    rw [Int.sub_self]; rfl
  simp only [Bool.not_true, carousellaw6_TensNone.j0]
  rw [if_neg (by simp), tNew_f [] 0 _ (by omega), Option.bind_some, tNew_f [] 4294967296 _ (by omega), Option.bind_some, n0, n1]
  simp only []
  rw [tAdd_f _ _ _ _ hv o0 _ (by omega), Option.bind_some, tMul_f _ _ _ _ hv o1 _ (by omega), Option.bind_some, tFold_f _ _ _ hv _ (by omega), Option.bind_some, tScale_f _ _ _ hv (by unfold Fx.ok; omega) _ (by omega), Option.bind_some, tSub_f _ _ _ _ hv hv _ (by omega), Option.bind_some, tNew_f d 0 _ (by omega), Option.bind_some, ea, em, ef, es, eu, nd]
  simp only [if_true]
  rw [tSame_f _ _ _ _ (by omega) (by omega) _ (by omega) (by omega), Option.bind_some, if_pos (by simp), Option.bind_some, if_pos (by simp), Option.bind_some, if_pos (by simp), Option.bind_some, if_pos (by simp), tSame_f _ _ _ _ (by omega) (by rw [List.length_replicate]; omega) _ (by omega) (by rw [List.length_replicate]; omega), Option.bind_some]
  simp
theorem TensNone : carousellaw6_TensNone.Pure := by
  intro d v _ _ _ hv
  exact TNone_all d v (fun x hx => wf_i64 (hv x hx))
end Go.Proofs.Ytbdhabpplidgfaa.Pure
