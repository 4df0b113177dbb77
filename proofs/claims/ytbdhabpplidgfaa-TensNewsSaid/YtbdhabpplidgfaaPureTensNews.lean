/- The plain law behind TensNews: what the functions compute answers as the statement says, for every input. No condition. -/
import Derived.Test.YtbdhabpplidgfaaPTensNewsx7
import Derived.Laws.BitsAllLaws
import Derived.Test.YtbdhabpplidgfaaFixMath
import Derived.Test.YtbdhabpplidgfaaShapeMath
import Derived.Test.YtbdhabpplidgfaaBigMath
import Derived.Test.YtbdhabpplidgfaaWideMath
namespace Go.Proofs.Ytbdhabpplidgfaa.Pure
open Go.RowKit Go.Proofs.Ytbdhabpplidgfaa.PTensNews Go.Proofs.YtbdhabpplidgfaaW.PrintWords Go.Proofs.YtbdhabpplidgfaaW.PrintLast
set_option linter.unusedVariables false
set_option linter.unusedSimpArgs false
theorem w64 {x : Int} (h1 : -9223372036854775808 ≤ x) (h2 : x ≤ 9223372036854775807) : wrap64 x = x := by unfold wrap64; omega
theorem drop_rd (l : List Int) (i : Nat) (h : i < l.length) : l.drop i = rd l i :: l.drop (i + 1) := by
  rw [List.drop_eq_getElem_cons h]
  congr 1
  unfold rd
  rw [show (i : Int).toNat = i from rfl, List.getD_eq_getElem?_getD, List.getElem?_eq_getElem h]; rfl
theorem rd_mem (l : List Int) (i : Nat) (h : i < l.length) : rd l i ∈ l := by
  have := drop_rd l i h
  exact List.mem_of_mem_drop (i := i) (by rw [this]; exact List.mem_cons_self ..)
theorem mul_bd {a b A B : Int} (h0 : 0 ≤ a) (h1 : a ≤ A) (h2 : 0 ≤ b) (h3 : b ≤ B) : 0 ≤ a * b ∧ a * b ≤ A * B :=
  ⟨Int.mul_nonneg h0 h2, Int.mul_le_mul h1 h3 h2 (by omega)⟩
theorem k_succ {k n : Nat} (h : n < k) : ∃ m, k = m + 1 ∧ n ≤ m := ⟨k - 1, by omega, by omega⟩
theorem product_l0 (l : List Int) (hl : l.length ≤ 4) : ∀ (d i : Nat) (n : Int) (k : Nat), i + d = l.length → 1 ≤ n → n ≤ 4096 → 2 * d < k →
    shape_product.l0 k n l l.length i = some (Shp.gp n (l.drop i)) := by
  intro d
  induction d with
  | zero =>
    intro i n k hi h1 h2 hk
    obtain ⟨k, rfl, -⟩ := k_succ hk
    simp only [shape_product.l0]
    rw [if_neg (by omega), List.drop_of_length_le (by omega)]; rfl
  | succ d ih =>
    intro i n k hi h1 h2 hk
    obtain ⟨k, rfl, hk⟩ := k_succ hk
    obtain ⟨k, rfl, hk⟩ := k_succ (n := 2 * d + 1) (k := k) (by omega)
    have e := drop_rd l i (by omega)
    simp only [shape_product.l0, shape_product.j1]
    rw [if_pos (by omega), if_pos (by omega), if_pos (by omega), e]
    generalize rd l i = x at *
    simp only [Shp.gp]
    by_cases c1 : x < 1
    · simp [c1]
    by_cases c2 : 4096 < x
    · simp [c1, c2]
    have hb := mul_bd (a := n) (b := x) (by omega) h2 (by omega) (show x ≤ 4096 by omega)
    have hb1 := Shp.mul_le1 h1 (show 1 ≤ x by omega)
    rw [w64 (x := n * x) (by omega) (by omega), w64 (x := (i : Int) + 1) (by omega) (by omega)]
    simp only [if_neg c1, if_neg c2, show ¬ (x > 4096) from c2, decide_false]
    by_cases c3 : 4096 < n * x
    · simp [c3]
    · simp only [if_neg c3, show ¬ (n * x > 4096) from c3, if_false]
      have := ih (i + 1) (n * x) k (by omega) (by omega) (by omega) (by omega)
      rw [Int.natCast_add] at this
      simpa using this
theorem product_f (l : List Int) (k : Nat) (hk : 10 ≤ k) : shape_product.f k l = some (Shp.siz l) := by
  unfold shape_product.f
  by_cases h : l.length ≤ 4
  · rw [if_neg (by omega), ← Shp.gp_siz l h]
    have := product_l0 l h l.length 0 1 k (by omega) (by omega) (by omega) (by omega)
    simpa using this
  · rw [if_pos (by omega), Shp.siz_long l h]
theorem Good_f (l : List Int) (k : Nat) (hk : 10 ≤ k) : shape_Good.f k l = some (Shp.good l) := by
  unfold shape_Good.f; rw [product_f l k hk, ← Shp.siz_pos]; rfl
theorem Size_f (l : List Int) (k : Nat) (hk : 10 ≤ k) : shape_Size.f k l = some (Shp.siz l) := by
  unfold shape_Size.f; rw [product_f l k hk]; rfl
theorem rGood_l0 (l : List Int) (hl : l.length ≤ 4) : ∀ (d i : Nat) (n : Int) (k : Nat), i + d = l.length → 1 ≤ n → n ≤ 4096 → 2 * d < k →
    carouselref5_Good.l0 k l n i = some (decide (Shp.gp n (l.drop i) > 0)) := by
  intro d
  induction d with
  | zero =>
    intro i n k hi h1 h2 hk
    obtain ⟨k, rfl, -⟩ := k_succ hk
    simp only [carouselref5_Good.l0]
    rw [if_neg (by omega), List.drop_of_length_le (by omega)]
    simp [Shp.gp]; omega
  | succ d ih =>
    intro i n k hi h1 h2 hk
    obtain ⟨k, rfl, hk⟩ := k_succ hk
    obtain ⟨k, rfl, hk⟩ := k_succ (n := 2 * d + 1) (k := k) (by omega)
    have e := drop_rd l i (by omega)
    simp only [carouselref5_Good.l0, carouselref5_Good.j1]
    rw [if_pos (by omega), if_pos (by omega), e]
    have hi0 : 0 ≤ (i : Int) := by omega
    have hi1 : (i : Int) < l.length := by omega
    generalize rd l i = x at *
    simp only [Shp.gp]
    by_cases c1 : x < 1
    · simp [c1]
    by_cases c2 : 4096 < x
    · simp [c1, c2]
    have hb := mul_bd (a := n) (b := x) (by omega) h2 (by omega) (show x ≤ 4096 by omega)
    have hb1 := Shp.mul_le1 h1 (show 1 ≤ x by omega)
    rw [w64 (x := n * x) (by omega) (by omega), w64 (x := (i : Int) + 1) (by omega) (by omega)]
    simp only [if_neg c1, if_neg c2, show ¬ (x > 4096) from c2, decide_false]
    by_cases c3 : 4096 < n * x
    · simp [c3, hi1]
    · simp only [if_neg c3, show ¬ (n * x > 4096) from c3, if_false]
      have := ih (i + 1) (n * x) k (by omega) (by omega) (by omega) (by omega)
      rw [Int.natCast_add] at this
      simpa [hi0, hi1] using this
theorem rGood_f (l : List Int) (k : Nat) (hk : 10 ≤ k) : carouselref5_Good.f k l = some (Shp.good l) := by
  unfold carouselref5_Good.f
  by_cases h : l.length ≤ 4
  · rw [if_neg (by omega), ← Shp.siz_pos, ← Shp.gp_siz l h]
    have := rGood_l0 l h l.length 0 1 k (by omega) (by omega) (by omega) (by omega)
    simpa using this
  · rw [if_pos (by omega)]
    congr 1
    cases hg : Shp.good l
    · rfl
    · exact absurd (Shp.good_iff.mp hg).1 h
theorem rSize_l0 (l : List Int) (hp : ∀ x ∈ l, 1 ≤ x) : ∀ (d i : Nat) (n : Int) (k : Nat), i + d = l.length → 1 ≤ n → n * Shp.pl (l.drop i) ≤ 4096 → l.length ≤ 4 → d < k →
    carouselref5_Size.l0 k l n i = some (n * Shp.pl (l.drop i)) := by
  intro d
  induction d with
  | zero =>
    intro i n k hi h1 h2 hl hk
    obtain ⟨k, rfl, -⟩ := k_succ hk
    simp only [carouselref5_Size.l0]
    rw [if_neg (by omega), List.drop_of_length_le (by omega)]; simp [Shp.pl]
  | succ d ih =>
    intro i n k hi h1 h2 hl hk
    obtain ⟨k, rfl, hk⟩ := k_succ hk
    have e := drop_rd l i (by omega)
    have hx := hp _ (rd_mem l i (by omega))
    have hr : ∀ y ∈ l.drop (i + 1), 1 ≤ y := fun y hy => hp y (List.mem_of_mem_drop hy)
    have hpr := Shp.pl_pos hr
    simp only [carouselref5_Size.l0]
    rw [if_pos (by omega), if_pos (by omega)]
    rw [e] at h2 ⊢
    simp only [Shp.pl] at h2 ⊢
    rw [← Int.mul_assoc] at h2 ⊢
    generalize rd l i = x at *
    have a1 := Shp.mul_le1 h1 hx
    have a2 := Shp.mul_le1 (show 1 ≤ n * x by omega) hpr
    rw [w64 (x := n * x) (by omega) (by omega), w64 (x := (i : Int) + 1) (by omega) (by omega)]
    have := ih (i + 1) (n * x) k (by omega) (by omega) h2 hl (by omega)
    rw [Int.natCast_add] at this
    exact this
theorem rSize_f (l : List Int) (k : Nat) (hk : 10 ≤ k) : carouselref5_Size.f k l = some (Shp.siz l) := by
  unfold carouselref5_Size.f
  rw [rGood_f l k hk]
  cases hg : Shp.good l
  · simp [Shp.siz_bad hg]
  · have hi := Shp.good_iff.mp hg
    have := rSize_l0 l hi.2.1 l.length 0 1 k (by omega) (by omega) (by simpa using hi.2.2) hi.1 (by omega)
    simpa [Shp.siz_good hg] using this
theorem eq_drop {a b : List Int} {i : Nat} (ha : i < a.length) (hb : i < b.length) : decide (a.drop i = b.drop i) = (decide (rd a i = rd b i) && decide (a.drop (i + 1) = b.drop (i + 1))) := by
  rw [drop_rd a i ha, drop_rd b i hb]; simp
theorem rSame_l0 (a b : List Int) (h : a.length = b.length) (hm : a.length ≤ 9223372036854775000) : ∀ (d i k : Nat), i + d = a.length → d < k →
    carouselref5_Same.l0 k a b i = some (decide (a.drop i = b.drop i)) := by
  intro d
  induction d with
  | zero =>
    intro i k hi hk
    obtain ⟨k, rfl, -⟩ := k_succ hk
    simp only [carouselref5_Same.l0]
    rw [if_neg (by omega), List.drop_of_length_le (by omega), List.drop_of_length_le (by omega)]; simp
  | succ d ih =>
    intro i k hi hk
    obtain ⟨k, rfl, hk⟩ := k_succ hk
    simp only [carouselref5_Same.l0]
    rw [if_pos (by omega), if_pos (by omega), if_pos (by omega), eq_drop (by omega) (by omega), w64 (x := (i : Int) + 1) (by omega) (by omega)]
    have := ih (i + 1) k (by omega) (by omega)
    rw [Int.natCast_add] at this
    by_cases c : rd a i = rd b i
    · rw [if_pos c]; simpa [c] using this
    · rw [if_neg c]; simp [c]
theorem rSame_f (a b : List Int) (hm : a.length ≤ 9223372036854775000) (k : Nat) (hk : a.length < k) : carouselref5_Same.f k a b = some (decide (a = b)) := by
  unfold carouselref5_Same.f
  by_cases h : a.length = b.length
  · rw [if_pos (by omega)]
    have := rSame_l0 a b h hm a.length 0 k (by omega) hk
    simpa using this
  · rw [if_neg (by omega)]
    have : a ≠ b := fun e => h (by rw [e])
    simp [this]
theorem u64w (n : Int) : IntKind.u64.wrap n = n % 18446744073709551616 := by simp [IntKind.wrap, IntKind.bits, IntKind.signed]
theorem and32 (x : Int) (h0 : 0 ≤ x) (h1 : x ≤ 18446744073709551615) : Go.bits .and .u64 x 4294967295 = x % 4294967296 := by
  rw [Go.u64_and x 4294967295 h0 (by omega) (by omega) (by omega)]
  have : (4294967295 : Int).toNat = 2 ^ 32 - 1 := rfl
  rw [this, Nat.and_two_pow_sub_one_eq_mod]
  omega
theorem mul_le {a b A B : Int} (h0 : 0 ≤ a) (h1 : a ≤ A) (h2 : 0 ≤ b) (h3 : b ≤ B) : 0 ≤ a * b ∧ a * b ≤ A * B :=
  ⟨Int.mul_nonneg h0 h2, Int.mul_le_mul h1 h3 h2 (by omega)⟩
theorem split_mul (x0 x1 y0 y1 : Int) : (x1 * 4294967296 + x0) * (y1 * 4294967296 + y0) = (x1 * y1) * 18446744073709551616 + ((x1 * y0) + (x0 * y1)) * 4294967296 + x0 * y0 := by grind
theorem Mul64_f (a b : Int) (a0 : 0 ≤ a) (a1 : a ≤ 18446744073709551615) (b0 : 0 ≤ b) (b1 : b ≤ 18446744073709551615) : bits_Mul64.f a b = some (a * b / 18446744073709551616, a * b % 18446744073709551616) := by
  unfold bits_Mul64.f
  rw [and32 a a0 a1, and32 b b0 b1]
  simp only [u64w]
  have ea : a = (a / 4294967296) * 4294967296 + a % 4294967296 := by omega
  have eb : b = (b / 4294967296) * 4294967296 + b % 4294967296 := by omega
  have es := split_mul (a % 4294967296) (a / 4294967296) (b % 4294967296) (b / 4294967296)
  rw [← ea, ← eb] at es
  have h1 : 0 ≤ a / 4294967296 ∧ a / 4294967296 ≤ 4294967295 := by omega
  have h2 : 0 ≤ a % 4294967296 ∧ a % 4294967296 ≤ 4294967295 := by omega
  have h3 : 0 ≤ b / 4294967296 ∧ b / 4294967296 ≤ 4294967295 := by omega
  have h4 : 0 ≤ b % 4294967296 ∧ b % 4294967296 ≤ 4294967295 := by omega
  have p00 := mul_le h2.1 h2.2 h4.1 h4.2
  have p10 := mul_le h1.1 h1.2 h4.1 h4.2
  have p01 := mul_le h2.1 h2.2 h3.1 h3.2
  have p11 := mul_le h1.1 h1.2 h3.1 h3.2
  clear ea eb a0 a1 b0 b1
  generalize a / 4294967296 * (b / 4294967296) = P11 at *
  generalize a / 4294967296 * (b % 4294967296) = P10 at *
  generalize a % 4294967296 * (b / 4294967296) = P01 at *
  generalize a % 4294967296 * (b % 4294967296) = P00 at *
  generalize a * b = S at *
  clear h1 h2 h3 h4
  simp only [Int.reduceMul] at p00 p10 p01 p11
  have r1 : (P10 % 18446744073709551616 + P00 % 18446744073709551616 / 4294967296) % 18446744073709551616 = P10 + P00 / 4294967296 := by omega
  rw [r1, and32 _ (by omega) (by omega)]
  congr 1
  rw [Prod.mk.injEq]
  constructor
  · omega
  · rfl
theorem tGood_f (d v : List Int) (k : Nat) (hk : 10 ≤ k) : tens_Good.f k d v = some (Shp.good d && decide ((v.length : Int) = Shp.siz d)) := by
  unfold tens_Good.f
  rw [Good_f d k hk]
  simp only [Option.bind_some]
  cases h : Shp.good d
  · simp
  · rw [if_pos rfl, Size_f d k hk]
    simp only [Option.bind_some, Bool.true_and]
    congr 1
def tab (n : Nat) (g : Nat → Int) : List Int := (List.range n).map g
theorem tab_const (n : Nat) (v : Int) : tab n (fun _ => v) = List.replicate n v := by
  unfold tab
  induction n with
  | zero => rfl
  | succ n ih => rw [List.range_succ, List.map_append, ih, List.replicate_succ']; rfl
theorem set_take' (l : List Int) (i : Nat) (x : Int) (h : i < l.length) : (l.set i x).take (i + 1) = l.take i ++ [x] := by
  rw [List.take_succ_eq_append_getElem (by simpa using h), List.take_set_of_le (by omega)]
  simp
/-- a loop that sets one cell after the other -/
theorem loop_set {R : Type} (L : Nat → Int → List Int → Option R) (n : Nat) (g : Nat → Int) (fin : List Int → Option R) (K : Nat)
    (step : ∀ k (i : Nat) o, K ≤ k → i < n → o.length = n → L (k + 1) (i : Int) o = L k ((i : Int) + 1) (o.set i (g i)))
    (stop : ∀ k o, o.length = n → L (k + 1) (n : Int) o = fin o) :
    ∀ (c i : Nat) (o : List Int) (k : Nat), i + c = n → o.length = n → K + c + 1 ≤ k → L k (i : Int) o = fin (o.take i ++ (List.range' i c).map g) := by
  intro c
  induction c with
  | zero =>
    intro i o k hi ho hk
    obtain ⟨k, rfl⟩ : ∃ j, k = j + 1 := ⟨k - 1, by omega⟩
    rw [show i = n by omega, stop k o ho, List.take_of_length_le (by omega)]
    simp
  | succ c ih =>
    intro i o k hi ho hk
    obtain ⟨k, rfl⟩ : ∃ j, k = j + 1 := ⟨k - 1, by omega⟩
    rw [step k i o (by omega) (by omega) ho]
    have := ih (i + 1) (o.set i (g i)) k (by omega) (by simpa using ho) (by omega)
    rw [Int.natCast_add] at this
    rw [show ((i : Int) + 1) = (i : Int) + ((1 : Nat) : Int) from rfl, this, set_take' o i _ (by omega), List.range'_succ]
    simp
theorem loop_set0 {R : Type} (L : Nat → Int → List Int → Option R) (n : Nat) (g : Nat → Int) (fin : List Int → Option R) (K : Nat)
    (step : ∀ k (i : Nat) o, K ≤ k → i < n → o.length = n → L (k + 1) (i : Int) o = L k ((i : Int) + 1) (o.set i (g i)))
    (stop : ∀ k o, o.length = n → L (k + 1) (n : Int) o = fin o) (o : List Int) (k : Nat) (ho : o.length = n) (hk : K + n + 1 ≤ k) : L k 0 o = fin (tab n g) := by
  have := loop_set L n g fin K step stop n 0 o k (by omega) ho hk
  simp only [List.take_zero, List.nil_append] at this
  rw [show ((0 : Nat) : Int) = 0 from rfl] at this
  rw [this]; unfold tab; rw [List.range_eq_range']
theorem rNew_f (d : List Int) (v : Int) (hd : d.length ≤ 1000000) (k : Nat) (hk : 4200 ≤ k) : carouselref5_New.f k d v = some (d, List.replicate (Shp.siz d).toNat v) := by
  have s0 := Shp.siz_nonneg d
  have s1 := Shp.siz_le d
  unfold carouselref5_New.f
  simp only [Option.bind_some, List.length_nil, List.nil_append]
  rw [if_pos (by omega), rSize_f d k (by omega)]
  simp only [Option.bind_some]
  rw [if_pos s0, if_pos (by omega)]
  have := loop_set0 (fun k i o => carouselref5_New.l0 k v i d o) (Shp.siz d).toNat (fun _ => v) (fun o => some (d, o)) 0
    (fun k i o _ hi ho => by
      simp only [carouselref5_New.l0]
      rw [if_pos (by omega), if_pos (by omega), w64 (x := (i : Int) + 1) (by omega) (by omega)]; rfl)
    (fun k o ho => by simp only [carouselref5_New.l0]; rw [if_neg (by omega)]) (List.replicate (Shp.siz d).toNat 0) k (by simp) (by omega)
  rw [tab_const] at this
  exact this
theorem rAlike_l0 (d e v u : List Int) (hm : v.length ≤ 1000000) (hv : v.length = u.length) : ∀ (c i k : Nat), i + c = v.length → c < k → carouselref5_Alike.l0 k i d v e u = some (decide (v.drop i = u.drop i)) := by
  intro c
  induction c with
  | zero =>
    intro i k hi hk
    obtain ⟨k, rfl, -⟩ := k_succ hk
    simp only [carouselref5_Alike.l0]
    rw [if_neg (by omega), List.drop_of_length_le (by omega), List.drop_of_length_le (by omega)]
    simp
  | succ c ih =>
    intro i k hi hk
    obtain ⟨k, rfl, hk⟩ := k_succ hk
    simp only [carouselref5_Alike.l0]
    rw [if_pos (by omega), if_pos (by omega), if_pos (by omega), drop_rd v i (by omega), drop_rd u i (by omega), w64 (x := (i : Int) + 1) (by omega) (by omega)]
    have := ih (i + 1) k (by omega) (by omega)
    rw [Int.natCast_add] at this
    split
    · rename_i h
      have this' : carouselref5_Alike.l0 k ((i : Int) + 1) d v e u = _ := this
      rw [this', h]; simp
    · rename_i h; simp [h]
theorem rAlike_f (d v e u : List Int) (hd : d.length ≤ 1000000) (hv : v.length ≤ 1000000) (k : Nat) (hk1 : d.length + 1 < k) (hk2 : v.length + 1 < k) : carouselref5_Alike.f k d v e u = some (decide (d = e ∧ v = u)) := by
  unfold carouselref5_Alike.f
  obtain ⟨k, rfl⟩ : ∃ j, k = j + 1 := ⟨k - 1, by omega⟩
  rw [rSame_f d e (by omega) (k + 1) (by omega)]
  simp only [Option.bind_some, carouselref5_Alike.j0]
  by_cases c1 : d = e
  · rw [if_pos (by simp [c1])]
    by_cases c2 : v.length = u.length
    · rw [if_neg (by simp [c2])]
      have := rAlike_l0 d e v u hv c2 v.length 0 k (by omega) (by omega)
      rw [show ((0 : Nat) : Int) = 0 from rfl] at this
      rw [this]; simp [c1]
    · rw [if_pos (by simp; omega)]
      have : v ≠ u := fun h => c2 (by rw [h])
      simp [this]
  · rw [if_neg (by simp [c1])]
    simp [c1]
theorem good_len {d : List Int} (h : Shp.good d = true) : d.length ≤ 4 := (Shp.good_iff.mp h).1
theorem bmul_f (a b : Int) (a0 : 0 ≤ a) (a1 : a ≤ 18446744073709551615) (b0 : 0 ≤ b) (b1 : b ≤ 18446744073709551615) : bits_Mul.f a b = some (a * b / 18446744073709551616, a * b % 18446744073709551616) := by
  unfold bits_Mul.f
  rw [Mul64_f a b a0 a1 b0 b1]
  rfl
theorem tRepeat_f (v n : Int) (h1 : 1 ≤ n) (h2 : n ≤ 4096) : slices_Repeat_Fix.f [v] n = some (List.replicate n.toNat v) := by
  unfold slices_Repeat_Fix.f
  rw [bmul_f 1 n (by omega) (by omega) (by omega) (by omega)]
  simp only [Option.bind_some]
  rw [if_pos ⟨rfl, h1, h2, by omega, by omega⟩]
  rfl
def tnew (d : List Int) (v : Int) : List Int × List Int × Int := if Shp.good d = true then (d, List.replicate (Shp.siz d).toNat v, 0) else ([], [], 1)
theorem siz_one {d : List Int} (h : Shp.good d = true) : 1 ≤ Shp.siz d := by
  rw [Shp.siz_good h]; exact Shp.pl_pos (Shp.good_iff.mp h).2.1
theorem tNew_f (d : List Int) (v : Int) (k : Nat) (hk : 10 ≤ k) : tens_New.f k d v = some (tnew d v) := by
  unfold tens_New.f tnew
  rw [Good_f d k hk]
  simp only [Option.bind_some]
  cases h : Shp.good d
  · simp
  · have := siz_one h
    have := Shp.siz_le d
    have hl := good_len h
    rw [if_pos rfl, if_pos rfl]
    unfold slices_Clone_int_int.f
    rw [if_pos (by omega), Size_f d k hk]
    simp only [Option.bind_some]
    rw [tRepeat_f v _ (by omega) (by omega)]
    rfl
theorem TNews_all (d : List Int) (v : Int) : ∃ k, carousellaw6_TensNews.f k d v = some true := by
  refine ⟨5000, ?_⟩
  have aw : carousellaw6_awake.f 5000 = some true := by decide +kernel
  unfold carousellaw6_TensNews.f
  rw [aw, Option.bind_some, if_pos rfl]
  by_cases c : (d.length : Int) > 10
  · rw [if_pos c]
  rw [if_neg c, tNew_f d v 5000 (by omega), Option.bind_some, rGood_f d 5000 (by omega), Option.bind_some]
  unfold tnew
  cases h : Shp.good d
  · simp
  · have s := Shp.siz_nonneg d
    have s2 := Shp.siz_le d
    simp only [if_true]
    rw [rNew_f d v (by omega) 5000 (by omega), Option.bind_some, rAlike_f _ _ _ _ (by omega) (by simp; omega) 5000 (by omega) (by simp; omega), Option.bind_some, if_pos (by simp), tGood_f _ _ 5000 (by omega)]
    simp [h]; omega
theorem TensNews : carousellaw6_TensNews.Pure := by
  intro d v _ _ _ _
  exact TNews_all d v
end Go.Proofs.Ytbdhabpplidgfaa.Pure
