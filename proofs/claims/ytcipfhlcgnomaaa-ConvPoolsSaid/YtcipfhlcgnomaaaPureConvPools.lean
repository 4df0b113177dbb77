/- The plain law behind ConvPools: what the functions compute answers as the statement says, for every input. No condition. -/
import Derived.Test.YtcipfhlcgnomaaaPConvPoolsx11
import Derived.Laws.BitsAllLaws
import Derived.Test.YtcipfhlcgnomaaaFixMath
import Derived.Test.YtcipfhlcgnomaaaShapeMath
import Derived.Test.YtcipfhlcgnomaaaBigMath
import Derived.Test.YtcipfhlcgnomaaaWideMath
namespace Go.Proofs.Ytcipfhlcgnomaaa.Pure
open Go.RowKit Go.Proofs.Ytcipfhlcgnomaaa.PConvPools Go.Proofs.YtcipfhlcgnomaaaW.PrintWords Go.Proofs.YtcipfhlcgnomaaaW.PrintLast Go.Proofs.YtcipfhlcgnomaaaW.PrintMore
set_option linter.unusedVariables false
set_option linter.unusedSimpArgs false
theorem w64 {x : Int} (h1 : -9223372036854775808 ≤ x) (h2 : x ≤ 9223372036854775807) : wrap64 x = x := by unfold wrap64; omega
theorem drop_rd (l : List Int) (i : Nat) (h : i < l.length) : l.drop i = rd l i :: l.drop (i + 1) := by
  rw [List.drop_eq_getElem_cons h]
  congr 1
  unfold rd
  rw [show (i : Int).toNat = i from rfl, List.getD_eq_getElem?_getD, List.getElem?_eq_getElem h]; rfl
theorem rd_mem (l : List Int) (i : Nat) (h : i < l.length) : rd l i ∈ l := by
  have := drop_rd l i h
  exact List.mem_of_mem_drop (i := i) (by rw [this]; exact List.mem_cons_self ..)
theorem mul_bd {a b A B : Int} (h0 : 0 ≤ a) (h1 : a ≤ A) (h2 : 0 ≤ b) (h3 : b ≤ B) : 0 ≤ a * b ∧ a * b ≤ A * B :=
  ⟨Int.mul_nonneg h0 h2, Int.mul_le_mul h1 h3 h2 (by omega)⟩
theorem k_succ {k n : Nat} (h : n < k) : ∃ m, k = m + 1 ∧ n ≤ m := ⟨k - 1, by omega, by omega⟩
theorem product_l0 (l : List Int) (hl : l.length ≤ 4) : ∀ (d i : Nat) (n : Int) (k : Nat), i + d = l.length → 1 ≤ n → n ≤ 4096 → 2 * d < k →
    shape_product.l0 k n l l.length i = some (Shp.gp n (l.drop i)) := by
  intro d
  induction d with
  | zero =>
    intro i n k hi h1 h2 hk
    obtain ⟨k, rfl, -⟩ := k_succ hk
    simp only [shape_product.l0]
    rw [if_neg (by omega), List.drop_of_length_le (by omega)]; rfl
  | succ d ih =>
    intro i n k hi h1 h2 hk
    obtain ⟨k, rfl, hk⟩ := k_succ hk
    obtain ⟨k, rfl, hk⟩ := k_succ (n := 2 * d + 1) (k := k) (by omega)
    have e := drop_rd l i (by omega)
    simp only [shape_product.l0, shape_product.j1]
    rw [if_pos (by omega), if_pos (by omega), if_pos (by omega), e]
    generalize rd l i = x at *
    simp only [Shp.gp]
    by_cases c1 : x < 1
    · simp [c1]
    by_cases c2 : 4096 < x
    · simp [c1, c2]
    have hb := mul_bd (a := n) (b := x) (by omega) h2 (by omega) (show x ≤ 4096 by omega)
    have hb1 := Shp.mul_le1 h1 (show 1 ≤ x by omega)
    rw [w64 (x := n * x) (by omega) (by omega), w64 (x := (i : Int) + 1) (by omega) (by omega)]
    simp only [if_neg c1, if_neg c2, show ¬ (x > 4096) from c2, decide_false]
    by_cases c3 : 4096 < n * x
    · simp [c3]
    · simp only [if_neg c3, show ¬ (n * x > 4096) from c3, if_false]
      have := ih (i + 1) (n * x) k (by omega) (by omega) (by omega) (by omega)
      rw [Int.natCast_add] at this
      simpa using this
theorem product_f (l : List Int) (k : Nat) (hk : 10 ≤ k) : shape_product.f k l = some (Shp.siz l) := by
  unfold shape_product.f
  by_cases h : l.length ≤ 4
  · rw [if_neg (by omega), ← Shp.gp_siz l h]
    have := product_l0 l h l.length 0 1 k (by omega) (by omega) (by omega) (by omega)
    simpa using this
  · rw [if_pos (by omega), Shp.siz_long l h]
theorem Good_f (l : List Int) (k : Nat) (hk : 10 ≤ k) : shape_Good.f k l = some (Shp.good l) := by
  unfold shape_Good.f; rw [product_f l k hk, ← Shp.siz_pos]; rfl
theorem Size_f (l : List Int) (k : Nat) (hk : 10 ≤ k) : shape_Size.f k l = some (Shp.siz l) := by
  unfold shape_Size.f; rw [product_f l k hk]; rfl
theorem rGood_l0 (l : List Int) (hl : l.length ≤ 4) : ∀ (d i : Nat) (n : Int) (k : Nat), i + d = l.length → 1 ≤ n → n ≤ 4096 → 2 * d < k →
    carouselref5_Good.l0 k l n i = some (decide (Shp.gp n (l.drop i) > 0)) := by
  intro d
  induction d with
  | zero =>
    intro i n k hi h1 h2 hk
    obtain ⟨k, rfl, -⟩ := k_succ hk
    simp only [carouselref5_Good.l0]
    rw [if_neg (by omega), List.drop_of_length_le (by omega)]
    simp [Shp.gp]; omega
  | succ d ih =>
    intro i n k hi h1 h2 hk
    obtain ⟨k, rfl, hk⟩ := k_succ hk
    obtain ⟨k, rfl, hk⟩ := k_succ (n := 2 * d + 1) (k := k) (by omega)
    have e := drop_rd l i (by omega)
    simp only [carouselref5_Good.l0, carouselref5_Good.j1]
    rw [if_pos (by omega), if_pos (by omega), e]
    have hi0 : 0 ≤ (i : Int) := by omega
    have hi1 : (i : Int) < l.length := by omega
    generalize rd l i = x at *
    simp only [Shp.gp]
    by_cases c1 : x < 1
    · simp [c1]
    by_cases c2 : 4096 < x
    · simp [c1, c2]
    have hb := mul_bd (a := n) (b := x) (by omega) h2 (by omega) (show x ≤ 4096 by omega)
    have hb1 := Shp.mul_le1 h1 (show 1 ≤ x by omega)
    rw [w64 (x := n * x) (by omega) (by omega), w64 (x := (i : Int) + 1) (by omega) (by omega)]
    simp only [if_neg c1, if_neg c2, show ¬ (x > 4096) from c2, decide_false]
    by_cases c3 : 4096 < n * x
    · simp [c3, hi1]
    · simp only [if_neg c3, show ¬ (n * x > 4096) from c3, if_false]
      have := ih (i + 1) (n * x) k (by omega) (by omega) (by omega) (by omega)
      rw [Int.natCast_add] at this
      simpa [hi0, hi1] using this
theorem rGood_f (l : List Int) (k : Nat) (hk : 10 ≤ k) : carouselref5_Good.f k l = some (Shp.good l) := by
  unfold carouselref5_Good.f
  by_cases h : l.length ≤ 4
  · rw [if_neg (by omega), ← Shp.siz_pos, ← Shp.gp_siz l h]
    have := rGood_l0 l h l.length 0 1 k (by omega) (by omega) (by omega) (by omega)
    simpa using this
  · rw [if_pos (by omega)]
    congr 1
    cases hg : Shp.good l
    · rfl
    · exact absurd (Shp.good_iff.mp hg).1 h
theorem rSize_l0 (l : List Int) (hp : ∀ x ∈ l, 1 ≤ x) : ∀ (d i : Nat) (n : Int) (k : Nat), i + d = l.length → 1 ≤ n → n * Shp.pl (l.drop i) ≤ 4096 → l.length ≤ 4 → d < k →
    carouselref5_Size.l0 k l n i = some (n * Shp.pl (l.drop i)) := by
  intro d
  induction d with
  | zero =>
    intro i n k hi h1 h2 hl hk
    obtain ⟨k, rfl, -⟩ := k_succ hk
    simp only [carouselref5_Size.l0]
    rw [if_neg (by omega), List.drop_of_length_le (by omega)]; simp [Shp.pl]
  | succ d ih =>
    intro i n k hi h1 h2 hl hk
    obtain ⟨k, rfl, hk⟩ := k_succ hk
    have e := drop_rd l i (by omega)
    have hx := hp _ (rd_mem l i (by omega))
    have hr : ∀ y ∈ l.drop (i + 1), 1 ≤ y := fun y hy => hp y (List.mem_of_mem_drop hy)
    have hpr := Shp.pl_pos hr
    simp only [carouselref5_Size.l0]
    rw [if_pos (by omega), if_pos (by omega)]
    rw [e] at h2 ⊢
    simp only [Shp.pl] at h2 ⊢
    rw [← Int.mul_assoc] at h2 ⊢
    generalize rd l i = x at *
    have a1 := Shp.mul_le1 h1 hx
    have a2 := Shp.mul_le1 (show 1 ≤ n * x by omega) hpr
    rw [w64 (x := n * x) (by omega) (by omega), w64 (x := (i : Int) + 1) (by omega) (by omega)]
    have := ih (i + 1) (n * x) k (by omega) (by omega) h2 hl (by omega)
    rw [Int.natCast_add] at this
    exact this
theorem rSize_f (l : List Int) (k : Nat) (hk : 10 ≤ k) : carouselref5_Size.f k l = some (Shp.siz l) := by
  unfold carouselref5_Size.f
  rw [rGood_f l k hk]
  cases hg : Shp.good l
  · simp [Shp.siz_bad hg]
  · have hi := Shp.good_iff.mp hg
    have := rSize_l0 l hi.2.1 l.length 0 1 k (by omega) (by omega) (by simpa using hi.2.2) hi.1 (by omega)
    simpa [Shp.siz_good hg] using this
theorem eq_drop {a b : List Int} {i : Nat} (ha : i < a.length) (hb : i < b.length) : decide (a.drop i = b.drop i) = (decide (rd a i = rd b i) && decide (a.drop (i + 1) = b.drop (i + 1))) := by
  rw [drop_rd a i ha, drop_rd b i hb]; simp
theorem rSame_l0 (a b : List Int) (h : a.length = b.length) (hm : a.length ≤ 9223372036854775000) : ∀ (d i k : Nat), i + d = a.length → d < k →
    carouselref5_Same.l0 k a b i = some (decide (a.drop i = b.drop i)) := by
  intro d
  induction d with
  | zero =>
    intro i k hi hk
    obtain ⟨k, rfl, -⟩ := k_succ hk
    simp only [carouselref5_Same.l0]
    rw [if_neg (by omega), List.drop_of_length_le (by omega), List.drop_of_length_le (by omega)]; simp
  | succ d ih =>
    intro i k hi hk
    obtain ⟨k, rfl, hk⟩ := k_succ hk
    simp only [carouselref5_Same.l0]
    rw [if_pos (by omega), if_pos (by omega), if_pos (by omega), eq_drop (by omega) (by omega), w64 (x := (i : Int) + 1) (by omega) (by omega)]
    have := ih (i + 1) k (by omega) (by omega)
    rw [Int.natCast_add] at this
    by_cases c : rd a i = rd b i
    · rw [if_pos c]; simpa [c] using this
    · rw [if_neg c]; simp [c]
theorem rSame_f (a b : List Int) (hm : a.length ≤ 9223372036854775000) (k : Nat) (hk : a.length < k) : carouselref5_Same.f k a b = some (decide (a = b)) := by
  unfold carouselref5_Same.f
  by_cases h : a.length = b.length
  · rw [if_pos (by omega)]
    have := rSame_l0 a b h hm a.length 0 k (by omega) hk
    simpa using this
  · rw [if_neg (by omega)]
    have : a ≠ b := fun e => h (by rw [e])
    simp [this]
theorem u64w (n : Int) : IntKind.u64.wrap n = n % 18446744073709551616 := by simp [IntKind.wrap, IntKind.bits, IntKind.signed]
theorem and32 (x : Int) (h0 : 0 ≤ x) (h1 : x ≤ 18446744073709551615) : Go.bits .and .u64 x 4294967295 = x % 4294967296 := by
  rw [Go.u64_and x 4294967295 h0 (by omega) (by omega) (by omega)]
  have : (4294967295 : Int).toNat = 2 ^ 32 - 1 := rfl
  rw [this, Nat.and_two_pow_sub_one_eq_mod]
  omega
theorem mul_le {a b A B : Int} (h0 : 0 ≤ a) (h1 : a ≤ A) (h2 : 0 ≤ b) (h3 : b ≤ B) : 0 ≤ a * b ∧ a * b ≤ A * B :=
  ⟨Int.mul_nonneg h0 h2, Int.mul_le_mul h1 h3 h2 (by omega)⟩
theorem split_mul (x0 x1 y0 y1 : Int) : (x1 * 4294967296 + x0) * (y1 * 4294967296 + y0) = (x1 * y1) * 18446744073709551616 + ((x1 * y0) + (x0 * y1)) * 4294967296 + x0 * y0 := by grind
theorem Mul64_f (a b : Int) (a0 : 0 ≤ a) (a1 : a ≤ 18446744073709551615) (b0 : 0 ≤ b) (b1 : b ≤ 18446744073709551615) : bits_Mul64.f a b = some (a * b / 18446744073709551616, a * b % 18446744073709551616) := by
  unfold bits_Mul64.f
  rw [and32 a a0 a1, and32 b b0 b1]
  simp only [u64w]
  have ea : a = (a / 4294967296) * 4294967296 + a % 4294967296 := by omega
  have eb : b = (b / 4294967296) * 4294967296 + b % 4294967296 := by omega
  have es := split_mul (a % 4294967296) (a / 4294967296) (b % 4294967296) (b / 4294967296)
  rw [← ea, ← eb] at es
  have h1 : 0 ≤ a / 4294967296 ∧ a / 4294967296 ≤ 4294967295 := by omega
  have h2 : 0 ≤ a % 4294967296 ∧ a % 4294967296 ≤ 4294967295 := by omega
  have h3 : 0 ≤ b / 4294967296 ∧ b / 4294967296 ≤ 4294967295 := by omega
  have h4 : 0 ≤ b % 4294967296 ∧ b % 4294967296 ≤ 4294967295 := by omega
  have p00 := mul_le h2.1 h2.2 h4.1 h4.2
  have p10 := mul_le h1.1 h1.2 h4.1 h4.2
  have p01 := mul_le h2.1 h2.2 h3.1 h3.2
  have p11 := mul_le h1.1 h1.2 h3.1 h3.2
  clear ea eb a0 a1 b0 b1
  generalize a / 4294967296 * (b / 4294967296) = P11 at *
  generalize a / 4294967296 * (b % 4294967296) = P10 at *
  generalize a % 4294967296 * (b / 4294967296) = P01 at *
  generalize a % 4294967296 * (b % 4294967296) = P00 at *
  generalize a * b = S at *
  clear h1 h2 h3 h4
  simp only [Int.reduceMul] at p00 p10 p01 p11
  have r1 : (P10 % 18446744073709551616 + P00 % 18446744073709551616 / 4294967296) % 18446744073709551616 = P10 + P00 / 4294967296 := by omega
  rw [r1, and32 _ (by omega) (by omega)]
  congr 1
  rw [Prod.mk.injEq]
  constructor
  · omega
  · rfl
theorem tGood_f (d v : List Int) (k : Nat) (hk : 10 ≤ k) : tens_Good.f k d v = some (Shp.good d && decide ((v.length : Int) = Shp.siz d)) := by
  unfold tens_Good.f
  rw [Good_f d k hk]
  simp only [Option.bind_some]
  cases h : Shp.good d
  · simp
  · rw [if_pos rfl, Size_f d k hk]
    simp only [Option.bind_some, Bool.true_and]
    congr 1
def tab (n : Nat) (g : Nat → Int) : List Int := (List.range n).map g
theorem tab_length (n : Nat) (g : Nat → Int) : (tab n g).length = n := by simp [tab]
theorem tab_const (n : Nat) (v : Int) : tab n (fun _ => v) = List.replicate n v := by
  unfold tab
  induction n with
  | zero => rfl
  | succ n ih => rw [List.range_succ, List.map_append, ih, List.replicate_succ']; rfl
theorem set_take' (l : List Int) (i : Nat) (x : Int) (h : i < l.length) : (l.set i x).take (i + 1) = l.take i ++ [x] := by
  rw [List.take_succ_eq_append_getElem (by simpa using h), List.take_set_of_le (by omega)]
  simp
/-- a loop that sets one cell after the other -/
theorem loop_set {R : Type} (L : Nat → Int → List Int → Option R) (n : Nat) (g : Nat → Int) (fin : List Int → Option R) (K : Nat)
    (step : ∀ k (i : Nat) o, K ≤ k → i < n → o.length = n → L (k + 1) (i : Int) o = L k ((i : Int) + 1) (o.set i (g i)))
    (stop : ∀ k o, o.length = n → L (k + 1) (n : Int) o = fin o) :
    ∀ (c i : Nat) (o : List Int) (k : Nat), i + c = n → o.length = n → K + c + 1 ≤ k → L k (i : Int) o = fin (o.take i ++ (List.range' i c).map g) := by
  intro c
  induction c with
  | zero =>
    intro i o k hi ho hk
    obtain ⟨k, rfl⟩ : ∃ j, k = j + 1 := ⟨k - 1, by omega⟩
    rw [show i = n by omega, stop k o ho, List.take_of_length_le (by omega)]
    simp
  | succ c ih =>
    intro i o k hi ho hk
    obtain ⟨k, rfl⟩ : ∃ j, k = j + 1 := ⟨k - 1, by omega⟩
    rw [step k i o (by omega) (by omega) ho]
    have := ih (i + 1) (o.set i (g i)) k (by omega) (by simpa using ho) (by omega)
    rw [Int.natCast_add] at this
    rw [show ((i : Int) + 1) = (i : Int) + ((1 : Nat) : Int) from rfl, this, set_take' o i _ (by omega), List.range'_succ]
    simp
theorem loop_set0 {R : Type} (L : Nat → Int → List Int → Option R) (n : Nat) (g : Nat → Int) (fin : List Int → Option R) (K : Nat)
    (step : ∀ k (i : Nat) o, K ≤ k → i < n → o.length = n → L (k + 1) (i : Int) o = L k ((i : Int) + 1) (o.set i (g i)))
    (stop : ∀ k o, o.length = n → L (k + 1) (n : Int) o = fin o) (o : List Int) (k : Nat) (ho : o.length = n) (hk : K + n + 1 ≤ k) : L k 0 o = fin (tab n g) := by
  have := loop_set L n g fin K step stop n 0 o k (by omega) ho hk
  simp only [List.take_zero, List.nil_append] at this
  rw [show ((0 : Nat) : Int) = 0 from rfl] at this
  rw [this]; unfold tab; rw [List.range_eq_range']
theorem tab_succ (n : Nat) (g : Nat → Int) : tab (n + 1) g = tab n g ++ [g n] := by
  unfold tab; rw [List.range_succ, List.map_append]; rfl
theorem rNew_f (d : List Int) (v : Int) (hd : d.length ≤ 1000000) (k : Nat) (hk : 4200 ≤ k) : carouselref5_New.f k d v = some (d, List.replicate (Shp.siz d).toNat v) := by
  have s0 := Shp.siz_nonneg d
  have s1 := Shp.siz_le d
  unfold carouselref5_New.f
  simp only [Option.bind_some, List.length_nil, List.nil_append]
  rw [if_pos (by omega), rSize_f d k (by omega)]
  simp only [Option.bind_some]
  rw [if_pos s0, if_pos (by omega)]
  have := loop_set0 (fun k i o => carouselref5_New.l0 k v i d o) (Shp.siz d).toNat (fun _ => v) (fun o => some (d, o)) 0
    (fun k i o _ hi ho => by
      simp only [carouselref5_New.l0]
      rw [if_pos (by omega), if_pos (by omega), w64 (x := (i : Int) + 1) (by omega) (by omega)]; rfl)
    (fun k o ho => by simp only [carouselref5_New.l0]; rw [if_neg (by omega)]) (List.replicate (Shp.siz d).toNat 0) k (by simp) (by omega)
  rw [tab_const] at this
  exact this
theorem rIs_f (d v : List Int) (k : Nat) (hk : 10 ≤ k) : carouselref5_Is.f k d v = some (Shp.good d && decide ((v.length : Int) = Shp.siz d)) := by
  unfold carouselref5_Is.f
  rw [rGood_f d k hk]
  simp only [Option.bind_some]
  cases h : Shp.good d
  · simp
  · rw [if_pos rfl, rSize_f d k hk]
    simp only [Option.bind_some, Bool.true_and]
    congr 1
theorem rAlike_l0 (d e v u : List Int) (hm : v.length ≤ 1000000) (hv : v.length = u.length) : ∀ (c i k : Nat), i + c = v.length → c < k → carouselref5_Alike.l0 k i d v e u = some (decide (v.drop i = u.drop i)) := by
  intro c
  induction c with
  | zero =>
    intro i k hi hk
    obtain ⟨k, rfl, -⟩ := k_succ hk
    simp only [carouselref5_Alike.l0]
    rw [if_neg (by omega), List.drop_of_length_le (by omega), List.drop_of_length_le (by omega)]
    simp
  | succ c ih =>
    intro i k hi hk
    obtain ⟨k, rfl, hk⟩ := k_succ hk
    simp only [carouselref5_Alike.l0]
    rw [if_pos (by omega), if_pos (by omega), if_pos (by omega), drop_rd v i (by omega), drop_rd u i (by omega), w64 (x := (i : Int) + 1) (by omega) (by omega)]
    have := ih (i + 1) k (by omega) (by omega)
    rw [Int.natCast_add] at this
    split
    · rename_i h
      have this' : carouselref5_Alike.l0 k ((i : Int) + 1) d v e u = _ := this
      rw [this', h]; simp
    · rename_i h; simp [h]
theorem rAlike_f (d v e u : List Int) (hd : d.length ≤ 1000000) (hv : v.length ≤ 1000000) (k : Nat) (hk1 : d.length + 1 < k) (hk2 : v.length + 1 < k) : carouselref5_Alike.f k d v e u = some (decide (d = e ∧ v = u)) := by
  unfold carouselref5_Alike.f
  obtain ⟨k, rfl⟩ : ∃ j, k = j + 1 := ⟨k - 1, by omega⟩
  rw [rSame_f d e (by omega) (k + 1) (by omega)]
  simp only [Option.bind_some, carouselref5_Alike.j0]
  by_cases c1 : d = e
  · rw [if_pos (by simp [c1])]
    by_cases c2 : v.length = u.length
    · rw [if_neg (by simp [c2])]
      have := rAlike_l0 d e v u hv c2 v.length 0 k (by omega) (by omega)
      rw [show ((0 : Nat) : Int) = 0 from rfl] at this
      rw [this]; simp [c1]
    · rw [if_pos (by simp; omega)]
      have : v ≠ u := fun h => c2 (by rw [h])
      simp [this]
  · rw [if_neg (by simp [c1])]
    simp [c1]
theorem good_len {d : List Int} (h : Shp.good d = true) : d.length ≤ 4 := (Shp.good_iff.mp h).1
theorem bmul_f (a b : Int) (a0 : 0 ≤ a) (a1 : a ≤ 18446744073709551615) (b0 : 0 ≤ b) (b1 : b ≤ 18446744073709551615) : bits_Mul.f a b = some (a * b / 18446744073709551616, a * b % 18446744073709551616) := by
  unfold bits_Mul.f
  rw [Mul64_f a b a0 a1 b0 b1]
  rfl
theorem tRepeat_f (v n : Int) (h1 : 1 ≤ n) (h2 : n ≤ 4096) : slices_Repeat_Fix.f [v] n = some (List.replicate n.toNat v) := by
  unfold slices_Repeat_Fix.f
  rw [bmul_f 1 n (by omega) (by omega) (by omega) (by omega)]
  simp only [Option.bind_some]
  rw [if_pos ⟨rfl, h1, h2, by omega, by omega⟩]
  rfl
def tnew (d : List Int) (v : Int) : List Int × List Int × Int := if Shp.good d = true then (d, List.replicate (Shp.siz d).toNat v, 0) else ([], [], 1)
theorem siz_one {d : List Int} (h : Shp.good d = true) : 1 ≤ Shp.siz d := by
  rw [Shp.siz_good h]; exact Shp.pl_pos (Shp.good_iff.mp h).2.1
theorem tNew_f (d : List Int) (v : Int) (k : Nat) (hk : 10 ≤ k) : tens_New.f k d v = some (tnew d v) := by
  unfold tens_New.f tnew
  rw [Good_f d k hk]
  simp only [Option.bind_some]
  cases h : Shp.good d
  · simp
  · have := siz_one h
    have := Shp.siz_le d
    have hl := good_len h
    rw [if_pos rfl, if_pos rfl]
    unfold slices_Clone_int_int.f
    rw [if_pos (by omega), Size_f d k hk]
    simp only [Option.bind_some]
    rw [tRepeat_f v _ (by omega) (by omega)]
    rfl
theorem idxA {c rows long m : Nat} (hc : c < rows) (h : m < long) : c * long + m < rows * long := by
  have := Nat.mul_le_mul_right long (show c + 1 ≤ rows by omega)
  rw [Nat.add_mul] at this
  omega
theorem wA (a b c d w : Nat) (h : a * b + c * d + w ≤ 100000) : wrap64 (wrap64 (wrap64 ((a : Int) * (b : Int)) + wrap64 ((c : Int) * (d : Int))) + (w : Int)) = ((a * b + c * d + w : Nat) : Int) := by
  rw [show (a : Int) * (b : Int) = ((a * b : Nat) : Int) by simp, show (c : Int) * (d : Int) = ((c * d : Nat) : Int) by simp]
  generalize a * b = p at *
  generalize c * d = q at *
  rw [w64 (x := (p : Int)) (by omega) (by omega), w64 (x := (q : Int)) (by omega) (by omega), w64 (x := (p : Int) + (q : Int)) (by omega) (by omega), w64 (x := (p : Int) + (q : Int) + (w : Int)) (by omega) (by omega)]
  omega
theorem wI (a b c : Nat) (h : a * b + c ≤ 100000) : wrap64 (wrap64 ((a : Int) * (b : Int)) + (c : Int)) = ((a * b + c : Nat) : Int) := by
  rw [show (a : Int) * (b : Int) = ((a * b : Nat) : Int) by simp]
  generalize a * b = p at *
  rw [w64 (x := (p : Int)) (by omega) (by omega), w64 (x := (p : Int) + (c : Int)) (by omega) (by omega)]
  omega
abbrev gt (d v : List Int) : Bool := Shp.good d && decide ((v.length : Int) = Shp.siz d)
theorem gt_parts {d v : List Int} (h : gt d v = true) : Shp.good d = true ∧ (v.length : Int) = Shp.siz d := by
  unfold gt at h
  simpa only [Bool.and_eq_true, decide_eq_true_eq] using h
theorem two_of' {d : List Int} (h : d.length = 2) : d = [rd d 0, rd d 1] := by
  match d, h with
  | [a, b], _ => rfl
theorem good2 {x y : Int} (h : Shp.good [x, y] = true) : 1 ≤ x ∧ 1 ≤ y ∧ x * y ≤ 4096 ∧ Shp.siz [x, y] = x * y := by
  have g := Shp.good_iff.mp h
  have sg := Shp.siz_good h
  simp only [Shp.pl, Int.mul_one] at g sg
  exact ⟨g.2.1 x (by simp), g.2.1 y (by simp), g.2.2, sg⟩
theorem le_mul_l {x y B : Int} (hx : 1 ≤ x) (hy : 1 ≤ y) (h : x * y ≤ B) : x ≤ B ∧ y ≤ B := by
  have := Shp.mul_le1 hx hy
  omega
/-- where the greatest stands, of some behind a place -/
def bst (v : List Int) (b : Nat) : Nat → Nat
  | 0 => b
  | y + 1 => if rd v ((b + y + 1 : Nat) : Int) > rd v ((bst v b y : Nat) : Int) then b + y + 1 else bst v b y
theorem bst_bd (v : List Int) (b : Nat) : ∀ y, b ≤ bst v b y ∧ bst v b y ≤ b + y := by
  intro y
  induction y with
  | zero => simp [bst]
  | succ y ih => simp only [bst]; split <;> omega
structure PoolS (av : List Int) (c l w n : Nat) : Prop where
  la : av.length = c * l
  r4 : c * l ≤ 4096
  p1 : 1 ≤ c
  p2 : 1 ≤ w
  p3 : 1 ≤ n
  nw : n * w ≤ l
  l4 : l ≤ 4096
theorem PoolS.base {av : List Int} {c l w n : Nat} (S : PoolS av c l w n) {x j : Nat} (hx : x < c) (hj : j < n) : x * l + j * w + w ≤ av.length ∧ c * n ≤ 4096 ∧ w ≤ 4096 ∧ n ≤ 4096 := by
  have h1 := Nat.mul_le_mul_right w (show j + 1 ≤ n by omega)
  rw [Nat.add_mul, Nat.one_mul] at h1
  have h2 := S.nw
  have h3 := Nat.mul_le_mul_right l (show x + 1 ≤ c by omega)
  rw [Nat.add_mul, Nat.one_mul] at h3
  have h4 := Nat.mul_le_mul_left n S.p2
  have h5 := Nat.mul_le_mul_left c (show n ≤ l by omega)
  have h6 := Nat.mul_le_mul_right w S.p3
  have := S.la
  have := S.r4
  have := S.l4
  omega
def pbase (l w n p : Nat) : Nat := p / n * l + p % n * w
def ppos (av : List Int) (l w n p : Nat) : Int := (bst av (pbase l w n p) (w - 1) : Nat)
def pval (av : List Int) (l w n p : Nat) : Int := rd av (ppos av l w n p)
theorem wB (i n l w : Nat) (h : i / n * l + i % n * w ≤ 100000) (hi : i ≤ 100000) : wrap64 (wrap64 (wrap64 (Int.tdiv (i : Int) (n : Int)) * (l : Int)) + wrap64 (Int.tmod (i : Int) (n : Int) * (w : Int))) = ((i / n * l + i % n * w : Nat) : Int) := by
  rw [Int.tdiv_eq_ediv_of_nonneg (Int.natCast_nonneg i), Int.tmod_eq_emod_of_nonneg (Int.natCast_nonneg i), ← Int.natCast_ediv, ← Int.natCast_emod]
  have hq := Nat.div_le_self i n
  rw [w64 (x := ((i / n : Nat) : Int)) (by generalize i / n = q at *; omega) (by generalize i / n = q at *; omega), show ((i / n : Nat) : Int) * (l : Int) = ((i / n * l : Nat) : Int) by simp, show ((i % n : Nat) : Int) * (w : Int) = ((i % n * w : Nat) : Int) by simp]
  generalize i / n * l = p at *
  generalize i % n * w = q at *
  rw [w64 (x := (p : Int)) (by omega) (by omega), w64 (x := (q : Int)) (by omega) (by omega), w64 (x := (p : Int) + (q : Int)) (by omega) (by omega)]
  omega
theorem Pool_l1 {av : List Int} {c l w n : Nat} (S : PoolS av c l w n) (i : Nat) (hx : i / n < c) (hj : i % n < n) (P : List Int) (N : Int) (ad td tv : List Int) (hi : i < tv.length) (hi4 : i ≤ 5000) (hP : P.length ≤ 5000) :
    ∀ (d y k : Nat), y + d + 1 = w → d + 2 ≤ k →
    conv_Pool.l1 k w l n P i ((bst av (pbase l w n i) y : Nat) : Int) ((pbase l w n i + y + 1 : Nat) : Int) N i ad av td tv = conv_Pool.l0 (k - d - 1) w l n (P ++ [ppos av l w n i]) N ((i : Int) + 1) ad av td (tv.set i (pval av l w n i)) := by
  have hb := S.base hx hj
  have p3 := S.p3
  have la := S.la
  have r4 := S.r4
  intro d
  induction d with
  | zero =>
    intro y k hy hk
    obtain ⟨k, rfl⟩ : ∃ m, k = m + 1 := ⟨k - 1, by omega⟩
    have bb := bst_bd av (pbase l w n i) y
    simp only [conv_Pool.l1]
    rw [if_neg (by omega), wB i n l w (by omega) (by omega)]
    unfold pbase at bb ⊢
    rw [w64 (x := ((i / n * l + i % n * w : Nat) : Int) + (w : Int)) (by omega) (by omega), if_neg (by omega), if_pos (Int.natCast_nonneg _), if_pos (by omega), if_pos (Int.natCast_nonneg i), if_pos (by omega), if_pos (by omega), w64 (x := (i : Int) + 1) (by omega) (by omega), Int.toNat_natCast]
    unfold pval ppos pbase
    rw [show w - 1 = y by omega]
    rfl
  | succ d ih =>
    intro y k hy hk
    obtain ⟨k, rfl⟩ : ∃ m, k = m + 1 := ⟨k - 1, by omega⟩
    have bb := bst_bd av (pbase l w n i) y
    have := ih (y + 1) k (by omega) (by omega)
    have hpb : pbase l w n i + w ≤ av.length := hb.1
    simp only [conv_Pool.l1]
    rw [if_neg (by omega), wB i n l w (by omega) (by omega)]
    have e2 : wrap64 (((pbase l w n i + y + 1 : Nat) : Int) + 1) = ((pbase l w n i + (y + 1) + 1 : Nat) : Int) := by
      rw [w64 (by omega) (by omega)]; omega
    rw [e2]
    clear e2
    unfold pbase at bb this ⊢
    rw [w64 (x := ((i / n * l + i % n * w : Nat) : Int) + (w : Int)) (by omega) (by omega), if_pos (by omega), if_pos (Int.natCast_nonneg _), if_pos (by omega), if_pos (Int.natCast_nonneg _), if_pos (by omega)]
    rw [show k + 1 - (d + 1) - 1 = k - d - 1 by omega, ← this]
    simp only [bst]
    split
    · rfl
    · rfl
theorem Pool_l0 {av : List Int} {c l w n : Nat} (S : PoolS av c l w n) (ad td : List Int) :
    ∀ (d i k : Nat) (P tv : List Int), i + d = c * n → tv.length = c * n → tv.take i = tab i (pval av l w n) → P = tab i (ppos av l w n) → d * (w + 3) + 5 ≤ k →
    conv_Pool.l0 k w l n P ((c * n : Nat) : Int) i ad av td tv = some (td, tab (c * n) (pval av l w n), tab (c * n) (ppos av l w n), 0) := by
  have p3 := S.p3
  have p1 := S.p1
  have h0 := S.base (x := 0) (j := 0) p1 p3
  intro d
  induction d with
  | zero =>
    intro i k P tv hi hl ht hP hk
    obtain ⟨k, rfl⟩ : ∃ m, k = m + 1 := ⟨k - 1, by omega⟩
    have : i = c * n := by omega
    subst this
    simp only [conv_Pool.l0]
    rw [if_neg (by omega), ← ht, List.take_of_length_le (by omega), hP]
  | succ d ih =>
    intro i k P tv hi hl ht hP hk
    obtain ⟨k, rfl⟩ : ∃ m, k = m + 1 := ⟨k - 1, by omega⟩
    have hk2 : d * (w + 3) + (w + 3) + 5 ≤ k + 1 := by rw [Nat.add_mul, Nat.one_mul] at hk; omega
    have hj : i % n < n := Nat.mod_lt _ p3
    have hx : i / n < c := (Nat.div_lt_iff_lt_mul p3).mpr (by omega)
    have hb := S.base hx hj
    have r4 := S.r4
    have la := S.la
    have hPl : P.length = i := by rw [hP, tab_length]
    have e := Pool_l1 S i hx hj P ((c * n : Nat) : Int) ad td tv (by omega) (by omega) (by omega) (w - 1) 0 k (by have := S.p2; omega) (by omega)
    have e3 : wrap64 (((pbase l w n i : Nat) : Int) + 1) = ((pbase l w n i + 0 + 1 : Nat) : Int) := by
      unfold pbase
      rw [w64 (by omega) (by omega)]; omega
    have e2 := wB i n l w (by omega) (by omega)
    rw [show (i / n * l + i % n * w) = pbase l w n i from rfl] at e2
    simp only [conv_Pool.l0]
    rw [if_pos (by clear e2 e3; omega), if_neg (by clear e2 e3; omega), e2, e3]
    clear e2 e3
    rw [show ((bst av (pbase l w n i) 0 : Nat) : Int) = ((pbase l w n i : Nat) : Int) from rfl] at e
    rw [e]
    have := ih (i + 1) (k - (w - 1) - 1) (P ++ [ppos av l w n i]) (tv.set i (pval av l w n i)) (by omega) (by simpa using hl) (by rw [set_take' tv i _ (by omega), ht, tab_succ]) (by rw [tab_succ, hP]) (by omega)
    rw [Int.natCast_add] at this
    exact this
/-- the document's -/
theorem rPool_l2 {av : List Int} {c l w n : Nat} (S : PoolS av c l w n) (x j : Nat) (hx : x < c) (hj : j < n) (P : List Int) (ad td tv : List Int) (hi : x * n + j < tv.length) (hi4 : tv.length ≤ 5000) (hP : P.length ≤ 5000) :
    ∀ (d y k : Nat), y + d + 1 = w → d + 2 ≤ k →
    carouselref5_Pool.l2 k w c l n P x j ((bst av (x * l + j * w) y : Nat) : Int) ((y : Int) + 1) ad av td tv = carouselref5_Pool.l1 (k - d - 1) w c l n (P ++ [((bst av (x * l + j * w) (w - 1) : Nat) : Int)]) x ((j : Int) + 1) ad av td (tv.set (x * n + j) (rd av ((bst av (x * l + j * w) (w - 1) : Nat) : Int))) := by
  have hb := S.base hx hj
  have la := S.la
  have r4 := S.r4
  intro d
  induction d with
  | zero =>
    intro y k hy hk
    obtain ⟨k, rfl⟩ : ∃ m, k = m + 1 := ⟨k - 1, by omega⟩
    have bb := bst_bd av (x * l + j * w) y
    simp only [carouselref5_Pool.l2]
    rw [if_neg (by omega), if_pos (Int.natCast_nonneg _), if_pos (by omega), wI x n j (by omega), if_pos (Int.natCast_nonneg (x * n + j)), if_pos (by omega), if_pos (by omega), w64 (x := (j : Int) + 1) (by omega) (by omega), Int.toNat_natCast, show w - 1 = y by omega]
    rfl
  | succ d ih =>
    intro y k hy hk
    obtain ⟨k, rfl⟩ : ∃ m, k = m + 1 := ⟨k - 1, by omega⟩
    have bb := bst_bd av (x * l + j * w) y
    have := ih (y + 1) k (by omega) (by omega)
    have ew := wA x l j w (y + 1) (by omega)
    rw [Int.natCast_add y 1] at ew
    have ew' : wrap64 (wrap64 (wrap64 ((x : Int) * (l : Int)) + wrap64 ((j : Int) * (w : Int))) + ((y : Int) + 1)) = ((x * l + j * w + y + 1 : Nat) : Int) := ew
    clear ew
    simp only [carouselref5_Pool.l2]
    rw [if_pos (by clear ew'; omega), ew']
    clear ew'
    rw [if_pos (Int.natCast_nonneg _), if_pos (by omega), if_pos (Int.natCast_nonneg _), if_pos (by omega), w64 (x := (y : Int) + 1 + 1) (by omega) (by omega)]
    rw [show k + 1 - (d + 1) - 1 = k - d - 1 by omega, ← this, Int.natCast_add y 1]
    simp only [bst]
    split
    · rfl
    · rfl
theorem rPool_l1 {av : List Int} {c l w n : Nat} (S : PoolS av c l w n) (x : Nat) (hx : x < c) (ad td : List Int) :
    ∀ (d j k : Nat) (P tv : List Int), j + d = n → tv.length = c * n → tv.take (x * n + j) = tab (x * n + j) (pval av l w n) → P = tab (x * n + j) (ppos av l w n) → d * (w + 3) + 5 ≤ k →
    ∃ P' tv' k', k' = k - d * (w + 1) - 1 ∧ tv'.length = c * n ∧ tv'.take ((x + 1) * n) = tab ((x + 1) * n) (pval av l w n) ∧ P' = tab ((x + 1) * n) (ppos av l w n) ∧
      carouselref5_Pool.l1 k w c l n P x j ad av td tv = carouselref5_Pool.l0 k' w c l n P' ((x : Int) + 1) ad av td tv' := by
  have p2 := S.p2
  have p3 := S.p3
  have h0 := S.base hx p3
  have xb : x ≤ 4096 := by
    have := Nat.mul_le_mul_left c p3
    omega
  intro d
  induction d with
  | zero =>
    intro j k P tv hj hl ht hP hk
    obtain ⟨k, rfl⟩ : ∃ m, k = m + 1 := ⟨k - 1, by omega⟩
    have ej : j = n := by omega
    subst ej
    refine ⟨P, tv, k, by omega, hl, ?_, ?_, ?_⟩
    · rw [Nat.add_mul, Nat.one_mul]; exact ht
    · rw [Nat.add_mul, Nat.one_mul]; exact hP
    · simp only [carouselref5_Pool.l1]
      rw [if_neg (by omega), w64 (x := (x : Int) + 1) (by omega) (by omega)]
  | succ d ih =>
    intro j k P tv hj hl ht hP hk
    obtain ⟨k, rfl⟩ : ∃ m, k = m + 1 := ⟨k - 1, by omega⟩
    have hk2 : d * (w + 3) + (w + 3) + 5 ≤ k + 1 := by rw [Nat.add_mul, Nat.one_mul] at hk; omega
    have hk3 : d * (w + 1) ≤ d * (w + 3) := Nat.mul_le_mul_left _ (by omega)
    have hb := S.base hx (show j < n by omega)
    have hxx := idxA hx (show j < n by omega)
    have r4 := S.r4
    have la := S.la
    have hPl : P.length = x * n + j := by rw [hP, tab_length]
    have e := rPool_l2 S x j hx (by omega) P ad td tv (by omega) (by omega) (by omega) (w - 1) 0 k (by have := S.p2; omega) (by omega)
    have eb : pbase l w n (x * n + j) = x * l + j * w := by
      unfold pbase
      rw [Nat.add_comm (x * n), Nat.add_mul_div_right _ _ (by omega), Nat.div_eq_of_lt (by omega), Nat.zero_add, Nat.add_mul_mod_self_right, Nat.mod_eq_of_lt (by omega)]
    have e1 : ((bst av (x * l + j * w) (w - 1) : Nat) : Int) = ppos av l w n (x * n + j) := by unfold ppos; rw [eb]
    rw [e1, show rd av (ppos av l w n (x * n + j)) = pval av l w n (x * n + j) from rfl] at e
    obtain ⟨P', tv', k', hk', hl', ht', hP', e'⟩ := ih (j + 1) (k - (w - 1) - 1) (P ++ [ppos av l w n (x * n + j)]) (tv.set (x * n + j) (pval av l w n (x * n + j))) (by omega) (by simpa using hl) (by rw [show x * n + (j + 1) = x * n + j + 1 by omega, set_take' tv _ _ (by omega), ht, tab_succ]) (by rw [show x * n + (j + 1) = x * n + j + 1 by omega, tab_succ, hP]) (by omega)
    refine ⟨P', tv', k', by rw [hk', Nat.add_mul, Nat.one_mul]; omega, hl', ht', hP', ?_⟩
    have e2 := wA x l j w 0 (by omega)
    have e3 : wrap64 (wrap64 ((x : Int) * (l : Int)) + wrap64 ((j : Int) * (w : Int))) = ((x * l + j * w : Nat) : Int) := by
      rw [show (x : Int) * (l : Int) = ((x * l : Nat) : Int) by simp, show (j : Int) * (w : Int) = ((j * w : Nat) : Int) by simp]
      clear e2 e e'
      generalize x * l = p at *
      generalize j * w = q at *
      rw [w64 (x := (p : Int)) (by omega) (by omega), w64 (x := (q : Int)) (by omega) (by omega), w64 (x := (p : Int) + (q : Int)) (by omega) (by omega)]
      omega
    clear e2
    simp only [carouselref5_Pool.l1]
    rw [if_pos (by clear e3; omega), e3]
    clear e3
    rw [show ((bst av (x * l + j * w) 0 : Nat) : Int) = ((x * l + j * w : Nat) : Int) from rfl, show ((0 : Nat) : Int) + 1 = 1 from rfl] at e
    rw [e]
    rw [Int.natCast_add] at e'
    exact e'
theorem rPool_l0 {av : List Int} {c l w n : Nat} (S : PoolS av c l w n) (ad td : List Int) :
    ∀ (d x k : Nat) (P tv : List Int), x + d = c → tv.length = c * n → tv.take (x * n) = tab (x * n) (pval av l w n) → P = tab (x * n) (ppos av l w n) → d * (n * (w + 3) + 10) + 10 ≤ k →
    carouselref5_Pool.l0 k w c l n P x ad av td tv = some (td, tab (c * n) (pval av l w n), tab (c * n) (ppos av l w n), 0) := by
  intro d
  induction d with
  | zero =>
    intro x k P tv hx hl ht hP hk
    obtain ⟨k, rfl⟩ : ∃ m, k = m + 1 := ⟨k - 1, by omega⟩
    have : x = c := by omega
    subst this
    simp only [carouselref5_Pool.l0]
    rw [if_neg (by omega), ← ht, List.take_of_length_le (by omega), hP]
  | succ d ih =>
    intro x k P tv hx hl ht hP hk
    obtain ⟨k, rfl⟩ : ∃ m, k = m + 1 := ⟨k - 1, by omega⟩
    have hk2 : d * (n * (w + 3) + 10) + (n * (w + 3) + 10) + 10 ≤ k + 1 := by rw [Nat.add_mul, Nat.one_mul] at hk; omega
    have hk3 : n * (w + 1) ≤ n * (w + 3) := Nat.mul_le_mul_left _ (by omega)
    obtain ⟨P', tv', k', hk', hl', ht', hP', e⟩ := rPool_l1 S x (by omega) ad td n 0 k P tv (by omega) hl ht hP (by omega)
    simp only [carouselref5_Pool.l0]
    rw [if_pos (by omega)]
    rw [show ((0 : Nat) : Int) = 0 from rfl] at e
    rw [e]
    have := ih (x + 1) k' P' tv' (by omega) hl' ht' hP' (by omega)
    rw [Int.natCast_add] at this
    exact this
def tpool (ad av : List Int) (w : Int) : List Int × List Int × List Int × Int :=
  if gt ad av = true then
    (if ad.length = 2 then
      (if 1 ≤ w ∧ w ≤ rd ad 1 then
        ([rd ad 0, rd ad 1 / w], tab (rd ad 0 * (rd ad 1 / w)).toNat (pval av (rd ad 1).toNat w.toNat (rd ad 1 / w).toNat), tab (rd ad 0 * (rd ad 1 / w)).toNat (ppos av (rd ad 1).toNat w.toNat (rd ad 1 / w).toNat), 0)
       else ([], [], [], 1))
     else ([], [], [], 4))
  else ([], [], [], 1)
theorem pool_sides {ad av : List Int} {w : Int} (h1 : gt ad av = true) (l1 : ad.length = 2) (w1 : 1 ≤ w) (w2 : w ≤ rd ad 1) :
    ∃ c l w' n : Nat, rd ad 0 = c ∧ rd ad 1 = l ∧ w = w' ∧ rd ad 1 / w = n ∧ PoolS av c l w' n ∧ Shp.good [rd ad 0, rd ad 1 / w] = true ∧ Shp.siz [rd ad 0, rd ad 1 / w] = rd ad 0 * (rd ad 1 / w) ∧ l ≤ 4096 ∧ w' ≤ l ∧ n ≤ 4096 ∧ 1 ≤ w' := by
  obtain ⟨g1, v1⟩ := gt_parts h1
  rw [two_of' l1] at g1 v1
  obtain ⟨a1, a2, a3, a4⟩ := good2 g1
  obtain ⟨c1, c2⟩ := le_mul_l a1 a2 a3
  generalize rd ad 0 = r at *
  generalize rd ad 1 = l at *
  obtain ⟨c, rfl⟩ := Int.eq_ofNat_of_zero_le (show 0 ≤ r by omega)
  obtain ⟨l, rfl⟩ := Int.eq_ofNat_of_zero_le (show 0 ≤ l by omega)
  obtain ⟨w, rfl⟩ := Int.eq_ofNat_of_zero_le (show 0 ≤ w by omega)
  have q0 := Nat.div_le_self l w
  have q1 : 1 ≤ l / w := (Nat.le_div_iff_mul_le (by omega)).mpr (by omega)
  have q2 := Nat.div_mul_le_self l w
  have e : (l : Int) / (w : Int) = ((l / w : Nat) : Int) := (Int.natCast_ediv l w).symm
  have k1 : ((c * l : Nat) : Int) = (c : Int) * (l : Int) := by simp
  have k2 : c * (l / w) ≤ c * l := Nat.mul_le_mul_left c q0
  have k3 : ((c * (l / w) : Nat) : Int) = (c : Int) * ((l / w : Nat) : Int) := by simp
  have hg : Shp.good [(c : Int), ((l / w : Nat) : Int)] = true := by
    refine Shp.good_iff.mpr ⟨by simp, ?_, ?_⟩
    · intro x hx
      simp only [List.mem_cons, List.not_mem_nil, or_false] at hx
      rcases hx with rfl | rfl <;> omega
    · simp only [Shp.pl, Int.mul_one]; omega
  rw [e]
  refine ⟨c, l, w, l / w, rfl, rfl, rfl, rfl, ⟨by omega, by omega, by omega, by omega, q1, q2, by omega⟩, hg, ?_, by omega, by omega, by omega, by omega⟩
  have := Shp.siz_good hg
  simp only [Shp.pl, Int.mul_one] at this
  exact this
theorem cPool_f (ad av : List Int) (w : Int) (k : Nat) (hK : 30000000 ≤ k) : conv_Pool.f k ad av w = some (tpool ad av w) := by
  unfold conv_Pool.f tpool
  rw [tGood_f ad av _ (by omega), Option.bind_some]
  by_cases h1 : gt ad av = true
  rotate_left
  · rw [if_neg h1, if_neg h1]
  rw [if_pos h1, if_pos h1]
  by_cases l1 : ad.length = 2
  rotate_left
  · rw [if_neg (by omega), if_neg l1]
  rw [if_pos (by omega), if_pos l1]
  by_cases w1 : w < 1
  · rw [if_pos w1, if_neg (by omega)]
  rw [if_neg w1, if_pos (by omega)]
  by_cases w2 : w > rd ad 1
  · rw [if_pos w2, if_neg (by omega)]
  rw [if_neg w2, if_neg (by omega), if_pos (by omega), if_pos (c := _ ∧ _) ⟨by omega, by omega⟩]
  obtain ⟨c, l, w', n, e1, e2, e3, e4, S, hg, hs, z1, z2, z3, z4⟩ := pool_sides h1 l1 (show 1 ≤ w by omega) (by omega)
  have hdn : (rd ad 1).tdiv w = rd ad 1 / w := Int.tdiv_eq_ediv_of_nonneg (by omega)
  rw [hdn, w64 (x := rd ad 1 / w) (by omega) (by omega)]
  unfold conv_of.f
  rw [tNew_f _ _ _ (by omega), Option.bind_some]
  unfold tnew
  rw [if_pos hg]
  simp only [if_true, Option.bind_some]
  rw [hs, e4, e1, e2, e3]
  simp only [Int.toNat_natCast]
  rw [show ((c : Int) * (n : Int)).toNat = c * n by rw [show (c : Int) * (n : Int) = ((c * n : Nat) : Int) by simp]; rfl, List.length_replicate]
  have h0 := S.base (x := 0) (j := 0) S.p1 S.p3
  have kb : c * n * (w' + 3) ≤ 4096 * (4096 + 3) := Nat.mul_le_mul h0.2.1 (by omega)
  have := Pool_l0 S ad [(c : Int), (n : Int)] (c * n) 0 k [] (List.replicate (c * n) 0) (by omega) (by simp) (by simp [tab]) (by simp [tab]) (by omega)
  rw [show ((0 : Nat) : Int) = 0 from rfl] at this
  exact this
theorem rPool_f (ad av : List Int) (w : Int) (k : Nat) (hK : 30000000 ≤ k) : carouselref5_Pool.f k ad av w = some (tpool ad av w) := by
  have oth : ∀ k, carouselref5_Pool.j0 (k + 1) w true ad av = some ([], [], [], 1) := fun k => by simp only [carouselref5_Pool.j0]; rw [if_pos trivial]
  obtain ⟨k, rfl⟩ : ∃ m, k = m + 1 := ⟨k - 1, by omega⟩
  unfold carouselref5_Pool.f tpool
  rw [rIs_f ad av _ (by omega), Option.bind_some]
  by_cases h1 : gt ad av = true
  rotate_left
  · rw [if_neg h1, if_neg h1]
  rw [if_pos h1, if_pos h1]
  by_cases l1 : ad.length = 2
  rotate_left
  · rw [if_neg (by omega), if_neg l1]
  rw [if_pos (by omega), if_pos l1]
  by_cases w1 : w < 1
  · rw [if_pos w1, if_neg (by omega)]; exact oth k
  rw [if_neg w1, if_pos (by omega)]
  by_cases w2 : w > rd ad 1
  · rw [decide_eq_true w2, if_neg (by omega)]; exact oth k
  rw [decide_eq_false w2, if_pos (c := _ ∧ _) ⟨by omega, by omega⟩]
  obtain ⟨c, l, w', n, e1, e2, e3, e4, S, hg, hs, z1, z2, z3, z4⟩ := pool_sides h1 l1 (show 1 ≤ w by omega) (by omega)
  have hdn : (rd ad 1).tdiv w = rd ad 1 / w := Int.tdiv_eq_ediv_of_nonneg (by omega)
  simp only [carouselref5_Pool.j0]
  rw [if_neg (by simp), if_pos (by omega), if_pos (by omega), if_neg (by omega), hdn, w64 (x := rd ad 1 / w) (by omega) (by omega), rNew_f _ _ (by simp) _ (by omega), Option.bind_some]
  simp only []
  rw [hs, e4, e1, e2, e3]
  simp only [Int.toNat_natCast]
  rw [show ((c : Int) * (n : Int)).toNat = c * n by rw [show (c : Int) * (n : Int) = ((c * n : Nat) : Int) by simp]; rfl]
  have h0 := S.base (x := 0) (j := 0) S.p1 S.p3
  have kb : c * (n * (w' + 3) + 10) ≤ 4096 * (4096 + 3) + 4096 * 10 := by
    rw [Nat.mul_add, ← Nat.mul_assoc]
    have a : c * n * (w' + 3) ≤ 4096 * (4096 + 3) := Nat.mul_le_mul h0.2.1 (by omega)
    have b := Nat.mul_le_mul_left c S.p3
    omega
  have := rPool_l0 S ad [(c : Int), (n : Int)] c 0 k [] (List.replicate (c * n) 0) (by omega) (by simp) (by simp [tab]) (by simp [tab]) (by omega)
  rw [show ((0 : Nat) : Int) = 0 from rfl] at this
  exact this
theorem great8_f (d v : List Int) (n : Int) : carousellaw8_great.f d v n = some (decide ((d.length : Int) > 10) || decide ((v.length : Int) > n)) := by
  unfold carousellaw8_great.f
  by_cases c : (d.length : Int) > 10
  · rw [if_pos c, decide_eq_true c]; rfl
  · rw [if_neg c, decide_eq_false c]; rfl
theorem awake8 : carousellaw8_awake.f 60000010 = some true := by decide +kernel
theorem tpool_len (ad av : List Int) (w : Int) : (tpool ad av w).1.length ≤ 4 ∧ (tpool ad av w).2.1.length ≤ 4096 ∧ (tpool ad av w).2.2.1.length ≤ 4096 := by
  unfold tpool
  split
  · rename_i h1
    split
    · rename_i l1
      split
      · rename_i hw
        obtain ⟨c, l, w', n, e1, e2, e3, e4, S, hg, hs, z1, z2, z3, z4⟩ := pool_sides h1 l1 hw.1 hw.2
        have := Shp.siz_le [rd ad 0, rd ad 1 / w]
        rw [hs] at this
        simp only [tab_length]
        refine ⟨by simp, by omega, by omega⟩
      · simp
    · simp
  · simp
theorem CPools_all (ad av : List Int) (w : Int) : ∃ k, carousellaw8_ConvPools.f k ad av w = some true := by
  refine ⟨60000010, ?_⟩
  unfold carousellaw8_ConvPools.f
  rw [awake8, Option.bind_some, if_pos rfl, great8_f, Option.bind_some]
  by_cases c1 : (decide ((ad.length : Int) > 10) || decide ((av.length : Int) > 300)) = true
  · rw [if_pos c1]
  have l1 := tpool_len ad av w
  rw [if_neg c1, cPool_f _ _ _ _ (by omega), Option.bind_some, rPool_f _ _ _ _ (by omega), Option.bind_some, if_pos rfl, rAlike_f _ _ _ _ (by omega) (by omega) _ (by omega) (by omega), Option.bind_some, if_pos (by simp), rSame_f _ _ (by omega) _ (by omega), Option.bind_some]
  simp
theorem ConvPools : carousellaw8_ConvPools.Pure := by
  intro ad av w _ _ _ _ _
  exact CPools_all ad av w
end Go.Proofs.Ytcipfhlcgnomaaa.Pure
