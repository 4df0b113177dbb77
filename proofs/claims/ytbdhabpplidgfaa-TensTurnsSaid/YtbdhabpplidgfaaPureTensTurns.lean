/- The plain law behind TensTurns: what the functions compute answers as the statement says, for every input. No condition. -/
import Derived.Test.YtbdhabpplidgfaaPTensTurnsx21
import Derived.Laws.BitsAllLaws
import Derived.Test.YtbdhabpplidgfaaFixMath
import Derived.Test.YtbdhabpplidgfaaShapeMath
import Derived.Test.YtbdhabpplidgfaaBigMath
import Derived.Test.YtbdhabpplidgfaaWideMath
namespace Go.Proofs.Ytbdhabpplidgfaa.Pure
open Go.RowKit Go.Proofs.Ytbdhabpplidgfaa.PTensTurns Go.Proofs.YtbdhabpplidgfaaW.PrintWords Go.Proofs.YtbdhabpplidgfaaW.PrintLast Go.Proofs.YtbdhabpplidgfaaW.PrintMore
set_option linter.unusedVariables false
set_option linter.unusedSimpArgs false
theorem w64 {x : Int} (h1 : -9223372036854775808 ≤ x) (h2 : x ≤ 9223372036854775807) : wrap64 x = x := by unfold wrap64; omega
theorem drop_rd (l : List Int) (i : Nat) (h : i < l.length) : l.drop i = rd l i :: l.drop (i + 1) := by
  rw [List.drop_eq_getElem_cons h]
  congr 1
  unfold rd
  rw [show (i : Int).toNat = i from rfl, List.getD_eq_getElem?_getD, List.getElem?_eq_getElem h]; rfl
theorem rd_mem (l : List Int) (i : Nat) (h : i < l.length) : rd l i ∈ l := by
  have := drop_rd l i h
  exact List.mem_of_mem_drop (i := i) (by rw [this]; exact List.mem_cons_self ..)
theorem mul_bd {a b A B : Int} (h0 : 0 ≤ a) (h1 : a ≤ A) (h2 : 0 ≤ b) (h3 : b ≤ B) : 0 ≤ a * b ∧ a * b ≤ A * B :=
  ⟨Int.mul_nonneg h0 h2, Int.mul_le_mul h1 h3 h2 (by omega)⟩
theorem k_succ {k n : Nat} (h : n < k) : ∃ m, k = m + 1 ∧ n ≤ m := ⟨k - 1, by omega, by omega⟩
theorem product_l0 (l : List Int) (hl : l.length ≤ 4) : ∀ (d i : Nat) (n : Int) (k : Nat), i + d = l.length → 1 ≤ n → n ≤ 4096 → 2 * d < k →
    shape_product.l0 k n l l.length i = some (Shp.gp n (l.drop i)) := by
  intro d
  induction d with
  | zero =>
    intro i n k hi h1 h2 hk
    obtain ⟨k, rfl, -⟩ := k_succ hk
    simp only [shape_product.l0]
    rw [if_neg (by omega), List.drop_of_length_le (by omega)]; rfl
  | succ d ih =>
    intro i n k hi h1 h2 hk
    obtain ⟨k, rfl, hk⟩ := k_succ hk
    obtain ⟨k, rfl, hk⟩ := k_succ (n := 2 * d + 1) (k := k) (by omega)
    have e := drop_rd l i (by omega)
    simp only [shape_product.l0, shape_product.j1]
    rw [if_pos (by omega), if_pos (by omega), if_pos (by omega), e]
    generalize rd l i = x at *
    simp only [Shp.gp]
    by_cases c1 : x < 1
    · simp [c1]
    by_cases c2 : 4096 < x
    · simp [c1, c2]
    have hb := mul_bd (a := n) (b := x) (by omega) h2 (by omega) (show x ≤ 4096 by omega)
    have hb1 := Shp.mul_le1 h1 (show 1 ≤ x by omega)
    rw [w64 (x := n * x) (by omega) (by omega), w64 (x := (i : Int) + 1) (by omega) (by omega)]
    simp only [if_neg c1, if_neg c2, show ¬ (x > 4096) from c2, decide_false]
    by_cases c3 : 4096 < n * x
    · simp [c3]
    · simp only [if_neg c3, show ¬ (n * x > 4096) from c3, if_false]
      have := ih (i + 1) (n * x) k (by omega) (by omega) (by omega) (by omega)
      rw [Int.natCast_add] at this
      simpa using this
theorem product_f (l : List Int) (k : Nat) (hk : 10 ≤ k) : shape_product.f k l = some (Shp.siz l) := by
  unfold shape_product.f
  by_cases h : l.length ≤ 4
  · rw [if_neg (by omega), ← Shp.gp_siz l h]
    have := product_l0 l h l.length 0 1 k (by omega) (by omega) (by omega) (by omega)
    simpa using this
  · rw [if_pos (by omega), Shp.siz_long l h]
theorem Good_f (l : List Int) (k : Nat) (hk : 10 ≤ k) : shape_Good.f k l = some (Shp.good l) := by
  unfold shape_Good.f; rw [product_f l k hk, ← Shp.siz_pos]; rfl
theorem Size_f (l : List Int) (k : Nat) (hk : 10 ≤ k) : shape_Size.f k l = some (Shp.siz l) := by
  unfold shape_Size.f; rw [product_f l k hk]; rfl
theorem rGood_l0 (l : List Int) (hl : l.length ≤ 4) : ∀ (d i : Nat) (n : Int) (k : Nat), i + d = l.length → 1 ≤ n → n ≤ 4096 → 2 * d < k →
    carouselref5_Good.l0 k l n i = some (decide (Shp.gp n (l.drop i) > 0)) := by
  intro d
  induction d with
  | zero =>
    intro i n k hi h1 h2 hk
    obtain ⟨k, rfl, -⟩ := k_succ hk
    simp only [carouselref5_Good.l0]
    rw [if_neg (by omega), List.drop_of_length_le (by omega)]
    simp [Shp.gp]; omega
  | succ d ih =>
    intro i n k hi h1 h2 hk
    obtain ⟨k, rfl, hk⟩ := k_succ hk
    obtain ⟨k, rfl, hk⟩ := k_succ (n := 2 * d + 1) (k := k) (by omega)
    have e := drop_rd l i (by omega)
    simp only [carouselref5_Good.l0, carouselref5_Good.j1]
    rw [if_pos (by omega), if_pos (by omega), e]
    have hi0 : 0 ≤ (i : Int) := by omega
    have hi1 : (i : Int) < l.length := by omega
    generalize rd l i = x at *
    simp only [Shp.gp]
    by_cases c1 : x < 1
    · simp [c1]
    by_cases c2 : 4096 < x
    · simp [c1, c2]
    have hb := mul_bd (a := n) (b := x) (by omega) h2 (by omega) (show x ≤ 4096 by omega)
    have hb1 := Shp.mul_le1 h1 (show 1 ≤ x by omega)
    rw [w64 (x := n * x) (by omega) (by omega), w64 (x := (i : Int) + 1) (by omega) (by omega)]
    simp only [if_neg c1, if_neg c2, show ¬ (x > 4096) from c2, decide_false]
    by_cases c3 : 4096 < n * x
    · simp [c3, hi1]
    · simp only [if_neg c3, show ¬ (n * x > 4096) from c3, if_false]
      have := ih (i + 1) (n * x) k (by omega) (by omega) (by omega) (by omega)
      rw [Int.natCast_add] at this
      simpa [hi0, hi1] using this
theorem rGood_f (l : List Int) (k : Nat) (hk : 10 ≤ k) : carouselref5_Good.f k l = some (Shp.good l) := by
  unfold carouselref5_Good.f
  by_cases h : l.length ≤ 4
  · rw [if_neg (by omega), ← Shp.siz_pos, ← Shp.gp_siz l h]
    have := rGood_l0 l h l.length 0 1 k (by omega) (by omega) (by omega) (by omega)
    simpa using this
  · rw [if_pos (by omega)]
    congr 1
    cases hg : Shp.good l
    · rfl
    · exact absurd (Shp.good_iff.mp hg).1 h
theorem rSize_l0 (l : List Int) (hp : ∀ x ∈ l, 1 ≤ x) : ∀ (d i : Nat) (n : Int) (k : Nat), i + d = l.length → 1 ≤ n → n * Shp.pl (l.drop i) ≤ 4096 → l.length ≤ 4 → d < k →
    carouselref5_Size.l0 k l n i = some (n * Shp.pl (l.drop i)) := by
  intro d
  induction d with
  | zero =>
    intro i n k hi h1 h2 hl hk
    obtain ⟨k, rfl, -⟩ := k_succ hk
    simp only [carouselref5_Size.l0]
    rw [if_neg (by omega), List.drop_of_length_le (by omega)]; simp [Shp.pl]
  | succ d ih =>
    intro i n k hi h1 h2 hl hk
    obtain ⟨k, rfl, hk⟩ := k_succ hk
    have e := drop_rd l i (by omega)
    have hx := hp _ (rd_mem l i (by omega))
    have hr : ∀ y ∈ l.drop (i + 1), 1 ≤ y := fun y hy => hp y (List.mem_of_mem_drop hy)
    have hpr := Shp.pl_pos hr
    simp only [carouselref5_Size.l0]
    rw [if_pos (by omega), if_pos (by omega)]
    rw [e] at h2 ⊢
    simp only [Shp.pl] at h2 ⊢
    rw [← Int.mul_assoc] at h2 ⊢
    generalize rd l i = x at *
    have a1 := Shp.mul_le1 h1 hx
    have a2 := Shp.mul_le1 (show 1 ≤ n * x by omega) hpr
    rw [w64 (x := n * x) (by omega) (by omega), w64 (x := (i : Int) + 1) (by omega) (by omega)]
    have := ih (i + 1) (n * x) k (by omega) (by omega) h2 hl (by omega)
    rw [Int.natCast_add] at this
    exact this
theorem rSize_f (l : List Int) (k : Nat) (hk : 10 ≤ k) : carouselref5_Size.f k l = some (Shp.siz l) := by
  unfold carouselref5_Size.f
  rw [rGood_f l k hk]
  cases hg : Shp.good l
  · simp [Shp.siz_bad hg]
  · have hi := Shp.good_iff.mp hg
    have := rSize_l0 l hi.2.1 l.length 0 1 k (by omega) (by omega) (by simpa using hi.2.2) hi.1 (by omega)
    simpa [Shp.siz_good hg] using this
theorem eq_drop {a b : List Int} {i : Nat} (ha : i < a.length) (hb : i < b.length) : decide (a.drop i = b.drop i) = (decide (rd a i = rd b i) && decide (a.drop (i + 1) = b.drop (i + 1))) := by
  rw [drop_rd a i ha, drop_rd b i hb]; simp
theorem Equal_l0 (a b : List Int) (h : a.length = b.length) (hm : a.length ≤ 9223372036854775000) : ∀ (d i k : Nat), i + d = a.length → d < k →
    slices_Equal_int_int.l0 k a b a.length i = some (decide (a.drop i = b.drop i)) := by
  intro d
  induction d with
  | zero =>
    intro i k hi hk
    obtain ⟨k, rfl, -⟩ := k_succ hk
    simp only [slices_Equal_int_int.l0]
    rw [if_neg (by omega), List.drop_of_length_le (by omega), List.drop_of_length_le (by omega)]; simp
  | succ d ih =>
    intro i k hi hk
    obtain ⟨k, rfl, hk⟩ := k_succ hk
    simp only [slices_Equal_int_int.l0]
    rw [if_pos (by omega), if_pos (by omega), if_pos (by omega), if_pos (by omega), eq_drop (by omega) (by omega), w64 (x := (i : Int) + 1) (by omega) (by omega)]
    have := ih (i + 1) k (by omega) (by omega)
    rw [Int.natCast_add] at this
    by_cases c : rd a i = rd b i
    · rw [if_pos c]; simpa [c] using this
    · rw [if_neg c]; simp [c]
theorem Same_f (a b : List Int) (hm : a.length ≤ 9223372036854775000) (k : Nat) (hk : a.length < k) : shape_Same.f k a b = some (decide (a = b)) := by
  unfold shape_Same.f slices_Equal_int_int.f
  by_cases h : a.length = b.length
  · rw [if_pos (by omega)]
    have := Equal_l0 a b h hm a.length 0 k (by omega) hk
    simp at this; simp [this]
  · rw [if_neg (by omega)]
    have : a ≠ b := fun e => h (by rw [e])
    simp [this]
theorem rSame_l0 (a b : List Int) (h : a.length = b.length) (hm : a.length ≤ 9223372036854775000) : ∀ (d i k : Nat), i + d = a.length → d < k →
    carouselref5_Same.l0 k a b i = some (decide (a.drop i = b.drop i)) := by
  intro d
  induction d with
  | zero =>
    intro i k hi hk
    obtain ⟨k, rfl, -⟩ := k_succ hk
    simp only [carouselref5_Same.l0]
    rw [if_neg (by omega), List.drop_of_length_le (by omega), List.drop_of_length_le (by omega)]; simp
  | succ d ih =>
    intro i k hi hk
    obtain ⟨k, rfl, hk⟩ := k_succ hk
    simp only [carouselref5_Same.l0]
    rw [if_pos (by omega), if_pos (by omega), if_pos (by omega), eq_drop (by omega) (by omega), w64 (x := (i : Int) + 1) (by omega) (by omega)]
    have := ih (i + 1) k (by omega) (by omega)
    rw [Int.natCast_add] at this
    by_cases c : rd a i = rd b i
    · rw [if_pos c]; simpa [c] using this
    · rw [if_neg c]; simp [c]
theorem rSame_f (a b : List Int) (hm : a.length ≤ 9223372036854775000) (k : Nat) (hk : a.length < k) : carouselref5_Same.f k a b = some (decide (a = b)) := by
  unfold carouselref5_Same.f
  by_cases h : a.length = b.length
  · rw [if_pos (by omega)]
    have := rSame_l0 a b h hm a.length 0 k (by omega) hk
    simpa using this
  · rw [if_neg (by omega)]
    have : a ≠ b := fun e => h (by rw [e])
    simp [this]
/-- a list that is filled from its end on -/
theorem set_fill (i : Nat) (r : List Int) (x : Int) : (List.replicate (i + 1) 0 ++ r).set ((i : Int)).toNat x = List.replicate i 0 ++ x :: r := by
  rw [show ((i : Int)).toNat = i from rfl, List.replicate_succ', List.append_assoc, List.set_append_right _ _ (by simp)]
  simp
theorem Strides_l0 (l : List Int) (hg : Shp.good l = true) : ∀ (i k : Nat), i ≤ l.length → i < k →
    shape_Strides.l0 k l (List.replicate i 0 ++ Shp.strs (l.drop i)) (Shp.pl (l.drop i)) ((i : Int) - 1) = some (Shp.strs l) := by
  have hi := Shp.good_iff.mp hg
  intro i
  induction i with
  | zero =>
    intro k _ hk
    obtain ⟨k, rfl, -⟩ := k_succ hk
    simp only [shape_Strides.l0]
    rw [if_neg (by omega)]; simp
  | succ i ih =>
    intro k hl hk
    obtain ⟨k, rfl, hk⟩ := k_succ hk
    have e := drop_rd l i (by omega)
    have hx := hi.2.1 _ (rd_mem l i (by omega))
    have hpd := Shp.pl_drop hi.2.1 i
    have hpl := Shp.pl_pos (l := l.drop (i + 1)) (fun y hy => hi.2.1 y (List.mem_of_mem_drop hy))
    simp only [shape_Strides.l0]
    have e1 : ((i + 1 : Nat) : Int) - 1 = (i : Int) := by omega
    rw [e1]
    have hlen : (List.replicate (i + 1) (0 : Int) ++ Shp.strs (l.drop (i + 1))).length = l.length := by
      simp [Shp.strs_length]; omega
    rw [if_pos (by omega), if_pos (by omega), if_pos (by omega), if_pos (by omega), set_fill]
    have := ih k (by omega) (by omega)
    rw [e] at this hpd
    simp only [Shp.strs, Shp.pl] at this hpd
    have hx2 := Shp.mul_le1 hx hpl
    rw [Int.mul_comm (Shp.pl (List.drop (i + 1) l)), w64 (x := rd l i * _) (by omega) (by omega), w64 (x := (i : Int) - 1) (by omega) (by omega)]
    exact this
theorem Strides_f (l : List Int) (k : Nat) (hk : 10 ≤ k) : shape_Strides.f k l = some (if Shp.good l = true then Shp.strs l else []) := by
  unfold shape_Strides.f
  rw [Good_f l k hk]
  cases hg : Shp.good l
  · rfl
  · have hi := Shp.good_iff.mp hg
    simp only [Option.bind_some, if_true]
    rw [if_pos (by omega), if_pos (by omega), w64 (by omega) (by omega)]
    have := Strides_l0 l hg l.length k (by omega) (by omega)
    simpa [Shp.strs, Shp.pl] using this
/-- a partial place: what At does from side i on -/
def atGo (acc : Int) : List Int → List Int → Int × Bool
  | x :: d, p :: ps => if p < 0 then (0, false) else if p ≥ x then (0, false) else atGo (acc * x + p) d ps
  | _, _ => (acc, true)
theorem atGo_eq (d : List Int) : ∀ p acc, p.length = d.length → atGo acc d p = if Shp.ins d p = true then (Shp.mr acc d p, true) else (0, false) := by
  induction d with
  | nil => intro p acc h; cases p <;> simp_all [atGo, Shp.ins, Shp.mr]
  | cons x d ih =>
    intro p acc h
    cases p with
    | nil => simp at h
    | cons q p =>
      have e : Shp.ins (x :: d) (q :: p) = (decide (0 ≤ q) && (decide (q < x) && Shp.ins d p)) := rfl
      simp only [atGo]
      by_cases c1 : q < 0
      · have : Shp.ins (x :: d) (q :: p) = false := by rw [e, decide_eq_false (by omega)]; rfl
        rw [if_pos c1, this]; rfl
      · rw [if_neg c1]
        by_cases c2 : q ≥ x
        · have : Shp.ins (x :: d) (q :: p) = false := by rw [e, decide_eq_false (p := q < x) (by omega)]; simp
          rw [if_pos c2, this]; rfl
        · rw [if_neg c2, ih p _ (by simpa using h)]
          have : Shp.ins (x :: d) (q :: p) = Shp.ins d p := by rw [e, decide_eq_true (by omega), decide_eq_true (by omega)]; simp
          rw [this]; rfl
theorem At_l0 (l p : List Int) (hg : Shp.good l = true) (hl : p.length = l.length) : ∀ (d i : Nat) (acc : Int) (k : Nat), i + d = l.length → 0 ≤ acc → (acc + 1) * Shp.pl (l.drop i) ≤ 4096 → d < k →
    shape_At.l0 k l acc p p.length i = some (atGo acc (l.drop i) (p.drop i)) := by
  have hi := Shp.good_iff.mp hg
  intro d
  induction d with
  | zero =>
    intro i acc k hd h0 h1 hk
    obtain ⟨k, rfl, -⟩ := k_succ hk
    simp only [shape_At.l0]
    rw [if_neg (by omega), List.drop_of_length_le (by omega)]; simp [atGo]
  | succ d ih =>
    intro i acc k hd h0 h1 hk
    obtain ⟨k, rfl, hk⟩ := k_succ hk
    have e1 := drop_rd l i (by omega)
    have e2 := drop_rd p i (by omega)
    have hx := hi.2.1 _ (rd_mem l i (by omega))
    have hpl := Shp.pl_pos (l := l.drop (i + 1)) (fun y hy => hi.2.1 y (List.mem_of_mem_drop hy))
    simp only [shape_At.l0]
    have i1 : (i : Int) < (l.length : Int) := by omega
    rw [if_pos (by omega), if_pos (by omega), if_pos (by omega), e1, e2]
    rw [e1] at h1
    simp only [atGo, Shp.pl] at h1 ⊢
    generalize rd l i = x at *
    generalize rd p i = q at *
    by_cases c1 : q < 0
    · rw [if_pos c1, if_pos c1]
    rw [if_neg c1, if_neg c1, if_pos i1]
    by_cases c2 : q ≥ x
    · rw [if_pos c2, if_pos c2]
    rw [if_neg c2, if_neg c2]
    have a1 : (acc + 1) * x ≤ 4096 ∧ 1 ≤ (acc + 1) * x := by
      have := Shp.mul_le1 (show 1 ≤ acc + 1 by omega) hx
      have := Shp.mul_le1 (show 1 ≤ (acc + 1) * x by omega) hpl
      rw [Int.mul_assoc] at this; omega
    have a2 : (acc + 1) * x = acc * x + x := by rw [Int.add_mul, Int.one_mul]
    have a0 : 0 ≤ acc * x := Int.mul_nonneg h0 (by omega)
    rw [w64 (x := acc * x) (by omega) (by omega), w64 (x := acc * x + q) (by omega) (by omega), w64 (x := (i : Int) + 1) (by omega) (by omega)]
    have a3 : (acc * x + q + 1) * Shp.pl (l.drop (i + 1)) ≤ ((acc + 1) * x) * Shp.pl (l.drop (i + 1)) := Int.mul_le_mul_of_nonneg_right (by omega) (by omega)
    rw [Int.mul_assoc (acc + 1)] at a3
    have := ih (i + 1) (acc * x + q) k (by omega) (by omega) (by omega) (by omega)
    rw [Int.natCast_add] at this
    exact this
theorem att_eq (l p : List Int) (hg : Shp.good l = true) (hl : p.length = l.length) : atGo 0 l p = Shp.att l p := by
  rw [atGo_eq l p 0 hl, Shp.att]; simp [hg]
theorem att_len (l p : List Int) (hl : p.length ≠ l.length) : Shp.att l p = (0, false) := by
  unfold Shp.att; rw [if_neg]
  intro h; exact hl (Shp.ins_length _ _ h.2)
theorem att_bad (l p : List Int) (hg : Shp.good l = false) : Shp.att l p = (0, false) := by
  unfold Shp.att; rw [if_neg]; simp [hg]
theorem At_f (l p : List Int) (k : Nat) (hk : 10 ≤ k) : shape_At.f k l p = some (Shp.att l p) := by
  obtain ⟨k', rfl, hk'⟩ := k_succ (n := 9) (k := k) (by omega)
  unfold shape_At.f
  rw [Good_f l _ hk]
  cases hg : Shp.good l
  · simp [shape_At.j0, att_bad l p hg]
  · simp only [Option.bind_some, if_true, shape_At.j0]
    have hi := Shp.good_iff.mp hg
    by_cases c : p.length = l.length
    · have : ((p.length : Int) != (l.length : Int)) = false := by simp [c]
      rw [this]
      simp only [Bool.false_eq_true, if_false]
      have := At_l0 l p hg c l.length 0 0 k' (by omega) (by omega) (by simpa using hi.2.2) (by omega)
      rw [← att_eq l p hg c]; simpa using this
    · have : ((p.length : Int) != (l.length : Int)) = true := by simp; omega
      rw [this, att_len l p c]; simp
theorem rAt_l0 (l p : List Int) (hg : Shp.good l = true) (hl : p.length = l.length) : ∀ (d i : Nat) (acc : Int) (k : Nat), i + d = l.length → 0 ≤ acc → (acc + 1) * Shp.pl (l.drop i) ≤ 4096 → d < k →
    carouselref5_At.l0 k l p acc i = some (atGo acc (l.drop i) (p.drop i)) := by
  have hi := Shp.good_iff.mp hg
  intro d
  induction d with
  | zero =>
    intro i acc k hd h0 h1 hk
    obtain ⟨k, rfl, -⟩ := k_succ hk
    simp only [carouselref5_At.l0]
    rw [if_neg (by omega), List.drop_of_length_le (by omega)]; simp [atGo]
  | succ d ih =>
    intro i acc k hd h0 h1 hk
    obtain ⟨k, rfl, hk⟩ := k_succ hk
    have e1 := drop_rd l i (by omega)
    have e2 := drop_rd p i (by omega)
    have hx := hi.2.1 _ (rd_mem l i (by omega))
    have hpl := Shp.pl_pos (l := l.drop (i + 1)) (fun y hy => hi.2.1 y (List.mem_of_mem_drop hy))
    simp only [carouselref5_At.l0]
    rw [if_pos (by omega), if_pos (by omega), if_pos (by omega), e1, e2]
    rw [e1] at h1
    simp only [atGo, Shp.pl] at h1 ⊢
    generalize rd l i = x at *
    generalize rd p i = q at *
    by_cases c1 : q < 0
    · rw [if_pos c1, if_pos c1]
    rw [if_neg c1, if_neg c1]
    by_cases c2 : q ≥ x
    · rw [if_pos c2, if_pos c2]
    rw [if_neg c2, if_neg c2]
    have a1 : (acc + 1) * x ≤ 4096 ∧ 1 ≤ (acc + 1) * x := by
      have := Shp.mul_le1 (show 1 ≤ acc + 1 by omega) hx
      have := Shp.mul_le1 (show 1 ≤ (acc + 1) * x by omega) hpl
      rw [Int.mul_assoc] at this; omega
    have a2 : (acc + 1) * x = acc * x + x := by rw [Int.add_mul, Int.one_mul]
    have a0 : 0 ≤ acc * x := Int.mul_nonneg h0 (by omega)
    rw [w64 (x := acc * x) (by omega) (by omega), w64 (x := acc * x + q) (by omega) (by omega), w64 (x := (i : Int) + 1) (by omega) (by omega)]
    have a3 : (acc * x + q + 1) * Shp.pl (l.drop (i + 1)) ≤ ((acc + 1) * x) * Shp.pl (l.drop (i + 1)) := Int.mul_le_mul_of_nonneg_right (by omega) (by omega)
    rw [Int.mul_assoc (acc + 1)] at a3
    have := ih (i + 1) (acc * x + q) k (by omega) (by omega) (by omega) (by omega)
    rw [Int.natCast_add] at this
    exact this
theorem rAt_f (l p : List Int) (k : Nat) (hk : 10 ≤ k) : carouselref5_At.f k l p = some (Shp.att l p) := by
  obtain ⟨k', rfl, hk'⟩ := k_succ (n := 9) (k := k) (by omega)
  unfold carouselref5_At.f
  rw [rGood_f l _ hk]
  cases hg : Shp.good l
  · simp [carouselref5_At.j0, att_bad l p hg]
  · simp only [Option.bind_some, if_true, carouselref5_At.j0]
    have hi := Shp.good_iff.mp hg
    by_cases c : p.length = l.length
    · have : ((p.length : Int) != (l.length : Int)) = false := by simp [c]
      rw [this]
      simp only [Bool.false_eq_true, if_false]
      have := rAt_l0 l p hg c l.length 0 0 k' (by omega) (by omega) (by simpa using hi.2.2) (by omega)
      rw [← att_eq l p hg c]; simpa using this
    · have : ((p.length : Int) != (l.length : Int)) = true := by simp; omega
      rw [this, att_len l p c]; simp
theorem Place_l0 (l : List Int) (hg : Shp.good l = true) (t : Int) (h0 : 0 ≤ t) (h1 : t < 4096) : ∀ (i k : Nat), i ≤ l.length → i < k →
    shape_Place.l0 k l (t / Shp.pl (l.drop i)) (List.replicate i 0 ++ Shp.pla t (l.drop i)) ((i : Int) - 1) = some (Shp.pla t l, true) := by
  have hi := Shp.good_iff.mp hg
  intro i
  induction i with
  | zero =>
    intro k _ hk
    obtain ⟨k, rfl, -⟩ := k_succ hk
    simp only [shape_Place.l0]
    rw [if_neg (by omega)]; simp
  | succ i ih =>
    intro k hl hk
    obtain ⟨k, rfl, hk⟩ := k_succ hk
    have e := drop_rd l i (by omega)
    have hx := hi.2.1 _ (rd_mem l i (by omega))
    have hpl := Shp.pl_pos (l := l.drop (i + 1)) (fun y hy => hi.2.1 y (List.mem_of_mem_drop hy))
    simp only [shape_Place.l0]
    have e1 : ((i + 1 : Nat) : Int) - 1 = (i : Int) := by omega
    rw [e1]
    have hlen : (List.replicate (i + 1) (0 : Int) ++ Shp.pla t (l.drop (i + 1))).length = l.length := by
      simp [Shp.pla_length]; omega
    rw [if_pos (by omega), if_pos (by omega), if_pos (by omega), if_neg (by omega), if_pos (by omega), set_fill]
    have := ih k (by omega) (by omega)
    rw [e] at this
    simp only [Shp.pla, Shp.pl] at this
    have q0 : 0 ≤ t / Shp.pl (l.drop (i + 1)) := Int.ediv_nonneg h0 (by omega)
    have q1 : t / Shp.pl (l.drop (i + 1)) ≤ t := Int.ediv_le_self _ h0
    have e2 : t / (rd l i * Shp.pl (l.drop (i + 1))) = t / Shp.pl (l.drop (i + 1)) / rd l i := by
      rw [Int.mul_comm, Int.ediv_ediv_of_nonneg (by omega)]
    rw [e2] at this
    have q2 : 0 ≤ t / Shp.pl (l.drop (i + 1)) / rd l i := Int.ediv_nonneg q0 (by omega)
    have q3 : t / Shp.pl (l.drop (i + 1)) / rd l i ≤ t / Shp.pl (l.drop (i + 1)) := Int.ediv_le_self _ q0
    rw [Int.tdiv_eq_ediv_of_nonneg q0, Int.tmod_eq_emod_of_nonneg q0, w64 (x := t / Shp.pl (l.drop (i + 1)) / rd l i) (by omega) (by omega), w64 (x := (i : Int) - 1) (by omega) (by omega)]
    exact this
theorem Place_f (l : List Int) (t : Int) (k : Nat) (hk : 11 ≤ k) : shape_Place.f k l t = some (Shp.plc l t) := by
  obtain ⟨k', rfl, hk'⟩ := k_succ (n := 10) (k := k) (by omega)
  unfold shape_Place.f Shp.plc
  by_cases c : t < 0
  · rw [if_pos c, if_neg (by omega)]; simp [shape_Place.j0]
  · rw [if_neg c, Size_f l _ (by omega)]
    simp only [Option.bind_some, shape_Place.j0]
    by_cases c2 : t < Shp.siz l
    · have : decide (t ≥ Shp.siz l) = false := by simp; omega
      rw [this, if_pos (c := 0 ≤ t ∧ t < Shp.siz l) ⟨by omega, c2⟩]
      have hg := Shp.plc_good ⟨by omega, c2⟩
      have hi := Shp.good_iff.mp hg
      have hs := Shp.siz_le l
      simp only [Bool.false_eq_true, if_false]
      rw [if_pos (by omega), if_pos (by omega), w64 (by omega) (by omega)]
      have := Place_l0 l hg t (by omega) (by omega) l.length k' (by omega) (by omega)
      simpa [Shp.pla, Shp.pl] using this
    · have : decide (t ≥ Shp.siz l) = true := by simp; omega
      rw [this, if_neg (c := 0 ≤ t ∧ t < Shp.siz l) (by omega)]; simp
theorem rPlace_l0 (l : List Int) (hg : Shp.good l = true) (t : Int) (h0 : 0 ≤ t) (h1 : t < 4096) : ∀ (i k : Nat), i ≤ l.length → i < k →
    carouselref5_Place.l0 k l (t / Shp.pl (l.drop i)) (List.replicate i 0 ++ Shp.pla t (l.drop i)) ((i : Int) - 1) = some (Shp.pla t l, true) := by
  have hi := Shp.good_iff.mp hg
  intro i
  induction i with
  | zero =>
    intro k _ hk
    obtain ⟨k, rfl, -⟩ := k_succ hk
    simp only [carouselref5_Place.l0]
    rw [if_neg (by omega)]; simp
  | succ i ih =>
    intro k hl hk
    obtain ⟨k, rfl, hk⟩ := k_succ hk
    have e := drop_rd l i (by omega)
    have hx := hi.2.1 _ (rd_mem l i (by omega))
    have hpl := Shp.pl_pos (l := l.drop (i + 1)) (fun y hy => hi.2.1 y (List.mem_of_mem_drop hy))
    simp only [carouselref5_Place.l0]
    have e1 : ((i + 1 : Nat) : Int) - 1 = (i : Int) := by omega
    rw [e1]
    have hlen : (List.replicate (i + 1) (0 : Int) ++ Shp.pla t (l.drop (i + 1))).length = l.length := by
      simp [Shp.pla_length]; omega
    rw [if_pos (by omega), if_pos (by omega), if_pos (by omega), if_neg (by omega), if_pos (by omega), set_fill]
    have := ih k (by omega) (by omega)
    rw [e] at this
    simp only [Shp.pla, Shp.pl] at this
    have q0 : 0 ≤ t / Shp.pl (l.drop (i + 1)) := Int.ediv_nonneg h0 (by omega)
    have q1 : t / Shp.pl (l.drop (i + 1)) ≤ t := Int.ediv_le_self _ h0
    have e2 : t / (rd l i * Shp.pl (l.drop (i + 1))) = t / Shp.pl (l.drop (i + 1)) / rd l i := by
      rw [Int.mul_comm, Int.ediv_ediv_of_nonneg (by omega)]
    rw [e2] at this
    have q2 : 0 ≤ t / Shp.pl (l.drop (i + 1)) / rd l i := Int.ediv_nonneg q0 (by omega)
    have q3 : t / Shp.pl (l.drop (i + 1)) / rd l i ≤ t / Shp.pl (l.drop (i + 1)) := Int.ediv_le_self _ q0
    rw [Int.tdiv_eq_ediv_of_nonneg q0, Int.tmod_eq_emod_of_nonneg q0, w64 (x := t / Shp.pl (l.drop (i + 1)) / rd l i) (by omega) (by omega), w64 (x := (i : Int) - 1) (by omega) (by omega)]
    exact this
theorem rPlace_f (l : List Int) (t : Int) (k : Nat) (hk : 11 ≤ k) : carouselref5_Place.f k l t = some (Shp.plc l t) := by
  obtain ⟨k', rfl, hk'⟩ := k_succ (n := 10) (k := k) (by omega)
  unfold carouselref5_Place.f Shp.plc
  rw [rGood_f l _ (by omega), rSize_f l _ (by omega)]
  simp only [Option.bind_some, carouselref5_Place.j0]
  cases hg : Shp.good l
  · have := Shp.siz_bad hg
    rw [if_neg (c := 0 ≤ t ∧ t < Shp.siz l) (by omega)]
    simp
  · by_cases c : t < 0
    · rw [if_neg (c := 0 ≤ t ∧ t < Shp.siz l) (by omega)]
      simp [c]
    · by_cases c2 : t < Shp.siz l
      · have h2 : decide (t ≥ Shp.siz l) = false := by simp; omega
        rw [if_pos (c := 0 ≤ t ∧ t < Shp.siz l) ⟨by omega, c2⟩]
        have hi := Shp.good_iff.mp hg
        have hs := Shp.siz_le l
        simp only [h2, if_neg c, Bool.false_eq_true, if_false, if_true]
        rw [if_pos (by omega), if_pos (by omega), w64 (by omega) (by omega)]
        have := rPlace_l0 l hg t (by omega) (by omega) l.length k' (by omega) (by omega)
        simpa [Shp.pla, Shp.pl] using this
      · have h2 : decide (t ≥ Shp.siz l) = true := by simp; omega
        rw [if_neg (c := 0 ≤ t ∧ t < Shp.siz l) (by omega)]
        simp [h2, if_neg c]
theorem rd_rev (l : List Int) (i : Nat) (h : i < l.length) : rd l ((l.length : Int) - 1 - i) = rd l.reverse i := by
  unfold rd
  have e : ((l.length : Int) - 1 - i).toNat = l.length - 1 - i := by omega
  rw [e, show ((i : Int)).toNat = i from rfl, List.getD_eq_getElem?_getD, List.getD_eq_getElem?_getD, List.getElem?_reverse h]
def sd (l : List Int) (i : Nat) : Int := if i < l.length then rd l.reverse i else 1
theorem side_f (l : List Int) (i : Nat) (h : l.length ≤ 4) (hi : i ≤ 10) : shape_side.f l i = some (sd l i) := by
  unfold shape_side.f sd
  by_cases c : i < l.length
  · rw [if_neg (by omega), if_pos c, w64 (x := (l.length : Int) - 1) (by omega) (by omega), w64 (x := (l.length : Int) - 1 - i) (by omega) (by omega), if_pos (by omega), if_pos (by omega), rd_rev l i c]
  · rw [if_pos (by omega), if_neg c]
def fin' (z : List Int) : List Int × Int := if Shp.good z = true then (z, 0) else ([], 2)
def ends (T : List Int) : Option (List Int) → List Int × Int
  | none => ([], 4)
  | some l => fin' (l.reverse ++ T)
theorem ends_map (T : List Int) (v : Int) (o : Option (List Int)) : ends T (o.map (v :: ·)) = ends (v :: T) o := by
  cases o <;> simp [ends]
theorem mx_mxx (x y : Int) : mx x y = Shp.mxx x y := rfl
/-- one step, whichever sides are there -/
theorem jn_step (a b : List Int) (ha : ∀ x ∈ a, 1 ≤ x) (hb : ∀ x ∈ b, 1 ≤ x) (i : Nat) (hi : i < max a.length b.length) (T : List Int) :
    ends T (Shp.jn (a.reverse.drop i) (b.reverse.drop i)) =
      if sd a i = sd b i ∨ sd a i = 1 ∨ sd b i = 1 then ends (Shp.mxx (sd a i) (sd b i) :: T) (Shp.jn (a.reverse.drop (i + 1)) (b.reverse.drop (i + 1))) else ([], 4) := by
  unfold sd
  by_cases ca : i < a.length
  · have ea := drop_rd a.reverse i (by simpa using ca)
    have hxa := ha (rd a.reverse i) (by simpa using rd_mem a.reverse i (by simpa using ca))
    by_cases cb : i < b.length
    · have eb := drop_rd b.reverse i (by simpa using cb)
      rw [ea, eb, if_pos ca, if_pos cb]
      simp only [Shp.jn]
      split
      · rw [ends_map]
      · rfl
    · have eb : b.reverse.drop i = [] := List.drop_of_length_le (by simp; omega)
      have eb' : b.reverse.drop (i + 1) = [] := List.drop_of_length_le (by simp; omega)
      rw [ea, eb, eb', if_pos ca, if_neg cb, Shp.jn_nil, Shp.jn_nil, if_pos (by omega)]
      have : Shp.mxx (rd a.reverse i) 1 = rd a.reverse i := by unfold Shp.mxx; split <;> omega
      rw [this]; simp [ends]
  · have cb : i < b.length := by omega
    have eb := drop_rd b.reverse i (by simpa using cb)
    have hxb := hb (rd b.reverse i) (by simpa using rd_mem b.reverse i (by simpa using cb))
    have ea : a.reverse.drop i = [] := List.drop_of_length_le (by simp; omega)
    have ea' : a.reverse.drop (i + 1) = [] := List.drop_of_length_le (by simp; omega)
    rw [ea, eb, ea', if_neg ca, if_pos cb, if_pos (by omega)]
    have : Shp.mxx 1 (rd b.reverse i) = rd b.reverse i := by unfold Shp.mxx; split <;> omega
    rw [this]; simp [ends, Shp.jn]
theorem Join_l0 (a b : List Int) (hga : Shp.good a = true) (hgb : Shp.good b = true) : ∀ (d i : Nat) (T : List Int) (k : Nat), i + d = max a.length b.length → T.length = i → 2 * d + 11 < k →
    shape_Join.l0 k a b (List.replicate d 0 ++ T) ((max a.length b.length : Nat) : Int) i = some (ends T (Shp.jn (a.reverse.drop i) (b.reverse.drop i))) := by
  have ia := Shp.good_iff.mp hga
  have ib := Shp.good_iff.mp hgb
  intro d
  induction d with
  | zero =>
    intro i T k hd hT hk
    obtain ⟨k, rfl, -⟩ := k_succ hk
    simp only [shape_Join.l0]
    rw [if_neg (by omega), List.drop_of_length_le (by simp; omega), List.drop_of_length_le (by simp; omega), Good_f _ _ (by omega)]
    simp only [Shp.jn, ends, fin', List.replicate, List.nil_append, List.reverse_nil, Option.bind_some]
    split <;> rename_i h <;> simp [h]
  | succ d ih =>
    intro i T k hd hT hk
    obtain ⟨k, rfl, hk⟩ := k_succ hk
    have hs := jn_step a b ia.2.1 ib.2.1 i (by omega) T
    rw [hs]
    simp only [shape_Join.l0]
    have hlen : (List.replicate (d + 1) (0 : Int) ++ T).length = max a.length b.length := by simp; omega
    rw [if_pos (by omega), side_f a i ia.1 (by omega), side_f b i ib.1 (by omega)]
    simp only [Option.bind_some, hlen]
    have d0 : (0 : Int) ≤ (d : Int) := by omega
    have d1 : (d : Int) < ((max a.length b.length : Nat) : Int) := by omega
    have ew : wrap64 (wrap64 (((max a.length b.length : Nat) : Int) - 1) - i) = (d : Int) := by
      rw [w64 (x := _ - 1) (by omega) (by omega), w64 (by omega) (by omega)]; omega
    have ei : wrap64 ((i : Int) + 1) = ((i + 1 : Nat) : Int) := by rw [w64 (by omega) (by omega)]; omega
    rw [ew, ei, set_fill, mx_mxx]
    clear ew ei
    have := ih (i + 1) (Shp.mxx (sd a i) (sd b i) :: T) k (by omega) (by simp; omega) (by omega)
    by_cases c1 : sd a i = sd b i
    · rw [if_pos c1, if_pos d0, if_pos d1, this, if_pos (.inl c1)]
    · by_cases c2 : sd a i = 1
      · rw [if_neg c1, if_pos c2, if_pos d0, if_pos d1, this, if_pos (.inr (.inl c2))]
      · by_cases c3 : sd b i = 1
        · rw [if_neg c1, if_neg c2, if_pos c3, if_pos d0, if_pos d1, this, if_pos (.inr (.inr c3))]
        · rw [if_neg c1, if_neg c2, if_neg c3, if_neg (by omega)]
theorem Join_f (a b : List Int) (k : Nat) (hk : 24 ≤ k) : shape_Join.f k a b = some (Shp.join a b) := by
  obtain ⟨k', rfl, hk'⟩ := k_succ (n := 23) (k := k) (by omega)
  unfold shape_Join.f
  rw [Good_f a _ (by omega), Good_f b _ (by omega)]
  cases hga : Shp.good a
  · simp [shape_Join.j0, Shp.join_bad (.inl hga)]
  cases hgb : Shp.good b
  · simp [shape_Join.j0, Shp.join_bad (.inr hgb)]
  have ia := Shp.good_iff.mp hga
  have ib := Shp.good_iff.mp hgb
  have em : mx (a.length : Int) (b.length : Int) = ((max a.length b.length : Nat) : Int) := by unfold mx; split <;> omega
  simp only [Option.bind_some, if_true, shape_Join.j0, em, Bool.not_true, Bool.false_eq_true, if_false]
  rw [if_pos (by omega), if_pos (by omega)]
  have := Join_l0 a b hga hgb (max a.length b.length) 0 [] k' (by omega) rfl (by omega)
  simp only [List.append_nil, List.drop_zero] at this
  rw [show (((max a.length b.length : Nat) : Int)).toNat = max a.length b.length from rfl, List.length_replicate]
  rw [show ((0 : Nat) : Int) = 0 from rfl] at this
  rw [this, Shp.join, if_pos ⟨hga, hgb⟩]
  congr 1
  cases Shp.jn a.reverse b.reverse <;> simp [ends, fin']
theorem rJoin_l0 (a b : List Int) (hga : Shp.good a = true) (hgb : Shp.good b = true) : ∀ (d i : Nat) (T : List Int) (k : Nat), i + d = max a.length b.length → T.length = i → 4 * d + 11 < k →
    carouselref5_Join.l0 k a b ((max a.length b.length : Nat) : Int) (List.replicate d 0 ++ T) ((i + 1 : Nat) : Int) = some (ends T (Shp.jn (a.reverse.drop i) (b.reverse.drop i))) := by
  have ia := Shp.good_iff.mp hga
  have ib := Shp.good_iff.mp hgb
  intro d
  induction d with
  | zero =>
    intro i T k hd hT hk
    obtain ⟨k, rfl, -⟩ := k_succ hk
    simp only [carouselref5_Join.l0]
    rw [if_neg (by omega), List.drop_of_length_le (by simp; omega), List.drop_of_length_le (by simp; omega), rGood_f _ _ (by omega)]
    simp only [Shp.jn, ends, fin', List.replicate, List.nil_append, List.reverse_nil, Option.bind_some]
    split <;> rename_i h <;> simp [h]
  | succ d ih =>
    intro i T k hd hT hk
    obtain ⟨k, rfl, hk⟩ := k_succ hk
    obtain ⟨k, rfl, hk⟩ := k_succ (n := 4 * d + 14) (k := k) (by omega)
    obtain ⟨k, rfl, hk⟩ := k_succ (n := 4 * d + 13) (k := k) (by omega)
    obtain ⟨k, rfl, hk⟩ := k_succ (n := 4 * d + 12) (k := k) (by omega)
    have hs := jn_step a b ia.2.1 ib.2.1 i (by omega) T
    rw [hs]
    have hlen : (List.replicate (d + 1) (0 : Int) ++ T).length = max a.length b.length := by simp; omega
    have d0 : (0 : Int) ≤ (d : Int) := by omega
    have d1 : (d : Int) < ((max a.length b.length : Nat) : Int) := by omega
    have ea : (if ((i + 1 : Nat) : Int) ≤ (a.length : Int) then (if 0 ≤ (wrap64 ((a.length : Int) - ((i + 1 : Nat) : Int))) then (if (wrap64 ((a.length : Int) - ((i + 1 : Nat) : Int))) < (a.length : Int) then (carouselref5_Join.j3 (k + 1 + 1 + 1) a b ((max a.length b.length : Nat) : Int) (List.replicate (d + 1) 0 ++ T) ((i + 1 : Nat) : Int) (rd a (wrap64 ((a.length : Int) - ((i + 1 : Nat) : Int)))) 1) else (none)) else (none)) else (carouselref5_Join.j3 (k + 1 + 1 + 1) a b ((max a.length b.length : Nat) : Int) (List.replicate (d + 1) 0 ++ T) ((i + 1 : Nat) : Int) 1 1))
        = carouselref5_Join.j3 (k + 1 + 1 + 1) a b ((max a.length b.length : Nat) : Int) (List.replicate (d + 1) 0 ++ T) ((i + 1 : Nat) : Int) (sd a i) 1 := by
      unfold sd
      by_cases c : i < a.length
      · have ew : wrap64 ((a.length : Int) - ((i + 1 : Nat) : Int)) = (a.length : Int) - 1 - i := by rw [w64 (by omega) (by omega)]; omega
        rw [if_pos c, ew]; clear ew; rw [if_pos (by omega), if_pos (by omega), if_pos (by omega), rd_rev a i c]
      · rw [if_neg c, if_neg (by omega)]
    have eb : (if ((i + 1 : Nat) : Int) ≤ (b.length : Int) then (if 0 ≤ (wrap64 ((b.length : Int) - ((i + 1 : Nat) : Int))) then (if (wrap64 ((b.length : Int) - ((i + 1 : Nat) : Int))) < (b.length : Int) then (carouselref5_Join.j4 (k + 1 + 1) a b ((max a.length b.length : Nat) : Int) (List.replicate (d + 1) 0 ++ T) ((i + 1 : Nat) : Int) (sd a i) (rd b (wrap64 ((b.length : Int) - ((i + 1 : Nat) : Int))))) else (none)) else (none)) else (carouselref5_Join.j4 (k + 1 + 1) a b ((max a.length b.length : Nat) : Int) (List.replicate (d + 1) 0 ++ T) ((i + 1 : Nat) : Int) (sd a i) 1))
        = carouselref5_Join.j4 (k + 1 + 1) a b ((max a.length b.length : Nat) : Int) (List.replicate (d + 1) 0 ++ T) ((i + 1 : Nat) : Int) (sd a i) (sd b i) := by
      conv => rhs; unfold sd
      by_cases c : i < b.length
      · have ew : wrap64 ((b.length : Int) - ((i + 1 : Nat) : Int)) = (b.length : Int) - 1 - i := by rw [w64 (by omega) (by omega)]; omega
        rw [if_pos c, ew]; clear ew; rw [if_pos (by omega), if_pos (by omega), if_pos (by omega), rd_rev b i c]; rfl
      · rw [if_neg c, if_neg (by omega)]; rfl
    have c0 : ((i + 1 : Nat) : Int) ≤ ((max a.length b.length : Nat) : Int) := by omega
    rw [carouselref5_Join.l0, if_pos c0, ea, carouselref5_Join.j3, eb]
    clear ea eb
    generalize sd a i = x at *
    generalize sd b i = y at *
    have h1 := ih (i + 1) (Shp.mxx x y :: T) k (by omega) (by simp; omega) (by omega)
    have ew : wrap64 (((max a.length b.length : Nat) : Int) - ((i + 1 : Nat) : Int)) = (d : Int) := by
      rw [w64 (by omega) (by omega)]; omega
    have ei : wrap64 (((i + 1 : Nat) : Int) + 1) = ((i + 1 + 1 : Nat) : Int) := by rw [w64 (by omega) (by omega)]; omega
    have last : ∀ (x66 : Bool), x66 = decide (¬ (x = y ∨ x = 1 ∨ y = 1)) → carouselref5_Join.j5 (k + 1) a b ((max a.length b.length : Nat) : Int) (List.replicate (d + 1) 0 ++ T) ((i + 1 : Nat) : Int) x y x66 = some (if x = y ∨ x = 1 ∨ y = 1 then ends (Shp.mxx x y :: T) (Shp.jn (a.reverse.drop (i + 1)) (b.reverse.drop (i + 1))) else ([], 4)) := by
      intro x66 hx
      simp only [carouselref5_Join.j5, ew, ei, hlen, set_fill, if_pos d0, if_pos d1]
      by_cases c : x = y ∨ x = 1 ∨ y = 1
      · have : x66 = false := by rw [hx]; exact decide_eq_false (fun h => h c)
        rw [this, if_pos c]
        rw [← h1]
        unfold Shp.mxx
        by_cases c2 : x < y
        · simp [c2]
        · simp [c2]
      · have : x66 = true := by rw [hx]; exact decide_eq_true c
        rw [this, if_neg c]; simp
    simp only [carouselref5_Join.j4]
    by_cases c1 : x = y
    · rw [if_pos c1]; exact last false (by simp [c1])
    · rw [if_neg c1]
      by_cases c2 : x = 1
      · rw [if_pos c2]; exact last false (by simp [c2])
      · rw [if_neg c2]; refine last _ ?_
        rw [Bool.eq_iff_iff]; simp [c1, c2]
theorem rJoin_f (a b : List Int) (k : Nat) (hk : 40 ≤ k) : carouselref5_Join.f k a b = some (Shp.join a b) := by
  obtain ⟨k', rfl, hk'⟩ := k_succ (n := 39) (k := k) (by omega)
  obtain ⟨k'', rfl, hk''⟩ := k_succ (n := 38) (k := k') (by omega)
  unfold carouselref5_Join.f
  rw [rGood_f a _ (by omega), rGood_f b _ (by omega)]
  cases hga : Shp.good a
  · simp [carouselref5_Join.j0, Shp.join_bad (.inl hga)]
  cases hgb : Shp.good b
  · simp [carouselref5_Join.j0, Shp.join_bad (.inr hgb)]
  have ia := Shp.good_iff.mp hga
  have ib := Shp.good_iff.mp hgb
  have em : (if (b.length : Int) > (a.length : Int) then (carouselref5_Join.j1 (k'' + 1) a b (b.length : Int)) else (carouselref5_Join.j1 (k'' + 1) a b (a.length : Int))) = carouselref5_Join.j1 (k'' + 1) a b ((max a.length b.length : Nat) : Int) := by
    split
    · rw [show max a.length b.length = b.length by omega]
    · rw [show max a.length b.length = a.length by omega]
  simp only [Option.bind_some, if_true, carouselref5_Join.j0, Bool.not_true, Bool.false_eq_true, if_false]
  rw [em]
  simp only [carouselref5_Join.j1]
  have m0 : (0 : Int) ≤ ((max a.length b.length : Nat) : Int) := by omega
  have m1 : (((max a.length b.length : Nat) : Int)).toNat ≤ 35184372088832 := by omega
  rw [if_pos m0, if_pos m1]
  have := rJoin_l0 a b hga hgb (max a.length b.length) 0 [] k'' (by omega) rfl (by omega)
  simp only [List.append_nil, List.drop_zero] at this
  rw [show (((max a.length b.length : Nat) : Int)).toNat = max a.length b.length from rfl]
  rw [show ((0 + 1 : Nat) : Int) = 1 from rfl] at this
  rw [this, Shp.join, if_pos ⟨hga, hgb⟩]
  congr 1
  cases Shp.jn a.reverse b.reverse <;> simp [ends, fin']
theorem pla_drop (t : Int) (l : List Int) : ∀ n, (Shp.pla t l).drop n = Shp.pla t (l.drop n) := by
  induction l with
  | nil => intro n; simp [Shp.pla]
  | cons x l ih => intro n; cases n <;> simp [Shp.pla, ih]
theorem rFrom_l0 (d p : List Int) (h : p.length ≤ 4) (hl : d.length ≤ p.length) (hg : Shp.good d = true) (hin : Shp.ins d (Shp.own d (p.drop (p.length - d.length))) = true) : ∀ (c i : Nat) (n : Int) (k : Nat), i + c = d.length → 0 ≤ n → (n + 1) * Shp.pl (d.drop i) ≤ 4096 → Shp.ins (d.drop i) ((Shp.own d (p.drop (p.length - d.length))).drop i) = true → c < k →
    carouselref5_From.l0 k d p n i = some (Shp.mr n (d.drop i) ((Shp.own d (p.drop (p.length - d.length))).drop i), true) := by
  have ig := Shp.good_iff.mp hg
  have hol : (Shp.own d (p.drop (p.length - d.length))).length = d.length := Shp.own_length _ _ (by simp; omega)
  intro c
  induction c with
  | zero =>
    intro i n k hi h0 h1 _ hk
    obtain ⟨k, rfl, -⟩ := k_succ hk
    simp only [carouselref5_From.l0]
    rw [if_neg (by omega), List.drop_of_length_le (l := d) (by omega)]; simp [Shp.mr]
  | succ c ih =>
    intro i n k hi h0 h1 hins hk
    obtain ⟨k, rfl, hk⟩ := k_succ hk
    have e1 := drop_rd d i (by omega)
    have e2 := drop_rd (Shp.own d (p.drop (p.length - d.length))) i (by omega)
    have hx := ig.2.1 _ (rd_mem d i (by omega))
    have hpl := Shp.pl_pos (l := d.drop (i + 1)) (fun y hy => ig.2.1 y (List.mem_of_mem_drop hy))
    have eo : rd (Shp.own d (p.drop (p.length - d.length))) i = if rd d i = 1 then 0 else rd p (((p.length - d.length + i : Nat)) : Int) := by
      have : ∀ (d q : List Int) (i : Nat), i < d.length → q.length = d.length → rd (Shp.own d q) i = if rd d i = 1 then 0 else rd q i := by
        intro d
        induction d with
        | nil => intro q i h; simp at h
        | cons x d ih =>
          intro q i h hq
          cases q with
          | nil => simp at hq
          | cons y q =>
            cases i with
            | zero => simp [Shp.own, rd]
            | succ i =>
              have := ih q i (by simpa using h) (by simpa using hq)
              unfold rd at this ⊢
              simpa [Shp.own, show ((i + 1 : Nat) : Int).toNat = i + 1 from rfl, show ((i : Nat) : Int).toNat = i from rfl] using this
      rw [this d _ i (by omega) (by simp; omega)]
      have : rd (p.drop (p.length - d.length)) i = rd p (((p.length - d.length + i : Nat)) : Int) := by
        unfold rd
        rw [show ((i : Nat) : Int).toNat = i from rfl, show (((p.length - d.length + i : Nat)) : Int).toNat = p.length - d.length + i from rfl]
        simp [List.getD_eq_getElem?_getD, List.getElem?_drop]
      rw [this]
    simp only [carouselref5_From.l0]
    have ew : wrap64 (wrap64 ((p.length : Int) - (d.length : Int)) + i) = ((p.length - d.length + i : Nat) : Int) := by
      rw [w64 (x := (p.length : Int) - (d.length : Int)) (by omega) (by omega), w64 (by omega) (by omega)]; omega
    rw [ew]; clear ew
    rw [if_pos (by omega), if_pos (by omega), if_pos (by omega), if_pos (by omega)]
    rw [e1, e2] at hins
    rw [e1] at h1
    rw [e1, e2]
    simp only [Shp.ins, Shp.mr, Shp.pl, Bool.and_eq_true, decide_eq_true_eq] at hins h1 ⊢
    rw [eo] at hins ⊢
    have a1 : (n + 1) * rd d i ≤ 4096 ∧ 1 ≤ (n + 1) * rd d i := by
      have := Shp.mul_le1 (show 1 ≤ n + 1 by omega) hx
      have := Shp.mul_le1 (show 1 ≤ (n + 1) * rd d i by omega) hpl
      rw [Int.mul_assoc] at this; omega
    have a2 : (n + 1) * rd d i = n * rd d i + rd d i := by rw [Int.add_mul, Int.one_mul]
    have a0 : 0 ≤ n * rd d i := Int.mul_nonneg h0 (by omega)
    have step : ∀ q : Int, 0 ≤ q → q < rd d i → Shp.ins (d.drop (i + 1)) ((Shp.own d (p.drop (p.length - d.length))).drop (i + 1)) = true →
        carouselref5_From.l0 k d p (n * rd d i + q) ((i : Int) + 1) = some (Shp.mr (n * rd d i + q) (d.drop (i + 1)) ((Shp.own d (p.drop (p.length - d.length))).drop (i + 1)), true) := by
      intro q q0 q1 hi2
      have a3 : (n * rd d i + q + 1) * Shp.pl (d.drop (i + 1)) ≤ ((n + 1) * rd d i) * Shp.pl (d.drop (i + 1)) := Int.mul_le_mul_of_nonneg_right (by omega) (by omega)
      rw [Int.mul_assoc (n + 1)] at a3
      have := ih (i + 1) (n * rd d i + q) k (by omega) (by omega) (by omega) hi2 (by omega)
      rw [Int.natCast_add] at this
      exact this
    rw [w64 (x := n * rd d i) (by omega) (by omega), w64 (x := (i : Int) + 1) (by omega) (by omega)]
    by_cases c1 : rd d i = 1
    · rw [if_pos c1] at hins ⊢
      rw [if_pos c1, w64 (x := n * rd d i + 0) (by omega) (by omega)]
      exact step 0 (by omega) (by omega) hins.2.2
    · rw [if_neg c1] at hins ⊢
      rw [if_neg c1]
      generalize rd p _ = q at *
      rw [w64 (x := n * rd d i + q) (by omega) (by omega)]
      exact step q hins.1 hins.2.1 hins.2.2
theorem rFrom_f (d big : List Int) (t : Int) (hb : big.length ≤ 100) (k : Nat) (hk : 200 ≤ k) : carouselref5_From.f k d big t = some (Shp.frm d big t) := by
  obtain ⟨k', rfl, hk'⟩ := k_succ (n := 199) (k := k) (by omega)
  have hj0 : carouselref5_From.j0 (k' + 1) d big t true = some (0, false) := by simp [carouselref5_From.j0]
  unfold carouselref5_From.f Shp.frm
  rw [rJoin_f _ _ _ (by omega)]
  simp only [Option.bind_some]
  by_cases c1 : (Shp.join d big).2 = 0
  · have hjl : (Shp.join d big).1.length ≤ 4 := by
      have h : Shp.join d big = ((Shp.join d big).1, 0) := Prod.ext rfl c1
      exact (Shp.good_iff.mp (Shp.join_zero h).2.2.1).1
    rw [if_pos c1, rSame_f _ _ (by omega) _ (by omega)]
    simp only [Option.bind_some]
    by_cases c2 : (Shp.join d big).1 = big
    · have hj : Shp.join d big = (big, 0) := Prod.ext c2 c1
      obtain ⟨hg, hgb, hlen, hbc⟩ := Shp.join_big'.mp hj
      have ig := Shp.good_iff.mp hg
      have igb := Shp.good_iff.mp hgb
      simp only [c2, decide_true, Bool.not_true, carouselref5_From.j0, Bool.false_eq_true, if_false]
      rw [rPlace_f _ _ _ (by omega)]
      simp only [Option.bind_some]
      unfold Shp.plc
      by_cases c3 : 0 ≤ t ∧ t < Shp.siz big
      · rw [if_pos c3, if_pos (c := Shp.join d big = (big, 0) ∧ 0 ≤ t ∧ t < Shp.siz big) ⟨hj, c3⟩]
        simp only [if_true]
        have hin := Shp.ins_own d (big.drop (big.length - d.length)) hbc ig.2.1 (fun x hx => igb.2.1 x (List.mem_of_mem_drop hx)) t
        rw [← pla_drop] at hin
        have hpl := Shp.pla_length t big
        have := rFrom_l0 d (Shp.pla t big) (by omega) (by omega) hg (by rw [hpl]; exact hin) d.length 0 0 k' (by omega) (by omega) (by simpa using ig.2.2) (by rw [hpl]; simpa using hin) (by omega)
        rw [hpl] at this
        simp only [List.drop_zero] at this
        rw [show ((0 : Nat) : Int) = 0 from rfl] at this
        rw [this, pla_drop]; rfl
      · rw [if_neg c3, if_neg (c := Shp.join d big = (big, 0) ∧ 0 ≤ t ∧ t < Shp.siz big) (fun h => c3 h.2)]; simp
    · have : decide ((Shp.join d big).1 = big) = false := by simpa using c2
      rw [this, Bool.not_false, hj0, if_neg]
      intro h; exact c2 (by rw [h.1])
  · rw [if_neg c1, hj0, if_neg]
    intro h; exact c1 (by rw [h.1])
theorem wf_i64 {x : Int} (h : (Lit.int .i64 x).wf = true) : -9223372036854775808 ≤ x ∧ x ≤ 9223372036854775807 := by
  simp only [Lit.wf, Bool.and_eq_true, decide_eq_true_eq] at h
  have h1 : IntKind.i64.min = -9223372036854775808 := rfl
  have h2 : IntKind.i64.max = 9223372036854775807 := rfl
  omega
theorem u64w (n : Int) : IntKind.u64.wrap n = n % 18446744073709551616 := by simp [IntKind.wrap, IntKind.bits, IntKind.signed]
theorem and32 (x : Int) (h0 : 0 ≤ x) (h1 : x ≤ 18446744073709551615) : Go.bits .and .u64 x 4294967295 = x % 4294967296 := by
  rw [Go.u64_and x 4294967295 h0 (by omega) (by omega) (by omega)]
  have : (4294967295 : Int).toNat = 2 ^ 32 - 1 := rfl
  rw [this, Nat.and_two_pow_sub_one_eq_mod]
  omega
theorem and1 (x : Int) (h0 : 0 ≤ x) (h1 : x ≤ 18446744073709551615) : Go.bits .and .u64 x 1 = x % 2 := by
  rw [Go.u64_and x 1 h0 (by omega) (by omega) (by omega)]
  have : (1 : Int).toNat = 2 ^ 1 - 1 := rfl
  rw [this, Nat.and_two_pow_sub_one_eq_mod]
  omega
theorem mul_le {a b A B : Int} (h0 : 0 ≤ a) (h1 : a ≤ A) (h2 : 0 ≤ b) (h3 : b ≤ B) : 0 ≤ a * b ∧ a * b ≤ A * B :=
  ⟨Int.mul_nonneg h0 h2, Int.mul_le_mul h1 h3 h2 (by omega)⟩
theorem split_mul (x0 x1 y0 y1 : Int) : (x1 * 4294967296 + x0) * (y1 * 4294967296 + y0) = (x1 * y1) * 18446744073709551616 + ((x1 * y0) + (x0 * y1)) * 4294967296 + x0 * y0 := by grind
theorem Mul64_f (a b : Int) (a0 : 0 ≤ a) (a1 : a ≤ 18446744073709551615) (b0 : 0 ≤ b) (b1 : b ≤ 18446744073709551615) : bits_Mul64.f a b = some (a * b / 18446744073709551616, a * b % 18446744073709551616) := by
  unfold bits_Mul64.f
  rw [and32 a a0 a1, and32 b b0 b1]
  simp only [u64w]
  have ea : a = (a / 4294967296) * 4294967296 + a % 4294967296 := by omega
  have eb : b = (b / 4294967296) * 4294967296 + b % 4294967296 := by omega
  have es := split_mul (a % 4294967296) (a / 4294967296) (b % 4294967296) (b / 4294967296)
  rw [← ea, ← eb] at es
  have h1 : 0 ≤ a / 4294967296 ∧ a / 4294967296 ≤ 4294967295 := by omega
  have h2 : 0 ≤ a % 4294967296 ∧ a % 4294967296 ≤ 4294967295 := by omega
  have h3 : 0 ≤ b / 4294967296 ∧ b / 4294967296 ≤ 4294967295 := by omega
  have h4 : 0 ≤ b % 4294967296 ∧ b % 4294967296 ≤ 4294967295 := by omega
  have p00 := mul_le h2.1 h2.2 h4.1 h4.2
  have p10 := mul_le h1.1 h1.2 h4.1 h4.2
  have p01 := mul_le h2.1 h2.2 h3.1 h3.2
  have p11 := mul_le h1.1 h1.2 h3.1 h3.2
  clear ea eb a0 a1 b0 b1
  generalize a / 4294967296 * (b / 4294967296) = P11 at *
  generalize a / 4294967296 * (b % 4294967296) = P10 at *
  generalize a % 4294967296 * (b / 4294967296) = P01 at *
  generalize a % 4294967296 * (b % 4294967296) = P00 at *
  generalize a * b = S at *
  clear h1 h2 h3 h4
  simp only [Int.reduceMul] at p00 p10 p01 p11
  have r1 : (P10 % 18446744073709551616 + P00 % 18446744073709551616 / 4294967296) % 18446744073709551616 = P10 + P00 / 4294967296 := by omega
  rw [r1, and32 _ (by omega) (by omega)]
  congr 1
  rw [Prod.mk.injEq]
  constructor
  · omega
  · rfl
theorem pow_split (n : Nat) (h : n ≤ 64) : (2 : Int) ^ n * 2 ^ (64 - n) = 18446744073709551616 := by
  rw [← Int.pow_add, show n + (64 - n) = 64 by omega]; rfl
theorem pow_pos (n : Nat) : (1 : Int) ≤ 2 ^ n := by
  have : (0 : Int) < 2 ^ n := Int.pow_pos (by decide)
  omega
/-- a word that is shifted up beside one that fills what it leaves -/
theorem or_fill (c d : Int) (n : Nat) (hn : n ≤ 64) (c0 : 0 ≤ c) (c1 : c < 2 ^ n) (d0 : 0 ≤ d) (d1 : d < 2 ^ (64 - n)) : Go.bits .or .u64 (c * 2 ^ (64 - n)) d = c * 2 ^ (64 - n) + d := by
  have hp := pow_split n hn
  have p1 := pow_pos n
  have p2 := pow_pos (64 - n)
  have e1 : (c + 1) * 2 ^ (64 - n) ≤ 2 ^ n * 2 ^ (64 - n) := Int.mul_le_mul_of_nonneg_right (by omega) (by omega)
  rw [Int.add_mul, Int.one_mul, hp] at e1
  have e0 : 0 ≤ c * 2 ^ (64 - n) := Int.mul_nonneg c0 (by omega)
  rw [Go.u64_or _ _ e0 (by omega) d0 (by omega)]
  obtain ⟨C, rfl⟩ := Int.eq_ofNat_of_zero_le c0
  obtain ⟨D, rfl⟩ := Int.eq_ofNat_of_zero_le d0
  have hD : D < 2 ^ (64 - n) := by
    have : ((2 ^ (64 - n) : Nat) : Int) = 2 ^ (64 - n) := by simp
    omega
  have hC : ((C : Int) * 2 ^ (64 - n)).toNat = C * 2 ^ (64 - n) := by
    have : (C : Int) * 2 ^ (64 - n) = ((C * 2 ^ (64 - n) : Nat) : Int) := by simp
    rw [this]; rfl
  rw [hC, Int.toNat_natCast, ← Nat.shiftLeft_eq, ← Nat.shiftLeft_add_eq_or_of_lt hD, Nat.shiftLeft_eq]
  simp
theorem add64w (x c : Int) (h0 : 0 ≤ x) (h1 : 0 ≤ c) (h2 : c ≤ 1) : bits_Add64.f x c 0 = some ((x + c) % 18446744073709551616, (x + c) / 18446744073709551616) := by
  unfold bits_Add64.f
  rw [if_pos ⟨h0, h1, by omega, by omega⟩]
  simp
theorem fsize_f (a : Int) (h : Fx.ok a) : fix_size.f a = some (Fx.ab a) := by
  unfold fix_size.f Fx.ab
  unfold Fx.ok at h
  split
  · rw [u64w, u64w]; congr 1; omega
  · rw [u64w]; congr 1; omega
theorem fheld_f (hi lo : Int) (b : Bool) (h0 : 0 ≤ hi) (l0 : 0 ≤ lo) (l1 : lo < 18446744073709551616) (k : Nat) : fix_held.f (k + 1) hi lo b = some (Fx.clamp (Fx.sg b (hi * 18446744073709551616 + lo))) := by
  unfold fix_held.f Fx.clamp Fx.sg
  cases b
  · simp only [fix_held.j0, Bool.false_eq_true, if_false]
    split
    · congr 1; omega
    · split
      · congr 1; omega
      · congr 1; unfold wrap64; omega
  · simp only [if_true]
    split
    · simp only [fix_held.j0, if_true]; congr 1; omega
    · by_cases c : lo ≥ 9223372036854775808
      · rw [decide_eq_true c]
        simp only [fix_held.j0, if_true]; congr 1; omega
      · rw [decide_eq_false c]
        simp only [fix_held.j0, if_true, Bool.false_eq_true, if_false]
        congr 1; unfold wrap64; omega
theorem fadd_f (a b : Int) (ha : Fx.ok a) (hb : Fx.ok b) (k : Nat) : fix_Add.f (k + 1) a b = some (Fx.add a b) := by
  unfold fix_Add.f Fx.add Fx.clamp
  unfold Fx.ok at ha hb
  by_cases c : a < 0
  · by_cases d : b < 0
    · by_cases e : wrap64 (a + b) < 0
      · simp only [fix_Add.j0, c, d, e, decide_true]
        simp
        unfold wrap64 at *; omega
      · simp only [fix_Add.j0, c, d, e, decide_true, decide_false]
        simp
        unfold wrap64 at *; omega
    · simp only [fix_Add.j0, c, d, decide_true, decide_false]
      simp
      unfold wrap64 at *; omega
  · by_cases d : b < 0
    · simp only [fix_Add.j0, c, d, decide_true, decide_false]
      simp
      unfold wrap64 at *; omega
    · by_cases e : wrap64 (a + b) < 0
      · simp only [fix_Add.j0, c, d, e, decide_true, decide_false]
        simp
        unfold wrap64 at *; omega
      · simp only [fix_Add.j0, c, d, e, decide_true, decide_false]
        simp
        unfold wrap64 at *; omega
theorem fmul_f (a b : Int) (ha : Fx.ok a) (hb : Fx.ok b) (k : Nat) (hk : 2 ≤ k) : fix_Mul.f k a b = some (Fx.mul a b) := by
  unfold fix_Mul.f Fx.mul
  rw [fsize_f a ha, fsize_f b hb]
  simp only [Option.bind_some]
  have x0 := Fx.ab_nonneg a
  have x1 := Fx.ab_le ha
  have y0 := Fx.ab_nonneg b
  have y1 := Fx.ab_le hb
  rw [Mul64_f _ _ x0 (by omega) y0 (by omega)]
  simp only [Option.bind_some]
  have p0 : 0 ≤ Fx.ab a * Fx.ab b := Int.mul_nonneg x0 y0
  have p1 : Fx.ab a * Fx.ab b ≤ 9223372036854775808 * 9223372036854775808 := Int.mul_le_mul x1 y1 y0 (by omega)
  show _ = some (Fx.clamp (Fx.sg ((decide (a < 0)) != (decide (b < 0))) _))
  generalize hP : Fx.ab a * Fx.ab b = P at *
  have hbl : ∀ (z : Bool) (x8 x9 : Int) (k : Nat), fix_Mul.j0 (k + 1) a b x8 x9 z = if z = true then ((bits_Add64.f x8 1 0).bind fun bt152 => ((fix_held.f k (IntKind.u64.wrap (x9 + bt152.2)) bt152.1 ((decide (a < 0)) != (decide (b < 0)))).bind fun t154 => (some t154))) else ((fix_held.f k x9 x8 ((decide (a < 0)) != (decide (b < 0)))).bind fun t155 => (some t155)) := fun _ _ _ _ => rfl
  obtain ⟨k, rfl⟩ : ∃ j, k = j + 2 := ⟨k - 2, by omega⟩
  simp only [hbl]
  generalize ((decide (a < 0)) != (decide (b < 0))) = bl
  rw [and32 _ (by omega) (by omega)]
  have w : IntKind.u64.wrap (P / 18446744073709551616 * 4294967296) = (P / 79228162514264337593543950336) * 0 + P / 18446744073709551616 % 4294967296 * 2 ^ (64 - 32) := by
    rw [u64w]
    have : (2 : Int) ^ (64 - 32) = 4294967296 := by decide
    rw [this]
    omega
  rw [w, Int.mul_zero, Int.zero_add, or_fill (P / 18446744073709551616 % 4294967296) (P % 18446744073709551616 / 4294967296) 32 (by omega) (by omega) (by omega) (by omega) (by omega)]
  have hq : P / 18446744073709551616 % 4294967296 * 2 ^ (64 - 32) + P % 18446744073709551616 / 4294967296 = P / 4294967296 % 18446744073709551616 := by
    have : (2 : Int) ^ (64 - 32) = 4294967296 := by decide
    rw [this]
    omega
  rw [hq]
  have hr : P % 18446744073709551616 % 4294967296 = P % 4294967296 := by omega
  have ho : P / 18446744073709551616 / 4294967296 = P / 4294967296 / 18446744073709551616 := by omega
  rw [hr, ho]
  have he : Fx.rhe P 4294967296 = P / 4294967296 + (if 2 * (P % 4294967296) > 4294967296 ∨ (2 * (P % 4294967296) = 4294967296 ∧ P / 4294967296 % 2 = 1) then 1 else 0) := rfl
  rw [he]
  have q0 : 0 ≤ P / 4294967296 := by omega
  have q1 : P / 4294967296 ≤ 19807040628566084398385987584 := by omega
  have r0 : 0 ≤ P % 4294967296 := by omega
  have r1 : P % 4294967296 < 4294967296 := by omega
  clear he hr ho hq w hP p0 p1 hbl
  generalize P / 4294967296 = q at *
  generalize P % 4294967296 = r at *
  rw [and1 (q % 18446744073709551616) (by omega) (by omega)]
  have up : ∀ z, z = Fx.clamp (Fx.sg bl (q + 1)) → ((bits_Add64.f (q % 18446744073709551616) 1 0).bind fun bt152 => ((fix_held.f (k + 1) (IntKind.u64.wrap (q / 18446744073709551616 + bt152.2)) bt152.1 bl).bind fun t154 => (some t154))) = some z := by
    intro z hz
    rw [add64w _ 1 (by omega) (by omega) (by omega)]
    simp only [Option.bind_some]
    rw [u64w, fheld_f _ _ bl (by omega) (by omega) (by omega)]
    simp only [Option.bind_some]
    rw [hz]
    congr 3
    omega
  have down : ∀ z, z = Fx.clamp (Fx.sg bl q) → ((fix_held.f (k + 1) (q / 18446744073709551616) (q % 18446744073709551616) bl).bind fun t155 => (some t155)) = some z := by
    intro z hz
    rw [fheld_f _ _ bl (by omega) (by omega) (by omega)]
    simp only [Option.bind_some]
    rw [hz]
    congr 3
    omega
  by_cases c1 : r > 2147483648
  · rw [if_pos c1, if_pos trivial, if_pos (by omega)]
    exact up _ rfl
  · rw [if_neg c1]
    by_cases c2 : r = 2147483648
    · rw [if_pos c2]
      by_cases c3 : q % 2 = 1
      · rw [show q % 18446744073709551616 % 2 = 1 by omega, if_pos (show ((1 : Int) == 1) = true by rfl), if_pos (by omega)]
        exact up _ rfl
      · rw [show q % 18446744073709551616 % 2 = 0 by omega, if_neg (show ¬ (((0 : Int) == 1) = true) by decide), if_neg (by omega)]
        refine down _ ?_
        simp
    · rw [if_neg c2, if_neg (show ¬ (false = true) by decide), if_neg (by omega)]
      refine down _ ?_
      simp
theorem tGood_f (d v : List Int) (k : Nat) (hk : 10 ≤ k) : tens_Good.f k d v = some (Shp.good d && decide ((v.length : Int) = Shp.siz d)) := by
  unfold tens_Good.f
  rw [Good_f d k hk]
  simp only [Option.bind_some]
  cases h : Shp.good d
  · simp
  · rw [if_pos rfl, Size_f d k hk]
    simp only [Option.bind_some, Bool.true_and]
    congr 1
theorem ps_eq (a b c : Int) : carouselref1_plus.s a b c = (a + b + c) % 18446744073709551616 := by
  unfold carouselref1_plus.s; rw [u64w, u64w]; omega
theorem pc_eq (a b c : Int) (a0 : 0 ≤ a) (a1 : a < 18446744073709551616) (b0 : 0 ≤ b) (b1 : b < 18446744073709551616) (c0 : 0 ≤ c) (c1 : c ≤ 1) : carouselref1_plus.c a b c = (a + b + c) / 18446744073709551616 := by
  unfold carouselref1_plus.c; rw [ps_eq, u64w]; split <;> (try split) <;> omega
theorem ms_eq (a b c : Int) : carouselref1_minus.s a b c = (a - b - c) % 18446744073709551616 := by
  unfold carouselref1_minus.s; rw [u64w, u64w]; omega
theorem mc_eq (a b c : Int) (a0 : 0 ≤ a) (a1 : a < 18446744073709551616) (b0 : 0 ≤ b) (b1 : b < 18446744073709551616) (c0 : 0 ≤ c) (c1 : c ≤ 1) : carouselref1_minus.c a b c = -((a - b - c) / 18446744073709551616) := by
  unfold carouselref1_minus.c; rw [u64w]; split <;> (try split) <;> omega
theorem plus_f {a0 a1 a2 a3 b0 b1 b2 b3 : Int} (ha : Bn.ok a0 a1 a2 a3) (hb : Bn.ok b0 b1 b2 b3) : ∃ r0 r1 r2 r3, carouselref1_plus.f a0 a1 a2 a3 b0 b1 b2 b3 = some (r0, r1, r2, r3) ∧ Bn.ok r0 r1 r2 r3 ∧ Bn.bv r0 r1 r2 r3 = (Bn.bv a0 a1 a2 a3 + Bn.bv b0 b1 b2 b3) % 115792089237316195423570985008687907853269984665640564039457584007913129639936 := by
  refine ⟨_, _, _, _, rfl, ?_⟩
  unfold Bn.ok at ha hb
  simp only [ps_eq]
  have e1 := pc_eq a0 b0 0 (by omega) (by omega) (by omega) (by omega) (by omega) (by omega)
  generalize carouselref1_plus.c a0 b0 0 = c1 at *
  have e2 := pc_eq a1 b1 c1 (by omega) (by omega) (by omega) (by omega) (by omega) (by omega)
  generalize carouselref1_plus.c a1 b1 c1 = c2 at *
  have e3 := pc_eq a2 b2 c2 (by omega) (by omega) (by omega) (by omega) (by omega) (by omega)
  generalize carouselref1_plus.c a2 b2 c2 = c3 at *
  unfold Bn.ok Bn.bv
  omega
theorem minus_f {a0 a1 a2 a3 b0 b1 b2 b3 : Int} (ha : Bn.ok a0 a1 a2 a3) (hb : Bn.ok b0 b1 b2 b3) : ∃ r0 r1 r2 r3, carouselref1_minus.f a0 a1 a2 a3 b0 b1 b2 b3 = some (r0, r1, r2, r3) ∧ Bn.ok r0 r1 r2 r3 ∧ Bn.bv r0 r1 r2 r3 = (Bn.bv a0 a1 a2 a3 - Bn.bv b0 b1 b2 b3) % 115792089237316195423570985008687907853269984665640564039457584007913129639936 := by
  refine ⟨_, _, _, _, rfl, ?_⟩
  unfold Bn.ok at ha hb
  simp only [ms_eq]
  have e1 := mc_eq a0 b0 0 (by omega) (by omega) (by omega) (by omega) (by omega) (by omega)
  generalize carouselref1_minus.c a0 b0 0 = c1 at *
  have e2 := mc_eq a1 b1 c1 (by omega) (by omega) (by omega) (by omega) (by omega) (by omega)
  generalize carouselref1_minus.c a1 b1 c1 = c2 at *
  have e3 := mc_eq a2 b2 c2 (by omega) (by omega) (by omega) (by omega) (by omega) (by omega)
  generalize carouselref1_minus.c a2 b2 c2 = c3 at *
  unfold Bn.ok Bn.bv
  omega
theorem less_f {a0 a1 a2 a3 b0 b1 b2 b3 : Int} (ha : Bn.ok a0 a1 a2 a3) (hb : Bn.ok b0 b1 b2 b3) : carouselref1_less.f a0 a1 a2 a3 b0 b1 b2 b3 = some (decide (Bn.bv a0 a1 a2 a3 < Bn.bv b0 b1 b2 b3)) := by
  unfold carouselref1_less.f carouselref1_less.s
  unfold Bn.ok at ha hb
  unfold Bn.bv
  congr 1
  symm
  repeat' split
  · rw [decide_eq_false]; omega
  all_goals (apply decide_eq_decide.mpr; omega)
theorem Plus_f {n m : Bool} {a0 a1 a2 a3 b0 b1 b2 b3 : Int} (ha : Bn.ok a0 a1 a2 a3) (hb : Bn.ok b0 b1 b2 b3) (hs : Bn.bv a0 a1 a2 a3 + Bn.bv b0 b1 b2 b3 < 115792089237316195423570985008687907853269984665640564039457584007913129639936) :
    ∃ s r0 r1 r2 r3, carouselref1_Plus.f n a0 a1 a2 a3 m b0 b1 b2 b3 = some (s, r0, r1, r2, r3) ∧ Bn.ok r0 r1 r2 r3 ∧ Bn.nv s r0 r1 r2 r3 = Bn.nv n a0 a1 a2 a3 + Bn.nv m b0 b1 b2 b3 := by
  have A := Bn.bv_range ha
  have B := Bn.bv_range hb
  unfold carouselref1_Plus.f
  by_cases c : n = m
  · subst c
    obtain ⟨r0, r1, r2, r3, e, h, v⟩ := plus_f ha hb
    rw [if_pos (by simp), e]
    refine ⟨n, r0, r1, r2, r3, rfl, h, ?_⟩
    rw [Int.emod_eq_of_lt (by omega) hs] at v
    unfold Bn.nv
    split <;> omega
  · have c' : m = !n := by cases n <;> cases m <;> simp at c ⊢
    subst c'
    rw [if_neg (by simp), less_f ha hb]
    simp only [Option.bind_some]
    by_cases d : Bn.bv a0 a1 a2 a3 < Bn.bv b0 b1 b2 b3
    · rw [if_pos (decide_eq_true d)]
      obtain ⟨r0, r1, r2, r3, e, h, v⟩ := minus_f hb ha
      rw [e]
      refine ⟨!n, r0, r1, r2, r3, rfl, h, ?_⟩
      rw [Int.emod_eq_of_lt (by omega) (by omega)] at v
      unfold Bn.nv
      cases n <;> simp <;> omega
    · rw [if_neg (by simpa using d)]
      obtain ⟨r0, r1, r2, r3, e, h, v⟩ := minus_f ha hb
      rw [e]
      refine ⟨n, r0, r1, r2, r3, rfl, h, ?_⟩
      rw [Int.emod_eq_of_lt (by omega) (by omega)] at v
      unfold Bn.nv
      cases n <;> simp <;> omega
theorem rsize_f (a : Int) (h0 : -9223372036854775808 ≤ a) (h1 : a ≤ 9223372036854775807) : carouselref1_size.f a = some (if a < 0 then -a else a) := by
  unfold carouselref1_size.f
  split
  · rw [u64w, u64w]; congr 1; unfold wrap64; omega
  · rw [u64w]; congr 1; omega
theorem bFrom_f (a : Int) (h0 : -9223372036854775808 ≤ a) (h1 : a ≤ 9223372036854775807) : carouselref1_From.f a = some (decide (a < 0), if a < 0 then -a else a, 0, 0, 0) := by
  unfold carouselref1_From.f
  rw [rsize_f a h0 h1]; rfl
theorem or_zero {x y : Int} (x0 : 0 ≤ x) (x1 : x < 18446744073709551616) (y0 : 0 ≤ y) (y1 : y < 18446744073709551616) : (Go.bits .or .u64 x y = 0 ↔ x = 0 ∧ y = 0) ∧ 0 ≤ Go.bits .or .u64 x y ∧ Go.bits .or .u64 x y < 18446744073709551616 := by
  rw [Go.u64_or x y x0 (by omega) y0 (by omega)]
  obtain ⟨X, rfl⟩ := Int.eq_ofNat_of_zero_le x0
  obtain ⟨Y, rfl⟩ := Int.eq_ofNat_of_zero_le y0
  have hx : X < 2 ^ 64 := by omega
  have hy : Y < 2 ^ 64 := by omega
  have h := Nat.or_lt_two_pow hx hy
  simp only [Int.toNat_natCast]
  have z : X ||| Y = 0 ↔ X = 0 ∧ Y = 0 := Nat.or_eq_zero_iff
  refine ⟨?_, by omega, by omega⟩
  constructor
  · intro e
    have := z.mp (by omega)
    omega
  · intro e
    have := z.mpr (by omega)
    omega
theorem Held_f {n : Bool} {a0 a1 a2 a3 : Int} (h : Bn.ok a0 a1 a2 a3) (k : Nat) (hk : 1 ≤ k) : carouselref1_Held.f k n a0 a1 a2 a3 = some (Fx.clamp (Bn.nv n a0 a1 a2 a3)) := by
  obtain ⟨k, rfl⟩ : ∃ m, k = m + 1 := ⟨k - 1, by omega⟩
  unfold Bn.ok at h
  have o1 := or_zero (x := a1) (y := a2) (by omega) (by omega) (by omega) (by omega)
  have o2 := or_zero o1.2.1 o1.2.2 (y := a3) (by omega) (by omega)
  unfold carouselref1_Held.f Bn.nv Bn.bv Fx.clamp
  by_cases c : Go.bits .or .u64 (Go.bits .or .u64 a1 a2) a3 = 0
  · rw [if_pos c]
    have := o2.1.mp c
    have := o1.1.mp this.1
    clear o1 o2 c
    by_cases d : a0 ≥ 9223372036854775808
    · rw [decide_eq_true d]
      simp only [carouselref1_Held.j0, if_true]
      split <;> (congr 1; omega)
    · rw [decide_eq_false d]
      simp only [carouselref1_Held.j0, Bool.false_eq_true, if_false]
      split <;> (congr 1; unfold wrap64; omega)
  · rw [if_neg c]
    have : ¬ (a1 = 0 ∧ a2 = 0 ∧ a3 = 0) := fun e => c (o2.1.mpr ⟨o1.1.mpr ⟨e.1, e.2.1⟩, e.2.2⟩)
    clear o1 o2 c
    simp only [carouselref1_Held.j0, if_true]
    split <;> (congr 1; omega)
theorem Times_f (a b : Int) (a0 : -9223372036854775808 ≤ a) (a1 : a ≤ 9223372036854775807) (b0 : -9223372036854775808 ≤ b) (b1 : b ≤ 9223372036854775807) :
    ∃ q0 q1 q2 q3, carouselref1_Times.f a b = some ((decide (a < 0)) != (decide (b < 0)), q0, q1, q2, q3) ∧ Bn.ok q0 q1 q2 q3 ∧ Bn.bv q0 q1 q2 q3 ≤ 85070591730234615865843651857942052864 ∧ Bn.nv ((decide (a < 0)) != (decide (b < 0))) q0 q1 q2 q3 = a * b := by
  unfold carouselref1_Times.f
  rw [rsize_f a a0 a1, rsize_f b b0 b1]
  simp only [Option.bind_some]
  have hab : (if a < 0 then -a else a) * (if b < 0 then -b else b) = if ((decide (a < 0)) != (decide (b < 0))) = true then -(a * b) else a * b := by
    by_cases c : a < 0 <;> by_cases d : b < 0 <;> simp [c, d, Int.neg_mul, Int.mul_neg]
  have hx : 0 ≤ (if a < 0 then -a else a) ∧ (if a < 0 then -a else a) ≤ 9223372036854775808 := by split <;> omega
  have hy : 0 ≤ (if b < 0 then -b else b) ∧ (if b < 0 then -b else b) ≤ 9223372036854775808 := by split <;> omega
  generalize (if a < 0 then -a else a) = x at *
  generalize (if b < 0 then -b else b) = y at *
  rw [and32 x hx.1 (by omega), and32 y hy.1 (by omega)]
  have es := split_mul (x % 4294967296) (x / 4294967296) (y % 4294967296) (y / 4294967296)
  rw [show x / 4294967296 * 4294967296 + x % 4294967296 = x by omega, show y / 4294967296 * 4294967296 + y % 4294967296 = y by omega] at es
  have z0 : 0 ≤ x % 4294967296 ∧ x % 4294967296 ≤ 4294967295 := by omega
  have z1 : 0 ≤ x / 4294967296 ∧ x / 4294967296 ≤ 2147483648 := by omega
  have z2 : 0 ≤ y % 4294967296 ∧ y % 4294967296 ≤ 4294967295 := by omega
  have z3 : 0 ≤ y / 4294967296 ∧ y / 4294967296 ≤ 2147483648 := by omega
  have p00 := mul_le z0.1 z0.2 z2.1 z2.2
  have p01 := mul_le z0.1 z0.2 z3.1 z3.2
  have p10 := mul_le z1.1 z1.2 z2.1 z2.2
  have p11 := mul_le z1.1 z1.2 z3.1 z3.2
  have hxy := mul_le hx.1 hx.2 hy.1 hy.2
  generalize x * y = P at *
  generalize x % 4294967296 * (y % 4294967296) = A at *
  generalize x % 4294967296 * (y / 4294967296) = B at *
  generalize x / 4294967296 * (y % 4294967296) = C at *
  generalize x / 4294967296 * (y / 4294967296) = D at *
  simp only [u64w]
  rw [Int.emod_eq_of_lt p00.1 (by omega), Int.emod_eq_of_lt p01.1 (by omega), Int.emod_eq_of_lt p10.1 (by omega), Int.emod_eq_of_lt p11.1 (by omega)]
  obtain ⟨r0, r1, r2, r3, e1, o1, v1⟩ := plus_f (a0 := A) (a1 := D) (a2 := 0) (a3 := 0) (b0 := B * 4294967296 % 18446744073709551616) (b1 := B / 4294967296) (b2 := 0) (b3 := 0) (by unfold Bn.ok; omega) (by unfold Bn.ok; omega)
  rw [e1]
  simp only [Option.bind_some]
  obtain ⟨s0, s1, s2, s3, e2, o2, v2⟩ := plus_f (a0 := r0) (a1 := r1) (a2 := r2) (a3 := r3) (b0 := C * 4294967296 % 18446744073709551616) (b1 := C / 4294967296) (b2 := 0) (b3 := 0) o1 (by unfold Bn.ok; omega)
  rw [e2]
  simp only [Option.bind_some]
  have V : Bn.bv s0 s1 s2 s3 = P := by
    rw [v2, v1]
    unfold Bn.bv
    omega
  refine ⟨s0, s1, s2, s3, rfl, o2, by omega, ?_⟩
  unfold Bn.nv
  rw [V]
  split at hab <;> split <;> first | omega | contradiction
theorem lowbits_p (y : Int) (d : Nat) : y % 2 ^ (d + 1) = y % 2 ^ d + 2 ^ d * (y / 2 ^ d % 2) := by
  have p : (0 : Int) < 2 ^ d := Int.pow_pos (by decide)
  have e1 := Int.mul_ediv_add_emod y (2 ^ d)
  have e2 := Int.mul_ediv_add_emod (y / 2 ^ d) 2
  have m0 := Int.emod_nonneg y (show (2 : Int) ^ d ≠ 0 by omega)
  have m1 := Int.emod_lt_of_pos y p
  have e3 : y = (y % 2 ^ d + 2 ^ d * (y / 2 ^ d % 2)) + 2 ^ (d + 1) * (y / 2 ^ d / 2) := by
    rw [Int.pow_succ, Int.mul_assoc, Int.add_assoc, ← Int.mul_add, Int.add_comm (y / 2 ^ d % 2), e2]
    omega
  have hb : y / 2 ^ d % 2 = 0 ∨ y / 2 ^ d % 2 = 1 := by omega
  conv => lhs; rw [e3]
  rw [Int.add_mul_emod_self_left]
  refine Int.emod_eq_of_lt ?_ ?_
  · rcases hb with h | h <;> rw [h] <;> omega
  · rw [Int.pow_succ]
    rcases hb with h | h <;> rw [h] <;> omega
theorem words_ok (x : Int) : Bn.ok (w0_ x) (w1_ x) (w2_ x) (w3_ x) := by unfold Bn.ok w0_ w1_ w2_ w3_; omega
theorem words_bv (x : Int) (h0 : 0 ≤ x) (h1 : x < 115792089237316195423570985008687907853269984665640564039457584007913129639936) : Bn.bv (w0_ x) (w1_ x) (w2_ x) (w3_ x) = x := by unfold Bn.bv w0_ w1_ w2_ w3_; omega
theorem Halved_f {n : Bool} {a0 a1 a2 a3 : Int} (h : Bn.ok a0 a1 a2 a3) (m : Nat) (hm : m < 256) :
    ∃ r0 r1 r2 r3, carouselref1_Halved.f n a0 a1 a2 a3 m = some (n, r0, r1, r2, r3) ∧ Bn.ok r0 r1 r2 r3 ∧ Bn.bv r0 r1 r2 r3 = Fx.rhe (Bn.bv a0 a1 a2 a3) (2 ^ m) := by
  have V := Bn.bv_range h
  have eV : bv_ a0 a1 a2 a3 = Bn.bv a0 a1 a2 a3 := rfl
  unfold carouselref1_Halved.f
  rw [if_pos (c := ok_ a0 a1 a2 a3 ∧ _) ⟨h, by omega, by omega⟩, eV]
  generalize Bn.bv a0 a1 a2 a3 = v at *
  have pm : (0 : Int) < 2 ^ m := Int.pow_pos (by decide)
  have tot : (2 : Int) ^ (256 - m) * 2 ^ m = 115792089237316195423570985008687907853269984665640564039457584007913129639936 := by
    rw [← Int.pow_add, show 256 - m + m = 256 by omega]; rfl
  have q0 : 0 ≤ v / 2 ^ m := Int.ediv_nonneg V.1 (by omega)
  have q1 : v / 2 ^ m < 2 ^ (256 - m) := by rw [Int.ediv_lt_iff_lt_mul pm, tot]; exact V.2
  have q2 : v / 2 ^ m ≤ v := Int.ediv_le_self _ V.1
  have eX : v / 2 ^ ((m : Int)).toNat % 2 ^ (256 - (m : Int)).toNat = v / 2 ^ m := by
    rw [show ((m : Int)).toNat = m from rfl, show (256 - (m : Int)).toNat = 256 - m by omega, Int.emod_eq_of_lt q0 q1]
  rw [eX]
  by_cases z : (m : Int) = 0
  · rw [if_pos z]
    have z' : m = 0 := by omega
    subst z'
    refine ⟨_, _, _, _, rfl, words_ok _, ?_⟩
    rw [words_bv _ q0 (by omega)]
    simp [Fx.rhe]
  · rw [if_neg z]
    obtain ⟨d, rfl⟩ : ∃ d, m = d + 1 := ⟨m - 1, by omega⟩
    have hd : (((d + 1 : Nat) : Int) - 1).toNat = d := by omega
    have pd : (0 : Int) < 2 ^ d := Int.pow_pos (by decide)
    have lb := lowbits_p v d
    have n0 := Int.emod_nonneg v (show (2 : Int) ^ d ≠ 0 by omega)
    have n1 := Int.emod_lt_of_pos v pd
    have e2 : (2 : Int) ^ (d + 1) = 2 ^ d * 2 := Int.pow_succ ..
    have q3 : 2 * (v / 2 ^ (d + 1)) ≤ v := by
      have := Int.mul_ediv_add_emod v (2 ^ (d + 1))
      have m0 := Int.emod_nonneg v (show (2 : Int) ^ (d + 1) ≠ 0 by omega)
      have : 2 * (v / 2 ^ (d + 1)) ≤ 2 ^ (d + 1) * (v / 2 ^ (d + 1)) := Int.mul_le_mul_of_nonneg_right (by omega) q0
      omega
    by_cases b : bitOf_ v (((d + 1 : Nat) : Int) - 1) = 0
    · rw [if_pos b]
      refine ⟨_, _, _, _, rfl, words_ok _, ?_⟩
      rw [words_bv _ q0 (by omega)]
      unfold bitOf_ at b
      rw [hd] at b
      rw [b, Int.mul_zero, Int.add_zero] at lb
      unfold Fx.rhe
      rw [lb, if_neg (by omega)]
      omega
    · rw [if_neg b]
      unfold bitOf_ at b
      rw [hd] at b
      rw [show v / 2 ^ d % 2 = 1 by omega, Int.mul_one] at lb
      have w0 : w0_ (v / 2 ^ (d + 1)) % 2 = v / 2 ^ (d + 1) % 2 := by unfold w0_; omega
      by_cases mo : more_ v (v / 2 ^ (d + 1)) (((d + 1 : Nat) : Int) - 1) = true
      · rw [if_pos mo]
        obtain ⟨r0, r1, r2, r3, e, ho, hv⟩ := plus_f (words_ok (v / 2 ^ (d + 1))) (show Bn.ok 1 0 0 0 by unfold Bn.ok; omega)
        rw [e]
        refine ⟨r0, r1, r2, r3, rfl, ho, ?_⟩
        rw [hv, words_bv _ q0 (by omega), Bn.bv_small, Int.emod_eq_of_lt (by omega) (by omega)]
        unfold more_ at mo
        rw [hd, w0] at mo
        simp at mo
        unfold Fx.rhe
        rw [lb]
        generalize v % 2 ^ d = l at *
        generalize v / 2 ^ (d + 1) = q at *
        rw [if_pos (by omega)]
      · rw [if_neg mo]
        refine ⟨_, _, _, _, rfl, words_ok _, ?_⟩
        rw [words_bv _ q0 (by omega)]
        unfold more_ at mo
        rw [hd, w0] at mo
        simp at mo
        unfold Fx.rhe
        rw [lb]
        generalize v % 2 ^ d = l at *
        generalize v / 2 ^ (d + 1) = q at *
        rw [if_neg (by omega)]
        omega
theorem ab_mul (a b : Int) : Fx.ab a * Fx.ab b = if ((decide (a < 0)) != (decide (b < 0))) = true then -(a * b) else a * b := by
  unfold Fx.ab
  by_cases c : a < 0 <;> by_cases d : b < 0 <;> simp [c, d, Int.neg_mul, Int.mul_neg]
theorem rMul_f (a b : Int) (ha : Fx.ok a) (hb : Fx.ok b) (k : Nat) (hk : 1 ≤ k) : carouselref1_Mul.f k a b = some (Fx.mul a b) := by
  unfold carouselref1_Mul.f
  obtain ⟨q0, q1, q2, q3, e, o, -, v⟩ := Times_f a b ha.1 ha.2 hb.1 hb.2
  rw [e]
  simp only [Option.bind_some]
  obtain ⟨r0, r1, r2, r3, e2, o2, v2⟩ := Halved_f (n := (decide (a < 0)) != (decide (b < 0))) o 32 (by omega)
  rw [show ((32 : Nat) : Int) = 32 from rfl] at e2
  rw [e2]
  simp only [Option.bind_some]
  rw [Held_f o2 k hk]
  simp only [Option.bind_some]
  have hbv : Bn.bv q0 q1 q2 q3 = Fx.ab a * Fx.ab b := by
    rw [ab_mul]
    unfold Bn.nv at v
    split at v <;> rename_i hc <;> simp only [hc, if_true, Bool.false_eq_true, if_false] <;> omega
  unfold Fx.mul Bn.nv Fx.sg Fx.neq
  rw [v2, hbv]
  rfl
theorem from_nv (a : Int) : Bn.nv (decide (a < 0)) (if a < 0 then -a else a) 0 0 0 = a := by
  unfold Bn.nv
  rw [Bn.bv_small]
  by_cases c : a < 0 <;> simp [c]
theorem from_ok (a : Int) (h : Fx.ok a) : Bn.ok (if a < 0 then -a else a) 0 0 0 := by
  unfold Fx.ok at h; unfold Bn.ok; split <;> omega
theorem from_bv (a : Int) : Bn.bv (if a < 0 then -a else a) 0 0 0 = Fx.ab a := by rw [Bn.bv_small]; rfl
theorem rAdd_f (a b : Int) (ha : Fx.ok a) (hb : Fx.ok b) (k : Nat) (hk : 1 ≤ k) : carouselref1_Add.f k a b = some (Fx.add a b) := by
  unfold carouselref1_Add.f
  rw [bFrom_f a ha.1 ha.2, bFrom_f b hb.1 hb.2]
  simp only [Option.bind_some]
  have s1 := Fx.ab_le ha
  have s2 := Fx.ab_le hb
  obtain ⟨s, r0, r1, r2, r3, e, o, v⟩ := Plus_f (n := decide (a < 0)) (m := decide (b < 0)) (from_ok a ha) (from_ok b hb) (by rw [from_bv, from_bv]; omega)
  rw [e]
  simp only [Option.bind_some]
  rw [Held_f o k hk]
  simp only [Option.bind_some]
  rw [v, from_nv, from_nv]
  rfl
theorem rd_map (f : Int → Int) (l : List Int) (i : Nat) (h : i < l.length) : rd (l.map f) i = f (rd l i) := by
  unfold rd
  rw [show (i : Int).toNat = i from rfl]
  simp [List.getD_eq_getElem?_getD, List.getElem?_eq_getElem, h]
def tab (n : Nat) (g : Nat → Int) : List Int := (List.range n).map g
theorem tab_length (n : Nat) (g : Nat → Int) : (tab n g).length = n := by simp [tab]
theorem rd_tab (n : Nat) (g : Nat → Int) (i : Nat) (h : i < n) : rd (tab n g) i = g i := by
  unfold rd tab
  rw [show (i : Int).toNat = i from rfl]
  simp [List.getD_eq_getElem?_getD, List.getElem?_eq_getElem, h]
theorem rd_get (l : List Int) (i : Nat) (h : i < l.length) : rd l i = l[i] := by
  unfold rd
  rw [show (i : Int).toNat = i from rfl]
  simp [List.getD_eq_getElem?_getD, List.getElem?_eq_getElem, h]
theorem rd_ext {a b : List Int} (h : a.length = b.length) (e : ∀ i, i < a.length → rd a i = rd b i) : a = b := by
  apply List.ext_getElem h
  intro i h1 h2
  have := e i h1
  rwa [rd_get a i h1, rd_get b i h2] at this
theorem tab_rd (l : List Int) : tab l.length (fun i => rd l i) = l := by
  apply rd_ext (tab_length _ _)
  intro i hi
  rw [tab_length] at hi
  exact rd_tab _ _ i hi
theorem tab_map (f : Int → Int) (l : List Int) : tab l.length (fun i => f (rd l i)) = l.map f := by
  apply rd_ext (by simp [tab_length])
  intro i hi
  rw [tab_length] at hi
  rw [rd_tab _ _ i hi, rd_map _ _ _ hi]
theorem tab_const (n : Nat) (v : Int) : tab n (fun _ => v) = List.replicate n v := by
  unfold tab
  induction n with
  | zero => rfl
  | succ n ih => rw [List.range_succ, List.map_append, ih, List.replicate_succ']; rfl
theorem set_take' (l : List Int) (i : Nat) (x : Int) (h : i < l.length) : (l.set i x).take (i + 1) = l.take i ++ [x] := by
  rw [List.take_succ_eq_append_getElem (by simpa using h), List.take_set_of_le (by omega)]
  simp
/-- a loop that sets one cell after the other -/
theorem loop_set {R : Type} (L : Nat → Int → List Int → Option R) (n : Nat) (g : Nat → Int) (fin : List Int → Option R) (K : Nat)
    (step : ∀ k (i : Nat) o, K ≤ k → i < n → o.length = n → L (k + 1) (i : Int) o = L k ((i : Int) + 1) (o.set i (g i)))
    (stop : ∀ k o, o.length = n → L (k + 1) (n : Int) o = fin o) :
    ∀ (c i : Nat) (o : List Int) (k : Nat), i + c = n → o.length = n → K + c + 1 ≤ k → L k (i : Int) o = fin (o.take i ++ (List.range' i c).map g) := by
  intro c
  induction c with
  | zero =>
    intro i o k hi ho hk
    obtain ⟨k, rfl⟩ : ∃ j, k = j + 1 := ⟨k - 1, by omega⟩
    rw [show i = n by omega, stop k o ho, List.take_of_length_le (by omega)]
    simp
  | succ c ih =>
    intro i o k hi ho hk
    obtain ⟨k, rfl⟩ : ∃ j, k = j + 1 := ⟨k - 1, by omega⟩
    rw [step k i o (by omega) (by omega) ho]
    have := ih (i + 1) (o.set i (g i)) k (by omega) (by simpa using ho) (by omega)
    rw [Int.natCast_add] at this
    rw [show ((i : Int) + 1) = (i : Int) + ((1 : Nat) : Int) from rfl, this, set_take' o i _ (by omega), List.range'_succ]
    simp
theorem loop_set0 {R : Type} (L : Nat → Int → List Int → Option R) (n : Nat) (g : Nat → Int) (fin : List Int → Option R) (K : Nat)
    (step : ∀ k (i : Nat) o, K ≤ k → i < n → o.length = n → L (k + 1) (i : Int) o = L k ((i : Int) + 1) (o.set i (g i)))
    (stop : ∀ k o, o.length = n → L (k + 1) (n : Int) o = fin o) (o : List Int) (k : Nat) (ho : o.length = n) (hk : K + n + 1 ≤ k) : L k 0 o = fin (tab n g) := by
  have := loop_set L n g fin K step stop n 0 o k (by omega) ho hk
  simp only [List.take_zero, List.nil_append] at this
  rw [show ((0 : Nat) : Int) = 0 from rfl] at this
  rw [this]; unfold tab; rw [List.range_eq_range']
theorem tab_succ (n : Nat) (g : Nat → Int) : tab (n + 1) g = tab n g ++ [g n] := by
  unfold tab; rw [List.range_succ, List.map_append]; rfl
theorem rd_set (l : List Int) (i : Nat) (x : Int) (h : i < l.length) : rd (l.set i x) i = x := by
  rw [rd_get _ i (by simpa using h)]; simp
theorem rNew_f (d : List Int) (v : Int) (hd : d.length ≤ 1000000) (k : Nat) (hk : 4200 ≤ k) : carouselref5_New.f k d v = some (d, List.replicate (Shp.siz d).toNat v) := by
  have s0 := Shp.siz_nonneg d
  have s1 := Shp.siz_le d
  unfold carouselref5_New.f
  simp only [Option.bind_some, List.length_nil, List.nil_append]
  rw [if_pos (by omega), rSize_f d k (by omega)]
  simp only [Option.bind_some]
  rw [if_pos s0, if_pos (by omega)]
  have := loop_set0 (fun k i o => carouselref5_New.l0 k v i d o) (Shp.siz d).toNat (fun _ => v) (fun o => some (d, o)) 0
    (fun k i o _ hi ho => by
      simp only [carouselref5_New.l0]
      rw [if_pos (by omega), if_pos (by omega), w64 (x := (i : Int) + 1) (by omega) (by omega)]; rfl)
    (fun k o ho => by simp only [carouselref5_New.l0]; rw [if_neg (by omega)]) (List.replicate (Shp.siz d).toNat 0) k (by simp) (by omega)
  rw [tab_const] at this
  exact this
theorem rIs_f (d v : List Int) (k : Nat) (hk : 10 ≤ k) : carouselref5_Is.f k d v = some (Shp.good d && decide ((v.length : Int) = Shp.siz d)) := by
  unfold carouselref5_Is.f
  rw [rGood_f d k hk]
  simp only [Option.bind_some]
  cases h : Shp.good d
  · simp
  · rw [if_pos rfl, rSize_f d k hk]
    simp only [Option.bind_some, Bool.true_and]
    congr 1
theorem rAlike_l0 (d e v u : List Int) (hm : v.length ≤ 1000000) (hv : v.length = u.length) : ∀ (c i k : Nat), i + c = v.length → c < k → carouselref5_Alike.l0 k i d v e u = some (decide (v.drop i = u.drop i)) := by
  intro c
  induction c with
  | zero =>
    intro i k hi hk
    obtain ⟨k, rfl, -⟩ := k_succ hk
    simp only [carouselref5_Alike.l0]
    rw [if_neg (by omega), List.drop_of_length_le (by omega), List.drop_of_length_le (by omega)]
    simp
  | succ c ih =>
    intro i k hi hk
    obtain ⟨k, rfl, hk⟩ := k_succ hk
    simp only [carouselref5_Alike.l0]
    rw [if_pos (by omega), if_pos (by omega), if_pos (by omega), drop_rd v i (by omega), drop_rd u i (by omega), w64 (x := (i : Int) + 1) (by omega) (by omega)]
    have := ih (i + 1) k (by omega) (by omega)
    rw [Int.natCast_add] at this
    split
    · rename_i h
      have this' : carouselref5_Alike.l0 k ((i : Int) + 1) d v e u = _ := this
      rw [this', h]; simp
    · rename_i h; simp [h]
theorem rAlike_f (d v e u : List Int) (hd : d.length ≤ 1000000) (hv : v.length ≤ 1000000) (k : Nat) (hk1 : d.length + 1 < k) (hk2 : v.length + 1 < k) : carouselref5_Alike.f k d v e u = some (decide (d = e ∧ v = u)) := by
  unfold carouselref5_Alike.f
  obtain ⟨k, rfl⟩ : ∃ j, k = j + 1 := ⟨k - 1, by omega⟩
  rw [rSame_f d e (by omega) (k + 1) (by omega)]
  simp only [Option.bind_some, carouselref5_Alike.j0]
  by_cases c1 : d = e
  · rw [if_pos (by simp [c1])]
    by_cases c2 : v.length = u.length
    · rw [if_neg (by simp [c2])]
      have := rAlike_l0 d e v u hv c2 v.length 0 k (by omega) (by omega)
      rw [show ((0 : Nat) : Int) = 0 from rfl] at this
      rw [this]; simp [c1]
    · rw [if_pos (by simp; omega)]
      have : v ≠ u := fun h => c2 (by rw [h])
      simp [this]
  · rw [if_neg (by simp [c1])]
    simp [c1]
theorem good_len {d : List Int} (h : Shp.good d = true) : d.length ≤ 4 := (Shp.good_iff.mp h).1
theorem bmul_f (a b : Int) (a0 : 0 ≤ a) (a1 : a ≤ 18446744073709551615) (b0 : 0 ≤ b) (b1 : b ≤ 18446744073709551615) : bits_Mul.f a b = some (a * b / 18446744073709551616, a * b % 18446744073709551616) := by
  unfold bits_Mul.f
  rw [Mul64_f a b a0 a1 b0 b1]
  rfl
theorem tRepeat_f (v n : Int) (h1 : 1 ≤ n) (h2 : n ≤ 4096) : slices_Repeat_Fix.f [v] n = some (List.replicate n.toNat v) := by
  unfold slices_Repeat_Fix.f
  rw [bmul_f 1 n (by omega) (by omega) (by omega) (by omega)]
  simp only [Option.bind_some]
  rw [if_pos ⟨rfl, h1, h2, by omega, by omega⟩]
  rfl
def tnew (d : List Int) (v : Int) : List Int × List Int × Int := if Shp.good d = true then (d, List.replicate (Shp.siz d).toNat v, 0) else ([], [], 1)
theorem siz_one {d : List Int} (h : Shp.good d = true) : 1 ≤ Shp.siz d := by
  rw [Shp.siz_good h]; exact Shp.pl_pos (Shp.good_iff.mp h).2.1
theorem tNew_f (d : List Int) (v : Int) (k : Nat) (hk : 10 ≤ k) : tens_New.f k d v = some (tnew d v) := by
  unfold tens_New.f tnew
  rw [Good_f d k hk]
  simp only [Option.bind_some]
  cases h : Shp.good d
  · simp
  · have := siz_one h
    have := Shp.siz_le d
    have hl := good_len h
    rw [if_pos rfl, if_pos rfl]
    unfold slices_Clone_int_int.f
    rw [if_pos (by omega), Size_f d k hk]
    simp only [Option.bind_some]
    rw [tRepeat_f v _ (by omega) (by omega)]
    rfl
theorem bcs_drop (d : List Int) : ∀ (b : List Int) (j : Nat), Shp.bcs d b = true → Shp.bcs (d.drop j) (b.drop j) = true := by
  induction d with
  | nil => intro b j h; cases b <;> simp_all [Shp.bcs]
  | cons x d ih =>
    intro b j h
    cases b with
    | nil => simp [Shp.bcs] at h
    | cons y b =>
      cases j with
      | zero => exact h
      | succ j =>
        simp only [Shp.bcs, Bool.and_eq_true] at h
        exact ih b j h.2
theorem set_self (o : List Int) (t : Nat) (h : t < o.length) : o.set t (rd o t) = o := by
  rw [rd_get o t h]; simp
theorem set_set (o : List Int) (t : Nat) (a b : Int) : (o.set t a).set t b = o.set t b := by simp
theorem rd_drop (l : List Int) (i j : Nat) (h : i + j < l.length) : rd (l.drop i) j = rd l ((i + j : Nat) : Int) := by
  rw [rd_get _ _ (by simp; omega), rd_get _ _ h]; simp
theorem rd_strs (d : List Int) : ∀ (j : Nat), j < d.length → rd (Shp.strs d) j = Shp.pl (d.drop (j + 1)) := by
  induction d with
  | nil => intro j h; simp at h
  | cons x d ih =>
    intro j h
    cases j with
    | zero => rfl
    | succ j =>
      have := ih j (by simpa using h)
      simp only [Shp.strs, List.drop_succ_cons]
      rw [← this]
      unfold rd
      rw [show ((j + 1 : Nat) : Int).toNat = j + 1 from rfl, show ((j : Nat) : Int).toNat = j from rfl]
      simp [List.getD_eq_getElem?_getD]
theorem all_drop {l : List Int} (h : ∀ x ∈ l, 1 ≤ x) (j : Nat) : ∀ x ∈ l.drop j, 1 ≤ x := fun x hx => h x (List.mem_of_mem_drop hx)
theorem pl_drop_le {l : List Int} (h : ∀ x ∈ l, 1 ≤ x) (j : Nat) : 1 ≤ Shp.pl (l.drop j) ∧ Shp.pl (l.drop j) ≤ Shp.pl l :=
  ⟨Shp.pl_pos (all_drop h j), Shp.pl_drop h j⟩
theorem Spread_l1 (d big : List Int) (hl : d.length ≤ big.length) (hb4 : big.length ≤ 4) (hbcs : Shp.bcs d (big.drop (big.length - d.length)) = true) (hd : ∀ x ∈ d, 1 ≤ x) (hB : ∀ x ∈ big, 1 ≤ x) (hp : Shp.pl d ≤ 4096) (t : Nat) (ht : t ≤ 4096) (n : Int) :
    ∀ (j k : Nat) (o : List Int), j ≤ d.length → t < o.length → rd o t = Shp.fr (d.drop j) ((big.drop (big.length - d.length)).drop j) t →
    shape_Spread.l1 (k + j + 1) d big (Shp.strs d) ((big.length - d.length : Nat) : Int) o t ((t : Int) / Shp.pl ((big.drop (big.length - d.length)).drop j)) (((big.length - d.length : Nat) : Int) + j - 1) n t = shape_Spread.l0 k d big (Shp.strs d) ((big.length - d.length : Nat) : Int) (o.set t (Shp.fr d (big.drop (big.length - d.length)) t)) n ((t : Int) + 1) := by
  have hblen : (big.drop (big.length - d.length)).length = d.length := by simp; omega
  have hBd := all_drop hB (big.length - d.length)
  intro j
  induction j with
  | zero =>
    intro k o _ hto hr
    simp only [shape_Spread.l1]
    rw [if_neg (by omega), w64 (x := (t : Int) + 1) (by omega) (by omega)]
    simp only [List.drop_zero] at hr
    rw [← hr, set_self o t hto]
  | succ j ih =>
    intro k o hj hto hr
    have ed := drop_rd d j (by omega)
    have eb := drop_rd (big.drop (big.length - d.length)) j (by omega)
    have hx := hd _ (rd_mem d j (by omega))
    have hy := hBd _ (rd_mem _ j (show j < (big.drop (big.length - d.length)).length by omega))
    have hbj : rd (big.drop (big.length - d.length)) j = rd big ((big.length - d.length + j : Nat) : Int) := rd_drop big _ j (by omega)
    have p1 := pl_drop_le hBd (j + 1)
    have pd1 := pl_drop_le hd (j + 1)
    have pd0 := pl_drop_le hd j
    have fb := Shp.fr_bound (bcs_drop d _ (j + 1) hbcs) (all_drop hd (j + 1)) (all_drop hBd (j + 1)) (t : Int)
    have fb0 := Shp.fr_bound (bcs_drop d _ j hbcs) (all_drop hd j) (all_drop hBd j) (t : Int)
    have fc := Shp.fr_cons (rd d j) (d.drop (j + 1)) (rd (big.drop (big.length - d.length)) j) ((big.drop (big.length - d.length)).drop (j + 1)) t (by simp; omega)
    rw [← ed, ← eb] at fc
    have hst := rd_strs d j (by omega)
    have hsl := Shp.strs_length d
    have q0 : 0 ≤ (t : Int) / Shp.pl ((big.drop (big.length - d.length)).drop (j + 1)) := Int.ediv_nonneg (by omega) (by omega)
    have q1 : (t : Int) / Shp.pl ((big.drop (big.length - d.length)).drop (j + 1)) ≤ t := Int.ediv_le_self _ (by omega)
    have e10 : ((big.length - d.length : Nat) : Int) + ((j + 1 : Nat) : Int) - 1 = ((big.length - d.length + j : Nat) : Int) := by omega
    have hplj : Shp.pl ((big.drop (big.length - d.length)).drop j) = rd (big.drop (big.length - d.length)) j * Shp.pl ((big.drop (big.length - d.length)).drop (j + 1)) := by rw [eb]; rfl
    have hdiv : ((t : Int) / Shp.pl ((big.drop (big.length - d.length)).drop (j + 1))).tdiv (rd big ((big.length - d.length + j : Nat) : Int)) = (t : Int) / Shp.pl ((big.drop (big.length - d.length)).drop j) := by
      rw [Int.tdiv_eq_ediv_of_nonneg q0, hplj, ← hbj, Int.ediv_ediv_of_nonneg (by omega), Int.mul_comm]
    have hmod : ((t : Int) / Shp.pl ((big.drop (big.length - d.length)).drop (j + 1))).tmod (rd big ((big.length - d.length + j : Nat) : Int)) = (t : Int) / Shp.pl ((big.drop (big.length - d.length)).drop (j + 1)) % rd (big.drop (big.length - d.length)) j := by
      rw [Int.tmod_eq_emod_of_nonneg q0, hbj]
    have back : ((big.length - d.length + j : Nat) : Int) - 1 = ((big.length - d.length : Nat) : Int) + j - 1 := by omega
    rw [e10, show k + (j + 1) + 1 = (k + j + 1) + 1 by omega]
    generalize hK : (t : Int) / Shp.pl ((big.drop (big.length - d.length)).drop (j + 1)) = r at *
    conv => lhs; unfold shape_Spread.l1
    rw [w64 (x := ((big.length - d.length + j : Nat) : Int) - ((big.length - d.length : Nat) : Int)) (by omega) (by omega), show ((big.length - d.length + j : Nat) : Int) - ((big.length - d.length : Nat) : Int) = (j : Int) by omega]
    rw [if_pos (c := ((big.length - d.length + j : Nat) : Int) ≥ _) (by omega), if_pos (c := (0 : Int) ≤ (j : Int)) (by omega), if_pos (c := (j : Int) < (d.length : Int)) (by omega)]
    have r1 : wrap64 r = r := w64 (by omega) (by omega)
    have rq : wrap64 ((t : Int) / Shp.pl ((big.drop (big.length - d.length)).drop j)) = (t : Int) / Shp.pl ((big.drop (big.length - d.length)).drop j) := by
      have p0 := pl_drop_le hBd j
      have := Int.ediv_nonneg (show (0 : Int) ≤ t by omega) (show 0 ≤ Shp.pl ((big.drop (big.length - d.length)).drop j) by omega)
      have := Int.ediv_le_self (Shp.pl ((big.drop (big.length - d.length)).drop j)) (show (0 : Int) ≤ t by omega)
      exact w64 (by omega) (by omega)
    by_cases c : rd d j > 1
    · rw [if_pos c, if_pos (c := (0 : Int) ≤ (t : Int)) (by omega), if_pos (by omega), if_pos (by omega), if_pos (by omega), if_neg (by omega), if_pos (by omega), hmod, hst, hdiv, rq, w64 (x := ((big.length - d.length + j : Nat) : Int) - 1) (by omega) (by omega), back]
      have m0 := Int.emod_nonneg r (show rd (big.drop (big.length - d.length)) j ≠ 0 by omega)
      rw [if_neg (show ¬ rd d j = 1 by omega)] at fc
      have hs0 := Int.mul_nonneg m0 (show 0 ≤ Shp.pl (d.drop (j + 1)) by omega)
      rw [w64 (x := r % rd (big.drop (big.length - d.length)) j * Shp.pl (d.drop (j + 1))) (by omega) (by omega), hr, w64 (by omega) (by omega), show (t : Int).toNat = t from rfl]
      rw [ih k _ (by omega) (by simpa using hto) (by rw [rd_set _ _ _ hto, fc]; omega), set_set]
    · have x1 : rd d j = 1 := by omega
      rw [if_pos x1] at fc
      rw [if_neg c, if_pos (by omega), if_pos (by omega), if_neg (by omega), hdiv, rq, w64 (x := ((big.length - d.length + j : Nat) : Int) - 1) (by omega) (by omega), back]
      rw [ih k _ (by omega) hto (by rw [hr, fc]; omega)]
def frv (d big : List Int) (t : Nat) : Int := Shp.fr d (big.drop (big.length - d.length)) t
theorem Spread_l0 (d big : List Int) (hl : d.length ≤ big.length) (hb4 : big.length ≤ 4) (hbcs : Shp.bcs d (big.drop (big.length - d.length)) = true) (hd : ∀ x ∈ d, 1 ≤ x) (hB : ∀ x ∈ big, 1 ≤ x) (hp : Shp.pl d ≤ 4096) (n : Nat) (hn : (n : Int) = Shp.pl big) (hn2 : n ≤ 4096) :
    ∀ (c t k : Nat), t + c = n → 10 + c * 6 ≤ k → shape_Spread.l0 k d big (Shp.strs d) ((big.length - d.length : Nat) : Int) (tab t (frv d big) ++ List.replicate c 0) n t = some (tab n (frv d big)) := by
  intro c
  induction c with
  | zero =>
    intro t k h hk
    obtain ⟨k, rfl⟩ : ∃ m, k = m + 1 := ⟨k - 1, by omega⟩
    simp only [shape_Spread.l0]
    rw [if_neg (by omega), show t = n by omega]; simp
  | succ c ih =>
    intro t k h hk
    have hlen : (tab t (frv d big) ++ List.replicate (c + 1) 0).length = n := by simp [tab_length]; omega
    obtain ⟨k, rfl⟩ : ∃ m, k = m + (d.length + 2) := ⟨k - (d.length + 2), by omega⟩
    have e : k + (d.length + 2) = (k + d.length + 1) + 1 := by omega
    rw [e]
    simp only [shape_Spread.l0]
    have hdr : ∀ l : List Int, l.drop l.length = [] := fun l => List.drop_length ..
    have hbl : (big.drop (big.length - d.length)).length = d.length := by simp; omega
    have hz : rd (tab t (frv d big) ++ List.replicate (c + 1) 0) t = 0 := by
      rw [rd_get _ _ (by omega), List.getElem_append_right (by simp [tab_length])]; simp
    have hbig : (big.drop (big.length - d.length)).drop d.length = [] := by
      have := hdr (big.drop (big.length - d.length)); rw [hbl] at this; exact this
    have h0 : Shp.fr (d.drop d.length) ((big.drop (big.length - d.length)).drop d.length) t = 0 := by rw [hbig, hdr]; rfl
    have := Spread_l1 d big hl hb4 hbcs hd hB hp t (by omega) n d.length k (tab t (frv d big) ++ List.replicate (c + 1) 0) (Nat.le_refl _) (by omega) (by rw [hz, h0])
    rw [hbig, show Shp.pl [] = 1 from rfl, Int.ediv_one, show ((big.length - d.length : Nat) : Int) + (d.length : Int) - 1 = (big.length : Int) - 1 by omega] at this
    rw [if_pos (by omega), w64 (x := (big.length : Int) - 1) (by omega) (by omega), this]
    have e2 : (tab t (frv d big) ++ List.replicate (c + 1) 0).set t (Shp.fr d (big.drop (big.length - d.length)) t) = tab (t + 1) (frv d big) ++ List.replicate c 0 := by
      rw [List.set_append_right _ _ (by simp [tab_length]), tab_length, Nat.sub_self, tab_succ, List.replicate_succ]
      simp [frv]
    rw [e2]
    have := ih (t + 1) k (by omega) (by omega)
    rw [Int.natCast_add] at this
    exact this
theorem Spread_f (d big : List Int) (h : Shp.join d big = (big, 0)) (k : Nat) (hk : 24600 ≤ k) : shape_Spread.f k d big = some (tab (Shp.siz big).toNat (frv d big)) := by
  obtain ⟨g1, g2, hl, hb⟩ := Shp.join_big'.mp h
  have i1 := Shp.good_iff.mp g1
  have i2 := Shp.good_iff.mp g2
  have s0 := Shp.siz_nonneg big
  have s1 := Shp.siz_le big
  have sg := Shp.siz_good g2
  unfold shape_Spread.f
  rw [Strides_f d k (by omega), if_pos g1, Option.bind_some, Size_f big k (by omega), Option.bind_some, if_pos s0, if_pos (by omega), Option.bind_some, w64 (x := (big.length : Int) - (d.length : Int)) (by omega) (by omega), List.length_replicate]
  have := Spread_l0 d big hl i2.1 hb i1.2.1 i2.2.1 i1.2.2 (Shp.siz big).toNat (by omega) (by omega) (Shp.siz big).toNat 0 k (by omega) (by omega)
  rw [show ((big.length - d.length : Nat) : Int) = (big.length : Int) - (d.length : Int) by omega] at this
  exact this
theorem join_parts {a b : List Int} (h : (Shp.join a b).2 = 0) : Shp.join a (Shp.join a b).1 = ((Shp.join a b).1, 0) ∧ Shp.join b (Shp.join a b).1 = ((Shp.join a b).1, 0) ∧ Shp.good (Shp.join a b).1 = true := by
  have e : Shp.join a b = ((Shp.join a b).1, 0) := by rw [← h]
  have h1 := Shp.join_again e
  have e2 := (Shp.join_comm b a).trans e
  have h2 := Shp.join_again e2
  exact ⟨(Shp.join_comm a _).trans h1, (Shp.join_comm b _).trans h2, (Shp.join_zero e).2.2.1⟩
theorem frv_bound {d big : List Int} (h : Shp.join d big = (big, 0)) (t : Nat) : 0 ≤ frv d big t ∧ frv d big t < Shp.siz d := by
  obtain ⟨g1, g2, hl, hb⟩ := Shp.join_big'.mp h
  rw [Shp.siz_good g1]
  exact Shp.fr_bound hb (Shp.good_iff.mp g1).2.1 (all_drop (Shp.good_iff.mp g2).2.1 _) t
theorem frm_in {d big : List Int} (h : Shp.join d big = (big, 0)) (t : Nat) (ht : (t : Int) < Shp.siz big) : Shp.frm d big t = (frv d big t, true) := by
  unfold Shp.frm; rw [if_pos ⟨h, by omega, ht⟩]; rfl
theorem great_f (d v : List Int) (n : Int) : carousellaw6_great.f d v n = some (decide ((d.length : Int) > 10) || decide ((v.length : Int) > n)) := by
  unfold carousellaw6_great.f
  by_cases c : (d.length : Int) > 10
  · rw [if_pos c, decide_eq_true c]; rfl
  · rw [if_neg c, decide_eq_false c]; rfl
/-- what stands where, of sides that change places -/
def isperm (p : List Int) : Prop := ∀ i : Nat, i < p.length → (i : Int) ∈ p
instance (p : List Int) : Decidable (isperm p) := by unfold isperm; infer_instance
def rgi (n : Nat) : List Int := tab n (fun i => (i : Int))
theorem sub_perm : ∀ (l1 l2 : List Int), l1.Nodup → l1 ⊆ l2 → ∃ l, l2.Perm (l1 ++ l) := by
  intro l1
  induction l1 with
  | nil => intro l2 _ _; exact ⟨l2, List.Perm.refl _⟩
  | cons a l1 ih =>
    intro l2 hn hs
    have ha : a ∈ l2 := hs (List.mem_cons_self ..)
    rw [List.nodup_cons] at hn
    obtain ⟨l, hl⟩ := ih (l2.erase a) hn.2 (fun b hb => (List.mem_erase_of_ne (fun e => hn.1 (by rw [← e]; exact hb))).2 (hs (List.mem_cons_of_mem _ hb)))
    exact ⟨l, (List.perm_cons_erase ha).trans (hl.cons a)⟩
theorem rgi_nodup (n : Nat) : (rgi n).Nodup := by
  unfold rgi tab
  exact List.Pairwise.map _ (fun a b (h : a ≠ b) e => h (by omega)) List.nodup_range
theorem rgi_mem {n : Nat} {x : Int} : x ∈ rgi n ↔ 0 ≤ x ∧ x < n := by
  unfold rgi tab
  rw [List.mem_map]
  constructor
  · rintro ⟨i, hi, rfl⟩
    have := List.mem_range.1 hi
    omega
  · rintro ⟨h0, h1⟩
    exact ⟨x.toNat, List.mem_range.2 (by omega), by omega⟩
theorem isperm_perm {p : List Int} (h : isperm p) : p.Perm (rgi p.length) := by
  obtain ⟨l, hl⟩ := sub_perm (rgi p.length) p (rgi_nodup _) (fun x hx => by
    have := rgi_mem.1 hx
    have := h x.toNat (by omega)
    rwa [Int.toNat_of_nonneg (by omega)] at this)
  have e := hl.length_eq
  have e2 : (rgi p.length).length = p.length := tab_length _ _
  rw [List.length_append, e2] at e
  have : l = [] := List.length_eq_zero_iff.1 (by omega)
  rw [this, List.append_nil] at hl
  exact hl
theorem isperm_mem {p : List Int} (h : isperm p) {x : Int} (hx : x ∈ p) : 0 ≤ x ∧ x < p.length := rgi_mem.1 ((isperm_perm h).mem_iff.1 hx)
theorem isperm_rd {p : List Int} (h : isperm p) (j : Nat) (hj : j < p.length) : 0 ≤ rd p j ∧ rd p j < p.length := isperm_mem h (rd_mem p j hj)
theorem isperm_nodup {p : List Int} (h : isperm p) : p.Nodup := (isperm_perm h).symm.nodup (rgi_nodup _)
theorem idx_lt {p : List Int} (h : isperm p) (i : Nat) (hi : i < p.length) : p.idxOf (i : Int) < p.length := List.idxOf_lt_length_of_mem (h i hi)
theorem rd_idx {p : List Int} (h : isperm p) (i : Nat) (hi : i < p.length) : rd p (p.idxOf (i : Int) : Nat) = i := by
  rw [rd_get _ _ (idx_lt h i hi)]
  exact List.getElem_idxOf (idx_lt h i hi)
theorem idx_rd {p : List Int} (h : isperm p) (j : Nat) (hj : j < p.length) : p.idxOf (rd p j) = j := by
  have hm := rd_mem p j hj
  have h1 := List.idxOf_lt_length_of_mem hm
  have h2 : p[p.idxOf (rd p j)] = rd p j := List.getElem_idxOf h1
  have h3 : p[p.idxOf (rd p j)] = p[j] := h2.trans (rd_get p j hj)
  have h4 : p[p.idxOf (rd p j)]? = p[j]? := by rw [List.getElem?_eq_getElem h1, List.getElem?_eq_getElem hj, h3]
  exact (List.getElem?_inj h1 (isperm_nodup h)).1 h4
/-- the sides in their new order -/
def turnd (p d : List Int) : List Int := tab p.length (fun j => rd d (rd p j))
/-- a place in the new order, as a place in the old one -/
def scat (p q : List Int) : List Int := tab p.length (fun i => rd q (p.idxOf (i : Int) : Nat))
theorem turnd_length (p d : List Int) : (turnd p d).length = p.length := tab_length _ _
theorem scat_length (p q : List Int) : (scat p q).length = p.length := tab_length _ _
theorem rd_turnd {p d : List Int} (j : Nat) (hj : j < p.length) : rd (turnd p d) j = rd d (rd p j) := rd_tab _ _ _ hj
theorem rd_scat {p q : List Int} (i : Nat) (hi : i < p.length) : rd (scat p q) i = rd q (p.idxOf (i : Int) : Nat) := rd_tab _ _ _ hi
theorem turnd_perm {p d : List Int} (h : isperm p) (hd : d.length = p.length) : (turnd p d).Perm d := by
  have e1 : turnd p d = p.map (fun x => rd d x) := tab_map (fun x => rd d x) p
  have e2 : (rgi p.length).map (fun x => rd d x) = d := by
    have := tab_rd d
    rw [hd] at this
    conv => rhs; rw [← this]
    unfold rgi tab
    rw [List.map_map]; rfl
  rw [e1]
  have := (isperm_perm h).map (fun x => rd d x)
  rw [e2] at this
  exact this
theorem pl_perm {a b : List Int} (h : a.Perm b) : Shp.pl a = Shp.pl b := by
  induction h with
  | nil => rfl
  | cons x _ ih => simp only [Shp.pl, ih]
  | swap x y l => simp only [Shp.pl]; rw [Int.mul_left_comm]
  | trans _ _ ih1 ih2 => rw [ih1, ih2]
theorem turnd_good {p d : List Int} (h : isperm p) (hd : d.length = p.length) (hg : Shp.good d = true) : Shp.good (turnd p d) = true := by
  have hp := turnd_perm h hd
  have g := Shp.good_iff.mp hg
  exact Shp.good_iff.mpr ⟨by rw [hp.length_eq]; exact g.1, fun x hx => g.2.1 x (hp.mem_iff.1 hx), by rw [pl_perm hp]; exact g.2.2⟩
theorem turnd_siz {p d : List Int} (h : isperm p) (hd : d.length = p.length) (hg : Shp.good d = true) : Shp.siz (turnd p d) = Shp.siz d := by
  rw [Shp.siz_good hg, Shp.siz_good (turnd_good h hd hg), pl_perm (turnd_perm h hd)]
theorem ins_idx (d : List Int) : ∀ q : List Int, Shp.ins d q = true ↔ q.length = d.length ∧ ∀ i : Nat, i < d.length → 0 ≤ rd q i ∧ rd q i < rd d i := by
  induction d with
  | nil =>
    intro q
    cases q with
    | nil => simp [Shp.ins]
    | cons y q => simp [Shp.ins]
  | cons x d ih =>
    intro q
    cases q with
    | nil => simp [Shp.ins]
    | cons y q =>
      simp only [Shp.ins, Bool.and_eq_true, decide_eq_true_eq, ih q, List.length_cons, Nat.add_right_cancel_iff]
      have e0 : ∀ (z : Int) (l : List Int), rd (z :: l) ((0 : Nat) : Int) = z := fun _ _ => rfl
      have es : ∀ (z : Int) (l : List Int) (i : Nat), rd (z :: l) ((i + 1 : Nat) : Int) = rd l i := fun z l i => by
        unfold rd
        rw [Int.toNat_natCast, Int.toNat_natCast]
        simp [List.getD_eq_getElem?_getD]
      constructor
      · rintro ⟨h1, h1', h2, h3⟩
        refine ⟨h2, fun i hi => ?_⟩
        cases i with
        | zero => rw [e0, e0]; exact ⟨h1, h1'⟩
        | succ i => rw [es, es]; exact h3 i (by omega)
      · rintro ⟨h1, h2⟩
        have h0 := h2 0 (by omega)
        rw [e0, e0] at h0
        refine ⟨h0.1, h0.2, h1, fun i hi => ?_⟩
        have := h2 (i + 1) (by omega)
        rwa [es, es] at this
theorem ins_scat {p d q : List Int} (h : isperm p) (hd : d.length = p.length) (hq : Shp.ins (turnd p d) q = true) : Shp.ins d (scat p q) = true := by
  rw [ins_idx] at hq ⊢
  rw [turnd_length] at hq
  refine ⟨by rw [scat_length, hd], fun i hi => ?_⟩
  have hl := idx_lt h i (by omega)
  have := hq.2 (p.idxOf (i : Int)) hl
  rw [rd_turnd _ hl, rd_idx h i (by omega)] at this
  rw [rd_scat i (by omega)]
  exact this
/-- the numbers of a tensor whose sides change places -/
def turnv (p d v : List Int) : List Int := tab (Shp.siz d).toNat (fun t => rd v (Shp.mr 0 d (scat p (Shp.pla t (turnd p d)))))
theorem Index_l0 (l : List Int) (x : Int) (hm : l.length ≤ 1000000) : ∀ (c i k : Nat), i + c = l.length → c < k → ∃ r, slices_Index_int_int.l0 k l x l.length i = some r ∧ decide (r ≥ 0) = decide (x ∈ l.drop i) := by
  intro c
  induction c with
  | zero =>
    intro i k hi hk
    obtain ⟨k, rfl, -⟩ := k_succ hk
    simp only [slices_Index_int_int.l0]
    rw [if_neg (by omega), List.drop_of_length_le (by omega)]
    exact ⟨_, rfl, by simp⟩
  | succ c ih =>
    intro i k hi hk
    obtain ⟨k, rfl, hk⟩ := k_succ hk
    simp only [slices_Index_int_int.l0]
    rw [if_pos (by omega), if_pos (by omega), if_pos (by omega), drop_rd l i (by omega), w64 (x := (i : Int) + 1) (by omega) (by omega)]
    by_cases c0 : x = rd l i
    · rw [if_pos c0]
      exact ⟨_, rfl, by rw [decide_eq_true (show ((i : Int) ≥ 0) by omega)]; simp [c0]⟩
    · rw [if_neg c0]
      obtain ⟨r, h1, h2⟩ := ih (i + 1) k (by omega) (by omega)
      rw [Int.natCast_add] at h1
      refine ⟨r, h1, ?_⟩
      rw [h2]; simp [c0]
theorem Contains_f (l : List Int) (x : Int) (hm : l.length ≤ 1000000) (k : Nat) (hk : l.length < k) : slices_Contains_int_int.f k l x = some (decide (x ∈ l)) := by
  unfold slices_Contains_int_int.f slices_Index_int_int.f
  obtain ⟨r, h1, h2⟩ := Index_l0 l x hm l.length 0 k (by omega) hk
  rw [show ((0 : Nat) : Int) = 0 from rfl] at h1
  rw [h1, Option.bind_some, h2]; simp
theorem permutes_l0 (p : List Int) (hm : p.length ≤ 1000) : ∀ (c i k : Nat), i + c = p.length → c + p.length + 2 ≤ k → tens_permutes.l0 k p p.length i = some (decide (∀ j : Nat, j < p.length → i ≤ j → (j : Int) ∈ p)) := by
  intro c
  induction c with
  | zero =>
    intro i k hi hk
    obtain ⟨k, rfl⟩ : ∃ m, k = m + 1 := ⟨k - 1, by omega⟩
    simp only [tens_permutes.l0]
    rw [if_neg (by omega), decide_eq_true (fun j h1 h2 => by omega)]
  | succ c ih =>
    intro i k hi hk
    obtain ⟨k, rfl⟩ : ∃ m, k = m + 1 := ⟨k - 1, by omega⟩
    simp only [tens_permutes.l0]
    rw [if_pos (by omega), Contains_f p _ (by omega) k (by omega), Option.bind_some, w64 (x := (i : Int) + 1) (by omega) (by omega)]
    by_cases c0 : (i : Int) ∈ p
    · rw [if_pos (decide_eq_true c0)]
      have := ih (i + 1) k (by omega) (by omega)
      rw [Int.natCast_add] at this
      have t' : tens_permutes.l0 k p p.length ((i : Int) + 1) = _ := this
      rw [t']
      congr 1
      rw [decide_eq_decide]
      exact ⟨fun h j h1 h2 => by
        by_cases e : j = i
        · subst e; exact c0
        · exact h j h1 (by omega), fun h j h1 h2 => h j h1 (by omega)⟩
    · rw [if_neg (by simp [c0]), decide_eq_false (fun h => c0 (h i (by omega) (Nat.le_refl _)))]
theorem permutes_f (p : List Int) (n : Nat) (hn : n ≤ 100) (k : Nat) (hk : 300 ≤ k) : tens_permutes.f k p n = some (decide (p.length = n ∧ isperm p)) := by
  unfold tens_permutes.f
  by_cases c : p.length = n
  · subst c
    rw [if_pos rfl]
    have := permutes_l0 p (by omega) p.length 0 k (by omega) (by omega)
    rw [show ((0 : Nat) : Int) = 0 from rfl] at this
    rw [this]
    congr 1
    rw [decide_eq_decide]
    exact ⟨fun h => ⟨rfl, fun i hi => h i hi (by omega)⟩, fun h j hj _ => h.2 j hj⟩
  · rw [if_neg (by omega), decide_eq_false (fun h => c h.1)]
theorem loop_setK {R : Type} (L : Nat → Int → List Int → Option R) (n : Nat) (g : Nat → Int)
    (step : ∀ k (i : Nat) o, i < n → o.length = n → L (k + 1) (i : Int) o = L k ((i : Int) + 1) (o.set i (g i))) :
    ∀ (c i : Nat) (o : List Int) (k : Nat), i + c = n → o.length = n → c ≤ k → L k (i : Int) o = L (k - c) n (o.take i ++ (List.range' i c).map g) := by
  intro c
  induction c with
  | zero =>
    intro i o k hi ho hk
    rw [show i = n by omega, List.take_of_length_le (by omega)]
    simp
  | succ c ih =>
    intro i o k hi ho hk
    obtain ⟨k, rfl⟩ : ∃ j, k = j + 1 := ⟨k - 1, by omega⟩
    rw [step k i o (by omega) ho]
    have := ih (i + 1) (o.set i (g i)) k (by omega) (by simpa using ho) (by omega)
    rw [Int.natCast_add] at this
    rw [show ((i : Int) + 1) = (i : Int) + ((1 : Nat) : Int) from rfl, this, set_take' o i _ (by omega), List.range'_succ, show k + 1 - (c + 1) = k - c by omega]
    simp
theorem loop_set0K {R : Type} (L : Nat → Int → List Int → Option R) (n : Nat) (g : Nat → Int) (fin : List Int → Option R)
    (step : ∀ k (i : Nat) o, i < n → o.length = n → L (k + 1) (i : Int) o = L k ((i : Int) + 1) (o.set i (g i))) (k : Nat) (o : List Int) (ho : o.length = n) (hk : n ≤ k)
    (stop : L (k - n) n (tab n g) = fin (tab n g)) : L k 0 o = fin (tab n g) := by
  have := loop_setK L n g step n 0 o k (by omega) ho hk
  simp only [List.take_zero, List.nil_append] at this
  rw [show ((0 : Nat) : Int) = 0 from rfl, ← List.range_eq_range', show (List.range n).map g = tab n g from rfl, stop] at this
  exact this
/-- a tensor whose sides change places -/
def tturn (d v p : List Int) : List Int × List Int × Int :=
  if (Shp.good d && decide ((v.length : Int) = Shp.siz d)) = true ∧ p.length = d.length ∧ isperm p then (turnd p d, turnv p d v, 0) else ([], [], 1)
theorem scat_of {p q : List Int} (h : isperm p) {o : List Int} (ho : o.length = p.length) (e : ∀ j : Nat, j < p.length → rd o (rd p j) = rd q j) : o = scat p q := by
  apply rd_ext
  · rw [ho, scat_length]
  · intro i hi
    rw [ho] at hi
    have := e (p.idxOf (i : Int)) (idx_lt h i hi)
    rw [rd_idx h i hi] at this
    rw [this, rd_scat i hi]
theorem rd_set_ne (l : List Int) (i : Nat) (j : Int) (x : Int) (h0 : 0 ≤ j) (h : j ≠ i) : rd (l.set i x) j = rd l j := by
  unfold rd
  have : i ≠ j.toNat := by omega
  simp [List.getD_eq_getElem?_getD, List.getElem?_set, this]
theorem isperm_inj {p : List Int} (h : isperm p) {i j : Nat} (hi : i < p.length) (hj : j < p.length) (e : rd p i = rd p j) : i = j := by
  have a := idx_rd h i hi
  rw [e, idx_rd h j hj] at a
  exact a.symm
theorem Turn_l2 (p d v q : List Int) (h : isperm p) (hd : d.length = p.length) (hp4 : p.length ≤ 4) (hg : Shp.good d = true) (hv : (v.length : Int) = Shp.siz d) (x6 : List Int) (n t : Int) (dd : List Int)
    (hq : Shp.ins (turnd p d) q = true) (N : Nat) (hN : (N : Int) < 4096) (od : List Int) (ho : N < od.length) :
    ∀ (c j k : Nat) (o : List Int), j + c = p.length → o.length = p.length → (∀ i : Nat, i < j → rd o (rd p i) = rd q i) → c + 12 ≤ k →
    tens_Turn.l2 k p x6 N q o n N p p.length j d v dd od = tens_Turn.l1 (k - c - 1) p x6 n ((N : Int) + 1) d v dd (od.set N (rd v (Shp.mr 0 d (scat p q)))) := by
  have hql : q.length = p.length := by rw [Shp.ins_length _ _ hq, turnd_length]
  intro c
  induction c with
  | zero =>
    intro j k o hj ho' e hk
    obtain ⟨k, rfl⟩ : ∃ m, k = m + 1 := ⟨k - 1, by omega⟩
    have hs : o = scat p q := scat_of h ho' (fun i hi => e i (by omega))
    have hin := ins_scat h hd hq
    have gi := Shp.good_iff.mp hg
    have sg := Shp.siz_good hg
    have hb := Shp.mr_bound _ _ hin gi.2.1
    simp only [tens_Turn.l2]
    rw [if_neg (by omega), At_f d o k (by omega), Option.bind_some, hs]
    unfold Shp.att
    rw [if_pos (c := _ ∧ _) ⟨hg, hin⟩]
    simp only []
    rw [if_pos hb.1, if_pos (by omega), if_pos (Int.natCast_nonneg N), if_pos (by omega), w64 (x := (N : Int) + 1) (by omega) (by omega)]
    rfl
  | succ c ih =>
    intro j k o hj ho' e hk
    obtain ⟨k, rfl⟩ : ∃ m, k = m + 1 := ⟨k - 1, by omega⟩
    have b := isperm_rd h j (by omega)
    simp only [tens_Turn.l2]
    rw [if_pos (by omega), if_pos (Int.natCast_nonneg j), if_pos (by omega), if_pos (by omega), if_pos b.1, if_pos (by omega), w64 (x := (j : Int) + 1) (by omega) (by omega)]
    have := ih (j + 1) k (o.set (rd p j).toNat (rd q j)) (by omega) (by simpa using ho') (fun i hi => by
      have bi := isperm_rd h i (by omega)
      by_cases e1 : i = j
      · subst e1
        have := rd_set o (rd p i).toNat (rd q i) (by omega)
        rw [Int.toNat_of_nonneg bi.1] at this
        exact this
      · have hne : rd p i ≠ ((rd p j).toNat : Int) := fun e2 => e1 (isperm_inj h (by omega) (by omega) (by omega))
        rw [rd_set_ne _ _ _ _ bi.1 hne]
        exact e i (by omega)) (by omega)
    rw [Int.natCast_add] at this
    rw [show k + 1 - (c + 1) - 1 = k - c - 1 by omega]
    exact this
theorem Turn_l1 (p d v : List Int) (h : isperm p) (hd : d.length = p.length) (hp4 : p.length ≤ 4) (hg : Shp.good d = true) (hv : (v.length : Int) = Shp.siz d) (dd : List Int) (n : Nat) (hn : (n : Int) = Shp.siz d) :
    ∀ (c t k : Nat) (od : List Int), t + c = n → od.length = n → od.take t = tab t (fun t => rd v (Shp.mr 0 d (scat p (Shp.pla t (turnd p d))))) → c * 20 + 20 ≤ k →
    tens_Turn.l1 k p (turnd p d) n t d v dd od = some (dd, tab n (fun t => rd v (Shp.mr 0 d (scat p (Shp.pla t (turnd p d))))), 0) := by
  have ss := turnd_siz h hd hg
  have sl := Shp.siz_le d
  have gt := turnd_good h hd hg
  have gti := Shp.good_iff.mp gt
  intro c
  induction c with
  | zero =>
    intro t k od hj ho e hk
    obtain ⟨k, rfl⟩ : ∃ m, k = m + 1 := ⟨k - 1, by omega⟩
    simp only [tens_Turn.l1]
    have ht : t = n := by omega
    subst ht
    rw [if_neg (by omega), ← e, List.take_of_length_le (by omega)]
  | succ c ih =>
    intro t k od hj ho e hk
    obtain ⟨k, rfl⟩ : ∃ m, k = m + 1 := ⟨k - 1, by omega⟩
    simp only [tens_Turn.l1]
    rw [if_pos (by omega), Place_f _ _ k (by omega), Option.bind_some]
    unfold Shp.plc
    rw [if_pos (c := _ ∧ _) ⟨by omega, by rw [ss]; omega⟩]
    simp only []
    rw [if_pos (Int.natCast_nonneg _), if_pos (by omega)]
    have hin := Shp.ins_pla (turnd p d) gti.2.1 (t : Int)
    have := Turn_l2 p d v (Shp.pla t (turnd p d)) h hd hp4 hg hv (turnd p d) n t dd hin t (by omega) od (by omega) p.length 0 k (List.replicate p.length 0) (by omega) (by simp) (fun i hi => by omega) (by omega)
    rw [show ((0 : Nat) : Int) = 0 from rfl] at this
    rw [Int.toNat_natCast, this]
    have := ih (t + 1) (k - p.length - 1) (od.set t (rd v (Shp.mr 0 d (scat p (Shp.pla t (turnd p d)))))) (by omega) (by simpa using ho) (by
      rw [set_take' od t _ (by omega), e, tab_succ]) (by omega)
    rw [Int.natCast_add] at this
    exact this
theorem tTurn_f (d v p : List Int) (hp : p.length ≤ 100) (k : Nat) (hk : 82000 ≤ k) : tens_Turn.f k d v p = some (tturn d v p) := by
  have oth : ∀ k, tens_Turn.j0 (k + 1) p true d v = some ([], [], 1) := fun k => by simp only [tens_Turn.j0]; rw [if_pos trivial]
  obtain ⟨k, rfl⟩ : ∃ m, k = m + 1 := ⟨k - 1, by omega⟩
  unfold tens_Turn.f tturn
  rw [tGood_f d v _ (by omega), Option.bind_some]
  by_cases c1 : (Shp.good d && decide ((v.length : Int) = Shp.siz d)) = true
  rotate_left
  · rw [if_neg c1, oth, if_neg (fun h => c1 h.1)]
  have hg : Shp.good d = true := by simp only [Bool.and_eq_true] at c1; exact c1.1
  have hv : (v.length : Int) = Shp.siz d := by simp only [Bool.and_eq_true, decide_eq_true_eq] at c1; exact c1.2
  have dl := good_len hg
  rw [if_pos c1, permutes_f p d.length (by omega) _ (by omega), Option.bind_some]
  by_cases c2 : p.length = d.length ∧ isperm p
  rotate_left
  · rw [decide_eq_false c2, if_neg (c := _ ∧ _) (fun h => c2 h.2)]
    exact oth k
  rw [if_pos (c := _ ∧ _) ⟨c1, c2⟩, decide_eq_true c2]
  obtain ⟨hl, h⟩ := c2
  simp only [Bool.not_true, tens_Turn.j0]
  rw [if_neg (by simp), if_pos (Int.natCast_nonneg _), if_pos (by omega)]
  have s0 := Shp.siz_nonneg d
  have s1 := Shp.siz_le d
  have ss := turnd_siz h hl.symm hg
  have gt := turnd_good h hl.symm hg
  have := loop_set0K (fun k i o => tens_Turn.l0 k p o p (p.length : Int) i d v) p.length (fun j => rd d (rd p j)) (fun o => tens_Turn.l0 (k - p.length) p o p (p.length : Int) p.length d v)
    (fun k i o hi ho => by
      have b := isperm_rd h i hi
      simp only [tens_Turn.l0]
      rw [if_pos (by omega), if_pos (Int.natCast_nonneg i), if_pos (by omega), if_pos b.1, if_pos (by omega), if_pos (by omega), w64 (x := (i : Int) + 1) (by omega) (by omega)]
      rfl) k (List.replicate p.length 0) (by simp) (by omega) rfl
  rw [Int.toNat_natCast, this, show tab p.length (fun j => rd d (rd p j)) = turnd p d from rfl]
  obtain ⟨k', hk'⟩ : ∃ m, k - p.length = m + 1 := ⟨k - p.length - 1, by omega⟩
  rw [hk']
  simp only [tens_Turn.l0]
  rw [if_neg (by omega), tNew_f _ _ k' (by omega), Option.bind_some]
  unfold tnew
  rw [if_pos gt]
  simp only []
  rw [List.length_replicate, ss]
  have hn : ((Shp.siz d).toNat : Int) = Shp.siz d := Int.toNat_of_nonneg s0
  have := Turn_l1 p d v h hl.symm (by omega) hg hv (turnd p d) (Shp.siz d).toNat hn (Shp.siz d).toNat 0 k' (List.replicate (Shp.siz d).toNat 0) (by omega) (by simp) (by simp [tab]) (by omega)
  rw [show ((0 : Nat) : Int) = 0 from rfl] at this
  rw [this]
  rfl
def tresh (d v e : List Int) : List Int × List Int × Int :=
  if (Shp.good d && decide ((v.length : Int) = Shp.siz d)) = true ∧ Shp.good e = true then (if Shp.siz e = v.length then (e, v, 0) else ([], [], 4)) else ([], [], 1)
theorem tReshape_f (d v e : List Int) (k : Nat) (hk : 20 ≤ k) : tens_Reshape.f k d v e = some (tresh d v e) := by
  have oth : ∀ k, tens_Reshape.j0 (k + 1) e true d v = some ([], [], 1) := fun k => by simp only [tens_Reshape.j0]; rw [if_pos trivial]
  obtain ⟨k, rfl⟩ : ∃ m, k = m + 1 := ⟨k - 1, by omega⟩
  unfold tens_Reshape.f tresh
  rw [tGood_f d v _ (by omega), Option.bind_some]
  by_cases c1 : (Shp.good d && decide ((v.length : Int) = Shp.siz d)) = true
  rotate_left
  · rw [if_neg c1, oth, if_neg (fun h => c1 h.1)]
  rw [if_pos c1, Good_f e _ (by omega), Option.bind_some]
  by_cases c2 : Shp.good e = true
  rotate_left
  · rw [if_neg (c := _ ∧ _) (fun h => c2 h.2), show Shp.good e = false by simpa using c2]
    exact oth k
  rw [if_pos (c := _ ∧ _) ⟨c1, c2⟩, c2]
  simp only [Bool.not_true, tens_Reshape.j0]
  rw [if_neg (by simp), Size_f e k (by omega), Option.bind_some]
  have hv : (v.length : Int) = Shp.siz d := by simp only [Bool.and_eq_true, decide_eq_true_eq] at c1; exact c1.2
  have s1 := Shp.siz_le d
  have dl := good_len c2
  by_cases c3 : Shp.siz e = (v.length : Int)
  · rw [if_pos c3, if_pos c3]
    unfold slices_Clone_int_int.f slices_Clone_Fix.f
    rw [if_pos (by omega), if_pos (by omega)]
    rfl
  · rw [if_neg c3, if_neg c3]
/-- a tensor, scaled -/
def tscale (d v : List Int) (m : Int) : List Int × List Int × Int :=
  if (Shp.good d && decide ((v.length : Int) = Shp.siz d)) = true then (d, tab v.length (fun i => Fx.mul (rd v i) m), 0) else ([], [], 1)
theorem rd_ok' {v : List Int} (hv : ∀ x ∈ v, Fx.ok x) (i : Nat) (h : i < v.length) : Fx.ok (rd v i) := hv _ (rd_mem v i h)
theorem Scale_l0 (d v : List Int) (m : Int) (hv : ∀ x ∈ v, Fx.ok x) (hm : Fx.ok m) (hl : v.length ≤ 100000) :
    ∀ (c i k : Nat) (o : List Int), i + c = v.length → o.length = v.length → (∀ j : Nat, i ≤ j → j < v.length → rd o j = rd v j) → o.take i = tab i (fun t => Fx.mul (rd v t) m) → c + 5000 ≤ k →
    tens_Scale.l0 k m v.length i d o = some (d, tab v.length (fun t => Fx.mul (rd v t) m), 0) := by
  intro c
  induction c with
  | zero =>
    intro i k o hi ho _ ht hk
    obtain ⟨k, rfl⟩ : ∃ m, k = m + 1 := ⟨k - 1, by omega⟩
    simp only [tens_Scale.l0]
    have : i = v.length := by omega
    subst this
    rw [if_neg (by omega), ← ht, List.take_of_length_le (by omega)]
  | succ c ih =>
    intro i k o hi ho hr ht hk
    obtain ⟨k, rfl⟩ : ∃ m, k = m + 1 := ⟨k - 1, by omega⟩
    simp only [tens_Scale.l0]
    rw [if_pos (by omega), if_pos (by omega), if_pos (by omega), hr i (by omega) (by omega), fmul_f _ _ (rd_ok' hv i (by omega)) hm k (by omega), Option.bind_some, w64 (x := (i : Int) + 1) (by omega) (by omega)]
    have := ih (i + 1) k (o.set i (Fx.mul (rd v i) m)) (by omega) (by simpa using ho) (fun j h1 h2 => by
      rw [rd_set_ne o i (j : Int) _ (by omega) (by omega)]; exact hr j (by omega) h2) (by rw [set_take' o i _ (by omega), ht, tab_succ]) (by omega)
    rw [Int.natCast_add] at this
    exact this
theorem tScale_f (d v : List Int) (m : Int) (hv : ∀ x ∈ v, Fx.ok x) (hm : Fx.ok m) (k : Nat) (hk : 10000 ≤ k) : tens_Scale.f k d v m = some (tscale d v m) := by
  unfold tens_Scale.f tscale
  rw [tGood_f d v _ (by omega), Option.bind_some]
  by_cases c1 : (Shp.good d && decide ((v.length : Int) = Shp.siz d)) = true
  rotate_left
  · rw [if_neg c1, if_neg c1]
  rw [if_pos c1, if_pos c1]
  have s1 := Shp.siz_le d
  have c1' := c1
  simp only [Bool.and_eq_true, decide_eq_true_eq] at c1'
  have dl := good_len c1'.1
  unfold tens_Copy.f slices_Clone_int_int.f slices_Clone_Fix.f
  rw [if_pos (by omega), Option.bind_some, if_pos (by omega), Option.bind_some, Option.bind_some]
  have := Scale_l0 d v m hv hm (by omega) v.length 0 k v (by omega) rfl (fun _ _ _ => rfl) (by simp [tab]) (by omega)
  rw [show ((0 : Nat) : Int) = 0 from rfl] at this
  exact this
/-- numbers added where they are spread from -/
def fo (g : Nat → Int) (v o : List Int) : Nat → List Int
  | 0 => o
  | i + 1 => (fo g v o i).set (g i).toNat (Fx.add (rd (fo g v o i) (g i)) (rd v i))
theorem fo_len (g : Nat → Int) (v o : List Int) : ∀ n, (fo g v o n).length = o.length := by
  intro n
  induction n with
  | zero => rfl
  | succ n ih => simp only [fo, List.length_set]; exact ih
theorem fo_ok {g : Nat → Int} {v o : List Int} (ho : ∀ x ∈ o, Fx.ok x) : ∀ n, ∀ x ∈ fo g v o n, Fx.ok x := by
  intro n
  induction n with
  | zero => exact ho
  | succ n ih =>
    intro x hx
    simp only [fo] at hx
    rcases List.mem_or_eq_of_mem_set hx with h | h
    · exact ih x h
    · rw [h]; exact Fx.clamp_ok _
def tfold (d v e : List Int) : List Int × List Int × Int :=
  if (Shp.good d && decide ((v.length : Int) = Shp.siz d)) = true ∧ Shp.good e = true then
    (if Shp.join e d = (d, 0) then (e, fo (frv e d) v (List.replicate (Shp.siz e).toNat 0) v.length, 0) else ([], [], 4)) else ([], [], 1)
theorem rep0_ok (n : Nat) : ∀ x ∈ List.replicate n (0 : Int), Fx.ok x := by
  intro x hx
  rw [List.eq_of_mem_replicate hx]; unfold Fx.ok; omega
theorem Fold_l0 (d v e : List Int) (hv : ∀ x ∈ v, Fx.ok x) (h : Shp.join e d = (d, 0)) (hl : (v.length : Int) = Shp.siz d) (dd : List Int) :
    ∀ (c i k : Nat), i + c = v.length → c + 10 ≤ k →
    tens_Fold.l0 k (tab (Shp.siz d).toNat (frv e d)) v v.length i dd (fo (frv e d) v (List.replicate (Shp.siz e).toNat 0) i) = some (dd, fo (frv e d) v (List.replicate (Shp.siz e).toNat 0) v.length, 0) := by
  have s1 := Shp.siz_le d
  intro c
  induction c with
  | zero =>
    intro i k hi hk
    obtain ⟨k, rfl⟩ : ∃ m, k = m + 1 := ⟨k - 1, by omega⟩
    simp only [tens_Fold.l0]
    rw [if_neg (by omega), show i = v.length by omega]
  | succ c ih =>
    intro i k hi hk
    obtain ⟨k, rfl⟩ : ∃ m, k = m + 1 := ⟨k - 1, by omega⟩
    have b := frv_bound h i
    have fl := fo_len (frv e d) v (List.replicate (Shp.siz e).toNat 0) i
    rw [List.length_replicate] at fl
    have k1 : Fx.ok (rd (fo (frv e d) v (List.replicate (Shp.siz e).toNat 0) i) (frv e d i)) := by
      have := rd_ok' (fo_ok (g := frv e d) (v := v) (rep0_ok (Shp.siz e).toNat) i) (frv e d i).toNat (by rw [fl]; omega)
      rwa [Int.toNat_of_nonneg b.1] at this
    have fa : fix_Add.f k (rd (fo (frv e d) v (List.replicate (Shp.siz e).toNat 0) i) (frv e d i)) (rd v i) = some (Fx.add (rd (fo (frv e d) v (List.replicate (Shp.siz e).toNat 0) i) (frv e d i)) (rd v i)) := by
      obtain ⟨k', rfl⟩ : ∃ m, k = m + 1 := ⟨k - 1, by omega⟩
      exact fadd_f _ _ k1 (rd_ok' hv i (by omega)) k'
    simp only [tens_Fold.l0]
    rw [if_pos (by omega), if_pos (by omega), if_pos (by omega), tab_length, if_pos (by omega), rd_tab _ _ _ (by omega), if_pos b.1, if_pos (by rw [fl]; omega), fa, Option.bind_some, w64 (x := (i : Int) + 1) (by omega) (by omega)]
    have := ih (i + 1) k (by omega) (by omega)
    rw [Int.natCast_add] at this
    exact this
theorem tFold_f (d v e : List Int) (hv : ∀ x ∈ v, Fx.ok x) (k : Nat) (hk : 30000 ≤ k) : tens_Fold.f k d v e = some (tfold d v e) := by
  have oth : ∀ k, tens_Fold.j0 (k + 1) e true d v = some ([], [], 1) := fun k => by simp only [tens_Fold.j0]; rw [if_pos trivial]
  have oth1 : ∀ k, tens_Fold.j1 (k + 1) e true d v = some ([], [], 4) := fun k => by simp only [tens_Fold.j1]; rw [if_pos trivial]
  obtain ⟨k, rfl⟩ : ∃ m, k = m + 2 := ⟨k - 2, by omega⟩
  unfold tens_Fold.f tfold
  rw [tGood_f d v _ (by omega), Option.bind_some]
  by_cases c1 : (Shp.good d && decide ((v.length : Int) = Shp.siz d)) = true
  rotate_left
  · rw [if_neg c1, oth, if_neg (fun h => c1 h.1)]
  rw [if_pos c1, Good_f e _ (by omega), Option.bind_some]
  by_cases c2 : Shp.good e = true
  rotate_left
  · rw [if_neg (c := _ ∧ _) (fun h => c2 h.2), show Shp.good e = false by simpa using c2]
    exact oth _
  rw [if_pos (c := _ ∧ _) ⟨c1, c2⟩, c2]
  have s1 := Shp.siz_le d
  have c1' := c1
  simp only [Bool.and_eq_true, decide_eq_true_eq] at c1'
  have dl := good_len c1'.1
  simp only [Bool.not_true, tens_Fold.j0]
  rw [if_neg (by simp), Join_f e d (k + 1) (by omega), Option.bind_some]
  by_cases c3 : (Shp.join e d).2 = 0
  rotate_left
  · rw [if_neg c3, oth1, if_neg (fun h => c3 (by rw [h]))]
  rw [if_pos c3]
  have jl := good_len (join_parts c3).2.2
  rw [Same_f _ _ (by omega) (k + 1) (by omega), Option.bind_some]
  by_cases c4 : (Shp.join e d).1 = d
  rotate_left
  · rw [decide_eq_false c4, if_neg (fun h => c4 (by rw [h]))]
    exact oth1 k
  have hj : Shp.join e d = (d, 0) := by rw [← c3]; exact Prod.ext c4 rfl
  rw [decide_eq_true c4, if_pos hj]
  simp only [Bool.not_true, tens_Fold.j1]
  rw [if_neg (by simp), tNew_f e 0 k (by omega), Option.bind_some]
  unfold tnew
  rw [if_pos c2]
  simp only []
  rw [Spread_f e d hj k (by omega), Option.bind_some]
  have := Fold_l0 d v e hv hj c1'.2 e v.length 0 k (by omega) (by omega)
  rw [show ((0 : Nat) : Int) = 0 from rfl] at this
  exact this
theorem rScale_f (d v : List Int) (m : Int) (hv : ∀ x ∈ v, Fx.ok x) (hm : Fx.ok m) (k : Nat) (hk : 10000 ≤ k) : carouselref5_Scale.f k d v m = some (tscale d v m) := by
  unfold carouselref5_Scale.f tscale
  rw [rIs_f d v _ (by omega), Option.bind_some]
  by_cases c1 : (Shp.good d && decide ((v.length : Int) = Shp.siz d)) = true
  rotate_left
  · rw [if_neg c1, if_neg c1]
  rw [if_pos c1, if_pos c1]
  have s1 := Shp.siz_le d
  have c1' := c1
  simp only [Bool.and_eq_true, decide_eq_true_eq] at c1'
  have dl := good_len c1'.1
  have hn : (Shp.siz d).toNat = v.length := by omega
  rw [rNew_f d 0 (by omega) k (by omega), Option.bind_some, hn]
  have := loop_set0 (fun k i z => carouselref5_Scale.l0 k m i d v d z) v.length (fun i => Fx.mul (rd v i) m) (fun z => some (d, z, 0)) 1
    (fun k i z hk2 hi ho => by
      simp only [carouselref5_Scale.l0]
      rw [if_pos (by omega), if_pos (by omega), if_pos (by omega), rMul_f _ _ (rd_ok' hv i hi) hm k hk2, Option.bind_some, w64 (x := (i : Int) + 1) (by omega) (by omega)]
      rfl)
    (fun k z ho => by simp only [carouselref5_Scale.l0]; rw [if_neg (by omega)]) (List.replicate v.length 0) k (by simp) (by omega)
  exact this
theorem rReshape_f (d v e : List Int) (k : Nat) (hk : 20 ≤ k) : carouselref5_Reshape.f k d v e = some (tresh d v e) := by
  have oth : ∀ k, carouselref5_Reshape.j0 (k + 1) e true d v = some ([], [], 1) := fun k => by simp only [carouselref5_Reshape.j0]; rw [if_pos trivial]
  obtain ⟨k, rfl⟩ : ∃ m, k = m + 1 := ⟨k - 1, by omega⟩
  unfold carouselref5_Reshape.f tresh
  rw [rIs_f d v _ (by omega), Option.bind_some]
  by_cases c1 : (Shp.good d && decide ((v.length : Int) = Shp.siz d)) = true
  rotate_left
  · rw [if_neg c1, oth, if_neg (fun h => c1 h.1)]
  rw [if_pos c1, rGood_f e _ (by omega), Option.bind_some]
  by_cases c2 : Shp.good e = true
  rotate_left
  · rw [if_neg (c := _ ∧ _) (fun h => c2 h.2), show Shp.good e = false by simpa using c2]
    exact oth k
  rw [if_pos (c := _ ∧ _) ⟨c1, c2⟩, c2]
  simp only [Bool.not_true, carouselref5_Reshape.j0]
  rw [if_neg (by simp), rSize_f e k (by omega), Option.bind_some]
  have hv : (v.length : Int) = Shp.siz d := by simp only [Bool.and_eq_true, decide_eq_true_eq] at c1; exact c1.2
  have s1 := Shp.siz_le d
  have dl := good_len c2
  by_cases c3 : Shp.siz e = (v.length : Int)
  · rw [if_pos c3, if_pos c3, Option.bind_some, if_pos (by simp; omega), Option.bind_some, if_pos (by simp; omega)]
    rfl
  · rw [if_neg c3, if_neg c3]
theorem rFold_l0 (d v e : List Int) (hv : ∀ x ∈ v, Fx.ok x) (h : Shp.join e d = (d, 0)) (hl : (v.length : Int) = Shp.siz d) (dd : List Int) :
    ∀ (c i k : Nat), i + c = v.length → c + 300 ≤ k →
    carouselref5_Fold.l0 k e i d v dd (fo (frv e d) v (List.replicate (Shp.siz e).toNat 0) i) = some (dd, fo (frv e d) v (List.replicate (Shp.siz e).toNat 0) v.length, 0) := by
  have s1 := Shp.siz_le d
  have dl := good_len (Shp.join_zero h).2.2.1
  intro c
  induction c with
  | zero =>
    intro i k hi hk
    obtain ⟨k, rfl⟩ : ∃ m, k = m + 1 := ⟨k - 1, by omega⟩
    simp only [carouselref5_Fold.l0]
    rw [if_neg (by omega), show i = v.length by omega]
  | succ c ih =>
    intro i k hi hk
    obtain ⟨k, rfl⟩ : ∃ m, k = m + 1 := ⟨k - 1, by omega⟩
    have b := frv_bound h i
    have fl := fo_len (frv e d) v (List.replicate (Shp.siz e).toNat 0) i
    rw [List.length_replicate] at fl
    have k1 : Fx.ok (rd (fo (frv e d) v (List.replicate (Shp.siz e).toNat 0) i) (frv e d i)) := by
      have := rd_ok' (fo_ok (g := frv e d) (v := v) (rep0_ok (Shp.siz e).toNat) i) (frv e d i).toNat (by rw [fl]; omega)
      rwa [Int.toNat_of_nonneg b.1] at this
    simp only [carouselref5_Fold.l0]
    rw [if_pos (by omega), rFrom_f e d i (by omega) k (by omega), Option.bind_some, frm_in h i (by omega)]
    simp only []
    rw [if_pos b.1, if_pos (by rw [fl]; omega), if_pos (Int.natCast_nonneg i), rAdd_f _ _ k1 (rd_ok' hv i (by omega)) k (by omega), Option.bind_some, w64 (x := (i : Int) + 1) (by omega) (by omega)]
    have := ih (i + 1) k (by omega) (by omega)
    rw [Int.natCast_add] at this
    exact this
theorem rFold_f (d v e : List Int) (hv : ∀ x ∈ v, Fx.ok x) (k : Nat) (hk : 30000 ≤ k) : carouselref5_Fold.f k d v e = some (tfold d v e) := by
  have oth : ∀ k, carouselref5_Fold.j0 (k + 1) e true d v = some ([], [], 1) := fun k => by simp only [carouselref5_Fold.j0]; rw [if_pos trivial]
  have oth1 : ∀ k, carouselref5_Fold.j1 (k + 1) e true d v = some ([], [], 4) := fun k => by simp only [carouselref5_Fold.j1]; rw [if_pos trivial]
  obtain ⟨k, rfl⟩ : ∃ m, k = m + 2 := ⟨k - 2, by omega⟩
  unfold carouselref5_Fold.f tfold
  rw [rIs_f d v _ (by omega), Option.bind_some]
  by_cases c1 : (Shp.good d && decide ((v.length : Int) = Shp.siz d)) = true
  rotate_left
  · rw [if_neg c1, oth, if_neg (fun h => c1 h.1)]
  rw [if_pos c1, rGood_f e _ (by omega), Option.bind_some]
  by_cases c2 : Shp.good e = true
  rotate_left
  · rw [if_neg (c := _ ∧ _) (fun h => c2 h.2), show Shp.good e = false by simpa using c2]
    exact oth _
  rw [if_pos (c := _ ∧ _) ⟨c1, c2⟩, c2]
  have s1 := Shp.siz_le d
  have c1' := c1
  simp only [Bool.and_eq_true, decide_eq_true_eq] at c1'
  have dl := good_len c1'.1
  have el := good_len c2
  simp only [Bool.not_true, carouselref5_Fold.j0]
  rw [if_neg (by simp), rJoin_f e d (k + 1) (by omega), Option.bind_some]
  by_cases c3 : (Shp.join e d).2 = 0
  rotate_left
  · rw [if_neg c3, oth1, if_neg (fun h => c3 (by rw [h]))]
  rw [if_pos c3]
  have jl := good_len (join_parts c3).2.2
  rw [rSame_f _ _ (by omega) (k + 1) (by omega), Option.bind_some]
  by_cases c4 : (Shp.join e d).1 = d
  rotate_left
  · rw [decide_eq_false c4, if_neg (fun h => c4 (by rw [h]))]
    exact oth1 k
  have hj : Shp.join e d = (d, 0) := by rw [← c3]; exact Prod.ext c4 rfl
  rw [decide_eq_true c4, if_pos hj]
  simp only [Bool.not_true, carouselref5_Fold.j1]
  rw [if_neg (by simp), rNew_f e 0 (by omega) k (by omega), Option.bind_some]
  have := rFold_l0 d v e hv hj c1'.2 e v.length 0 k (by omega) (by omega)
  rw [show ((0 : Nat) : Int) = 0 from rfl] at this
  exact this
theorem rTurn_l3 (p d v q : List Int) (h : isperm p) (hd : d.length = p.length) (hp4 : p.length ≤ 4) (hg : Shp.good d = true) (hv : (v.length : Int) = Shp.siz d) (x6 dd : List Int)
    (hq : Shp.ins (turnd p d) q = true) (N : Nat) (hN : (N : Int) < 4096) (od : List Int) (ho : N < od.length) :
    ∀ (c j k : Nat) (o : List Int), j + c = p.length → o.length = p.length → (∀ i : Nat, i < j → rd o (rd p i) = rd q i) → c + 12 ≤ k →
    carouselref5_Turn.l3 k p x6 N q o j d v dd od = carouselref5_Turn.l2 (k - c - 1) p x6 ((N : Int) + 1) d v dd (od.set N (rd v (Shp.mr 0 d (scat p q)))) := by
  have hql : q.length = p.length := by rw [Shp.ins_length _ _ hq, turnd_length]
  intro c
  induction c with
  | zero =>
    intro j k o hj ho' e hk
    obtain ⟨k, rfl⟩ : ∃ m, k = m + 1 := ⟨k - 1, by omega⟩
    have hs : o = scat p q := scat_of h ho' (fun i hi => e i (by omega))
    have hin := ins_scat h hd hq
    have gi := Shp.good_iff.mp hg
    have sg := Shp.siz_good hg
    have hb := Shp.mr_bound _ _ hin gi.2.1
    simp only [carouselref5_Turn.l3]
    rw [if_neg (by omega), rAt_f d o k (by omega), Option.bind_some, hs]
    unfold Shp.att
    rw [if_pos (c := _ ∧ _) ⟨hg, hin⟩]
    simp only []
    rw [if_pos hb.1, if_pos (by omega), if_pos (Int.natCast_nonneg N), if_pos (by omega), w64 (x := (N : Int) + 1) (by omega) (by omega)]
    rfl
  | succ c ih =>
    intro j k o hj ho' e hk
    obtain ⟨k, rfl⟩ : ∃ m, k = m + 1 := ⟨k - 1, by omega⟩
    have b := isperm_rd h j (by omega)
    simp only [carouselref5_Turn.l3]
    rw [if_pos (by omega), if_pos (Int.natCast_nonneg j), if_pos (by omega), if_pos b.1, if_pos (by omega), w64 (x := (j : Int) + 1) (by omega) (by omega)]
    have := ih (j + 1) k (o.set (rd p j).toNat (rd q j)) (by omega) (by simpa using ho') (fun i hi => by
      have bi := isperm_rd h i (by omega)
      by_cases e1 : i = j
      · subst e1
        have := rd_set o (rd p i).toNat (rd q i) (by omega)
        rw [Int.toNat_of_nonneg bi.1] at this
        exact this
      · have hne : rd p i ≠ ((rd p j).toNat : Int) := fun e2 => e1 (isperm_inj h (by omega) (by omega) (by omega))
        rw [rd_set_ne _ _ _ _ bi.1 hne]
        exact e i (by omega)) (by omega)
    rw [Int.natCast_add] at this
    rw [show k + 1 - (c + 1) - 1 = k - c - 1 by omega]
    exact this
theorem rTurn_l2 (p d v : List Int) (h : isperm p) (hd : d.length = p.length) (hp4 : p.length ≤ 4) (hg : Shp.good d = true) (hv : (v.length : Int) = Shp.siz d) (dd : List Int) (n : Nat) (hn : (n : Int) = Shp.siz d) :
    ∀ (c t k : Nat) (od : List Int), t + c = n → od.length = n → od.take t = tab t (fun t => rd v (Shp.mr 0 d (scat p (Shp.pla t (turnd p d))))) → c * 20 + 20 ≤ k →
    carouselref5_Turn.l2 k p (turnd p d) t d v dd od = some (dd, tab n (fun t => rd v (Shp.mr 0 d (scat p (Shp.pla t (turnd p d))))), 0) := by
  have ss := turnd_siz h hd hg
  have sl := Shp.siz_le d
  have gt := turnd_good h hd hg
  have gti := Shp.good_iff.mp gt
  intro c
  induction c with
  | zero =>
    intro t k od hj ho e hk
    obtain ⟨k, rfl⟩ : ∃ m, k = m + 1 := ⟨k - 1, by omega⟩
    simp only [carouselref5_Turn.l2]
    have ht : t = n := by omega
    subst ht
    rw [if_neg (by omega), ← e, List.take_of_length_le (by omega)]
  | succ c ih =>
    intro t k od hj ho e hk
    obtain ⟨k, rfl⟩ : ∃ m, k = m + 1 := ⟨k - 1, by omega⟩
    simp only [carouselref5_Turn.l2]
    rw [if_pos (by omega), rPlace_f _ _ k (by omega), Option.bind_some]
    unfold Shp.plc
    rw [if_pos (c := _ ∧ _) ⟨by omega, by rw [ss]; omega⟩]
    simp only []
    have hin := Shp.ins_pla (turnd p d) gti.2.1 (t : Int)
    have hql : (Shp.pla (t : Int) (turnd p d)).length = p.length := by rw [Shp.ins_length _ _ hin, turnd_length]
    rw [if_pos (Int.natCast_nonneg _), if_pos (by rw [hql]; omega)]
    have := rTurn_l3 p d v (Shp.pla t (turnd p d)) h hd hp4 hg hv (turnd p d) dd hin t (by omega) od (by omega) p.length 0 k (List.replicate p.length 0) (by omega) (by simp) (fun i hi => by omega) (by omega)
    rw [show ((0 : Nat) : Int) = 0 from rfl] at this
    rw [Int.toNat_natCast, hql, this]
    have := ih (t + 1) (k - p.length - 1) (od.set t (rd v (Shp.mr 0 d (scat p (Shp.pla t (turnd p d)))))) (by omega) (by simpa using ho) (by
      rw [set_take' od t _ (by omega), e, tab_succ]) (by omega)
    rw [Int.natCast_add] at this
    exact this
theorem rTurn_l1 (p d v x6 : List Int) (hp : p.length ≤ 100) (hd : d.length = p.length) (i : Nat) (hi : i < p.length) (hr : 0 ≤ rd p i ∧ rd p i < p.length) (hx : x6.length ≤ 1000) :
    ∀ (c y k : Nat), y + c = i → c + 1 ≤ k → (∀ j : Nat, y ≤ j → j < i → rd p j ≠ rd p i) →
    carouselref5_Turn.l1 k p x6 i y d v = carouselref5_Turn.l0 (k - c - 1) p (x6 ++ [rd d (rd p i)]) ((i : Int) + 1) d v := by
  intro c
  induction c with
  | zero =>
    intro y k hy hk hn
    obtain ⟨k, rfl⟩ : ∃ m, k = m + 1 := ⟨k - 1, by omega⟩
    simp only [carouselref5_Turn.l1]
    rw [if_neg (show ¬ ((y : Int) < (i : Int)) by omega), if_pos (Int.natCast_nonneg i), if_pos (by omega), if_pos hr.1, if_pos (by omega), if_pos (by omega), w64 (x := (i : Int) + 1) (by omega) (by omega)]
    rfl
  | succ c ih =>
    intro y k hy hk hn
    obtain ⟨k, rfl⟩ : ∃ m, k = m + 1 := ⟨k - 1, by omega⟩
    simp only [carouselref5_Turn.l1]
    rw [if_pos (show ((y : Int) < (i : Int)) by omega), if_pos (Int.natCast_nonneg y), if_pos (by omega), if_pos (Int.natCast_nonneg i), if_pos (by omega), if_neg (hn y (by omega) (by omega)), w64 (x := (y : Int) + 1) (by omega) (by omega)]
    have := ih (y + 1) k (by omega) (by omega) (fun j h1 h2 => hn j (by omega) h2)
    rw [Int.natCast_add] at this
    rw [show k + 1 - (c + 1) - 1 = k - c - 1 by omega]
    exact this
theorem rTurn_l1b (p d v x6 : List Int) (hp : p.length ≤ 100) (i : Nat) (hi : i < p.length) (j : Nat) (hj : j < i) (e : rd p j = rd p i) :
    ∀ (c y k : Nat), y + c = j → c + 1 ≤ k → carouselref5_Turn.l1 k p x6 i y d v = some ([], [], 1) := by
  intro c
  induction c with
  | zero =>
    intro y k hy hk
    obtain ⟨k, rfl⟩ : ∃ m, k = m + 1 := ⟨k - 1, by omega⟩
    simp only [carouselref5_Turn.l1]
    rw [show y = j by omega, if_pos (show ((j : Int) < (i : Int)) by omega), if_pos (Int.natCast_nonneg j), if_pos (by omega), if_pos (Int.natCast_nonneg i), if_pos (by omega), if_pos e]
  | succ c ih =>
    intro y k hy hk
    obtain ⟨k, rfl⟩ : ∃ m, k = m + 1 := ⟨k - 1, by omega⟩
    simp only [carouselref5_Turn.l1]
    rw [if_pos (show ((y : Int) < (i : Int)) by omega), if_pos (Int.natCast_nonneg y), if_pos (by omega), if_pos (Int.natCast_nonneg i), if_pos (by omega)]
    by_cases e2 : rd p y = rd p i
    · rw [if_pos e2]
    · rw [if_neg e2, w64 (x := (y : Int) + 1) (by omega) (by omega)]
      have := ih (y + 1) k (by omega) (by omega)
      rw [Int.natCast_add] at this
      exact this
theorem isperm_of {p : List Int} (h1 : ∀ i : Nat, i < p.length → 0 ≤ rd p i ∧ rd p i < p.length) (h2 : ∀ i j : Nat, j < i → i < p.length → rd p j ≠ rd p i) : isperm p := by
  have nd : p.Nodup := by
    rw [List.Nodup, List.pairwise_iff_getElem]
    intro i j hi hj hij e
    refine h2 j i hij hj ?_
    rw [rd_get p i hi, rd_get p j hj]; exact e
  have sub : p ⊆ rgi p.length := by
    intro x hx
    obtain ⟨i, hi, rfl⟩ := List.mem_iff_getElem.mp hx
    have := h1 i hi
    rw [rd_get p i hi] at this
    exact rgi_mem.mpr this
  obtain ⟨l, hl⟩ := sub_perm p (rgi p.length) nd sub
  have ll := hl.length_eq
  rw [List.length_append] at ll
  have : (rgi p.length).length = p.length := tab_length _ _
  have l0 : l = [] := List.eq_nil_of_length_eq_zero (by omega)
  rw [l0, List.append_nil] at hl
  intro i hi
  exact hl.mem_iff.mp (rgi_mem.mpr ⟨by omega, by omega⟩)
theorem rTurn_l0 (p d v : List Int) (hd : d.length = p.length) (hp4 : p.length ≤ 4) (hg : Shp.good d = true) (hv : (v.length : Int) = Shp.siz d) :
    ∀ (c i k : Nat), i + c = p.length → (∀ a : Nat, a < i → 0 ≤ rd p a ∧ rd p a < p.length) → (∀ a b : Nat, b < a → a < i → rd p b ≠ rd p a) → c * 20 + 82000 ≤ k →
    carouselref5_Turn.l0 k p (tab i (fun j => rd d (rd p j))) i d v = some (if isperm p then (turnd p d, turnv p d v, 0) else ([], [], 1)) := by
  have s1 := Shp.siz_le d
  have s0 := Shp.siz_nonneg d
  intro c
  induction c with
  | zero =>
    intro i k hi h1 h2 hk
    obtain ⟨k, rfl⟩ : ∃ m, k = m + 1 := ⟨k - 1, by omega⟩
    have e : i = p.length := by omega
    subst e
    have h := isperm_of h1 (fun i j a b => h2 i j a b)
    have gt := turnd_good h hd hg
    have ss := turnd_siz h hd hg
    have hn : ((Shp.siz d).toNat : Int) = Shp.siz d := Int.toNat_of_nonneg s0
    simp only [carouselref5_Turn.l0]
    rw [if_neg (by omega), show tab p.length (fun j => rd d (rd p j)) = turnd p d from rfl, rNew_f _ 0 (by rw [turnd_length]; omega) k (by omega), Option.bind_some, if_pos h, ss]
    have := rTurn_l2 p d v h hd hp4 hg hv (turnd p d) (Shp.siz d).toNat hn (Shp.siz d).toNat 0 k (List.replicate (Shp.siz d).toNat 0) (by omega) (by simp) (by simp [tab]) (by omega)
    rw [show ((0 : Nat) : Int) = 0 from rfl] at this
    exact this
  | succ c ih =>
    intro i k hi h1 h2 hk
    obtain ⟨k, rfl⟩ : ∃ m, k = m + 2 := ⟨k - 2, by omega⟩
    have oth : carouselref5_Turn.j2 (k + 1) p (tab i (fun j => rd d (rd p j))) i true d v = some ([], [], 1) := by simp only [carouselref5_Turn.j2]; rw [if_pos trivial]
    rw [show k + 2 = (k + 1) + 1 from rfl]
    simp only [carouselref5_Turn.l0]
    rw [if_pos (by omega), if_pos (Int.natCast_nonneg i)]
    by_cases c1 : rd p i < 0
    · rw [if_pos c1, oth, if_neg (fun h => by have := isperm_rd h i (by omega); omega)]
    rw [if_neg c1]
    by_cases c2 : rd p i ≥ (p.length : Int)
    · rw [decide_eq_true c2, oth, if_neg (fun h => by have := isperm_rd h i (by omega); omega)]
    rw [decide_eq_false c2]
    simp only [carouselref5_Turn.j2]
    rw [if_neg (by simp)]
    by_cases c3 : ∃ j : Nat, j < i ∧ rd p j = rd p i
    · obtain ⟨j, h4, h5⟩ := c3
      have := rTurn_l1b p d v (tab i (fun j => rd d (rd p j))) (by omega) i (by omega) j h4 h5 j 0 k (by omega) (by omega)
      rw [show ((0 : Nat) : Int) = 0 from rfl] at this
      rw [this, if_neg (fun h => by have := isperm_inj h (by omega) (by omega) h5; omega)]
    have := rTurn_l1 p d v (tab i (fun j => rd d (rd p j))) (by omega) hd i (by omega) ⟨by omega, by omega⟩ (by rw [tab_length]; omega) i 0 k (by omega) (by omega) (fun j _ h2 h3 => c3 ⟨j, h2, h3⟩)
    rw [show ((0 : Nat) : Int) = 0 from rfl] at this
    rw [this]
    have := ih (i + 1) (k - i - 1) (by omega) (fun a ha => by
      by_cases e : a = i
      · subst e; omega
      · exact h1 a (by omega)) (fun a b hb ha => by
      by_cases e : a = i
      · subst e; exact fun h => c3 ⟨b, hb, h⟩
      · exact h2 a b hb (by omega)) (by omega)
    rw [tab_succ, Int.natCast_add] at this
    exact this
theorem rTurn_f (d v p : List Int) (hp : p.length ≤ 100) (k : Nat) (hk : 90000 ≤ k) : carouselref5_Turn.f k d v p = some (tturn d v p) := by
  have oth : ∀ k, carouselref5_Turn.j0 (k + 1) p true d v = some ([], [], 1) := fun k => by simp only [carouselref5_Turn.j0]; rw [if_pos trivial]
  obtain ⟨k, rfl⟩ : ∃ m, k = m + 1 := ⟨k - 1, by omega⟩
  unfold carouselref5_Turn.f tturn
  rw [rIs_f d v _ (by omega), Option.bind_some]
  by_cases c1 : (Shp.good d && decide ((v.length : Int) = Shp.siz d)) = true
  rotate_left
  · rw [if_neg c1, oth, if_neg (fun h => c1 h.1)]
  have hg : Shp.good d = true := by simp only [Bool.and_eq_true] at c1; exact c1.1
  have hv : (v.length : Int) = Shp.siz d := by simp only [Bool.and_eq_true, decide_eq_true_eq] at c1; exact c1.2
  have dl := good_len hg
  rw [if_pos c1]
  by_cases c2 : p.length = d.length
  rotate_left
  · rw [show ((p.length : Int) != (d.length : Int)) = true by simp; omega, oth, if_neg (c := _ ∧ _) (fun h => c2 h.2.1)]
  rw [show ((p.length : Int) != (d.length : Int)) = false by simp; omega]
  simp only [carouselref5_Turn.j0]
  rw [if_neg (by simp)]
  have := rTurn_l0 p d v c2.symm (by omega) hg hv p.length 0 k (by omega) (fun a ha => by omega) (fun a b _ ha => by omega) (by omega)
  rw [show ((0 : Nat) : Int) = 0 from rfl, show tab 0 (fun j => rd d (rd p j)) = [] from rfl] at this
  rw [this]
  by_cases c3 : isperm p
  · rw [if_pos c3, if_pos (c := _ ∧ _) ⟨c1, c2, c3⟩]
  · rw [if_neg c3, if_neg (c := _ ∧ _) (fun h => c3 h.2.2)]
theorem TTurns_lens (d v e : List Int) (m : Int) (hd : d.length ≤ 10) (hv : v.length ≤ 300) (he : e.length ≤ 10) :
    ((tscale d v m).1.length ≤ 10 ∧ (tscale d v m).2.1.length ≤ 4096) ∧ ((tresh d v e).1.length ≤ 10 ∧ (tresh d v e).2.1.length ≤ 4096) ∧ ((tturn d v e).1.length ≤ 10 ∧ (tturn d v e).2.1.length ≤ 4096) ∧ ((tfold d v e).1.length ≤ 10 ∧ (tfold d v e).2.1.length ≤ 4096) := by
  have s1 := Shp.siz_le d
  have s2 := Shp.siz_le e
  refine ⟨?_, ?_, ?_, ?_⟩
  · unfold tscale; split
    · simp only [tab_length]; omega
    · simp
  · unfold tresh; split
    · split
      · simp only []; omega
      · simp
    · simp
  · unfold tturn; split
    · have : (turnv e d v).length = (Shp.siz d).toNat := tab_length _ _
      simp only [this, turnd_length]; omega
    · simp
  · unfold tfold; split
    · split
      · simp only [fo_len, List.length_replicate]; omega
      · simp
    · simp
theorem TTurns_all (d v : List Int) (m : Int) (e : List Int) (hv : ∀ x ∈ v, Fx.ok x) (hm : Fx.ok m) : ∃ k, carousellaw6_TensTurns.f k d v m e = some true := by
  refine ⟨100000, ?_⟩
  have aw : carousellaw6_awake.f 100000 = some true := by decide +kernel
  have oth : ∀ k, carousellaw6_TensTurns.j0 (k + 1) m e true d v = some true := fun k => by simp only [carousellaw6_TensTurns.j0]; rw [if_pos trivial]
  unfold carousellaw6_TensTurns.f
  rw [aw, Option.bind_some, if_pos rfl, great_f, Option.bind_some]
  by_cases c1 : (decide ((d.length : Int) > 10) || decide ((v.length : Int) > 300)) = true
  · rw [if_pos c1, oth]
  rw [if_neg c1]
  by_cases c2 : (e.length : Int) > 10
  · rw [decide_eq_true c2, oth]
  rw [decide_eq_false c2]
  simp only [Bool.or_eq_true, decide_eq_true_eq, not_or] at c1
  obtain ⟨l1, l2, l3, l4⟩ := TTurns_lens d v e m (by omega) (by omega) (by omega)
  simp only [carousellaw6_TensTurns.j0]
  rw [if_neg (by simp), tScale_f _ _ _ hv hm _ (by omega), Option.bind_some, tReshape_f _ _ _ _ (by omega), Option.bind_some, tTurn_f _ _ _ (by omega) _ (by omega), Option.bind_some, tFold_f _ _ _ hv _ (by omega), Option.bind_some, rScale_f _ _ _ hv hm _ (by omega), Option.bind_some, rReshape_f _ _ _ _ (by omega), Option.bind_some, rTurn_f _ _ _ (by omega) _ (by omega), Option.bind_some, rFold_f _ _ _ hv _ (by omega), Option.bind_some]
  rw [if_pos rfl, if_pos rfl, if_pos rfl, if_pos rfl]
  rw [rAlike_f _ _ _ _ (by omega) (by omega) _ (by omega) (by omega), Option.bind_some, if_pos (by simp), rAlike_f _ _ _ _ (by omega) (by omega) _ (by omega) (by omega), Option.bind_some, if_pos (by simp), rAlike_f _ _ _ _ (by omega) (by omega) _ (by omega) (by omega), Option.bind_some, if_pos (by simp), rAlike_f _ _ _ _ (by omega) (by omega) _ (by omega) (by omega), Option.bind_some]
  simp
theorem TensTurns : carousellaw6_TensTurns.Pure := by
  intro d v m e _ _ _ hv hm _ _
  exact TTurns_all d v m e (fun x hx => wf_i64 (hv x hx)) (wf_i64 hm)
end Go.Proofs.Ytbdhabpplidgfaa.Pure
