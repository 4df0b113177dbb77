/- The plain law behind ShapeBack: what the functions compute answers as the statement says, for every input. No condition. -/
import Derived.Test.YteocepnoeajedaaPShapeBackx4
import Derived.Test.YteocepnoeajedaaShapeMath
namespace Go.Proofs.Yteocepnoeajedaa.Pure
open Go.RowKit Go.Proofs.Yteocepnoeajedaa.PShapeBack Go.Proofs.YteocepnoeajedaaW.PrintWords Go.Proofs.YteocepnoeajedaaW.PrintLast
set_option linter.unusedVariables false
set_option linter.unusedSimpArgs false
theorem w64 {x : Int} (h1 : -9223372036854775808 ≤ x) (h2 : x ≤ 9223372036854775807) : wrap64 x = x := by unfold wrap64; omega
theorem drop_rd (l : List Int) (i : Nat) (h : i < l.length) : l.drop i = rd l i :: l.drop (i + 1) := by
  rw [List.drop_eq_getElem_cons h]
  congr 1
  unfold rd
  rw [show (i : Int).toNat = i from rfl, List.getD_eq_getElem?_getD, List.getElem?_eq_getElem h]; rfl
theorem rd_mem (l : List Int) (i : Nat) (h : i < l.length) : rd l i ∈ l := by
  have := drop_rd l i h
  exact List.mem_of_mem_drop (i := i) (by rw [this]; exact List.mem_cons_self ..)
theorem mul_bd {a b A B : Int} (h0 : 0 ≤ a) (h1 : a ≤ A) (h2 : 0 ≤ b) (h3 : b ≤ B) : 0 ≤ a * b ∧ a * b ≤ A * B :=
  ⟨Int.mul_nonneg h0 h2, Int.mul_le_mul h1 h3 h2 (by omega)⟩
theorem k_succ {k n : Nat} (h : n < k) : ∃ m, k = m + 1 ∧ n ≤ m := ⟨k - 1, by omega, by omega⟩
theorem product_l0 (l : List Int) (hl : l.length ≤ 4) : ∀ (d i : Nat) (n : Int) (k : Nat), i + d = l.length → 1 ≤ n → n ≤ 4096 → 2 * d < k →
    shape_product.l0 k n l l.length i = some (Shp.gp n (l.drop i)) := by
  intro d
  induction d with
  | zero =>
    intro i n k hi h1 h2 hk
    obtain ⟨k, rfl, -⟩ := k_succ hk
    simp only [shape_product.l0]
    rw [if_neg (by omega), List.drop_of_length_le (by omega)]; rfl
  | succ d ih =>
    intro i n k hi h1 h2 hk
    obtain ⟨k, rfl, hk⟩ := k_succ hk
    obtain ⟨k, rfl, hk⟩ := k_succ (n := 2 * d + 1) (k := k) (by omega)
    have e := drop_rd l i (by omega)
    simp only [shape_product.l0, shape_product.j1]
    rw [if_pos (by omega), if_pos (by omega), if_pos (by omega), e]
    generalize rd l i = x at *
    simp only [Shp.gp]
    by_cases c1 : x < 1
    · simp [c1]
    by_cases c2 : 4096 < x
    · simp [c1, c2]
    have hb := mul_bd (a := n) (b := x) (by omega) h2 (by omega) (show x ≤ 4096 by omega)
    have hb1 := Shp.mul_le1 h1 (show 1 ≤ x by omega)
    rw [w64 (x := n * x) (by omega) (by omega), w64 (x := (i : Int) + 1) (by omega) (by omega)]
    simp only [if_neg c1, if_neg c2, show ¬ (x > 4096) from c2, decide_false]
    by_cases c3 : 4096 < n * x
    · simp [c3]
    · simp only [if_neg c3, show ¬ (n * x > 4096) from c3, if_false]
      have := ih (i + 1) (n * x) k (by omega) (by omega) (by omega) (by omega)
      rw [Int.natCast_add] at this
      simpa using this
theorem product_f (l : List Int) (k : Nat) (hk : 10 ≤ k) : shape_product.f k l = some (Shp.siz l) := by
  unfold shape_product.f
  by_cases h : l.length ≤ 4
  · rw [if_neg (by omega), ← Shp.gp_siz l h]
    have := product_l0 l h l.length 0 1 k (by omega) (by omega) (by omega) (by omega)
    simpa using this
  · rw [if_pos (by omega), Shp.siz_long l h]
theorem Good_f (l : List Int) (k : Nat) (hk : 10 ≤ k) : shape_Good.f k l = some (Shp.good l) := by
  unfold shape_Good.f; rw [product_f l k hk, ← Shp.siz_pos]; rfl
theorem Size_f (l : List Int) (k : Nat) (hk : 10 ≤ k) : shape_Size.f k l = some (Shp.siz l) := by
  unfold shape_Size.f; rw [product_f l k hk]; rfl
theorem eq_drop {a b : List Int} {i : Nat} (ha : i < a.length) (hb : i < b.length) : decide (a.drop i = b.drop i) = (decide (rd a i = rd b i) && decide (a.drop (i + 1) = b.drop (i + 1))) := by
  rw [drop_rd a i ha, drop_rd b i hb]; simp
theorem Equal_l0 (a b : List Int) (h : a.length = b.length) (hm : a.length ≤ 9223372036854775000) : ∀ (d i k : Nat), i + d = a.length → d < k →
    slices_Equal_int_int.l0 k a b a.length i = some (decide (a.drop i = b.drop i)) := by
  intro d
  induction d with
  | zero =>
    intro i k hi hk
    obtain ⟨k, rfl, -⟩ := k_succ hk
    simp only [slices_Equal_int_int.l0]
    rw [if_neg (by omega), List.drop_of_length_le (by omega), List.drop_of_length_le (by omega)]; simp
  | succ d ih =>
    intro i k hi hk
    obtain ⟨k, rfl, hk⟩ := k_succ hk
    simp only [slices_Equal_int_int.l0]
    rw [if_pos (by omega), if_pos (by omega), if_pos (by omega), if_pos (by omega), eq_drop (by omega) (by omega), w64 (x := (i : Int) + 1) (by omega) (by omega)]
    have := ih (i + 1) k (by omega) (by omega)
    rw [Int.natCast_add] at this
    by_cases c : rd a i = rd b i
    · rw [if_pos c]; simpa [c] using this
    · rw [if_neg c]; simp [c]
theorem Same_f (a b : List Int) (hm : a.length ≤ 9223372036854775000) (k : Nat) (hk : a.length < k) : shape_Same.f k a b = some (decide (a = b)) := by
  unfold shape_Same.f slices_Equal_int_int.f
  by_cases h : a.length = b.length
  · rw [if_pos (by omega)]
    have := Equal_l0 a b h hm a.length 0 k (by omega) hk
    simp at this; simp [this]
  · rw [if_neg (by omega)]
    have : a ≠ b := fun e => h (by rw [e])
    simp [this]
/-- a list that is filled from its end on -/
theorem set_fill (i : Nat) (r : List Int) (x : Int) : (List.replicate (i + 1) 0 ++ r).set ((i : Int)).toNat x = List.replicate i 0 ++ x :: r := by
  rw [show ((i : Int)).toNat = i from rfl, List.replicate_succ', List.append_assoc, List.set_append_right _ _ (by simp)]
  simp
theorem Strides_l0 (l : List Int) (hg : Shp.good l = true) : ∀ (i k : Nat), i ≤ l.length → i < k →
    shape_Strides.l0 k l (List.replicate i 0 ++ Shp.strs (l.drop i)) (Shp.pl (l.drop i)) ((i : Int) - 1) = some (Shp.strs l) := by
  have hi := Shp.good_iff.mp hg
  intro i
  induction i with
  | zero =>
    intro k _ hk
    obtain ⟨k, rfl, -⟩ := k_succ hk
    simp only [shape_Strides.l0]
    rw [if_neg (by omega)]; simp
  | succ i ih =>
    intro k hl hk
    obtain ⟨k, rfl, hk⟩ := k_succ hk
    have e := drop_rd l i (by omega)
    have hx := hi.2.1 _ (rd_mem l i (by omega))
    have hpd := Shp.pl_drop hi.2.1 i
    have hpl := Shp.pl_pos (l := l.drop (i + 1)) (fun y hy => hi.2.1 y (List.mem_of_mem_drop hy))
    simp only [shape_Strides.l0]
    have e1 : ((i + 1 : Nat) : Int) - 1 = (i : Int) := by omega
    rw [e1]
    have hlen : (List.replicate (i + 1) (0 : Int) ++ Shp.strs (l.drop (i + 1))).length = l.length := by
      simp [Shp.strs_length]; omega
    rw [if_pos (by omega), if_pos (by omega), if_pos (by omega), if_pos (by omega), set_fill]
    have := ih k (by omega) (by omega)
    rw [e] at this hpd
    simp only [Shp.strs, Shp.pl] at this hpd
    have hx2 := Shp.mul_le1 hx hpl
    rw [Int.mul_comm (Shp.pl (List.drop (i + 1) l)), w64 (x := rd l i * _) (by omega) (by omega), w64 (x := (i : Int) - 1) (by omega) (by omega)]
    exact this
theorem Strides_f (l : List Int) (k : Nat) (hk : 10 ≤ k) : shape_Strides.f k l = some (if Shp.good l = true then Shp.strs l else []) := by
  unfold shape_Strides.f
  rw [Good_f l k hk]
  cases hg : Shp.good l
  · rfl
  · have hi := Shp.good_iff.mp hg
    simp only [Option.bind_some, if_true]
    rw [if_pos (by omega), if_pos (by omega), w64 (by omega) (by omega)]
    have := Strides_l0 l hg l.length k (by omega) (by omega)
    simpa [Shp.strs, Shp.pl] using this
/-- a partial place: what At does from side i on -/
def atGo (acc : Int) : List Int → List Int → Int × Bool
  | x :: d, p :: ps => if p < 0 then (0, false) else if p ≥ x then (0, false) else atGo (acc * x + p) d ps
  | _, _ => (acc, true)
theorem atGo_eq (d : List Int) : ∀ p acc, p.length = d.length → atGo acc d p = if Shp.ins d p = true then (Shp.mr acc d p, true) else (0, false) := by
  induction d with
  | nil => intro p acc h; cases p <;> simp_all [atGo, Shp.ins, Shp.mr]
  | cons x d ih =>
    intro p acc h
    cases p with
    | nil => simp at h
    | cons q p =>
      have e : Shp.ins (x :: d) (q :: p) = (decide (0 ≤ q) && (decide (q < x) && Shp.ins d p)) := rfl
      simp only [atGo]
      by_cases c1 : q < 0
      · have : Shp.ins (x :: d) (q :: p) = false := by rw [e, decide_eq_false (by omega)]; rfl
        rw [if_pos c1, this]; rfl
      · rw [if_neg c1]
        by_cases c2 : q ≥ x
        · have : Shp.ins (x :: d) (q :: p) = false := by rw [e, decide_eq_false (p := q < x) (by omega)]; simp
          rw [if_pos c2, this]; rfl
        · rw [if_neg c2, ih p _ (by simpa using h)]
          have : Shp.ins (x :: d) (q :: p) = Shp.ins d p := by rw [e, decide_eq_true (by omega), decide_eq_true (by omega)]; simp
          rw [this]; rfl
theorem At_l0 (l p : List Int) (hg : Shp.good l = true) (hl : p.length = l.length) : ∀ (d i : Nat) (acc : Int) (k : Nat), i + d = l.length → 0 ≤ acc → (acc + 1) * Shp.pl (l.drop i) ≤ 4096 → d < k →
    shape_At.l0 k l acc p p.length i = some (atGo acc (l.drop i) (p.drop i)) := by
  have hi := Shp.good_iff.mp hg
  intro d
  induction d with
  | zero =>
    intro i acc k hd h0 h1 hk
    obtain ⟨k, rfl, -⟩ := k_succ hk
    simp only [shape_At.l0]
    rw [if_neg (by omega), List.drop_of_length_le (by omega)]; simp [atGo]
  | succ d ih =>
    intro i acc k hd h0 h1 hk
    obtain ⟨k, rfl, hk⟩ := k_succ hk
    have e1 := drop_rd l i (by omega)
    have e2 := drop_rd p i (by omega)
    have hx := hi.2.1 _ (rd_mem l i (by omega))
    have hpl := Shp.pl_pos (l := l.drop (i + 1)) (fun y hy => hi.2.1 y (List.mem_of_mem_drop hy))
    simp only [shape_At.l0]
    have i1 : (i : Int) < (l.length : Int) := by omega
    rw [if_pos (by omega), if_pos (by omega), if_pos (by omega), e1, e2]
    rw [e1] at h1
    simp only [atGo, Shp.pl] at h1 ⊢
    generalize rd l i = x at *
    generalize rd p i = q at *
    by_cases c1 : q < 0
    · rw [if_pos c1, if_pos c1]
    rw [if_neg c1, if_neg c1, if_pos i1]
    by_cases c2 : q ≥ x
    · rw [if_pos c2, if_pos c2]
    rw [if_neg c2, if_neg c2]
    have a1 : (acc + 1) * x ≤ 4096 ∧ 1 ≤ (acc + 1) * x := by
      have := Shp.mul_le1 (show 1 ≤ acc + 1 by omega) hx
      have := Shp.mul_le1 (show 1 ≤ (acc + 1) * x by omega) hpl
      rw [Int.mul_assoc] at this; omega
    have a2 : (acc + 1) * x = acc * x + x := by rw [Int.add_mul, Int.one_mul]
    have a0 : 0 ≤ acc * x := Int.mul_nonneg h0 (by omega)
    rw [w64 (x := acc * x) (by omega) (by omega), w64 (x := acc * x + q) (by omega) (by omega), w64 (x := (i : Int) + 1) (by omega) (by omega)]
    have a3 : (acc * x + q + 1) * Shp.pl (l.drop (i + 1)) ≤ ((acc + 1) * x) * Shp.pl (l.drop (i + 1)) := Int.mul_le_mul_of_nonneg_right (by omega) (by omega)
    rw [Int.mul_assoc (acc + 1)] at a3
    have := ih (i + 1) (acc * x + q) k (by omega) (by omega) (by omega) (by omega)
    rw [Int.natCast_add] at this
    exact this
theorem att_eq (l p : List Int) (hg : Shp.good l = true) (hl : p.length = l.length) : atGo 0 l p = Shp.att l p := by
  rw [atGo_eq l p 0 hl, Shp.att]; simp [hg]
theorem att_len (l p : List Int) (hl : p.length ≠ l.length) : Shp.att l p = (0, false) := by
  unfold Shp.att; rw [if_neg]
  intro h; exact hl (Shp.ins_length _ _ h.2)
theorem att_bad (l p : List Int) (hg : Shp.good l = false) : Shp.att l p = (0, false) := by
  unfold Shp.att; rw [if_neg]; simp [hg]
theorem At_f (l p : List Int) (k : Nat) (hk : 10 ≤ k) : shape_At.f k l p = some (Shp.att l p) := by
  obtain ⟨k', rfl, hk'⟩ := k_succ (n := 9) (k := k) (by omega)
  unfold shape_At.f
  rw [Good_f l _ hk]
  cases hg : Shp.good l
  · simp [shape_At.j0, att_bad l p hg]
  · simp only [Option.bind_some, if_true, shape_At.j0]
    have hi := Shp.good_iff.mp hg
    by_cases c : p.length = l.length
    · have : ((p.length : Int) != (l.length : Int)) = false := by simp [c]
      rw [this]
      simp only [Bool.false_eq_true, if_false]
      have := At_l0 l p hg c l.length 0 0 k' (by omega) (by omega) (by simpa using hi.2.2) (by omega)
      rw [← att_eq l p hg c]; simpa using this
    · have : ((p.length : Int) != (l.length : Int)) = true := by simp; omega
      rw [this, att_len l p c]; simp
theorem Place_l0 (l : List Int) (hg : Shp.good l = true) (t : Int) (h0 : 0 ≤ t) (h1 : t < 4096) : ∀ (i k : Nat), i ≤ l.length → i < k →
    shape_Place.l0 k l (t / Shp.pl (l.drop i)) (List.replicate i 0 ++ Shp.pla t (l.drop i)) ((i : Int) - 1) = some (Shp.pla t l, true) := by
  have hi := Shp.good_iff.mp hg
  intro i
  induction i with
  | zero =>
    intro k _ hk
    obtain ⟨k, rfl, -⟩ := k_succ hk
    simp only [shape_Place.l0]
    rw [if_neg (by omega)]; simp
  | succ i ih =>
    intro k hl hk
    obtain ⟨k, rfl, hk⟩ := k_succ hk
    have e := drop_rd l i (by omega)
    have hx := hi.2.1 _ (rd_mem l i (by omega))
    have hpl := Shp.pl_pos (l := l.drop (i + 1)) (fun y hy => hi.2.1 y (List.mem_of_mem_drop hy))
    simp only [shape_Place.l0]
    have e1 : ((i + 1 : Nat) : Int) - 1 = (i : Int) := by omega
    rw [e1]
    have hlen : (List.replicate (i + 1) (0 : Int) ++ Shp.pla t (l.drop (i + 1))).length = l.length := by
      simp [Shp.pla_length]; omega
    rw [if_pos (by omega), if_pos (by omega), if_pos (by omega), if_neg (by omega), if_pos (by omega), set_fill]
    have := ih k (by omega) (by omega)
    rw [e] at this
    simp only [Shp.pla, Shp.pl] at this
    have q0 : 0 ≤ t / Shp.pl (l.drop (i + 1)) := Int.ediv_nonneg h0 (by omega)
    have q1 : t / Shp.pl (l.drop (i + 1)) ≤ t := Int.ediv_le_self _ h0
    have e2 : t / (rd l i * Shp.pl (l.drop (i + 1))) = t / Shp.pl (l.drop (i + 1)) / rd l i := by
      rw [Int.mul_comm, Int.ediv_ediv_of_nonneg (by omega)]
    rw [e2] at this
    have q2 : 0 ≤ t / Shp.pl (l.drop (i + 1)) / rd l i := Int.ediv_nonneg q0 (by omega)
    have q3 : t / Shp.pl (l.drop (i + 1)) / rd l i ≤ t / Shp.pl (l.drop (i + 1)) := Int.ediv_le_self _ q0
    rw [Int.tdiv_eq_ediv_of_nonneg q0, Int.tmod_eq_emod_of_nonneg q0, w64 (x := t / Shp.pl (l.drop (i + 1)) / rd l i) (by omega) (by omega), w64 (x := (i : Int) - 1) (by omega) (by omega)]
    exact this
theorem Place_f (l : List Int) (t : Int) (k : Nat) (hk : 11 ≤ k) : shape_Place.f k l t = some (Shp.plc l t) := by
  obtain ⟨k', rfl, hk'⟩ := k_succ (n := 10) (k := k) (by omega)
  unfold shape_Place.f Shp.plc
  by_cases c : t < 0
  · rw [if_pos c, if_neg (by omega)]; simp [shape_Place.j0]
  · rw [if_neg c, Size_f l _ (by omega)]
    simp only [Option.bind_some, shape_Place.j0]
    by_cases c2 : t < Shp.siz l
    · have : decide (t ≥ Shp.siz l) = false := by simp; omega
      rw [this, if_pos (c := 0 ≤ t ∧ t < Shp.siz l) ⟨by omega, c2⟩]
      have hg := Shp.plc_good ⟨by omega, c2⟩
      have hi := Shp.good_iff.mp hg
      have hs := Shp.siz_le l
      simp only [Bool.false_eq_true, if_false]
      rw [if_pos (by omega), if_pos (by omega), w64 (by omega) (by omega)]
      have := Place_l0 l hg t (by omega) (by omega) l.length k' (by omega) (by omega)
      simpa [Shp.pla, Shp.pl] using this
    · have : decide (t ≥ Shp.siz l) = true := by simp; omega
      rw [this, if_neg (c := 0 ≤ t ∧ t < Shp.siz l) (by omega)]; simp
theorem rd_rev (l : List Int) (i : Nat) (h : i < l.length) : rd l ((l.length : Int) - 1 - i) = rd l.reverse i := by
  unfold rd
  have e : ((l.length : Int) - 1 - i).toNat = l.length - 1 - i := by omega
  rw [e, show ((i : Int)).toNat = i from rfl, List.getD_eq_getElem?_getD, List.getD_eq_getElem?_getD, List.getElem?_reverse h]
def sd (l : List Int) (i : Nat) : Int := if i < l.length then rd l.reverse i else 1
theorem side_f (l : List Int) (i : Nat) (h : l.length ≤ 4) (hi : i ≤ 10) : shape_side.f l i = some (sd l i) := by
  unfold shape_side.f sd
  by_cases c : i < l.length
  · rw [if_neg (by omega), if_pos c, w64 (x := (l.length : Int) - 1) (by omega) (by omega), w64 (x := (l.length : Int) - 1 - i) (by omega) (by omega), if_pos (by omega), if_pos (by omega), rd_rev l i c]
  · rw [if_pos (by omega), if_neg c]
def fin' (z : List Int) : List Int × Int := if Shp.good z = true then (z, 0) else ([], 2)
def ends (T : List Int) : Option (List Int) → List Int × Int
  | none => ([], 4)
  | some l => fin' (l.reverse ++ T)
theorem ends_map (T : List Int) (v : Int) (o : Option (List Int)) : ends T (o.map (v :: ·)) = ends (v :: T) o := by
  cases o <;> simp [ends]
theorem mx_mxx (x y : Int) : mx x y = Shp.mxx x y := rfl
/-- one step, whichever sides are there -/
theorem jn_step (a b : List Int) (ha : ∀ x ∈ a, 1 ≤ x) (hb : ∀ x ∈ b, 1 ≤ x) (i : Nat) (hi : i < max a.length b.length) (T : List Int) :
    ends T (Shp.jn (a.reverse.drop i) (b.reverse.drop i)) =
      if sd a i = sd b i ∨ sd a i = 1 ∨ sd b i = 1 then ends (Shp.mxx (sd a i) (sd b i) :: T) (Shp.jn (a.reverse.drop (i + 1)) (b.reverse.drop (i + 1))) else ([], 4) := by
  unfold sd
  by_cases ca : i < a.length
  · have ea := drop_rd a.reverse i (by simpa using ca)
    have hxa := ha (rd a.reverse i) (by simpa using rd_mem a.reverse i (by simpa using ca))
    by_cases cb : i < b.length
    · have eb := drop_rd b.reverse i (by simpa using cb)
      rw [ea, eb, if_pos ca, if_pos cb]
      simp only [Shp.jn]
      split
      · rw [ends_map]
      · rfl
    · have eb : b.reverse.drop i = [] := List.drop_of_length_le (by simp; omega)
      have eb' : b.reverse.drop (i + 1) = [] := List.drop_of_length_le (by simp; omega)
      rw [ea, eb, eb', if_pos ca, if_neg cb, Shp.jn_nil, Shp.jn_nil, if_pos (by omega)]
      have : Shp.mxx (rd a.reverse i) 1 = rd a.reverse i := by unfold Shp.mxx; split <;> omega
      rw [this]; simp [ends]
  · have cb : i < b.length := by omega
    have eb := drop_rd b.reverse i (by simpa using cb)
    have hxb := hb (rd b.reverse i) (by simpa using rd_mem b.reverse i (by simpa using cb))
    have ea : a.reverse.drop i = [] := List.drop_of_length_le (by simp; omega)
    have ea' : a.reverse.drop (i + 1) = [] := List.drop_of_length_le (by simp; omega)
    rw [ea, eb, ea', if_neg ca, if_pos cb, if_pos (by omega)]
    have : Shp.mxx 1 (rd b.reverse i) = rd b.reverse i := by unfold Shp.mxx; split <;> omega
    rw [this]; simp [ends, Shp.jn]
theorem Join_l0 (a b : List Int) (hga : Shp.good a = true) (hgb : Shp.good b = true) : ∀ (d i : Nat) (T : List Int) (k : Nat), i + d = max a.length b.length → T.length = i → 2 * d + 11 < k →
    shape_Join.l0 k a b (List.replicate d 0 ++ T) ((max a.length b.length : Nat) : Int) i = some (ends T (Shp.jn (a.reverse.drop i) (b.reverse.drop i))) := by
  have ia := Shp.good_iff.mp hga
  have ib := Shp.good_iff.mp hgb
  intro d
  induction d with
  | zero =>
    intro i T k hd hT hk
    obtain ⟨k, rfl, -⟩ := k_succ hk
    simp only [shape_Join.l0]
    rw [if_neg (by omega), List.drop_of_length_le (by simp; omega), List.drop_of_length_le (by simp; omega), Good_f _ _ (by omega)]
    simp only [Shp.jn, ends, fin', List.replicate, List.nil_append, List.reverse_nil, Option.bind_some]
    split <;> rename_i h <;> simp [h]
  | succ d ih =>
    intro i T k hd hT hk
    obtain ⟨k, rfl, hk⟩ := k_succ hk
    have hs := jn_step a b ia.2.1 ib.2.1 i (by omega) T
    rw [hs]
    simp only [shape_Join.l0]
    have hlen : (List.replicate (d + 1) (0 : Int) ++ T).length = max a.length b.length := by simp; omega
    rw [if_pos (by omega), side_f a i ia.1 (by omega), side_f b i ib.1 (by omega)]
    simp only [Option.bind_some, hlen]
    have d0 : (0 : Int) ≤ (d : Int) := by omega
    have d1 : (d : Int) < ((max a.length b.length : Nat) : Int) := by omega
    have ew : wrap64 (wrap64 (((max a.length b.length : Nat) : Int) - 1) - i) = (d : Int) := by
      rw [w64 (x := _ - 1) (by omega) (by omega), w64 (by omega) (by omega)]; omega
    have ei : wrap64 ((i : Int) + 1) = ((i + 1 : Nat) : Int) := by rw [w64 (by omega) (by omega)]; omega
    rw [ew, ei, set_fill, mx_mxx]
    clear ew ei
    have := ih (i + 1) (Shp.mxx (sd a i) (sd b i) :: T) k (by omega) (by simp; omega) (by omega)
    by_cases c1 : sd a i = sd b i
    · rw [if_pos c1, if_pos d0, if_pos d1, this, if_pos (.inl c1)]
    · by_cases c2 : sd a i = 1
      · rw [if_neg c1, if_pos c2, if_pos d0, if_pos d1, this, if_pos (.inr (.inl c2))]
      · by_cases c3 : sd b i = 1
        · rw [if_neg c1, if_neg c2, if_pos c3, if_pos d0, if_pos d1, this, if_pos (.inr (.inr c3))]
        · rw [if_neg c1, if_neg c2, if_neg c3, if_neg (by omega)]
theorem Join_f (a b : List Int) (k : Nat) (hk : 24 ≤ k) : shape_Join.f k a b = some (Shp.join a b) := by
  obtain ⟨k', rfl, hk'⟩ := k_succ (n := 23) (k := k) (by omega)
  unfold shape_Join.f
  rw [Good_f a _ (by omega), Good_f b _ (by omega)]
  cases hga : Shp.good a
  · simp [shape_Join.j0, Shp.join_bad (.inl hga)]
  cases hgb : Shp.good b
  · simp [shape_Join.j0, Shp.join_bad (.inr hgb)]
  have ia := Shp.good_iff.mp hga
  have ib := Shp.good_iff.mp hgb
  have em : mx (a.length : Int) (b.length : Int) = ((max a.length b.length : Nat) : Int) := by unfold mx; split <;> omega
  simp only [Option.bind_some, if_true, shape_Join.j0, em, Bool.not_true, Bool.false_eq_true, if_false]
  rw [if_pos (by omega), if_pos (by omega)]
  have := Join_l0 a b hga hgb (max a.length b.length) 0 [] k' (by omega) rfl (by omega)
  simp only [List.append_nil, List.drop_zero] at this
  rw [show (((max a.length b.length : Nat) : Int)).toNat = max a.length b.length from rfl, List.length_replicate]
  rw [show ((0 : Nat) : Int) = 0 from rfl] at this
  rw [this, Shp.join, if_pos ⟨hga, hgb⟩]
  congr 1
  cases Shp.jn a.reverse b.reverse <;> simp [ends, fin']
theorem pla_drop (t : Int) (l : List Int) : ∀ n, (Shp.pla t l).drop n = Shp.pla t (l.drop n) := by
  induction l with
  | nil => intro n; simp [Shp.pla]
  | cons x l ih => intro n; cases n <;> simp [Shp.pla, ih]
theorem own_step (d p : List Int) (i : Nat) (hd : i < d.length) (hp : p.length = d.length) :
    Shp.own (d.take i) (p.take i) ++ (if rd d i = 1 then 0 else rd p i) :: p.drop (i + 1) = Shp.own (d.take (i + 1)) (p.take (i + 1)) ++ p.drop (i + 1) := by
  induction d generalizing p i with
  | nil => simp at hd
  | cons x d ih =>
    cases p with
    | nil => simp at hp
    | cons q p =>
      cases i with
      | zero => simp [Shp.own, rd]
      | succ i =>
        have := ih p i (by simpa using hd) (by simpa using hp)
        simp only [List.take_succ_cons, Shp.own, List.cons_append, List.drop_succ_cons]
        rw [← this]
        have e1 : rd (x :: d) ((i + 1 : Nat) : Int) = rd d i := by unfold rd; simp [show ((i + 1 : Nat) : Int).toNat = i + 1 from rfl]
        have e2 : rd (q :: p) ((i + 1 : Nat) : Int) = rd p i := by unfold rd; simp [show ((i + 1 : Nat) : Int).toNat = i + 1 from rfl]
        rw [e1, e2]
theorem set_mid (a : List Int) (x y : Int) (r : List Int) (i : Nat) (h : a.length = i) : (a ++ x :: r).set ((i : Int)).toNat y = a ++ y :: r := by
  rw [show ((i : Int)).toNat = i from rfl, List.set_append_right _ _ (by omega), h, Nat.sub_self]; rfl
theorem own_take_length (d p : List Int) (i : Nat) (hp : p.length = d.length) (hi : i ≤ d.length) : (Shp.own (d.take i) (p.take i)).length = i := by
  rw [Shp.own_length]
  · simp; omega
  · simp; omega
theorem From_l0 (d p : List Int) (hp : p.length = d.length) (hl : d.length ≤ 4) : ∀ (c i : Nat) (k : Nat), i + c = d.length → c + 10 < k →
    shape_From.l0 k d (Shp.own (d.take i) (p.take i) ++ p.drop i) d d.length i = some (Shp.att d (Shp.own d p)) := by
  intro c
  induction c with
  | zero =>
    intro i k hi hk
    obtain ⟨k, rfl, -⟩ := k_succ hk
    simp only [shape_From.l0]
    rw [if_neg (by omega), List.take_of_length_le (by omega), List.take_of_length_le (by omega), List.drop_of_length_le (by omega), List.append_nil, At_f _ _ _ (by omega)]; rfl
  | succ c ih =>
    intro i k hi hk
    obtain ⟨k, rfl, hk⟩ := k_succ hk
    have hs := own_step d p i (by omega) hp
    have hol := own_take_length d p i hp (by omega)
    have e := drop_rd p i (by omega)
    have hlen : (i : Int) < ((Shp.own (d.take i) (p.take i) ++ p.drop i).length : Int) := by simp [hol]; omega
    have hih := ih (i + 1) k (by omega) (by omega)
    rw [Int.natCast_add] at hih
    simp only [shape_From.l0]
    rw [if_pos (by omega), if_pos (by omega), if_pos (by omega), if_pos hlen, w64 (x := (i : Int) + 1) (by omega) (by omega)]
    by_cases c1 : rd d i = 1
    · rw [if_pos c1] at hs ⊢
      rw [e, set_mid _ _ _ _ i hol, hs]; exact hih
    · rw [if_neg c1] at hs ⊢
      rw [e, hs]; exact hih
theorem From_f (d big : List Int) (t : Int) (hb : big.length ≤ 100) (k : Nat) (hk : 200 ≤ k) : shape_From.f k d big t = some (Shp.frm d big t) := by
  obtain ⟨k', rfl, hk'⟩ := k_succ (n := 199) (k := k) (by omega)
  have hj0 : ∀ x10, shape_From.j0 (k' + 1) d big x10 true = some (0, false) := fun x10 => by simp [shape_From.j0]
  unfold shape_From.f Shp.frm
  rw [Join_f _ _ _ (by omega), Place_f _ _ _ (by omega)]
  simp only [Option.bind_some]
  by_cases c1 : (Shp.join d big).2 = 0
  · by_cases hjl : (Shp.join d big).1.length ≤ 100
    · rw [if_pos c1, Same_f _ _ (by omega) _ (by omega)]
      simp only [Option.bind_some]
      by_cases c2 : (Shp.join d big).1 = big
      · have hj : Shp.join d big = (big, 0) := Prod.ext c2 c1
        rw [if_pos (by simpa using c2)]
        obtain ⟨hg, hgb, hlen, hbc⟩ := Shp.join_big'.mp hj
        have ig := Shp.good_iff.mp hg
        have igb := Shp.good_iff.mp hgb
        unfold Shp.plc
        by_cases c3 : 0 ≤ t ∧ t < Shp.siz big
        · rw [if_pos c3, if_pos ⟨hj, c3⟩]
          simp only [Bool.not_true, shape_From.j0, Bool.false_eq_true, if_false]
          have ew : wrap64 ((big.length : Int) - (d.length : Int)) = ((big.length - d.length : Nat) : Int) := by rw [w64 (by omega) (by omega)]; omega
          rw [ew]; clear ew
          rw [if_pos (by omega), if_pos (by rw [Shp.pla_length]; omega), show (((big.length - d.length : Nat) : Int)).toNat = big.length - d.length from rfl, pla_drop]
          have hpl : (Shp.pla t (big.drop (big.length - d.length))).length = d.length := by rw [Shp.pla_length]; simp; omega
          unfold slices_Clone_int_int.f
          rw [if_pos (by omega)]
          have := From_l0 d (Shp.pla t (big.drop (big.length - d.length))) hpl ig.1 d.length 0 k' (by omega) (by omega)
          simp only [List.take_zero, List.drop_zero] at this
          have e0 : Shp.own ([] : List Int) [] = [] := rfl
          rw [e0, List.nil_append] at this
          rw [Option.bind_some]
          rw [show ((0 : Nat) : Int) = 0 from rfl] at this
          rw [this]
          have hin := Shp.ins_own d (big.drop (big.length - d.length)) hbc ig.2.1 (fun x hx => igb.2.1 x (List.mem_of_mem_drop hx)) t
          unfold Shp.att Shp.fr
          rw [if_pos ⟨hg, hin⟩]
        · rw [if_neg c3, if_neg (fun h => c3 h.2)]
          exact hj0 _
      · rw [if_neg (by simpa using c2), hj0, if_neg]
        intro h; exact c2 (by rw [h.1])
    · exfalso
      have : (Shp.join d big).1.length ≤ 4 := by
        have h : Shp.join d big = ((Shp.join d big).1, 0) := Prod.ext rfl c1
        exact (Shp.good_iff.mp (Shp.join_zero h).2.2.1).1
      omega
  · rw [if_neg c1, hj0, if_neg]
    intro h; exact c1 (by rw [h.1])
theorem awake_f (k : Nat) (hk : 300 ≤ k) : carousellaw5_awake.f k = some true := by
  unfold carousellaw5_awake.f
  rw [Join_f _ _ _ (by omega), From_f _ _ _ (by decide) _ (by omega), show Shp.join [2, 3] [3] = ([2, 3], 0) by decide, show Shp.frm [3] [2, 3] 4 = (1, true) by decide]
  simp only [Option.bind_some, if_true]
  rw [Same_f _ _ (by decide) _ (by simp; omega), Size_f _ _ (by omega), show Shp.siz [2, 3] = 6 by decide, Good_f _ _ (by omega), Size_f _ _ (by omega), show Shp.siz [] = 1 by decide, show Shp.good [] = true by decide]
  simp
theorem Back_l0 (p s : List Int) (t : Int) (hps : p.length = s.length) (hl : p.length ≤ 4) (hp : ∀ x ∈ p, 0 ≤ x ∧ x ≤ 4096) (hs : ∀ x ∈ s, 0 ≤ x ∧ x ≤ 4096) : ∀ (c i : Nat) (m : Int) (k : Nat), i + c = p.length → 0 ≤ m → m ≤ 16777216 * i → c < k →
    carousellaw5_ShapeBack.l0 k t p s m i = some (m + Shp.dot (p.drop i) (s.drop i) == t) := by
  intro c
  induction c with
  | zero =>
    intro i m k hi h0 h1 hk
    obtain ⟨k, rfl, -⟩ := k_succ hk
    simp only [carousellaw5_ShapeBack.l0]
    rw [if_neg (by omega), List.drop_of_length_le (l := p) (by omega)]; simp [Shp.dot]
  | succ c ih =>
    intro i m k hi h0 h1 hk
    obtain ⟨k, rfl, hk⟩ := k_succ hk
    have e1 := drop_rd p i (by omega)
    have e2 := drop_rd s i (by omega)
    have b1 := hp _ (rd_mem p i (by omega))
    have b2 := hs _ (rd_mem s i (by omega))
    simp only [carousellaw5_ShapeBack.l0]
    rw [if_pos (by omega), if_pos (by omega), if_pos (by omega), e1, e2]
    simp only [Shp.dot]
    generalize rd p i = x at *
    generalize rd s i = y at *
    have hm := mul_bd b1.1 b1.2 b2.1 b2.2
    have hi4 : i ≤ 3 := by omega
    rw [w64 (x := x * y) (by omega) (by omega), w64 (x := m + x * y) (by omega) (by omega), w64 (x := (i : Int) + 1) (by omega) (by omega)]
    have := ih (i + 1) (m + x * y) k (by omega) (by omega) (by omega) (by omega)
    rw [Int.natCast_add] at this
    rw [← Int.add_assoc]
    exact this
theorem strs_bound (l : List Int) (hp : ∀ x ∈ l, 1 ≤ x) : ∀ x ∈ Shp.strs l, 0 ≤ x ∧ x ≤ Shp.pl l := by
  induction l with
  | nil => simp [Shp.strs]
  | cons y l ih =>
    have hr : ∀ z ∈ l, 1 ≤ z := fun z hz => hp z (List.mem_cons_of_mem _ hz)
    have hy := hp y (List.mem_cons_self ..)
    have h1 := Shp.pl_pos hr
    have h2 := Shp.mul_le1 hy h1
    intro x hx
    show _ ∧ x ≤ y * Shp.pl l
    rcases List.mem_cons.mp hx with rfl | hx
    · omega
    · have := ih hr x hx; omega
theorem pla_bound (l : List Int) (hp : ∀ x ∈ l, 1 ≤ x) (t : Int) : ∀ x ∈ Shp.pla t l, 0 ≤ x ∧ x ≤ Shp.pl l := by
  induction l with
  | nil => simp [Shp.pla]
  | cons y l ih =>
    have hr : ∀ z ∈ l, 1 ≤ z := fun z hz => hp z (List.mem_cons_of_mem _ hz)
    have hy := hp y (List.mem_cons_self ..)
    have h1 := Shp.pl_pos hr
    have h2 := Shp.mul_le1 hy h1
    intro x hx
    show _ ∧ x ≤ y * Shp.pl l
    rcases List.mem_cons.mp hx with rfl | hx
    · have := Int.emod_nonneg (t / Shp.pl l) (show y ≠ 0 by omega)
      have := Int.emod_lt_of_pos (t / Shp.pl l) (show 0 < y by omega)
      omega
    · have := ih hr x hx; omega
theorem Back_j0 (l : List Int) (t : Int) (hg : Shp.good l = true) (h0 : 0 ≤ t) (h1 : t < Shp.siz l) (k : Nat) (hk : 400 ≤ k) : carousellaw5_ShapeBack.j0 (k + 1 + 1) l t false = some true := by
  have ig := Shp.good_iff.mp hg
  simp only [carousellaw5_ShapeBack.j0, Bool.false_eq_true, if_false]
  have hp : Shp.plc l t = (Shp.pla t l, true) := by unfold Shp.plc; rw [if_pos ⟨h0, h1⟩]
  have hm : t % Shp.pl l = t := Int.emod_eq_of_lt h0 (by rw [Shp.siz_good hg] at h1; exact h1)
  have ha : Shp.att l (Shp.pla t l) = (t, true) := by
    unfold Shp.att
    rw [if_pos ⟨hg, Shp.ins_pla l ig.2.1 t⟩, Shp.mr_pla l ig.2.1, hm]
  rw [Place_f _ _ _ (by omega), hp]
  simp only [Option.bind_some]
  rw [At_f _ _ _ (by omega), ha, Strides_f _ _ (by omega)]
  simp only [Option.bind_some, if_true, hg]
  rw [if_pos (by rw [Shp.pla_length])]
  have el : (((Shp.strs l).length : Int) != (l.length : Int)) = false := by rw [Shp.strs_length]; simp
  rw [el]
  simp only [carousellaw5_ShapeBack.j1, Bool.false_eq_true, if_false]
  have hpl := Shp.pla_length t l
  have hsl := Shp.strs_length l
  have := Back_l0 (Shp.pla t l) (Shp.strs l) t (by omega) (by omega) (fun x hx => by have := pla_bound l ig.2.1 t x hx; omega) (fun x hx => by have := strs_bound l ig.2.1 x hx; omega) (Shp.pla t l).length 0 0 k (by omega) (by omega) (by omega) (by omega)
  simp only [List.drop_zero] at this
  rw [show ((0 : Nat) : Int) = 0 from rfl] at this
  rw [this, Shp.dot_mr l _ hpl, Shp.mr_pla l ig.2.1, hm]
  simp
theorem Back_all (l : List Int) (t : Int) : ∃ k, carousellaw5_ShapeBack.f k l t = some true := by
  refine ⟨401 + 1 + 1, ?_⟩
  unfold carousellaw5_ShapeBack.f
  rw [awake_f _ (by omega)]
  simp only [Option.bind_some, if_true]
  have hT : carousellaw5_ShapeBack.j0 (401 + 1 + 1) l t true = some true := by simp [carousellaw5_ShapeBack.j0]
  by_cases c1 : (l.length : Int) > 4
  · rw [if_pos c1, hT]
  · rw [if_neg c1, Good_f _ _ (by omega)]
    simp only [Option.bind_some]
    cases hg : Shp.good l
    · simp [hT]
    · simp only [if_true]
      by_cases c2 : t < 0
      · rw [if_pos c2, hT]
      · rw [if_neg c2, Size_f _ _ (by omega)]
        simp only [Option.bind_some]
        by_cases c3 : t ≥ Shp.siz l
        · rw [decide_eq_true c3, hT]
        · rw [decide_eq_false c3]; exact Back_j0 l t hg (by omega) (by omega) 401 (by omega)
theorem ShapeBack : carousellaw5_ShapeBack.Pure := by
  intro a t _ _ _ _
  exact Back_all a t
end Go.Proofs.Yteocepnoeajedaa.Pure
