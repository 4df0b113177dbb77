/- The plain law behind TensBack: what the functions compute answers as the statement says, for every input. No condition. -/
import Derived.Test.YtbdhabpplidgfaaPTensBackx9
import Derived.Laws.BitsAllLaws
import Derived.Test.YtbdhabpplidgfaaFixMath
import Derived.Test.YtbdhabpplidgfaaShapeMath
import Derived.Test.YtbdhabpplidgfaaBigMath
import Derived.Test.YtbdhabpplidgfaaWideMath
namespace Go.Proofs.Ytbdhabpplidgfaa.Pure
open Go.RowKit Go.Proofs.Ytbdhabpplidgfaa.PTensBack Go.Proofs.YtbdhabpplidgfaaW.PrintWords Go.Proofs.YtbdhabpplidgfaaW.PrintLast Go.Proofs.YtbdhabpplidgfaaW.PrintMore
set_option linter.unusedVariables false
set_option linter.unusedSimpArgs false
theorem w64 {x : Int} (h1 : -9223372036854775808 ≤ x) (h2 : x ≤ 9223372036854775807) : wrap64 x = x := by unfold wrap64; omega
theorem drop_rd (l : List Int) (i : Nat) (h : i < l.length) : l.drop i = rd l i :: l.drop (i + 1) := by
  rw [List.drop_eq_getElem_cons h]
  congr 1
  unfold rd
  rw [show (i : Int).toNat = i from rfl, List.getD_eq_getElem?_getD, List.getElem?_eq_getElem h]; rfl
theorem rd_mem (l : List Int) (i : Nat) (h : i < l.length) : rd l i ∈ l := by
  have := drop_rd l i h
  exact List.mem_of_mem_drop (i := i) (by rw [this]; exact List.mem_cons_self ..)
theorem mul_bd {a b A B : Int} (h0 : 0 ≤ a) (h1 : a ≤ A) (h2 : 0 ≤ b) (h3 : b ≤ B) : 0 ≤ a * b ∧ a * b ≤ A * B :=
  ⟨Int.mul_nonneg h0 h2, Int.mul_le_mul h1 h3 h2 (by omega)⟩
theorem k_succ {k n : Nat} (h : n < k) : ∃ m, k = m + 1 ∧ n ≤ m := ⟨k - 1, by omega, by omega⟩
theorem product_l0 (l : List Int) (hl : l.length ≤ 4) : ∀ (d i : Nat) (n : Int) (k : Nat), i + d = l.length → 1 ≤ n → n ≤ 4096 → 2 * d < k →
    shape_product.l0 k n l l.length i = some (Shp.gp n (l.drop i)) := by
  intro d
  induction d with
  | zero =>
    intro i n k hi h1 h2 hk
    obtain ⟨k, rfl, -⟩ := k_succ hk
    simp only [shape_product.l0]
    rw [if_neg (by omega), List.drop_of_length_le (by omega)]; rfl
  | succ d ih =>
    intro i n k hi h1 h2 hk
    obtain ⟨k, rfl, hk⟩ := k_succ hk
    obtain ⟨k, rfl, hk⟩ := k_succ (n := 2 * d + 1) (k := k) (by omega)
    have e := drop_rd l i (by omega)
    simp only [shape_product.l0, shape_product.j1]
    rw [if_pos (by omega), if_pos (by omega), if_pos (by omega), e]
    generalize rd l i = x at *
    simp only [Shp.gp]
    by_cases c1 : x < 1
    · simp [c1]
    by_cases c2 : 4096 < x
    · simp [c1, c2]
    have hb := mul_bd (a := n) (b := x) (by omega) h2 (by omega) (show x ≤ 4096 by omega)
    have hb1 := Shp.mul_le1 h1 (show 1 ≤ x by omega)
    rw [w64 (x := n * x) (by omega) (by omega), w64 (x := (i : Int) + 1) (by omega) (by omega)]
    simp only [if_neg c1, if_neg c2, show ¬ (x > 4096) from c2, decide_false]
    by_cases c3 : 4096 < n * x
    · simp [c3]
    · simp only [if_neg c3, show ¬ (n * x > 4096) from c3, if_false]
      have := ih (i + 1) (n * x) k (by omega) (by omega) (by omega) (by omega)
      rw [Int.natCast_add] at this
      simpa using this
theorem product_f (l : List Int) (k : Nat) (hk : 10 ≤ k) : shape_product.f k l = some (Shp.siz l) := by
  unfold shape_product.f
  by_cases h : l.length ≤ 4
  · rw [if_neg (by omega), ← Shp.gp_siz l h]
    have := product_l0 l h l.length 0 1 k (by omega) (by omega) (by omega) (by omega)
    simpa using this
  · rw [if_pos (by omega), Shp.siz_long l h]
theorem Good_f (l : List Int) (k : Nat) (hk : 10 ≤ k) : shape_Good.f k l = some (Shp.good l) := by
  unfold shape_Good.f; rw [product_f l k hk, ← Shp.siz_pos]; rfl
theorem Size_f (l : List Int) (k : Nat) (hk : 10 ≤ k) : shape_Size.f k l = some (Shp.siz l) := by
  unfold shape_Size.f; rw [product_f l k hk]; rfl
theorem eq_drop {a b : List Int} {i : Nat} (ha : i < a.length) (hb : i < b.length) : decide (a.drop i = b.drop i) = (decide (rd a i = rd b i) && decide (a.drop (i + 1) = b.drop (i + 1))) := by
  rw [drop_rd a i ha, drop_rd b i hb]; simp
theorem Equal_l0 (a b : List Int) (h : a.length = b.length) (hm : a.length ≤ 9223372036854775000) : ∀ (d i k : Nat), i + d = a.length → d < k →
    slices_Equal_int_int.l0 k a b a.length i = some (decide (a.drop i = b.drop i)) := by
  intro d
  induction d with
  | zero =>
    intro i k hi hk
    obtain ⟨k, rfl, -⟩ := k_succ hk
    simp only [slices_Equal_int_int.l0]
    rw [if_neg (by omega), List.drop_of_length_le (by omega), List.drop_of_length_le (by omega)]; simp
  | succ d ih =>
    intro i k hi hk
    obtain ⟨k, rfl, hk⟩ := k_succ hk
    simp only [slices_Equal_int_int.l0]
    rw [if_pos (by omega), if_pos (by omega), if_pos (by omega), if_pos (by omega), eq_drop (by omega) (by omega), w64 (x := (i : Int) + 1) (by omega) (by omega)]
    have := ih (i + 1) k (by omega) (by omega)
    rw [Int.natCast_add] at this
    by_cases c : rd a i = rd b i
    · rw [if_pos c]; simpa [c] using this
    · rw [if_neg c]; simp [c]
theorem Same_f (a b : List Int) (hm : a.length ≤ 9223372036854775000) (k : Nat) (hk : a.length < k) : shape_Same.f k a b = some (decide (a = b)) := by
  unfold shape_Same.f slices_Equal_int_int.f
  by_cases h : a.length = b.length
  · rw [if_pos (by omega)]
    have := Equal_l0 a b h hm a.length 0 k (by omega) hk
    simp at this; simp [this]
  · rw [if_neg (by omega)]
    have : a ≠ b := fun e => h (by rw [e])
    simp [this]
/-- a list that is filled from its end on -/
theorem set_fill (i : Nat) (r : List Int) (x : Int) : (List.replicate (i + 1) 0 ++ r).set ((i : Int)).toNat x = List.replicate i 0 ++ x :: r := by
  rw [show ((i : Int)).toNat = i from rfl, List.replicate_succ', List.append_assoc, List.set_append_right _ _ (by simp)]
  simp
/-- a partial place: what At does from side i on -/
def atGo (acc : Int) : List Int → List Int → Int × Bool
  | x :: d, p :: ps => if p < 0 then (0, false) else if p ≥ x then (0, false) else atGo (acc * x + p) d ps
  | _, _ => (acc, true)
theorem atGo_eq (d : List Int) : ∀ p acc, p.length = d.length → atGo acc d p = if Shp.ins d p = true then (Shp.mr acc d p, true) else (0, false) := by
  induction d with
  | nil => intro p acc h; cases p <;> simp_all [atGo, Shp.ins, Shp.mr]
  | cons x d ih =>
    intro p acc h
    cases p with
    | nil => simp at h
    | cons q p =>
      have e : Shp.ins (x :: d) (q :: p) = (decide (0 ≤ q) && (decide (q < x) && Shp.ins d p)) := rfl
      simp only [atGo]
      by_cases c1 : q < 0
      · have : Shp.ins (x :: d) (q :: p) = false := by rw [e, decide_eq_false (by omega)]; rfl
        rw [if_pos c1, this]; rfl
      · rw [if_neg c1]
        by_cases c2 : q ≥ x
        · have : Shp.ins (x :: d) (q :: p) = false := by rw [e, decide_eq_false (p := q < x) (by omega)]; simp
          rw [if_pos c2, this]; rfl
        · rw [if_neg c2, ih p _ (by simpa using h)]
          have : Shp.ins (x :: d) (q :: p) = Shp.ins d p := by rw [e, decide_eq_true (by omega), decide_eq_true (by omega)]; simp
          rw [this]; rfl
theorem At_l0 (l p : List Int) (hg : Shp.good l = true) (hl : p.length = l.length) : ∀ (d i : Nat) (acc : Int) (k : Nat), i + d = l.length → 0 ≤ acc → (acc + 1) * Shp.pl (l.drop i) ≤ 4096 → d < k →
    shape_At.l0 k l acc p p.length i = some (atGo acc (l.drop i) (p.drop i)) := by
  have hi := Shp.good_iff.mp hg
  intro d
  induction d with
  | zero =>
    intro i acc k hd h0 h1 hk
    obtain ⟨k, rfl, -⟩ := k_succ hk
    simp only [shape_At.l0]
    rw [if_neg (by omega), List.drop_of_length_le (by omega)]; simp [atGo]
  | succ d ih =>
    intro i acc k hd h0 h1 hk
    obtain ⟨k, rfl, hk⟩ := k_succ hk
    have e1 := drop_rd l i (by omega)
    have e2 := drop_rd p i (by omega)
    have hx := hi.2.1 _ (rd_mem l i (by omega))
    have hpl := Shp.pl_pos (l := l.drop (i + 1)) (fun y hy => hi.2.1 y (List.mem_of_mem_drop hy))
    simp only [shape_At.l0]
    have i1 : (i : Int) < (l.length : Int) := by omega
    rw [if_pos (by omega), if_pos (by omega), if_pos (by omega), e1, e2]
    rw [e1] at h1
    simp only [atGo, Shp.pl] at h1 ⊢
    generalize rd l i = x at *
    generalize rd p i = q at *
    by_cases c1 : q < 0
    · rw [if_pos c1, if_pos c1]
    rw [if_neg c1, if_neg c1, if_pos i1]
    by_cases c2 : q ≥ x
    · rw [if_pos c2, if_pos c2]
    rw [if_neg c2, if_neg c2]
    have a1 : (acc + 1) * x ≤ 4096 ∧ 1 ≤ (acc + 1) * x := by
      have := Shp.mul_le1 (show 1 ≤ acc + 1 by omega) hx
      have := Shp.mul_le1 (show 1 ≤ (acc + 1) * x by omega) hpl
      rw [Int.mul_assoc] at this; omega
    have a2 : (acc + 1) * x = acc * x + x := by rw [Int.add_mul, Int.one_mul]
    have a0 : 0 ≤ acc * x := Int.mul_nonneg h0 (by omega)
    rw [w64 (x := acc * x) (by omega) (by omega), w64 (x := acc * x + q) (by omega) (by omega), w64 (x := (i : Int) + 1) (by omega) (by omega)]
    have a3 : (acc * x + q + 1) * Shp.pl (l.drop (i + 1)) ≤ ((acc + 1) * x) * Shp.pl (l.drop (i + 1)) := Int.mul_le_mul_of_nonneg_right (by omega) (by omega)
    rw [Int.mul_assoc (acc + 1)] at a3
    have := ih (i + 1) (acc * x + q) k (by omega) (by omega) (by omega) (by omega)
    rw [Int.natCast_add] at this
    exact this
theorem att_eq (l p : List Int) (hg : Shp.good l = true) (hl : p.length = l.length) : atGo 0 l p = Shp.att l p := by
  rw [atGo_eq l p 0 hl, Shp.att]; simp [hg]
theorem att_len (l p : List Int) (hl : p.length ≠ l.length) : Shp.att l p = (0, false) := by
  unfold Shp.att; rw [if_neg]
  intro h; exact hl (Shp.ins_length _ _ h.2)
theorem att_bad (l p : List Int) (hg : Shp.good l = false) : Shp.att l p = (0, false) := by
  unfold Shp.att; rw [if_neg]; simp [hg]
theorem At_f (l p : List Int) (k : Nat) (hk : 10 ≤ k) : shape_At.f k l p = some (Shp.att l p) := by
  obtain ⟨k', rfl, hk'⟩ := k_succ (n := 9) (k := k) (by omega)
  unfold shape_At.f
  rw [Good_f l _ hk]
  cases hg : Shp.good l
  · simp [shape_At.j0, att_bad l p hg]
  · simp only [Option.bind_some, if_true, shape_At.j0]
    have hi := Shp.good_iff.mp hg
    by_cases c : p.length = l.length
    · have : ((p.length : Int) != (l.length : Int)) = false := by simp [c]
      rw [this]
      simp only [Bool.false_eq_true, if_false]
      have := At_l0 l p hg c l.length 0 0 k' (by omega) (by omega) (by simpa using hi.2.2) (by omega)
      rw [← att_eq l p hg c]; simpa using this
    · have : ((p.length : Int) != (l.length : Int)) = true := by simp; omega
      rw [this, att_len l p c]; simp
theorem Place_l0 (l : List Int) (hg : Shp.good l = true) (t : Int) (h0 : 0 ≤ t) (h1 : t < 4096) : ∀ (i k : Nat), i ≤ l.length → i < k →
    shape_Place.l0 k l (t / Shp.pl (l.drop i)) (List.replicate i 0 ++ Shp.pla t (l.drop i)) ((i : Int) - 1) = some (Shp.pla t l, true) := by
  have hi := Shp.good_iff.mp hg
  intro i
  induction i with
  | zero =>
    intro k _ hk
    obtain ⟨k, rfl, -⟩ := k_succ hk
    simp only [shape_Place.l0]
    rw [if_neg (by omega)]; simp
  | succ i ih =>
    intro k hl hk
    obtain ⟨k, rfl, hk⟩ := k_succ hk
    have e := drop_rd l i (by omega)
    have hx := hi.2.1 _ (rd_mem l i (by omega))
    have hpl := Shp.pl_pos (l := l.drop (i + 1)) (fun y hy => hi.2.1 y (List.mem_of_mem_drop hy))
    simp only [shape_Place.l0]
    have e1 : ((i + 1 : Nat) : Int) - 1 = (i : Int) := by omega
    rw [e1]
    have hlen : (List.replicate (i + 1) (0 : Int) ++ Shp.pla t (l.drop (i + 1))).length = l.length := by
      simp [Shp.pla_length]; omega
    rw [if_pos (by omega), if_pos (by omega), if_pos (by omega), if_neg (by omega), if_pos (by omega), set_fill]
    have := ih k (by omega) (by omega)
    rw [e] at this
    simp only [Shp.pla, Shp.pl] at this
    have q0 : 0 ≤ t / Shp.pl (l.drop (i + 1)) := Int.ediv_nonneg h0 (by omega)
    have q1 : t / Shp.pl (l.drop (i + 1)) ≤ t := Int.ediv_le_self _ h0
    have e2 : t / (rd l i * Shp.pl (l.drop (i + 1))) = t / Shp.pl (l.drop (i + 1)) / rd l i := by
      rw [Int.mul_comm, Int.ediv_ediv_of_nonneg (by omega)]
    rw [e2] at this
    have q2 : 0 ≤ t / Shp.pl (l.drop (i + 1)) / rd l i := Int.ediv_nonneg q0 (by omega)
    have q3 : t / Shp.pl (l.drop (i + 1)) / rd l i ≤ t / Shp.pl (l.drop (i + 1)) := Int.ediv_le_self _ q0
    rw [Int.tdiv_eq_ediv_of_nonneg q0, Int.tmod_eq_emod_of_nonneg q0, w64 (x := t / Shp.pl (l.drop (i + 1)) / rd l i) (by omega) (by omega), w64 (x := (i : Int) - 1) (by omega) (by omega)]
    exact this
theorem Place_f (l : List Int) (t : Int) (k : Nat) (hk : 11 ≤ k) : shape_Place.f k l t = some (Shp.plc l t) := by
  obtain ⟨k', rfl, hk'⟩ := k_succ (n := 10) (k := k) (by omega)
  unfold shape_Place.f Shp.plc
  by_cases c : t < 0
  · rw [if_pos c, if_neg (by omega)]; simp [shape_Place.j0]
  · rw [if_neg c, Size_f l _ (by omega)]
    simp only [Option.bind_some, shape_Place.j0]
    by_cases c2 : t < Shp.siz l
    · have : decide (t ≥ Shp.siz l) = false := by simp; omega
      rw [this, if_pos (c := 0 ≤ t ∧ t < Shp.siz l) ⟨by omega, c2⟩]
      have hg := Shp.plc_good ⟨by omega, c2⟩
      have hi := Shp.good_iff.mp hg
      have hs := Shp.siz_le l
      simp only [Bool.false_eq_true, if_false]
      rw [if_pos (by omega), if_pos (by omega), w64 (by omega) (by omega)]
      have := Place_l0 l hg t (by omega) (by omega) l.length k' (by omega) (by omega)
      simpa [Shp.pla, Shp.pl] using this
    · have : decide (t ≥ Shp.siz l) = true := by simp; omega
      rw [this, if_neg (c := 0 ≤ t ∧ t < Shp.siz l) (by omega)]; simp
theorem u64w (n : Int) : IntKind.u64.wrap n = n % 18446744073709551616 := by simp [IntKind.wrap, IntKind.bits, IntKind.signed]
theorem and32 (x : Int) (h0 : 0 ≤ x) (h1 : x ≤ 18446744073709551615) : Go.bits .and .u64 x 4294967295 = x % 4294967296 := by
  rw [Go.u64_and x 4294967295 h0 (by omega) (by omega) (by omega)]
  have : (4294967295 : Int).toNat = 2 ^ 32 - 1 := rfl
  rw [this, Nat.and_two_pow_sub_one_eq_mod]
  omega
theorem mul_le {a b A B : Int} (h0 : 0 ≤ a) (h1 : a ≤ A) (h2 : 0 ≤ b) (h3 : b ≤ B) : 0 ≤ a * b ∧ a * b ≤ A * B :=
  ⟨Int.mul_nonneg h0 h2, Int.mul_le_mul h1 h3 h2 (by omega)⟩
theorem split_mul (x0 x1 y0 y1 : Int) : (x1 * 4294967296 + x0) * (y1 * 4294967296 + y0) = (x1 * y1) * 18446744073709551616 + ((x1 * y0) + (x0 * y1)) * 4294967296 + x0 * y0 := by grind
theorem Mul64_f (a b : Int) (a0 : 0 ≤ a) (a1 : a ≤ 18446744073709551615) (b0 : 0 ≤ b) (b1 : b ≤ 18446744073709551615) : bits_Mul64.f a b = some (a * b / 18446744073709551616, a * b % 18446744073709551616) := by
  unfold bits_Mul64.f
  rw [and32 a a0 a1, and32 b b0 b1]
  simp only [u64w]
  have ea : a = (a / 4294967296) * 4294967296 + a % 4294967296 := by omega
  have eb : b = (b / 4294967296) * 4294967296 + b % 4294967296 := by omega
  have es := split_mul (a % 4294967296) (a / 4294967296) (b % 4294967296) (b / 4294967296)
  rw [← ea, ← eb] at es
  have h1 : 0 ≤ a / 4294967296 ∧ a / 4294967296 ≤ 4294967295 := by omega
  have h2 : 0 ≤ a % 4294967296 ∧ a % 4294967296 ≤ 4294967295 := by omega
  have h3 : 0 ≤ b / 4294967296 ∧ b / 4294967296 ≤ 4294967295 := by omega
  have h4 : 0 ≤ b % 4294967296 ∧ b % 4294967296 ≤ 4294967295 := by omega
  have p00 := mul_le h2.1 h2.2 h4.1 h4.2
  have p10 := mul_le h1.1 h1.2 h4.1 h4.2
  have p01 := mul_le h2.1 h2.2 h3.1 h3.2
  have p11 := mul_le h1.1 h1.2 h3.1 h3.2
  clear ea eb a0 a1 b0 b1
  generalize a / 4294967296 * (b / 4294967296) = P11 at *
  generalize a / 4294967296 * (b % 4294967296) = P10 at *
  generalize a % 4294967296 * (b / 4294967296) = P01 at *
  generalize a % 4294967296 * (b % 4294967296) = P00 at *
  generalize a * b = S at *
  clear h1 h2 h3 h4
  simp only [Int.reduceMul] at p00 p10 p01 p11
  have r1 : (P10 % 18446744073709551616 + P00 % 18446744073709551616 / 4294967296) % 18446744073709551616 = P10 + P00 / 4294967296 := by omega
  rw [r1, and32 _ (by omega) (by omega)]
  congr 1
  rw [Prod.mk.injEq]
  constructor
  · omega
  · rfl
theorem tGood_f (d v : List Int) (k : Nat) (hk : 10 ≤ k) : tens_Good.f k d v = some (Shp.good d && decide ((v.length : Int) = Shp.siz d)) := by
  unfold tens_Good.f
  rw [Good_f d k hk]
  simp only [Option.bind_some]
  cases h : Shp.good d
  · simp
  · rw [if_pos rfl, Size_f d k hk]
    simp only [Option.bind_some, Bool.true_and]
    congr 1
theorem rd_map (f : Int → Int) (l : List Int) (i : Nat) (h : i < l.length) : rd (l.map f) i = f (rd l i) := by
  unfold rd
  rw [show (i : Int).toNat = i from rfl]
  simp [List.getD_eq_getElem?_getD, List.getElem?_eq_getElem, h]
def tab (n : Nat) (g : Nat → Int) : List Int := (List.range n).map g
theorem tab_length (n : Nat) (g : Nat → Int) : (tab n g).length = n := by simp [tab]
theorem rd_tab (n : Nat) (g : Nat → Int) (i : Nat) (h : i < n) : rd (tab n g) i = g i := by
  unfold rd tab
  rw [show (i : Int).toNat = i from rfl]
  simp [List.getD_eq_getElem?_getD, List.getElem?_eq_getElem, h]
theorem rd_get (l : List Int) (i : Nat) (h : i < l.length) : rd l i = l[i] := by
  unfold rd
  rw [show (i : Int).toNat = i from rfl]
  simp [List.getD_eq_getElem?_getD, List.getElem?_eq_getElem, h]
theorem rd_ext {a b : List Int} (h : a.length = b.length) (e : ∀ i, i < a.length → rd a i = rd b i) : a = b := by
  apply List.ext_getElem h
  intro i h1 h2
  have := e i h1
  rwa [rd_get a i h1, rd_get b i h2] at this
theorem tab_rd (l : List Int) : tab l.length (fun i => rd l i) = l := by
  apply rd_ext (tab_length _ _)
  intro i hi
  rw [tab_length] at hi
  exact rd_tab _ _ i hi
theorem tab_map (f : Int → Int) (l : List Int) : tab l.length (fun i => f (rd l i)) = l.map f := by
  apply rd_ext (by simp [tab_length])
  intro i hi
  rw [tab_length] at hi
  rw [rd_tab _ _ i hi, rd_map _ _ _ hi]
theorem set_take' (l : List Int) (i : Nat) (x : Int) (h : i < l.length) : (l.set i x).take (i + 1) = l.take i ++ [x] := by
  rw [List.take_succ_eq_append_getElem (by simpa using h), List.take_set_of_le (by omega)]
  simp
theorem tab_succ (n : Nat) (g : Nat → Int) : tab (n + 1) g = tab n g ++ [g n] := by
  unfold tab; rw [List.range_succ, List.map_append]; rfl
theorem rd_set (l : List Int) (i : Nat) (x : Int) (h : i < l.length) : rd (l.set i x) i = x := by
  rw [rd_get _ i (by simpa using h)]; simp
theorem good_len {d : List Int} (h : Shp.good d = true) : d.length ≤ 4 := (Shp.good_iff.mp h).1
theorem bmul_f (a b : Int) (a0 : 0 ≤ a) (a1 : a ≤ 18446744073709551615) (b0 : 0 ≤ b) (b1 : b ≤ 18446744073709551615) : bits_Mul.f a b = some (a * b / 18446744073709551616, a * b % 18446744073709551616) := by
  unfold bits_Mul.f
  rw [Mul64_f a b a0 a1 b0 b1]
  rfl
theorem tRepeat_f (v n : Int) (h1 : 1 ≤ n) (h2 : n ≤ 4096) : slices_Repeat_Fix.f [v] n = some (List.replicate n.toNat v) := by
  unfold slices_Repeat_Fix.f
  rw [bmul_f 1 n (by omega) (by omega) (by omega) (by omega)]
  simp only [Option.bind_some]
  rw [if_pos ⟨rfl, h1, h2, by omega, by omega⟩]
  rfl
def tnew (d : List Int) (v : Int) : List Int × List Int × Int := if Shp.good d = true then (d, List.replicate (Shp.siz d).toNat v, 0) else ([], [], 1)
theorem siz_one {d : List Int} (h : Shp.good d = true) : 1 ≤ Shp.siz d := by
  rw [Shp.siz_good h]; exact Shp.pl_pos (Shp.good_iff.mp h).2.1
theorem tNew_f (d : List Int) (v : Int) (k : Nat) (hk : 10 ≤ k) : tens_New.f k d v = some (tnew d v) := by
  unfold tens_New.f tnew
  rw [Good_f d k hk]
  simp only [Option.bind_some]
  cases h : Shp.good d
  · simp
  · have := siz_one h
    have := Shp.siz_le d
    have hl := good_len h
    rw [if_pos rfl, if_pos rfl]
    unfold slices_Clone_int_int.f
    rw [if_pos (by omega), Size_f d k hk]
    simp only [Option.bind_some]
    rw [tRepeat_f v _ (by omega) (by omega)]
    rfl
theorem great_f (d v : List Int) (n : Int) : carousellaw6_great.f d v n = some (decide ((d.length : Int) > 10) || decide ((v.length : Int) > n)) := by
  unfold carousellaw6_great.f
  by_cases c : (d.length : Int) > 10
  · rw [if_pos c, decide_eq_true c]; rfl
  · rw [if_neg c, decide_eq_false c]; rfl
theorem EqualF_l0 (a b : List Int) (h : a.length = b.length) (hm : a.length ≤ 9223372036854775000) : ∀ (d i k : Nat), i + d = a.length → d < k →
    slices_Equal_Fix.l0 k a b a.length i = some (decide (a.drop i = b.drop i)) := by
  intro d
  induction d with
  | zero =>
    intro i k hi hk
    obtain ⟨k, rfl, -⟩ := k_succ hk
    simp only [slices_Equal_Fix.l0]
    rw [if_neg (by omega), List.drop_of_length_le (by omega), List.drop_of_length_le (by omega)]; simp
  | succ d ih =>
    intro i k hi hk
    obtain ⟨k, rfl, hk⟩ := k_succ hk
    simp only [slices_Equal_Fix.l0]
    rw [if_pos (by omega), if_pos (by omega), if_pos (by omega), if_pos (by omega), eq_drop (by omega) (by omega), w64 (x := (i : Int) + 1) (by omega) (by omega)]
    have := ih (i + 1) k (by omega) (by omega)
    rw [Int.natCast_add] at this
    by_cases c : rd a i = rd b i
    · rw [if_pos c]; simpa [c] using this
    · rw [if_neg c]; simp [c]
theorem EqualF_f (a b : List Int) (hm : a.length ≤ 9223372036854775000) (k : Nat) (hk : a.length < k) : slices_Equal_Fix.f k a b = some (decide (a = b)) := by
  unfold slices_Equal_Fix.f
  by_cases h : a.length = b.length
  · rw [if_pos (by omega)]
    have := EqualF_l0 a b h hm a.length 0 k (by omega) hk
    simp at this; simp [this]
  · rw [if_neg (by omega)]
    have : a ≠ b := fun e => h (by rw [e])
    simp [this]
theorem tSame_f (d v e u : List Int) (hd : d.length ≤ 1000000) (hv : v.length ≤ 1000000) (k : Nat) (hk1 : d.length + 1 < k) (hk2 : v.length + 1 < k) : tens_Same.f k d v e u = some (decide (d = e ∧ v = u)) := by
  unfold tens_Same.f
  rw [Same_f d e (by omega) k (by omega), Option.bind_some]
  by_cases c : d = e
  · rw [if_pos (by simp [c]), EqualF_f v u (by omega) k (by omega)]
    simp [c]
  · rw [if_neg (by simp [c])]; simp [c]
/-- what stands where, of sides that change places -/
def isperm (p : List Int) : Prop := ∀ i : Nat, i < p.length → (i : Int) ∈ p
instance (p : List Int) : Decidable (isperm p) := by unfold isperm; infer_instance
def rgi (n : Nat) : List Int := tab n (fun i => (i : Int))
theorem sub_perm : ∀ (l1 l2 : List Int), l1.Nodup → l1 ⊆ l2 → ∃ l, l2.Perm (l1 ++ l) := by
  intro l1
  induction l1 with
  | nil => intro l2 _ _; exact ⟨l2, List.Perm.refl _⟩
  | cons a l1 ih =>
    intro l2 hn hs
    have ha : a ∈ l2 := hs (List.mem_cons_self ..)
    rw [List.nodup_cons] at hn
    obtain ⟨l, hl⟩ := ih (l2.erase a) hn.2 (fun b hb => (List.mem_erase_of_ne (fun e => hn.1 (by rw [← e]; exact hb))).2 (hs (List.mem_cons_of_mem _ hb)))
    exact ⟨l, (List.perm_cons_erase ha).trans (hl.cons a)⟩
theorem rgi_nodup (n : Nat) : (rgi n).Nodup := by
  unfold rgi tab
  exact List.Pairwise.map _ (fun a b (h : a ≠ b) e => h (by omega)) List.nodup_range
theorem rgi_mem {n : Nat} {x : Int} : x ∈ rgi n ↔ 0 ≤ x ∧ x < n := by
  unfold rgi tab
  rw [List.mem_map]
  constructor
  · rintro ⟨i, hi, rfl⟩
    have := List.mem_range.1 hi
    omega
  · rintro ⟨h0, h1⟩
    exact ⟨x.toNat, List.mem_range.2 (by omega), by omega⟩
theorem isperm_perm {p : List Int} (h : isperm p) : p.Perm (rgi p.length) := by
  obtain ⟨l, hl⟩ := sub_perm (rgi p.length) p (rgi_nodup _) (fun x hx => by
    have := rgi_mem.1 hx
    have := h x.toNat (by omega)
    rwa [Int.toNat_of_nonneg (by omega)] at this)
  have e := hl.length_eq
  have e2 : (rgi p.length).length = p.length := tab_length _ _
  rw [List.length_append, e2] at e
  have : l = [] := List.length_eq_zero_iff.1 (by omega)
  rw [this, List.append_nil] at hl
  exact hl
theorem isperm_mem {p : List Int} (h : isperm p) {x : Int} (hx : x ∈ p) : 0 ≤ x ∧ x < p.length := rgi_mem.1 ((isperm_perm h).mem_iff.1 hx)
theorem isperm_rd {p : List Int} (h : isperm p) (j : Nat) (hj : j < p.length) : 0 ≤ rd p j ∧ rd p j < p.length := isperm_mem h (rd_mem p j hj)
theorem isperm_nodup {p : List Int} (h : isperm p) : p.Nodup := (isperm_perm h).symm.nodup (rgi_nodup _)
theorem idx_lt {p : List Int} (h : isperm p) (i : Nat) (hi : i < p.length) : p.idxOf (i : Int) < p.length := List.idxOf_lt_length_of_mem (h i hi)
theorem rd_idx {p : List Int} (h : isperm p) (i : Nat) (hi : i < p.length) : rd p (p.idxOf (i : Int) : Nat) = i := by
  rw [rd_get _ _ (idx_lt h i hi)]
  exact List.getElem_idxOf (idx_lt h i hi)
theorem idx_rd {p : List Int} (h : isperm p) (j : Nat) (hj : j < p.length) : p.idxOf (rd p j) = j := by
  have hm := rd_mem p j hj
  have h1 := List.idxOf_lt_length_of_mem hm
  have h2 : p[p.idxOf (rd p j)] = rd p j := List.getElem_idxOf h1
  have h3 : p[p.idxOf (rd p j)] = p[j] := h2.trans (rd_get p j hj)
  have h4 : p[p.idxOf (rd p j)]? = p[j]? := by rw [List.getElem?_eq_getElem h1, List.getElem?_eq_getElem hj, h3]
  exact (List.getElem?_inj h1 (isperm_nodup h)).1 h4
/-- the sides in their new order -/
def turnd (p d : List Int) : List Int := tab p.length (fun j => rd d (rd p j))
/-- a place in the new order, as a place in the old one -/
def scat (p q : List Int) : List Int := tab p.length (fun i => rd q (p.idxOf (i : Int) : Nat))
theorem turnd_length (p d : List Int) : (turnd p d).length = p.length := tab_length _ _
theorem scat_length (p q : List Int) : (scat p q).length = p.length := tab_length _ _
theorem rd_turnd {p d : List Int} (j : Nat) (hj : j < p.length) : rd (turnd p d) j = rd d (rd p j) := rd_tab _ _ _ hj
theorem rd_scat {p q : List Int} (i : Nat) (hi : i < p.length) : rd (scat p q) i = rd q (p.idxOf (i : Int) : Nat) := rd_tab _ _ _ hi
theorem rd_scat_rd {p : List Int} (h : isperm p) (q : List Int) (j : Nat) (hj : j < p.length) : rd (scat p q) (rd p j) = rd q j := by
  have b := isperm_rd h j hj
  have e : rd p j = ((rd p j).toNat : Int) := by omega
  rw [e, rd_scat _ (by omega), ← e, idx_rd h j hj]
theorem turnd_perm {p d : List Int} (h : isperm p) (hd : d.length = p.length) : (turnd p d).Perm d := by
  have e1 : turnd p d = p.map (fun x => rd d x) := tab_map (fun x => rd d x) p
  have e2 : (rgi p.length).map (fun x => rd d x) = d := by
    have := tab_rd d
    rw [hd] at this
    conv => rhs; rw [← this]
    unfold rgi tab
    rw [List.map_map]; rfl
  rw [e1]
  have := (isperm_perm h).map (fun x => rd d x)
  rw [e2] at this
  exact this
theorem pl_perm {a b : List Int} (h : a.Perm b) : Shp.pl a = Shp.pl b := by
  induction h with
  | nil => rfl
  | cons x _ ih => simp only [Shp.pl, ih]
  | swap x y l => simp only [Shp.pl]; rw [Int.mul_left_comm]
  | trans _ _ ih1 ih2 => rw [ih1, ih2]
theorem turnd_good {p d : List Int} (h : isperm p) (hd : d.length = p.length) (hg : Shp.good d = true) : Shp.good (turnd p d) = true := by
  have hp := turnd_perm h hd
  have g := Shp.good_iff.mp hg
  exact Shp.good_iff.mpr ⟨by rw [hp.length_eq]; exact g.1, fun x hx => g.2.1 x (hp.mem_iff.1 hx), by rw [pl_perm hp]; exact g.2.2⟩
theorem turnd_siz {p d : List Int} (h : isperm p) (hd : d.length = p.length) (hg : Shp.good d = true) : Shp.siz (turnd p d) = Shp.siz d := by
  rw [Shp.siz_good hg, Shp.siz_good (turnd_good h hd hg), pl_perm (turnd_perm h hd)]
theorem ins_idx (d : List Int) : ∀ q : List Int, Shp.ins d q = true ↔ q.length = d.length ∧ ∀ i : Nat, i < d.length → 0 ≤ rd q i ∧ rd q i < rd d i := by
  induction d with
  | nil =>
    intro q
    cases q with
    | nil => simp [Shp.ins]
    | cons y q => simp [Shp.ins]
  | cons x d ih =>
    intro q
    cases q with
    | nil => simp [Shp.ins]
    | cons y q =>
      simp only [Shp.ins, Bool.and_eq_true, decide_eq_true_eq, ih q, List.length_cons, Nat.add_right_cancel_iff]
      have e0 : ∀ (z : Int) (l : List Int), rd (z :: l) ((0 : Nat) : Int) = z := fun _ _ => rfl
      have es : ∀ (z : Int) (l : List Int) (i : Nat), rd (z :: l) ((i + 1 : Nat) : Int) = rd l i := fun z l i => by
        unfold rd
        rw [Int.toNat_natCast, Int.toNat_natCast]
        simp [List.getD_eq_getElem?_getD]
      constructor
      · rintro ⟨h1, h1', h2, h3⟩
        refine ⟨h2, fun i hi => ?_⟩
        cases i with
        | zero => rw [e0, e0]; exact ⟨h1, h1'⟩
        | succ i => rw [es, es]; exact h3 i (by omega)
      · rintro ⟨h1, h2⟩
        have h0 := h2 0 (by omega)
        rw [e0, e0] at h0
        refine ⟨h0.1, h0.2, h1, fun i hi => ?_⟩
        have := h2 (i + 1) (by omega)
        rwa [es, es] at this
theorem pla_mr (d : List Int) : ∀ q, (∀ x ∈ d, 1 ≤ x) → Shp.ins d q = true → Shp.pla (Shp.mr 0 d q) d = q := by
  induction d with
  | nil => intro q _ h; cases q with
    | nil => rfl
    | cons => simp [Shp.ins] at h
  | cons x d ih =>
    intro q hd h
    cases q with
    | nil => simp [Shp.ins] at h
    | cons y q =>
      have hr : ∀ z ∈ d, 1 ≤ z := fun z hz => hd z (List.mem_cons_of_mem _ hz)
      simp only [Shp.ins, Bool.and_eq_true, decide_eq_true_eq] at h
      have hb := Shp.mr_bound d q h.2.2 hr
      have hp := Shp.pl_pos hr
      have e : Shp.mr 0 (x :: d) (y :: q) = y * Shp.pl d + Shp.mr 0 d q := by
        simp only [Shp.mr]
        rw [Shp.mr_acc d _ _ (Shp.ins_length d q h.2.2)]
        simp
      rw [e]
      simp only [Shp.pla]
      rw [Shp.pla_period d hr, ih q hr h.2.2, Int.add_comm, Int.add_mul_ediv_right _ _ (by omega), Int.ediv_eq_zero_of_lt hb.1 hb.2, Int.zero_add, Int.emod_eq_of_lt h.1 h.2.1]
theorem ins_scat {p d q : List Int} (h : isperm p) (hd : d.length = p.length) (hq : Shp.ins (turnd p d) q = true) : Shp.ins d (scat p q) = true := by
  rw [ins_idx] at hq ⊢
  rw [turnd_length] at hq
  refine ⟨by rw [scat_length, hd], fun i hi => ?_⟩
  have hl := idx_lt h i (by omega)
  have := hq.2 (p.idxOf (i : Int)) hl
  rw [rd_turnd _ hl, rd_idx h i (by omega)] at this
  rw [rd_scat i (by omega)]
  exact this
/-- the numbers of a tensor whose sides change places -/
def turnv (p d v : List Int) : List Int := tab (Shp.siz d).toNat (fun t => rd v (Shp.mr 0 d (scat p (Shp.pla t (turnd p d)))))
/-- the order that turns back -/
def backp (p : List Int) : List Int := scat p (rgi p.length)
theorem rd_backp {p : List Int} (h : isperm p) (i : Nat) (hi : i < p.length) : rd (backp p) i = (p.idxOf (i : Int) : Nat) := by
  unfold backp
  rw [rd_scat i hi]
  exact rd_tab _ _ _ (idx_lt h i hi)
theorem backp_length (p : List Int) : (backp p).length = p.length := scat_length _ _
theorem backp_perm {p : List Int} (h : isperm p) : isperm (backp p) := by
  intro i hi
  rw [backp_length] at hi
  have b := isperm_rd h i hi
  have e : rd (backp p) (rd p i) = i := by
    rw [show backp p = scat p (rgi p.length) from rfl, rd_scat_rd h _ i hi]
    exact rd_tab _ _ _ hi
  have : rd (backp p) ((rd p i).toNat : Nat) ∈ backp p := rd_mem _ _ (by rw [backp_length]; omega)
  rw [Int.toNat_of_nonneg b.1, e] at this
  exact this
theorem turnd_back {p d : List Int} (h : isperm p) (hd : d.length = p.length) : turnd (backp p) (turnd p d) = d := by
  apply rd_ext
  · rw [turnd_length, backp_length, hd]
  · intro i hi
    rw [turnd_length, backp_length] at hi
    rw [rd_turnd i (by rw [backp_length]; exact hi), rd_backp h i hi, rd_turnd _ (idx_lt h i hi), rd_idx h i hi]
theorem idx_back {p : List Int} (h : isperm p) (j : Nat) (hj : j < p.length) : ((backp p).idxOf (j : Int) : Int) = rd p j := by
  have b := isperm_rd h j hj
  have e : rd (backp p) ((rd p j).toNat : Nat) = j := by
    rw [Int.toNat_of_nonneg b.1, show backp p = scat p (rgi p.length) from rfl, rd_scat_rd h _ j hj]
    exact rd_tab _ _ _ hj
  have := idx_rd (backp_perm h) (rd p j).toNat (by rw [backp_length]; omega)
  rw [e] at this
  omega
theorem scat_back {p q : List Int} (h : isperm p) (hq : q.length = p.length) : scat p (scat (backp p) q) = q := by
  apply rd_ext
  · rw [scat_length, hq]
  · intro i hi
    rw [scat_length] at hi
    have hl := idx_lt h i hi
    rw [rd_scat i hi, rd_scat _ (by rw [backp_length]; exact hl), idx_back h _ hl, rd_idx h i hi]
theorem turnv_back {p d v : List Int} (h : isperm p) (hd : d.length = p.length) (hg : Shp.good d = true) (hv : (v.length : Int) = Shp.siz d) : turnv (backp p) (turnd p d) (turnv p d v) = v := by
  have gi := Shp.good_iff.mp hg
  have gt := Shp.good_iff.mp (turnd_good h hd hg)
  have s0 := Shp.siz_nonneg d
  have ss := turnd_siz h hd hg
  have sg := Shp.siz_good hg
  have st := Shp.siz_good (turnd_good h hd hg)
  apply rd_ext
  · unfold turnv; rw [tab_length, ss]; omega
  · intro i hi
    unfold turnv at hi ⊢
    rw [tab_length, ss] at hi
    rw [rd_tab _ _ _ (by rw [ss]; exact hi), turnd_back h hd]
    have hin := Shp.ins_pla d gi.2.1 (i : Int)
    have hin2 : Shp.ins (turnd p d) (scat (backp p) (Shp.pla (i : Int) d)) = true := by
      refine ins_scat (backp_perm h) (by rw [turnd_length, backp_length]) ?_
      rw [turnd_back h hd]; exact hin
    have hb := Shp.mr_bound _ _ hin2 gt.2.1
    have e : Shp.mr 0 (turnd p d) (scat (backp p) (Shp.pla (i : Int) d)) = ((Shp.mr 0 (turnd p d) (scat (backp p) (Shp.pla (i : Int) d))).toNat : Int) := by omega
    rw [e, rd_tab _ _ _ (by omega), ← e, pla_mr _ _ gt.2.1 hin2, scat_back h (by rw [Shp.pla_length, hd]), Shp.mr_pla d gi.2.1, Int.emod_eq_of_lt (by omega) (by omega)]
theorem Index_l0 (l : List Int) (x : Int) (hm : l.length ≤ 1000000) : ∀ (c i k : Nat), i + c = l.length → c < k → ∃ r, slices_Index_int_int.l0 k l x l.length i = some r ∧ decide (r ≥ 0) = decide (x ∈ l.drop i) := by
  intro c
  induction c with
  | zero =>
    intro i k hi hk
    obtain ⟨k, rfl, -⟩ := k_succ hk
    simp only [slices_Index_int_int.l0]
    rw [if_neg (by omega), List.drop_of_length_le (by omega)]
    exact ⟨_, rfl, by simp⟩
  | succ c ih =>
    intro i k hi hk
    obtain ⟨k, rfl, hk⟩ := k_succ hk
    simp only [slices_Index_int_int.l0]
    rw [if_pos (by omega), if_pos (by omega), if_pos (by omega), drop_rd l i (by omega), w64 (x := (i : Int) + 1) (by omega) (by omega)]
    by_cases c0 : x = rd l i
    · rw [if_pos c0]
      exact ⟨_, rfl, by rw [decide_eq_true (show ((i : Int) ≥ 0) by omega)]; simp [c0]⟩
    · rw [if_neg c0]
      obtain ⟨r, h1, h2⟩ := ih (i + 1) k (by omega) (by omega)
      rw [Int.natCast_add] at h1
      refine ⟨r, h1, ?_⟩
      rw [h2]; simp [c0]
theorem Contains_f (l : List Int) (x : Int) (hm : l.length ≤ 1000000) (k : Nat) (hk : l.length < k) : slices_Contains_int_int.f k l x = some (decide (x ∈ l)) := by
  unfold slices_Contains_int_int.f slices_Index_int_int.f
  obtain ⟨r, h1, h2⟩ := Index_l0 l x hm l.length 0 k (by omega) hk
  rw [show ((0 : Nat) : Int) = 0 from rfl] at h1
  rw [h1, Option.bind_some, h2]; simp
theorem permutes_l0 (p : List Int) (hm : p.length ≤ 1000) : ∀ (c i k : Nat), i + c = p.length → c + p.length + 2 ≤ k → tens_permutes.l0 k p p.length i = some (decide (∀ j : Nat, j < p.length → i ≤ j → (j : Int) ∈ p)) := by
  intro c
  induction c with
  | zero =>
    intro i k hi hk
    obtain ⟨k, rfl⟩ : ∃ m, k = m + 1 := ⟨k - 1, by omega⟩
    simp only [tens_permutes.l0]
    rw [if_neg (by omega), decide_eq_true (fun j h1 h2 => by omega)]
  | succ c ih =>
    intro i k hi hk
    obtain ⟨k, rfl⟩ : ∃ m, k = m + 1 := ⟨k - 1, by omega⟩
    simp only [tens_permutes.l0]
    rw [if_pos (by omega), Contains_f p _ (by omega) k (by omega), Option.bind_some, w64 (x := (i : Int) + 1) (by omega) (by omega)]
    by_cases c0 : (i : Int) ∈ p
    · rw [if_pos (decide_eq_true c0)]
      have := ih (i + 1) k (by omega) (by omega)
      rw [Int.natCast_add] at this
      have t' : tens_permutes.l0 k p p.length ((i : Int) + 1) = _ := this
      rw [t']
      congr 1
      rw [decide_eq_decide]
      exact ⟨fun h j h1 h2 => by
        by_cases e : j = i
        · subst e; exact c0
        · exact h j h1 (by omega), fun h j h1 h2 => h j h1 (by omega)⟩
    · rw [if_neg (by simp [c0]), decide_eq_false (fun h => c0 (h i (by omega) (Nat.le_refl _)))]
theorem permutes_f (p : List Int) (n : Nat) (hn : n ≤ 100) (k : Nat) (hk : 300 ≤ k) : tens_permutes.f k p n = some (decide (p.length = n ∧ isperm p)) := by
  unfold tens_permutes.f
  by_cases c : p.length = n
  · subst c
    rw [if_pos rfl]
    have := permutes_l0 p (by omega) p.length 0 k (by omega) (by omega)
    rw [show ((0 : Nat) : Int) = 0 from rfl] at this
    rw [this]
    congr 1
    rw [decide_eq_decide]
    exact ⟨fun h => ⟨rfl, fun i hi => h i hi (by omega)⟩, fun h j hj _ => h.2 j hj⟩
  · rw [if_neg (by omega), decide_eq_false (fun h => c h.1)]
theorem loop_setK {R : Type} (L : Nat → Int → List Int → Option R) (n : Nat) (g : Nat → Int)
    (step : ∀ k (i : Nat) o, i < n → o.length = n → L (k + 1) (i : Int) o = L k ((i : Int) + 1) (o.set i (g i))) :
    ∀ (c i : Nat) (o : List Int) (k : Nat), i + c = n → o.length = n → c ≤ k → L k (i : Int) o = L (k - c) n (o.take i ++ (List.range' i c).map g) := by
  intro c
  induction c with
  | zero =>
    intro i o k hi ho hk
    rw [show i = n by omega, List.take_of_length_le (by omega)]
    simp
  | succ c ih =>
    intro i o k hi ho hk
    obtain ⟨k, rfl⟩ : ∃ j, k = j + 1 := ⟨k - 1, by omega⟩
    rw [step k i o (by omega) ho]
    have := ih (i + 1) (o.set i (g i)) k (by omega) (by simpa using ho) (by omega)
    rw [Int.natCast_add] at this
    rw [show ((i : Int) + 1) = (i : Int) + ((1 : Nat) : Int) from rfl, this, set_take' o i _ (by omega), List.range'_succ, show k + 1 - (c + 1) = k - c by omega]
    simp
theorem loop_set0K {R : Type} (L : Nat → Int → List Int → Option R) (n : Nat) (g : Nat → Int) (fin : List Int → Option R)
    (step : ∀ k (i : Nat) o, i < n → o.length = n → L (k + 1) (i : Int) o = L k ((i : Int) + 1) (o.set i (g i))) (k : Nat) (o : List Int) (ho : o.length = n) (hk : n ≤ k)
    (stop : L (k - n) n (tab n g) = fin (tab n g)) : L k 0 o = fin (tab n g) := by
  have := loop_setK L n g step n 0 o k (by omega) ho hk
  simp only [List.take_zero, List.nil_append] at this
  rw [show ((0 : Nat) : Int) = 0 from rfl, ← List.range_eq_range', show (List.range n).map g = tab n g from rfl, stop] at this
  exact this
/-- a tensor whose sides change places -/
def tturn (d v p : List Int) : List Int × List Int × Int :=
  if (Shp.good d && decide ((v.length : Int) = Shp.siz d)) = true ∧ p.length = d.length ∧ isperm p then (turnd p d, turnv p d v, 0) else ([], [], 1)
theorem scat_of {p q : List Int} (h : isperm p) {o : List Int} (ho : o.length = p.length) (e : ∀ j : Nat, j < p.length → rd o (rd p j) = rd q j) : o = scat p q := by
  apply rd_ext
  · rw [ho, scat_length]
  · intro i hi
    rw [ho] at hi
    have := e (p.idxOf (i : Int)) (idx_lt h i hi)
    rw [rd_idx h i hi] at this
    rw [this, rd_scat i hi]
theorem rd_set_ne (l : List Int) (i : Nat) (j : Int) (x : Int) (h0 : 0 ≤ j) (h : j ≠ i) : rd (l.set i x) j = rd l j := by
  unfold rd
  have : i ≠ j.toNat := by omega
  simp [List.getD_eq_getElem?_getD, List.getElem?_set, this]
theorem isperm_inj {p : List Int} (h : isperm p) {i j : Nat} (hi : i < p.length) (hj : j < p.length) (e : rd p i = rd p j) : i = j := by
  have a := idx_rd h i hi
  rw [e, idx_rd h j hj] at a
  exact a.symm
theorem Turn_l2 (p d v q : List Int) (h : isperm p) (hd : d.length = p.length) (hp4 : p.length ≤ 4) (hg : Shp.good d = true) (hv : (v.length : Int) = Shp.siz d) (x6 : List Int) (n t : Int) (dd : List Int)
    (hq : Shp.ins (turnd p d) q = true) (N : Nat) (hN : (N : Int) < 4096) (od : List Int) (ho : N < od.length) :
    ∀ (c j k : Nat) (o : List Int), j + c = p.length → o.length = p.length → (∀ i : Nat, i < j → rd o (rd p i) = rd q i) → c + 12 ≤ k →
    tens_Turn.l2 k p x6 N q o n N p p.length j d v dd od = tens_Turn.l1 (k - c - 1) p x6 n ((N : Int) + 1) d v dd (od.set N (rd v (Shp.mr 0 d (scat p q)))) := by
  have hql : q.length = p.length := by rw [Shp.ins_length _ _ hq, turnd_length]
  intro c
  induction c with
  | zero =>
    intro j k o hj ho' e hk
    obtain ⟨k, rfl⟩ : ∃ m, k = m + 1 := ⟨k - 1, by omega⟩
    have hs : o = scat p q := scat_of h ho' (fun i hi => e i (by omega))
    have hin := ins_scat h hd hq
    have gi := Shp.good_iff.mp hg
    have sg := Shp.siz_good hg
    have hb := Shp.mr_bound _ _ hin gi.2.1
    simp only [tens_Turn.l2]
    rw [if_neg (by omega), At_f d o k (by omega), Option.bind_some, hs]
    unfold Shp.att
    rw [if_pos (c := _ ∧ _) ⟨hg, hin⟩]
    simp only []
    rw [if_pos hb.1, if_pos (by omega), if_pos (Int.natCast_nonneg N), if_pos (by omega), w64 (x := (N : Int) + 1) (by omega) (by omega)]
    rfl
  | succ c ih =>
    intro j k o hj ho' e hk
    obtain ⟨k, rfl⟩ : ∃ m, k = m + 1 := ⟨k - 1, by omega⟩
    have b := isperm_rd h j (by omega)
    simp only [tens_Turn.l2]
    rw [if_pos (by omega), if_pos (Int.natCast_nonneg j), if_pos (by omega), if_pos (by omega), if_pos b.1, if_pos (by omega), w64 (x := (j : Int) + 1) (by omega) (by omega)]
    have := ih (j + 1) k (o.set (rd p j).toNat (rd q j)) (by omega) (by simpa using ho') (fun i hi => by
      have bi := isperm_rd h i (by omega)
      by_cases e1 : i = j
      · subst e1
        have := rd_set o (rd p i).toNat (rd q i) (by omega)
        rw [Int.toNat_of_nonneg bi.1] at this
        exact this
      · have hne : rd p i ≠ ((rd p j).toNat : Int) := fun e2 => e1 (isperm_inj h (by omega) (by omega) (by omega))
        rw [rd_set_ne _ _ _ _ bi.1 hne]
        exact e i (by omega)) (by omega)
    rw [Int.natCast_add] at this
    rw [show k + 1 - (c + 1) - 1 = k - c - 1 by omega]
    exact this
theorem Turn_l1 (p d v : List Int) (h : isperm p) (hd : d.length = p.length) (hp4 : p.length ≤ 4) (hg : Shp.good d = true) (hv : (v.length : Int) = Shp.siz d) (dd : List Int) (n : Nat) (hn : (n : Int) = Shp.siz d) :
    ∀ (c t k : Nat) (od : List Int), t + c = n → od.length = n → od.take t = tab t (fun t => rd v (Shp.mr 0 d (scat p (Shp.pla t (turnd p d))))) → c * 20 + 20 ≤ k →
    tens_Turn.l1 k p (turnd p d) n t d v dd od = some (dd, tab n (fun t => rd v (Shp.mr 0 d (scat p (Shp.pla t (turnd p d))))), 0) := by
  have ss := turnd_siz h hd hg
  have sl := Shp.siz_le d
  have gt := turnd_good h hd hg
  have gti := Shp.good_iff.mp gt
  intro c
  induction c with
  | zero =>
    intro t k od hj ho e hk
    obtain ⟨k, rfl⟩ : ∃ m, k = m + 1 := ⟨k - 1, by omega⟩
    simp only [tens_Turn.l1]
    have ht : t = n := by omega
    subst ht
    rw [if_neg (by omega), ← e, List.take_of_length_le (by omega)]
  | succ c ih =>
    intro t k od hj ho e hk
    obtain ⟨k, rfl⟩ : ∃ m, k = m + 1 := ⟨k - 1, by omega⟩
    simp only [tens_Turn.l1]
    rw [if_pos (by omega), Place_f _ _ k (by omega), Option.bind_some]
    unfold Shp.plc
    rw [if_pos (c := _ ∧ _) ⟨by omega, by rw [ss]; omega⟩]
    simp only []
    rw [if_pos (Int.natCast_nonneg _), if_pos (by omega)]
    have hin := Shp.ins_pla (turnd p d) gti.2.1 (t : Int)
    have := Turn_l2 p d v (Shp.pla t (turnd p d)) h hd hp4 hg hv (turnd p d) n t dd hin t (by omega) od (by omega) p.length 0 k (List.replicate p.length 0) (by omega) (by simp) (fun i hi => by omega) (by omega)
    rw [show ((0 : Nat) : Int) = 0 from rfl] at this
    rw [Int.toNat_natCast, this]
    have := ih (t + 1) (k - p.length - 1) (od.set t (rd v (Shp.mr 0 d (scat p (Shp.pla t (turnd p d)))))) (by omega) (by simpa using ho) (by
      rw [set_take' od t _ (by omega), e, tab_succ]) (by omega)
    rw [Int.natCast_add] at this
    exact this
theorem tTurn_f (d v p : List Int) (hp : p.length ≤ 100) (k : Nat) (hk : 82000 ≤ k) : tens_Turn.f k d v p = some (tturn d v p) := by
  have oth : ∀ k, tens_Turn.j0 (k + 1) p true d v = some ([], [], 1) := fun k => by simp only [tens_Turn.j0]; rw [if_pos trivial]
  obtain ⟨k, rfl⟩ : ∃ m, k = m + 1 := ⟨k - 1, by omega⟩
  unfold tens_Turn.f tturn
  rw [tGood_f d v _ (by omega), Option.bind_some]
  by_cases c1 : (Shp.good d && decide ((v.length : Int) = Shp.siz d)) = true
  rotate_left
  · rw [if_neg c1, oth, if_neg (fun h => c1 h.1)]
  have hg : Shp.good d = true := by simp only [Bool.and_eq_true] at c1; exact c1.1
  have hv : (v.length : Int) = Shp.siz d := by simp only [Bool.and_eq_true, decide_eq_true_eq] at c1; exact c1.2
  have dl := good_len hg
  rw [if_pos c1, permutes_f p d.length (by omega) _ (by omega), Option.bind_some]
  by_cases c2 : p.length = d.length ∧ isperm p
  rotate_left
  · rw [decide_eq_false c2, if_neg (c := _ ∧ _) (fun h => c2 h.2)]
    exact oth k
  rw [if_pos (c := _ ∧ _) ⟨c1, c2⟩, decide_eq_true c2]
  obtain ⟨hl, h⟩ := c2
  simp only [Bool.not_true, tens_Turn.j0]
  rw [if_neg (by simp), if_pos (Int.natCast_nonneg _), if_pos (by omega)]
  have s0 := Shp.siz_nonneg d
  have s1 := Shp.siz_le d
  have ss := turnd_siz h hl.symm hg
  have gt := turnd_good h hl.symm hg
  have := loop_set0K (fun k i o => tens_Turn.l0 k p o p (p.length : Int) i d v) p.length (fun j => rd d (rd p j)) (fun o => tens_Turn.l0 (k - p.length) p o p (p.length : Int) p.length d v)
    (fun k i o hi ho => by
      have b := isperm_rd h i hi
      simp only [tens_Turn.l0]
      rw [if_pos (by omega), if_pos (Int.natCast_nonneg i), if_pos (by omega), if_pos b.1, if_pos (by omega), if_pos (by omega), w64 (x := (i : Int) + 1) (by omega) (by omega)]
      rfl) k (List.replicate p.length 0) (by simp) (by omega) rfl
  rw [Int.toNat_natCast, this, show tab p.length (fun j => rd d (rd p j)) = turnd p d from rfl]
  obtain ⟨k', hk'⟩ : ∃ m, k - p.length = m + 1 := ⟨k - p.length - 1, by omega⟩
  rw [hk']
  simp only [tens_Turn.l0]
  rw [if_neg (by omega), tNew_f _ _ k' (by omega), Option.bind_some]
  unfold tnew
  rw [if_pos gt]
  simp only []
  rw [List.length_replicate, ss]
  have hn : ((Shp.siz d).toNat : Int) = Shp.siz d := Int.toNat_of_nonneg s0
  have := Turn_l1 p d v h hl.symm (by omega) hg hv (turnd p d) (Shp.siz d).toNat hn (Shp.siz d).toNat 0 k' (List.replicate (Shp.siz d).toNat 0) (by omega) (by simp) (by simp [tab]) (by omega)
  rw [show ((0 : Nat) : Int) = 0 from rfl] at this
  rw [this]
  rfl
def tresh (d v e : List Int) : List Int × List Int × Int :=
  if (Shp.good d && decide ((v.length : Int) = Shp.siz d)) = true ∧ Shp.good e = true then (if Shp.siz e = v.length then (e, v, 0) else ([], [], 4)) else ([], [], 1)
theorem tReshape_f (d v e : List Int) (k : Nat) (hk : 20 ≤ k) : tens_Reshape.f k d v e = some (tresh d v e) := by
  have oth : ∀ k, tens_Reshape.j0 (k + 1) e true d v = some ([], [], 1) := fun k => by simp only [tens_Reshape.j0]; rw [if_pos trivial]
  obtain ⟨k, rfl⟩ : ∃ m, k = m + 1 := ⟨k - 1, by omega⟩
  unfold tens_Reshape.f tresh
  rw [tGood_f d v _ (by omega), Option.bind_some]
  by_cases c1 : (Shp.good d && decide ((v.length : Int) = Shp.siz d)) = true
  rotate_left
  · rw [if_neg c1, oth, if_neg (fun h => c1 h.1)]
  rw [if_pos c1, Good_f e _ (by omega), Option.bind_some]
  by_cases c2 : Shp.good e = true
  rotate_left
  · rw [if_neg (c := _ ∧ _) (fun h => c2 h.2), show Shp.good e = false by simpa using c2]
    exact oth k
  rw [if_pos (c := _ ∧ _) ⟨c1, c2⟩, c2]
  simp only [Bool.not_true, tens_Reshape.j0]
  rw [if_neg (by simp), Size_f e k (by omega), Option.bind_some]
  have hv : (v.length : Int) = Shp.siz d := by simp only [Bool.and_eq_true, decide_eq_true_eq] at c1; exact c1.2
  have s1 := Shp.siz_le d
  have dl := good_len c2
  by_cases c3 : Shp.siz e = (v.length : Int)
  · rw [if_pos c3, if_pos c3]
    unfold slices_Clone_int_int.f slices_Clone_Fix.f
    rw [if_pos (by omega), if_pos (by omega)]
    rfl
  · rw [if_neg c3, if_neg c3]
theorem TBack_j2 (d v e : List Int) (hd : d.length ≤ 10) (hv : v.length ≤ 300) (k : Nat) (hk : 5000 ≤ k) : carousellaw6_TensBack.j2 k e d v = some true := by
  obtain ⟨k, rfl⟩ : ∃ m, k = m + 1 := ⟨k - 1, by omega⟩
  simp only [carousellaw6_TensBack.j2]
  rw [tReshape_f d v e k (by omega), Option.bind_some]
  unfold tresh
  by_cases c1 : (Shp.good d && decide ((v.length : Int) = Shp.siz d)) = true ∧ Shp.good e = true
  rotate_left
  · rw [if_neg c1, if_neg (by simp)]
  rw [if_pos c1]
  have hg : Shp.good d = true := by have := c1.1; simp only [Bool.and_eq_true] at this; exact this.1
  have hv2 : (v.length : Int) = Shp.siz d := by have := c1.1; simp only [Bool.and_eq_true, decide_eq_true_eq] at this; exact this.2
  by_cases c2 : Shp.siz e = (v.length : Int)
  rotate_left
  · rw [if_neg c2, if_neg (by simp)]
  rw [if_pos c2]
  simp only [if_true]
  rw [tReshape_f e v d k (by omega), Option.bind_some]
  unfold tresh
  rw [if_pos (c := _ ∧ _) ⟨by rw [c1.2, decide_eq_true c2.symm]; rfl, hg⟩, if_pos hv2.symm]
  simp only [if_true]
  rw [tSame_f _ _ _ _ (by omega) (by omega) k (by omega) (by omega)]
  simp
theorem TBack_l0 (p d v e : List Int) (h : isperm p) (hd : d.length = p.length) (hp4 : p.length ≤ 4) (hg : Shp.good d = true) (hv : (v.length : Int) = Shp.siz d) (hv3 : v.length ≤ 300) :
    ∀ (c j k : Nat) (o : List Int), j + c = p.length → o.length = p.length → (∀ i : Nat, i < j → rd o (rd p i) = i) → c + 90000 ≤ k →
    carousellaw6_TensBack.l0 k p e o j d v (turnd p d) (turnv p d v) = some true := by
  have dl := good_len hg
  intro c
  induction c with
  | zero =>
    intro j k o hj ho hi hk
    obtain ⟨k, rfl⟩ : ∃ m, k = m + 1 := ⟨k - 1, by omega⟩
    have hs : o = backp p := by
      refine scat_of h ho (fun i hi' => ?_)
      rw [hi i (by omega)]
      exact (rd_tab _ _ _ hi').symm
    simp only [carousellaw6_TensBack.l0]
    rw [if_neg (by omega), tTurn_f _ _ _ (by omega) k (by omega), Option.bind_some, hs]
    have gt := turnd_good h hd hg
    have st := turnd_siz h hd hg
    have s0 := Shp.siz_nonneg d
    have hc : (Shp.good (turnd p d) && decide (((turnv p d v).length : Int) = Shp.siz (turnd p d))) = true ∧ (backp p).length = (turnd p d).length ∧ isperm (backp p) := by
      refine ⟨?_, by rw [backp_length, turnd_length], backp_perm h⟩
      rw [gt, st]
      have : (turnv p d v).length = (Shp.siz d).toNat := tab_length _ _
      rw [this]
      simp; omega
    unfold tturn
    rw [if_pos hc, turnd_back h hd, turnv_back h hd hg hv]
    simp only [if_true]
    rw [tSame_f _ _ _ _ (by omega) (by omega) k (by omega) (by omega), Option.bind_some, if_pos (by simp)]
    exact TBack_j2 d v e (by omega) hv3 k (by omega)
  | succ c ih =>
    intro j k o hj ho hi hk
    obtain ⟨k, rfl⟩ : ∃ m, k = m + 1 := ⟨k - 1, by omega⟩
    have b := isperm_rd h j (by omega)
    simp only [carousellaw6_TensBack.l0]
    rw [if_pos (by omega), if_pos (Int.natCast_nonneg j), if_pos b.1, if_pos (by omega), w64 (x := (j : Int) + 1) (by omega) (by omega)]
    have := ih (j + 1) k (o.set (rd p j).toNat j) (by omega) (by simpa using ho) (fun i hi' => by
      have bi := isperm_rd h i (by omega)
      by_cases e1 : i = j
      · subst e1
        have := rd_set o (rd p i).toNat i (by omega)
        rw [Int.toNat_of_nonneg bi.1] at this
        exact this
      · have hne : rd p i ≠ ((rd p j).toNat : Int) := fun e2 => e1 (isperm_inj h (by omega) (by omega) (by omega))
        rw [rd_set_ne _ _ _ _ bi.1 hne]
        exact hi i (by omega)) (by omega)
    rw [Int.natCast_add] at this
    exact this
theorem TBack_all (d v p e : List Int) : ∃ k, carousellaw6_TensBack.f k d v p e = some true := by
  refine ⟨100000, ?_⟩
  have aw : carousellaw6_awake.f 100000 = some true := by decide +kernel
  have oth : ∀ k, carousellaw6_TensBack.j0 (k + 1) p e true d v = some true := fun k => by simp only [carousellaw6_TensBack.j0]; rw [if_pos trivial]
  unfold carousellaw6_TensBack.f
  rw [aw, Option.bind_some, if_pos rfl, great_f, Option.bind_some]
  by_cases c1 : (decide ((d.length : Int) > 10) || decide ((v.length : Int) > 300)) = true
  · rw [if_pos c1, oth]
  rw [if_neg c1]
  simp only [Bool.or_eq_true, decide_eq_true_eq, not_or] at c1
  by_cases c2 : (p.length : Int) > 4
  · rw [if_pos c2, oth]
  rw [if_neg c2]
  by_cases c3 : (e.length : Int) > 4
  · rw [decide_eq_true c3, oth]
  rw [decide_eq_false c3]
  simp only [carousellaw6_TensBack.j0]
  rw [if_neg (by simp), tTurn_f d v p (by omega) _ (by omega), Option.bind_some]
  by_cases c4 : (Shp.good d && decide ((v.length : Int) = Shp.siz d)) = true ∧ p.length = d.length ∧ isperm p
  · have et : tturn d v p = (turnd p d, turnv p d v, 0) := by unfold tturn; rw [if_pos c4]
    have hg : Shp.good d = true := by have := c4.1; simp only [Bool.and_eq_true] at this; exact this.1
    have hv : (v.length : Int) = Shp.siz d := by have := c4.1; simp only [Bool.and_eq_true, decide_eq_true_eq] at this; exact this.2
    rw [et]
    simp only [if_true]
    rw [if_pos (Int.natCast_nonneg _), if_pos (by omega)]
    have := TBack_l0 p d v e c4.2.2 c4.2.1.symm (by omega) hg hv (by omega) p.length 0 99999 (List.replicate p.length 0) (by omega) (by simp) (fun i hi => by omega) (by omega)
    rw [show ((0 : Nat) : Int) = 0 from rfl] at this
    rw [Int.toNat_natCast, this]
  · have et : tturn d v p = ([], [], 1) := by unfold tturn; rw [if_neg c4]
    rw [et]
    simp only []
    rw [if_neg (by simp)]
    exact TBack_j2 d v e (by omega) (by omega) _ (by omega)
theorem TensBack : carousellaw6_TensBack.Pure := by
  intro d v p e _ _ _ _ _ _ _ _
  exact TBack_all d v p e
end Go.Proofs.Ytbdhabpplidgfaa.Pure
