/- The plain law behind ConvGreatest: what the functions compute answers as the statement says, for every input. No condition. -/
import Derived.Test.YtcipfhlcgnomaaaPConvGreatestx9
import Derived.Laws.BitsAllLaws
import Derived.Test.YtcipfhlcgnomaaaFixMath
import Derived.Test.YtcipfhlcgnomaaaShapeMath
import Derived.Test.YtcipfhlcgnomaaaBigMath
import Derived.Test.YtcipfhlcgnomaaaWideMath
namespace Go.Proofs.Ytcipfhlcgnomaaa.Pure
open Go.RowKit Go.Proofs.Ytcipfhlcgnomaaa.PConvGreatest Go.Proofs.YtcipfhlcgnomaaaW.PrintWords Go.Proofs.YtcipfhlcgnomaaaW.PrintLast
set_option linter.unusedVariables false
set_option linter.unusedSimpArgs false
theorem w64 {x : Int} (h1 : -9223372036854775808 ≤ x) (h2 : x ≤ 9223372036854775807) : wrap64 x = x := by unfold wrap64; omega
theorem drop_rd (l : List Int) (i : Nat) (h : i < l.length) : l.drop i = rd l i :: l.drop (i + 1) := by
  rw [List.drop_eq_getElem_cons h]
  congr 1
  unfold rd
  rw [show (i : Int).toNat = i from rfl, List.getD_eq_getElem?_getD, List.getElem?_eq_getElem h]; rfl
theorem mul_bd {a b A B : Int} (h0 : 0 ≤ a) (h1 : a ≤ A) (h2 : 0 ≤ b) (h3 : b ≤ B) : 0 ≤ a * b ∧ a * b ≤ A * B :=
  ⟨Int.mul_nonneg h0 h2, Int.mul_le_mul h1 h3 h2 (by omega)⟩
theorem k_succ {k n : Nat} (h : n < k) : ∃ m, k = m + 1 ∧ n ≤ m := ⟨k - 1, by omega, by omega⟩
theorem product_l0 (l : List Int) (hl : l.length ≤ 4) : ∀ (d i : Nat) (n : Int) (k : Nat), i + d = l.length → 1 ≤ n → n ≤ 4096 → 2 * d < k →
    shape_product.l0 k n l l.length i = some (Shp.gp n (l.drop i)) := by
  intro d
  induction d with
  | zero =>
    intro i n k hi h1 h2 hk
    obtain ⟨k, rfl, -⟩ := k_succ hk
    simp only [shape_product.l0]
    rw [if_neg (by omega), List.drop_of_length_le (by omega)]; rfl
  | succ d ih =>
    intro i n k hi h1 h2 hk
    obtain ⟨k, rfl, hk⟩ := k_succ hk
    obtain ⟨k, rfl, hk⟩ := k_succ (n := 2 * d + 1) (k := k) (by omega)
    have e := drop_rd l i (by omega)
    simp only [shape_product.l0, shape_product.j1]
    rw [if_pos (by omega), if_pos (by omega), if_pos (by omega), e]
    generalize rd l i = x at *
    simp only [Shp.gp]
    by_cases c1 : x < 1
    · simp [c1]
    by_cases c2 : 4096 < x
    · simp [c1, c2]
    have hb := mul_bd (a := n) (b := x) (by omega) h2 (by omega) (show x ≤ 4096 by omega)
    have hb1 := Shp.mul_le1 h1 (show 1 ≤ x by omega)
    rw [w64 (x := n * x) (by omega) (by omega), w64 (x := (i : Int) + 1) (by omega) (by omega)]
    simp only [if_neg c1, if_neg c2, show ¬ (x > 4096) from c2, decide_false]
    by_cases c3 : 4096 < n * x
    · simp [c3]
    · simp only [if_neg c3, show ¬ (n * x > 4096) from c3, if_false]
      have := ih (i + 1) (n * x) k (by omega) (by omega) (by omega) (by omega)
      rw [Int.natCast_add] at this
      simpa using this
theorem product_f (l : List Int) (k : Nat) (hk : 10 ≤ k) : shape_product.f k l = some (Shp.siz l) := by
  unfold shape_product.f
  by_cases h : l.length ≤ 4
  · rw [if_neg (by omega), ← Shp.gp_siz l h]
    have := product_l0 l h l.length 0 1 k (by omega) (by omega) (by omega) (by omega)
    simpa using this
  · rw [if_pos (by omega), Shp.siz_long l h]
theorem Good_f (l : List Int) (k : Nat) (hk : 10 ≤ k) : shape_Good.f k l = some (Shp.good l) := by
  unfold shape_Good.f; rw [product_f l k hk, ← Shp.siz_pos]; rfl
theorem Size_f (l : List Int) (k : Nat) (hk : 10 ≤ k) : shape_Size.f k l = some (Shp.siz l) := by
  unfold shape_Size.f; rw [product_f l k hk]; rfl
theorem wf_i64 {x : Int} (h : (Lit.int .i64 x).wf = true) : -9223372036854775808 ≤ x ∧ x ≤ 9223372036854775807 := by
  simp only [Lit.wf, Bool.and_eq_true, decide_eq_true_eq] at h
  have h1 : IntKind.i64.min = -9223372036854775808 := rfl
  have h2 : IntKind.i64.max = 9223372036854775807 := rfl
  omega
theorem u64w (n : Int) : IntKind.u64.wrap n = n % 18446744073709551616 := by simp [IntKind.wrap, IntKind.bits, IntKind.signed]
theorem and32 (x : Int) (h0 : 0 ≤ x) (h1 : x ≤ 18446744073709551615) : Go.bits .and .u64 x 4294967295 = x % 4294967296 := by
  rw [Go.u64_and x 4294967295 h0 (by omega) (by omega) (by omega)]
  have : (4294967295 : Int).toNat = 2 ^ 32 - 1 := rfl
  rw [this, Nat.and_two_pow_sub_one_eq_mod]
  omega
theorem mul_le {a b A B : Int} (h0 : 0 ≤ a) (h1 : a ≤ A) (h2 : 0 ≤ b) (h3 : b ≤ B) : 0 ≤ a * b ∧ a * b ≤ A * B :=
  ⟨Int.mul_nonneg h0 h2, Int.mul_le_mul h1 h3 h2 (by omega)⟩
theorem split_mul (x0 x1 y0 y1 : Int) : (x1 * 4294967296 + x0) * (y1 * 4294967296 + y0) = (x1 * y1) * 18446744073709551616 + ((x1 * y0) + (x0 * y1)) * 4294967296 + x0 * y0 := by grind
theorem Mul64_f (a b : Int) (a0 : 0 ≤ a) (a1 : a ≤ 18446744073709551615) (b0 : 0 ≤ b) (b1 : b ≤ 18446744073709551615) : bits_Mul64.f a b = some (a * b / 18446744073709551616, a * b % 18446744073709551616) := by
  unfold bits_Mul64.f
  rw [and32 a a0 a1, and32 b b0 b1]
  simp only [u64w]
  have ea : a = (a / 4294967296) * 4294967296 + a % 4294967296 := by omega
  have eb : b = (b / 4294967296) * 4294967296 + b % 4294967296 := by omega
  have es := split_mul (a % 4294967296) (a / 4294967296) (b % 4294967296) (b / 4294967296)
  rw [← ea, ← eb] at es
  have h1 : 0 ≤ a / 4294967296 ∧ a / 4294967296 ≤ 4294967295 := by omega
  have h2 : 0 ≤ a % 4294967296 ∧ a % 4294967296 ≤ 4294967295 := by omega
  have h3 : 0 ≤ b / 4294967296 ∧ b / 4294967296 ≤ 4294967295 := by omega
  have h4 : 0 ≤ b % 4294967296 ∧ b % 4294967296 ≤ 4294967295 := by omega
  have p00 := mul_le h2.1 h2.2 h4.1 h4.2
  have p10 := mul_le h1.1 h1.2 h4.1 h4.2
  have p01 := mul_le h2.1 h2.2 h3.1 h3.2
  have p11 := mul_le h1.1 h1.2 h3.1 h3.2
  clear ea eb a0 a1 b0 b1
  generalize a / 4294967296 * (b / 4294967296) = P11 at *
  generalize a / 4294967296 * (b % 4294967296) = P10 at *
  generalize a % 4294967296 * (b / 4294967296) = P01 at *
  generalize a % 4294967296 * (b % 4294967296) = P00 at *
  generalize a * b = S at *
  clear h1 h2 h3 h4
  simp only [Int.reduceMul] at p00 p10 p01 p11
  have r1 : (P10 % 18446744073709551616 + P00 % 18446744073709551616 / 4294967296) % 18446744073709551616 = P10 + P00 / 4294967296 := by omega
  rw [r1, and32 _ (by omega) (by omega)]
  congr 1
  rw [Prod.mk.injEq]
  constructor
  · omega
  · rfl
theorem tGood_f (d v : List Int) (k : Nat) (hk : 10 ≤ k) : tens_Good.f k d v = some (Shp.good d && decide ((v.length : Int) = Shp.siz d)) := by
  unfold tens_Good.f
  rw [Good_f d k hk]
  simp only [Option.bind_some]
  cases h : Shp.good d
  · simp
  · rw [if_pos rfl, Size_f d k hk]
    simp only [Option.bind_some, Bool.true_and]
    congr 1
def tab (n : Nat) (g : Nat → Int) : List Int := (List.range n).map g
theorem tab_length (n : Nat) (g : Nat → Int) : (tab n g).length = n := by simp [tab]
theorem rd_tab (n : Nat) (g : Nat → Int) (i : Nat) (h : i < n) : rd (tab n g) i = g i := by
  unfold rd tab
  rw [show (i : Int).toNat = i from rfl]
  simp [List.getD_eq_getElem?_getD, List.getElem?_eq_getElem, h]
theorem tab_ext {n : Nat} {f g : Nat → Int} (e : ∀ i, i < n → f i = g i) : tab n f = tab n g := by
  unfold tab
  apply List.map_congr_left
  intro i hi
  exact e i (List.mem_range.mp hi)
theorem set_take' (l : List Int) (i : Nat) (x : Int) (h : i < l.length) : (l.set i x).take (i + 1) = l.take i ++ [x] := by
  rw [List.take_succ_eq_append_getElem (by simpa using h), List.take_set_of_le (by omega)]
  simp
theorem tab_succ (n : Nat) (g : Nat → Int) : tab (n + 1) g = tab n g ++ [g n] := by
  unfold tab; rw [List.range_succ, List.map_append]; rfl
theorem good_len {d : List Int} (h : Shp.good d = true) : d.length ≤ 4 := (Shp.good_iff.mp h).1
theorem bmul_f (a b : Int) (a0 : 0 ≤ a) (a1 : a ≤ 18446744073709551615) (b0 : 0 ≤ b) (b1 : b ≤ 18446744073709551615) : bits_Mul.f a b = some (a * b / 18446744073709551616, a * b % 18446744073709551616) := by
  unfold bits_Mul.f
  rw [Mul64_f a b a0 a1 b0 b1]
  rfl
theorem tRepeat_f (v n : Int) (h1 : 1 ≤ n) (h2 : n ≤ 4096) : slices_Repeat_Fix.f [v] n = some (List.replicate n.toNat v) := by
  unfold slices_Repeat_Fix.f
  rw [bmul_f 1 n (by omega) (by omega) (by omega) (by omega)]
  simp only [Option.bind_some]
  rw [if_pos ⟨rfl, h1, h2, by omega, by omega⟩]
  rfl
def tnew (d : List Int) (v : Int) : List Int × List Int × Int := if Shp.good d = true then (d, List.replicate (Shp.siz d).toNat v, 0) else ([], [], 1)
theorem siz_one {d : List Int} (h : Shp.good d = true) : 1 ≤ Shp.siz d := by
  rw [Shp.siz_good h]; exact Shp.pl_pos (Shp.good_iff.mp h).2.1
theorem tNew_f (d : List Int) (v : Int) (k : Nat) (hk : 10 ≤ k) : tens_New.f k d v = some (tnew d v) := by
  unfold tens_New.f tnew
  rw [Good_f d k hk]
  simp only [Option.bind_some]
  cases h : Shp.good d
  · simp
  · have := siz_one h
    have := Shp.siz_le d
    have hl := good_len h
    rw [if_pos rfl, if_pos rfl]
    unfold slices_Clone_int_int.f
    rw [if_pos (by omega), Size_f d k hk]
    simp only [Option.bind_some]
    rw [tRepeat_f v _ (by omega) (by omega)]
    rfl
theorem wI (a b c : Nat) (h : a * b + c ≤ 100000) : wrap64 (wrap64 ((a : Int) * (b : Int)) + (c : Int)) = ((a * b + c : Nat) : Int) := by
  rw [show (a : Int) * (b : Int) = ((a * b : Nat) : Int) by simp]
  generalize a * b = p at *
  rw [w64 (x := (p : Int)) (by omega) (by omega), w64 (x := (p : Int) + (c : Int)) (by omega) (by omega)]
  omega
abbrev gt (d v : List Int) : Bool := Shp.good d && decide ((v.length : Int) = Shp.siz d)
theorem gt_parts {d v : List Int} (h : gt d v = true) : Shp.good d = true ∧ (v.length : Int) = Shp.siz d := by
  unfold gt at h
  simpa only [Bool.and_eq_true, decide_eq_true_eq] using h
theorem two_of' {d : List Int} (h : d.length = 2) : d = [rd d 0, rd d 1] := by
  match d, h with
  | [a, b], _ => rfl
theorem good2 {x y : Int} (h : Shp.good [x, y] = true) : 1 ≤ x ∧ 1 ≤ y ∧ x * y ≤ 4096 ∧ Shp.siz [x, y] = x * y := by
  have g := Shp.good_iff.mp h
  have sg := Shp.siz_good h
  simp only [Shp.pl, Int.mul_one] at g sg
  exact ⟨g.2.1 x (by simp), g.2.1 y (by simp), g.2.2, sg⟩
theorem le_mul_l {x y B : Int} (hx : 1 ≤ x) (hy : 1 ≤ y) (h : x * y ≤ B) : x ≤ B ∧ y ≤ B := by
  have := Shp.mul_le1 hx hy
  omega
/-- where the greatest stands, of some behind a place -/
def bst (v : List Int) (b : Nat) : Nat → Nat
  | 0 => b
  | y + 1 => if rd v ((b + y + 1 : Nat) : Int) > rd v ((bst v b y : Nat) : Int) then b + y + 1 else bst v b y
theorem bst_bd (v : List Int) (b : Nat) : ∀ y, b ≤ bst v b y ∧ bst v b y ≤ b + y := by
  intro y
  induction y with
  | zero => simp [bst]
  | succ y ih => simp only [bst]; split <;> omega
structure PoolS (av : List Int) (c l w n : Nat) : Prop where
  la : av.length = c * l
  r4 : c * l ≤ 4096
  p1 : 1 ≤ c
  p2 : 1 ≤ w
  p3 : 1 ≤ n
  nw : n * w ≤ l
  l4 : l ≤ 4096
theorem PoolS.base {av : List Int} {c l w n : Nat} (S : PoolS av c l w n) {x j : Nat} (hx : x < c) (hj : j < n) : x * l + j * w + w ≤ av.length ∧ c * n ≤ 4096 ∧ w ≤ 4096 ∧ n ≤ 4096 := by
  have h1 := Nat.mul_le_mul_right w (show j + 1 ≤ n by omega)
  rw [Nat.add_mul, Nat.one_mul] at h1
  have h2 := S.nw
  have h3 := Nat.mul_le_mul_right l (show x + 1 ≤ c by omega)
  rw [Nat.add_mul, Nat.one_mul] at h3
  have h4 := Nat.mul_le_mul_left n S.p2
  have h5 := Nat.mul_le_mul_left c (show n ≤ l by omega)
  have h6 := Nat.mul_le_mul_right w S.p3
  have := S.la
  have := S.r4
  have := S.l4
  omega
def pbase (l w n p : Nat) : Nat := p / n * l + p % n * w
def ppos (av : List Int) (l w n p : Nat) : Int := (bst av (pbase l w n p) (w - 1) : Nat)
def pval (av : List Int) (l w n p : Nat) : Int := rd av (ppos av l w n p)
theorem wB (i n l w : Nat) (h : i / n * l + i % n * w ≤ 100000) (hi : i ≤ 100000) : wrap64 (wrap64 (wrap64 (Int.tdiv (i : Int) (n : Int)) * (l : Int)) + wrap64 (Int.tmod (i : Int) (n : Int) * (w : Int))) = ((i / n * l + i % n * w : Nat) : Int) := by
  rw [Int.tdiv_eq_ediv_of_nonneg (Int.natCast_nonneg i), Int.tmod_eq_emod_of_nonneg (Int.natCast_nonneg i), ← Int.natCast_ediv, ← Int.natCast_emod]
  have hq := Nat.div_le_self i n
  rw [w64 (x := ((i / n : Nat) : Int)) (by generalize i / n = q at *; omega) (by generalize i / n = q at *; omega), show ((i / n : Nat) : Int) * (l : Int) = ((i / n * l : Nat) : Int) by simp, show ((i % n : Nat) : Int) * (w : Int) = ((i % n * w : Nat) : Int) by simp]
  generalize i / n * l = p at *
  generalize i % n * w = q at *
  rw [w64 (x := (p : Int)) (by omega) (by omega), w64 (x := (q : Int)) (by omega) (by omega), w64 (x := (p : Int) + (q : Int)) (by omega) (by omega)]
  omega
theorem Pool_l1 {av : List Int} {c l w n : Nat} (S : PoolS av c l w n) (i : Nat) (hx : i / n < c) (hj : i % n < n) (P : List Int) (N : Int) (ad td tv : List Int) (hi : i < tv.length) (hi4 : i ≤ 5000) (hP : P.length ≤ 5000) :
    ∀ (d y k : Nat), y + d + 1 = w → d + 2 ≤ k →
    conv_Pool.l1 k w l n P i ((bst av (pbase l w n i) y : Nat) : Int) ((pbase l w n i + y + 1 : Nat) : Int) N i ad av td tv = conv_Pool.l0 (k - d - 1) w l n (P ++ [ppos av l w n i]) N ((i : Int) + 1) ad av td (tv.set i (pval av l w n i)) := by
  have hb := S.base hx hj
  have p3 := S.p3
  have la := S.la
  have r4 := S.r4
  intro d
  induction d with
  | zero =>
    intro y k hy hk
    obtain ⟨k, rfl⟩ : ∃ m, k = m + 1 := ⟨k - 1, by omega⟩
    have bb := bst_bd av (pbase l w n i) y
    simp only [conv_Pool.l1]
    rw [if_neg (by omega), wB i n l w (by omega) (by omega)]
    unfold pbase at bb ⊢
    rw [w64 (x := ((i / n * l + i % n * w : Nat) : Int) + (w : Int)) (by omega) (by omega), if_neg (by omega), if_pos (Int.natCast_nonneg _), if_pos (by omega), if_pos (Int.natCast_nonneg i), if_pos (by omega), if_pos (by omega), w64 (x := (i : Int) + 1) (by omega) (by omega), Int.toNat_natCast]
    unfold pval ppos pbase
    rw [show w - 1 = y by omega]
    rfl
  | succ d ih =>
    intro y k hy hk
    obtain ⟨k, rfl⟩ : ∃ m, k = m + 1 := ⟨k - 1, by omega⟩
    have bb := bst_bd av (pbase l w n i) y
    have := ih (y + 1) k (by omega) (by omega)
    have hpb : pbase l w n i + w ≤ av.length := hb.1
    simp only [conv_Pool.l1]
    rw [if_neg (by omega), wB i n l w (by omega) (by omega)]
    have e2 : wrap64 (((pbase l w n i + y + 1 : Nat) : Int) + 1) = ((pbase l w n i + (y + 1) + 1 : Nat) : Int) := by
      rw [w64 (by omega) (by omega)]; omega
    rw [e2]
    clear e2
    unfold pbase at bb this ⊢
    rw [w64 (x := ((i / n * l + i % n * w : Nat) : Int) + (w : Int)) (by omega) (by omega), if_pos (by omega), if_pos (Int.natCast_nonneg _), if_pos (by omega), if_pos (Int.natCast_nonneg _), if_pos (by omega)]
    rw [show k + 1 - (d + 1) - 1 = k - d - 1 by omega, ← this]
    simp only [bst]
    split
    · rfl
    · rfl
theorem Pool_l0 {av : List Int} {c l w n : Nat} (S : PoolS av c l w n) (ad td : List Int) :
    ∀ (d i k : Nat) (P tv : List Int), i + d = c * n → tv.length = c * n → tv.take i = tab i (pval av l w n) → P = tab i (ppos av l w n) → d * (w + 3) + 5 ≤ k →
    conv_Pool.l0 k w l n P ((c * n : Nat) : Int) i ad av td tv = some (td, tab (c * n) (pval av l w n), tab (c * n) (ppos av l w n), 0) := by
  have p3 := S.p3
  have p1 := S.p1
  have h0 := S.base (x := 0) (j := 0) p1 p3
  intro d
  induction d with
  | zero =>
    intro i k P tv hi hl ht hP hk
    obtain ⟨k, rfl⟩ : ∃ m, k = m + 1 := ⟨k - 1, by omega⟩
    have : i = c * n := by omega
    subst this
    simp only [conv_Pool.l0]
    rw [if_neg (by omega), ← ht, List.take_of_length_le (by omega), hP]
  | succ d ih =>
    intro i k P tv hi hl ht hP hk
    obtain ⟨k, rfl⟩ : ∃ m, k = m + 1 := ⟨k - 1, by omega⟩
    have hk2 : d * (w + 3) + (w + 3) + 5 ≤ k + 1 := by rw [Nat.add_mul, Nat.one_mul] at hk; omega
    have hj : i % n < n := Nat.mod_lt _ p3
    have hx : i / n < c := (Nat.div_lt_iff_lt_mul p3).mpr (by omega)
    have hb := S.base hx hj
    have r4 := S.r4
    have la := S.la
    have hPl : P.length = i := by rw [hP, tab_length]
    have e := Pool_l1 S i hx hj P ((c * n : Nat) : Int) ad td tv (by omega) (by omega) (by omega) (w - 1) 0 k (by have := S.p2; omega) (by omega)
    have e3 : wrap64 (((pbase l w n i : Nat) : Int) + 1) = ((pbase l w n i + 0 + 1 : Nat) : Int) := by
      unfold pbase
      rw [w64 (by omega) (by omega)]; omega
    have e2 := wB i n l w (by omega) (by omega)
    rw [show (i / n * l + i % n * w) = pbase l w n i from rfl] at e2
    simp only [conv_Pool.l0]
    rw [if_pos (by clear e2 e3; omega), if_neg (by clear e2 e3; omega), e2, e3]
    clear e2 e3
    rw [show ((bst av (pbase l w n i) 0 : Nat) : Int) = ((pbase l w n i : Nat) : Int) from rfl] at e
    rw [e]
    have := ih (i + 1) (k - (w - 1) - 1) (P ++ [ppos av l w n i]) (tv.set i (pval av l w n i)) (by omega) (by simpa using hl) (by rw [set_take' tv i _ (by omega), ht, tab_succ]) (by rw [tab_succ, hP]) (by omega)
    rw [Int.natCast_add] at this
    exact this
def tpool (ad av : List Int) (w : Int) : List Int × List Int × List Int × Int :=
  if gt ad av = true then
    (if ad.length = 2 then
      (if 1 ≤ w ∧ w ≤ rd ad 1 then
        ([rd ad 0, rd ad 1 / w], tab (rd ad 0 * (rd ad 1 / w)).toNat (pval av (rd ad 1).toNat w.toNat (rd ad 1 / w).toNat), tab (rd ad 0 * (rd ad 1 / w)).toNat (ppos av (rd ad 1).toNat w.toNat (rd ad 1 / w).toNat), 0)
       else ([], [], [], 1))
     else ([], [], [], 4))
  else ([], [], [], 1)
theorem pool_sides {ad av : List Int} {w : Int} (h1 : gt ad av = true) (l1 : ad.length = 2) (w1 : 1 ≤ w) (w2 : w ≤ rd ad 1) :
    ∃ c l w' n : Nat, rd ad 0 = c ∧ rd ad 1 = l ∧ w = w' ∧ rd ad 1 / w = n ∧ PoolS av c l w' n ∧ Shp.good [rd ad 0, rd ad 1 / w] = true ∧ Shp.siz [rd ad 0, rd ad 1 / w] = rd ad 0 * (rd ad 1 / w) ∧ l ≤ 4096 ∧ w' ≤ l ∧ n ≤ 4096 ∧ 1 ≤ w' := by
  obtain ⟨g1, v1⟩ := gt_parts h1
  rw [two_of' l1] at g1 v1
  obtain ⟨a1, a2, a3, a4⟩ := good2 g1
  obtain ⟨c1, c2⟩ := le_mul_l a1 a2 a3
  generalize rd ad 0 = r at *
  generalize rd ad 1 = l at *
  obtain ⟨c, rfl⟩ := Int.eq_ofNat_of_zero_le (show 0 ≤ r by omega)
  obtain ⟨l, rfl⟩ := Int.eq_ofNat_of_zero_le (show 0 ≤ l by omega)
  obtain ⟨w, rfl⟩ := Int.eq_ofNat_of_zero_le (show 0 ≤ w by omega)
  have q0 := Nat.div_le_self l w
  have q1 : 1 ≤ l / w := (Nat.le_div_iff_mul_le (by omega)).mpr (by omega)
  have q2 := Nat.div_mul_le_self l w
  have e : (l : Int) / (w : Int) = ((l / w : Nat) : Int) := (Int.natCast_ediv l w).symm
  have k1 : ((c * l : Nat) : Int) = (c : Int) * (l : Int) := by simp
  have k2 : c * (l / w) ≤ c * l := Nat.mul_le_mul_left c q0
  have k3 : ((c * (l / w) : Nat) : Int) = (c : Int) * ((l / w : Nat) : Int) := by simp
  have hg : Shp.good [(c : Int), ((l / w : Nat) : Int)] = true := by
    refine Shp.good_iff.mpr ⟨by simp, ?_, ?_⟩
    · intro x hx
      simp only [List.mem_cons, List.not_mem_nil, or_false] at hx
      rcases hx with rfl | rfl <;> omega
    · simp only [Shp.pl, Int.mul_one]; omega
  rw [e]
  refine ⟨c, l, w, l / w, rfl, rfl, rfl, rfl, ⟨by omega, by omega, by omega, by omega, q1, q2, by omega⟩, hg, ?_, by omega, by omega, by omega, by omega⟩
  have := Shp.siz_good hg
  simp only [Shp.pl, Int.mul_one] at this
  exact this
theorem cPool_f (ad av : List Int) (w : Int) (k : Nat) (hK : 30000000 ≤ k) : conv_Pool.f k ad av w = some (tpool ad av w) := by
  unfold conv_Pool.f tpool
  rw [tGood_f ad av _ (by omega), Option.bind_some]
  by_cases h1 : gt ad av = true
  rotate_left
  · rw [if_neg h1, if_neg h1]
  rw [if_pos h1, if_pos h1]
  by_cases l1 : ad.length = 2
  rotate_left
  · rw [if_neg (by omega), if_neg l1]
  rw [if_pos (by omega), if_pos l1]
  by_cases w1 : w < 1
  · rw [if_pos w1, if_neg (by omega)]
  rw [if_neg w1, if_pos (by omega)]
  by_cases w2 : w > rd ad 1
  · rw [if_pos w2, if_neg (by omega)]
  rw [if_neg w2, if_neg (by omega), if_pos (by omega), if_pos (c := _ ∧ _) ⟨by omega, by omega⟩]
  obtain ⟨c, l, w', n, e1, e2, e3, e4, S, hg, hs, z1, z2, z3, z4⟩ := pool_sides h1 l1 (show 1 ≤ w by omega) (by omega)
  have hdn : (rd ad 1).tdiv w = rd ad 1 / w := Int.tdiv_eq_ediv_of_nonneg (by omega)
  rw [hdn, w64 (x := rd ad 1 / w) (by omega) (by omega)]
  unfold conv_of.f
  rw [tNew_f _ _ _ (by omega), Option.bind_some]
  unfold tnew
  rw [if_pos hg]
  simp only [if_true, Option.bind_some]
  rw [hs, e4, e1, e2, e3]
  simp only [Int.toNat_natCast]
  rw [show ((c : Int) * (n : Int)).toNat = c * n by rw [show (c : Int) * (n : Int) = ((c * n : Nat) : Int) by simp]; rfl, List.length_replicate]
  have h0 := S.base (x := 0) (j := 0) S.p1 S.p3
  have kb : c * n * (w' + 3) ≤ 4096 * (4096 + 3) := Nat.mul_le_mul h0.2.1 (by omega)
  have := Pool_l0 S ad [(c : Int), (n : Int)] (c * n) 0 k [] (List.replicate (c * n) 0) (by omega) (by simp) (by simp [tab]) (by simp [tab]) (by omega)
  rw [show ((0 : Nat) : Int) = 0 from rfl] at this
  exact this
theorem rows1_f {l : List Int} (h : l.length ≤ 100000) : carousellaw8_rows.f 1 l = some ([1, (l.length : Int)], l) := by
  unfold carousellaw8_rows.f
  rw [if_neg (by omega), Int.ediv_one, w64 (by omega) (by omega)]
theorem good_1 {n : Int} (h1 : 1 ≤ n) (h2 : n ≤ 4096) : Shp.good [1, n] = true ∧ Shp.siz [1, n] = n := by
  have hg : Shp.good [1, n] = true := by
    refine Shp.good_iff.mpr ⟨by simp, ?_, ?_⟩
    · intro x hx
      simp only [List.mem_cons, List.not_mem_nil, or_false] at hx
      rcases hx with rfl | rfl <;> omega
    · simp only [Shp.pl, Int.mul_one, Int.one_mul]; omega
  refine ⟨hg, ?_⟩
  have := Shp.siz_good hg
  simpa [Shp.pl] using this
theorem gt_1 {v : List Int} (h1 : 1 ≤ v.length) (h2 : v.length ≤ 4096) : gt [1, (v.length : Int)] v = true := by
  obtain ⟨a, b⟩ := good_1 (n := (v.length : Int)) (by omega) (by omega)
  unfold gt
  rw [a, b]; simp
theorem awakeG8 : carousellaw8_awake.f 60000010 = some true := by decide +kernel
theorem bst_max (v : List Int) (b : Nat) : ∀ y i : Nat, i ≤ y → rd v ((b + i : Nat) : Int) ≤ rd v ((bst v b y : Nat) : Int) ∧ (rd v ((b + i : Nat) : Int) = rd v ((bst v b y : Nat) : Int) → bst v b y ≤ b + i) := by
  intro y
  induction y with
  | zero => intro i hi; have : i = 0 := by omega
            subst this; simp [bst]
  | succ y ih =>
    intro i hi
    simp only [bst]
    by_cases c : rd v ((b + y + 1 : Nat) : Int) > rd v ((bst v b y : Nat) : Int)
    · rw [if_pos c]
      by_cases e : i = y + 1
      · subst e; exact ⟨Int.le_refl _, fun _ => Nat.le_refl _⟩
      · have := ih i (by omega)
        constructor
        · omega
        · intro h; omega
    · rw [if_neg c]
      by_cases e : i = y + 1
      · subst e
        refine ⟨Int.not_lt.mp c, fun _ => ?_⟩
        have := bst_bd v b y
        omega
      · exact ih i (by omega)
/-- one row: the pools -/
theorem tpool1 {l : List Int} {w : Nat} (h1 : 1 ≤ l.length) (h3 : l.length ≤ 100) (w1 : 1 ≤ w) (w2 : w ≤ l.length) :
    tpool [1, (l.length : Int)] l w = ([1, ((l.length / w : Nat) : Int)], tab (l.length / w) (fun p => rd l ((bst l (p * w) (w - 1) : Nat) : Int)), tab (l.length / w) (fun p => ((bst l (p * w) (w - 1) : Nat) : Int)), 0) := by
  unfold tpool
  have e0 : rd [1, (l.length : Int)] 0 = 1 := rfl
  have e1 : rd [1, (l.length : Int)] 1 = (l.length : Int) := rfl
  rw [if_pos (gt_1 h1 (by omega)), if_pos (show [1, (l.length : Int)].length = 2 from rfl), e0, e1, if_pos ⟨by omega, by omega⟩, Int.one_mul, ← Int.natCast_ediv]
  simp only [Int.toNat_natCast]
  have q : ∀ p, p < l.length / w → pbase l.length w (l.length / w) p = p * w := by
    intro p hp
    unfold pbase
    rw [Nat.div_eq_of_lt hp, Nat.mod_eq_of_lt hp]; omega
  have t1 : tab (l.length / w) (pval l l.length w (l.length / w)) = tab (l.length / w) (fun p => rd l ((bst l (p * w) (w - 1) : Nat) : Int)) := tab_ext fun p hp => by unfold pval ppos; rw [q p hp]
  have t2 : tab (l.length / w) (ppos l l.length w (l.length / w)) = tab (l.length / w) (fun p => ((bst l (p * w) (w - 1) : Nat) : Int)) := tab_ext fun p hp => by unfold ppos; rw [q p hp]
  rw [t1, t2]
theorem Gr_l1 (l : List Int) (w n : Nat) (hl : l.length ≤ 100) (w1 : 1 ≤ w) (hn : n * w ≤ l.length) (d0 V P : List Int) (hV : V = tab n (fun p => rd l ((bst l (p * w) (w - 1) : Nat) : Int))) (hP : P = tab n (fun p => ((bst l (p * w) (w - 1) : Nat) : Int))) (i : Nat) (hi : i < n) :
    ∀ (d y k : Nat), y + d = w → d + 1 ≤ k → carousellaw8_ConvGreatest.l1 k l w P i ((i * w + y : Nat) : Int) d0 V = carousellaw8_ConvGreatest.l0 (k - d - 1) l w P ((i : Int) + 1) d0 V := by
  have hb : i * w + w ≤ n * w := by have := Nat.mul_le_mul_right w (show i + 1 ≤ n by omega); rwa [Nat.add_mul, Nat.one_mul] at this
  have hw : n ≤ n * w := Nat.le_mul_of_pos_right n (by omega)
  have lV : V.length = n := by rw [hV, tab_length]
  have lP : P.length = n := by rw [hP, tab_length]
  have rV : rd V (i : Int) = rd l ((bst l (i * w) (w - 1) : Nat) : Int) := by rw [hV, rd_tab _ _ _ hi]
  have rP : rd P (i : Int) = ((bst l (i * w) (w - 1) : Nat) : Int) := by rw [hP, rd_tab _ _ _ hi]
  have h100 : i * w + w ≤ 100000 := by omega
  intro d
  induction d with
  | zero =>
    intro y k hy hk
    obtain ⟨k, rfl⟩ : ∃ m, k = m + 1 := ⟨k - 1, by omega⟩
    simp only [carousellaw8_ConvGreatest.l1]
    rw [wI i w w h100, if_neg (by omega), w64 (x := (i : Int) + 1) (by omega) (by omega)]
    rfl
  | succ d ih =>
    intro y k hy hk
    obtain ⟨k, rfl⟩ : ∃ m, k = m + 1 := ⟨k - 1, by omega⟩
    have := ih (y + 1) k (by omega) (by omega)
    obtain ⟨m1, m2⟩ := bst_max l (i * w) (w - 1) y (by omega)
    simp only [carousellaw8_ConvGreatest.l1]
    rw [wI i w w h100, if_pos (by omega), if_pos (Int.natCast_nonneg _), if_pos (by omega), if_pos (Int.natCast_nonneg _), if_pos (by omega), rV, if_neg (by omega), w64 (x := ((i * w + y : Nat) : Int) + 1) (by omega) (by omega), rP, if_pos (show (i : Int) < (P.length : Int) by omega), show ((i * w + y : Nat) : Int) + 1 = ((i * w + (y + 1) : Nat) : Int) by omega, this, show k + 1 - (d + 1) - 1 = k - d - 1 by omega]
    by_cases c : rd l ((i * w + y : Nat) : Int) = rd l ((bst l (i * w) (w - 1) : Nat) : Int)
    · rw [if_pos c, if_neg (by have := m2 c; omega)]
    · rw [if_neg c]
theorem Gr_l0 (l : List Int) (w n : Nat) (hl : l.length ≤ 100) (w1 : 1 ≤ w) (hn : n * w ≤ l.length) (d0 V P : List Int) (hV : V = tab n (fun p => rd l ((bst l (p * w) (w - 1) : Nat) : Int))) (hP : P = tab n (fun p => ((bst l (p * w) (w - 1) : Nat) : Int))) :
    ∀ (d i k : Nat), i + d = n → d * (w + 5) + 5 ≤ k → carousellaw8_ConvGreatest.l0 k l w P i d0 V = some true := by
  have hw : n ≤ n * w := Nat.le_mul_of_pos_right n (by omega)
  have lV : V.length = n := by rw [hV, tab_length]
  have lP : P.length = n := by rw [hP, tab_length]
  intro d
  induction d with
  | zero =>
    intro i k hi hk
    obtain ⟨k, rfl⟩ : ∃ m, k = m + 1 := ⟨k - 1, by omega⟩
    simp only [carousellaw8_ConvGreatest.l0]
    rw [if_neg (by omega)]
  | succ d ih =>
    intro i k hi hk
    rw [Nat.add_mul, Nat.one_mul] at hk
    obtain ⟨k, rfl⟩ : ∃ m, k = m + 2 := ⟨k - 2, by omega⟩
    have hb : i * w + w ≤ n * w := by have := Nat.mul_le_mul_right w (show i + 1 ≤ n by omega); rwa [Nat.add_mul, Nat.one_mul] at this
    have rV : rd V (i : Int) = rd l ((bst l (i * w) (w - 1) : Nat) : Int) := by rw [hV, rd_tab _ _ _ (by omega)]
    have rP : rd P (i : Int) = ((bst l (i * w) (w - 1) : Nat) : Int) := by rw [hP, rd_tab _ _ _ (by omega)]
    obtain ⟨b1, b2⟩ := bst_bd l (i * w) (w - 1)
    have h100 : i * w + w ≤ 100000 := by omega
    have h1 := Gr_l1 l w n hl w1 hn d0 V P hV hP i (by omega) w 0 k (by omega) (by omega)
    have h0 := ih (i + 1) (k - w - 1) (by omega) (by omega)
    rw [Int.natCast_add] at h0
    simp only [carousellaw8_ConvGreatest.l0]
    rw [if_pos (by omega), if_pos (by omega), rP, wI i w w h100, show (i : Int) * (w : Int) = ((i * w : Nat) : Int) by simp, w64 (x := ((i * w : Nat) : Int)) (by omega) (by omega), if_neg (by omega), if_neg (by omega), if_pos (by omega), if_pos (by omega), if_pos (by omega), rV, show (rd l ((bst l (i * w) (w - 1) : Nat) : Int) != rd l ((bst l (i * w) (w - 1) : Nat) : Int)) = false by simp]
    simp only [carousellaw8_ConvGreatest.j3]
    rw [if_neg (by simp), show (i : Int) * (w : Int) = ((i * w : Nat) : Int) by simp, w64 (x := ((i * w : Nat) : Int)) (by omega) (by omega)]
    rw [Nat.add_zero] at h1
    rw [h1]
    exact h0
theorem CGreatest_all (l : List Int) (a : Int) (ha : ∀ x ∈ l, Fx.ok x) : ∃ k, carousellaw8_ConvGreatest.f k l a = some true := by
  refine ⟨60000010, ?_⟩
  have oth : ∀ k, carousellaw8_ConvGreatest.j0 (k + 1) l a true = some true := fun k => by simp only [carousellaw8_ConvGreatest.j0]; rw [if_pos trivial]
  unfold carousellaw8_ConvGreatest.f
  rw [awakeG8, Option.bind_some, if_pos rfl]
  by_cases c1 : (l.length : Int) < 1
  · rw [if_pos c1, oth]
  rw [if_neg c1]
  by_cases c2 : (l.length : Int) > 100
  · rw [if_pos c2, oth]
  rw [if_neg c2]
  by_cases c3 : a < 1
  · rw [if_pos c3, oth]
  rw [if_neg c3]
  by_cases c4 : a > (l.length : Int)
  · rw [decide_eq_true c4, oth]
  rw [decide_eq_false c4]
  obtain ⟨w, rfl⟩ := Int.eq_ofNat_of_zero_le (show 0 ≤ a by omega)
  have e1 := tpool1 (l := l) (w := w) (by omega) (by omega) (by omega) (by omega)
  have q0 := Nat.div_le_self l.length w
  have q1 := Nat.div_mul_le_self l.length w
  simp only [carousellaw8_ConvGreatest.j0]
  rw [if_neg (by simp), rows1_f (by omega), Option.bind_some]
  simp only []
  rw [cPool_f _ _ _ _ (by omega), Option.bind_some, e1]
  simp only [if_true]
  rw [if_neg (by omega), ← Int.natCast_ediv, tab_length, tab_length]
  obtain ⟨n, hn⟩ : ∃ n, n = l.length / w := ⟨_, rfl⟩
  rw [← hn] at q0 q1 ⊢
  rw [w64 (x := (n : Int)) (by omega) (by omega), if_pos rfl, show ((n : Int) != (n : Int)) = false by simp]
  simp only [carousellaw8_ConvGreatest.j1]
  rw [if_neg (by simp)]
  have := Gr_l0 l w n (by omega) (by omega) q1 [1, (n : Int)] _ _ rfl rfl n 0 60000008 (by omega) (by
    have := Nat.mul_le_mul (show n ≤ 100 by omega) (show w + 5 ≤ 105 by omega)
    omega)
  exact this
theorem ConvGreatest : carousellaw8_ConvGreatest.Pure := by
  intro l a _ _ ha _
  exact CGreatest_all l a (fun x hx => wf_i64 (ha x hx))
end Go.Proofs.Ytcipfhlcgnomaaa.Pure
