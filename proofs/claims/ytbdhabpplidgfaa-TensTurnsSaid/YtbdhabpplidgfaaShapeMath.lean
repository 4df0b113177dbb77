/- Plain mathematics for this seat (ShapeMath): no program in sight. -/
set_option linter.unusedVariables false
set_option linter.unusedSimpArgs false
namespace Go.Proofs.Ytbdhabpplidgfaa.Shp

def pl : List Int → Int
  | [] => 1
  | x :: r => x * pl r
def gp (n : Int) : List Int → Int
  | [] => n
  | x :: r => if x < 1 then 0 else if 4096 < x then 0 else if 4096 < n * x then 0 else gp (n * x) r
def good (l : List Int) : Bool := decide (l.length ≤ 4) && l.all (fun x => decide (1 ≤ x)) && decide (pl l ≤ 4096)
theorem good_iff {l : List Int} : good l = true ↔ l.length ≤ 4 ∧ (∀ x ∈ l, 1 ≤ x) ∧ pl l ≤ 4096 := by
  simp [good, and_assoc]
theorem mul_le1 {a b : Int} (h1 : 1 ≤ a) (h2 : 1 ≤ b) : a ≤ a * b ∧ b ≤ a * b := by
  have : a * 1 ≤ a * b := Int.mul_le_mul_of_nonneg_left h2 (by omega)
  have : 1 * b ≤ a * b := Int.mul_le_mul_of_nonneg_right h1 (by omega)
  omega
theorem pl_pos : ∀ {l : List Int}, (∀ x ∈ l, 1 ≤ x) → 1 ≤ pl l
  | [], _ => by simp [pl]
  | x :: r, h => by
    have h1 := pl_pos (l := r) (fun y hy => h y (List.mem_cons_of_mem _ hy))
    have h2 := h x (List.mem_cons_self ..)
    have := mul_le1 h2 h1
    unfold pl; omega
theorem gp_eq (l : List Int) : ∀ n, 1 ≤ n → n ≤ 4096 → gp n l = if (∀ x ∈ l, 1 ≤ x) ∧ n * pl l ≤ 4096 then n * pl l else 0 := by
  induction l with
  | nil => intro n h1 h2; simp [gp, pl, h2]
  | cons x r ih =>
    intro n h1 h2
    unfold gp
    by_cases c1 : x < 1
    · rw [if_pos c1, if_neg]
      intro h; have := h.1 x (List.mem_cons_self ..); omega
    rw [if_neg c1]
    have hx : 1 ≤ x := by omega
    have hnx := mul_le1 h1 hx
    by_cases c2 : 4096 < x
    · rw [if_pos c2, if_neg]
      intro h
      have h3 := pl_pos (l := r) (fun y hy => h.1 y (List.mem_cons_of_mem _ hy))
      have h4 := mul_le1 (by omega : 1 ≤ n * x) h3
      have : n * pl (x :: r) = n * x * pl r := (Int.mul_assoc n x (pl r)).symm
      omega
    rw [if_neg c2]
    by_cases c3 : 4096 < n * x
    · rw [if_pos c3, if_neg]
      intro h
      have h3 := pl_pos (l := r) (fun y hy => h.1 y (List.mem_cons_of_mem _ hy))
      have h4 := mul_le1 (by omega : 1 ≤ n * x) h3
      have : n * pl (x :: r) = n * x * pl r := (Int.mul_assoc n x (pl r)).symm
      omega
    rw [if_neg c3, ih (n * x) (by omega) (by omega)]
    have : n * pl (x :: r) = n * x * pl r := (Int.mul_assoc n x (pl r)).symm
    rw [this]
    have : (∀ y ∈ x :: r, 1 ≤ y) ↔ (∀ y ∈ r, 1 ≤ y) := by simp [hx]
    simp only [this]
/-- the size -/
def siz (l : List Int) : Int := if good l = true then pl l else 0
theorem gp_siz (l : List Int) (h : l.length ≤ 4) : gp 1 l = siz l := by
  rw [gp_eq l 1 (by omega) (by omega), siz]
  have : good l = true ↔ (∀ x ∈ l, 1 ≤ x) ∧ 1 * pl l ≤ 4096 := by rw [good_iff, Int.one_mul]; simp [h]
  simp only [this, Int.one_mul]
theorem siz_long (l : List Int) (h : ¬ l.length ≤ 4) : siz l = 0 := by
  rw [siz, if_neg]; rw [good_iff]; intro k; exact h k.1
theorem siz_pos (l : List Int) : decide (siz l > 0) = good l := by
  unfold siz
  by_cases h : good l = true
  · rw [if_pos h, h]
    have := pl_pos (good_iff.mp h).2.1
    simp; omega
  · rw [if_neg h]; simp at h; simp [h]
theorem siz_good {l : List Int} (h : good l = true) : siz l = pl l := by rw [siz, if_pos h]
theorem siz_bad {l : List Int} (h : good l = false) : siz l = 0 := by rw [siz, h]; simp
theorem siz_nonneg (l : List Int) : 0 ≤ siz l := by
  unfold siz; split
  · rename_i h; have := pl_pos (good_iff.mp h).2.1; omega
  · omega
theorem siz_le (l : List Int) : siz l ≤ 4096 := by
  unfold siz; split
  · rename_i h; exact (good_iff.mp h).2.2
  · omega
/-- each side of a shape is between 1 and 4096, and so is each tail's product -/
theorem pl_drop {l : List Int} (h : ∀ x ∈ l, 1 ≤ x) : ∀ i, pl (l.drop i) ≤ pl l := by
  induction l with
  | nil => intro i; simp
  | cons x r ih =>
    intro i
    have hr : ∀ y ∈ r, 1 ≤ y := fun y hy => h y (List.mem_cons_of_mem _ hy)
    have hx := h x (List.mem_cons_self ..)
    have h1 := pl_pos hr
    have := mul_le1 hx h1
    cases i with
    | zero => simp
    | succ i => have := ih hr i; simp only [List.drop_succ_cons]; show _ ≤ x * pl r; omega
theorem mem_le {l : List Int} (h : ∀ x ∈ l, 1 ≤ x) : ∀ x ∈ l, x ≤ pl l := by
  induction l with
  | nil => simp
  | cons x r ih =>
    have hr : ∀ y ∈ r, 1 ≤ y := fun y hy => h y (List.mem_cons_of_mem _ hy)
    have hx := h x (List.mem_cons_self ..)
    have h1 := pl_pos hr
    have := mul_le1 hx h1
    intro y hy
    show _ ≤ x * pl r
    rcases List.mem_cons.mp hy with rfl | hy
    · omega
    · have := ih hr y hy; omega
/-- strides: what follows, multiplied -/
def strs : List Int → List Int
  | [] => []
  | _ :: r => pl r :: strs r
theorem strs_length (l : List Int) : (strs l).length = l.length := by induction l <;> simp_all [strs]
/-- the digits of a number -/
def pla (t : Int) : List Int → List Int
  | [] => []
  | x :: r => (t / pl r) % x :: pla t r
theorem pla_length (t : Int) (l : List Int) : (pla t l).length = l.length := by induction l <;> simp_all [pla]
/-- a place's number -/
def mr (acc : Int) : List Int → List Int → Int
  | x :: d, p :: ps => mr (acc * x + p) d ps
  | _, _ => acc
def ins : List Int → List Int → Bool
  | [], [] => true
  | x :: d, p :: ps => decide (0 ≤ p) && (decide (p < x) && ins d ps)
  | _, _ => false
theorem mod_split (t x m : Int) (h : 0 < m) : t % (x * m) = (t / m % x) * m + t % m := by
  have e1 := Int.emod_add_mul_ediv t (x * m)
  have e2 := Int.emod_add_mul_ediv t m
  have e3 := Int.emod_add_mul_ediv (t / m) x
  have e4 : t / (x * m) = t / m / x := by rw [Int.mul_comm x m, Int.ediv_ediv_of_nonneg (by omega)]
  rw [e4] at e1
  grind
theorem mr_acc (d : List Int) : ∀ p acc, p.length = d.length → mr acc d p = acc * pl d + mr 0 d p := by
  induction d with
  | nil => intro p acc h; cases p <;> simp_all [mr, pl]
  | cons x d ih =>
    intro p acc h
    cases p with
    | nil => simp at h
    | cons q p =>
      simp only [mr, pl]
      rw [ih p (acc * x + q) (by simpa using h), ih p (0 * x + q) (by simpa using h)]
      grind
theorem mr_pla (d : List Int) (h : ∀ x ∈ d, 1 ≤ x) (t : Int) : mr 0 d (pla t d) = t % pl d := by
  induction d with
  | nil => simp [mr, pl, Int.emod_one]
  | cons x d ih =>
    have hr : ∀ y ∈ d, 1 ≤ y := fun y hy => h y (List.mem_cons_of_mem _ hy)
    have hx := h x (List.mem_cons_self ..)
    have h1 := pl_pos hr
    simp only [mr, pla, pl]
    rw [mr_acc d _ _ (pla_length t d), ih hr, mod_split t x (pl d) (by omega)]
    grind
theorem ins_pla (d : List Int) (h : ∀ x ∈ d, 1 ≤ x) (t : Int) : ins d (pla t d) = true := by
  induction d with
  | nil => rfl
  | cons x d ih =>
    have hr : ∀ y ∈ d, 1 ≤ y := fun y hy => h y (List.mem_cons_of_mem _ hy)
    have hx := h x (List.mem_cons_self ..)
    simp only [ins, pla, ih hr, Bool.and_true, Bool.and_eq_true, decide_eq_true_eq]
    exact ⟨Int.emod_nonneg _ (by omega), Int.emod_lt_of_pos _ (by omega)⟩
theorem ins_length (d : List Int) : ∀ p, ins d p = true → p.length = d.length := by
  induction d with
  | nil => intro p h; cases p <;> simp_all [ins]
  | cons x d ih =>
    intro p h; cases p with
    | nil => simp [ins] at h
    | cons q p => simp [ins] at h; simp [ih p h.2.2]
theorem mr_bound (d : List Int) : ∀ p, ins d p = true → (∀ x ∈ d, 1 ≤ x) → 0 ≤ mr 0 d p ∧ mr 0 d p < pl d := by
  induction d with
  | nil => intro p h _; cases p <;> simp_all [mr, pl]
  | cons x d ih =>
    intro p h hp
    cases p with
    | nil => simp [ins] at h
    | cons q p =>
      have hr : ∀ y ∈ d, 1 ≤ y := fun y hy => hp y (List.mem_cons_of_mem _ hy)
      simp [ins] at h
      have hl := ins_length d p h.2.2
      have := ih p h.2.2 hr
      simp only [mr, pl]
      rw [mr_acc d p _ hl]
      have h1 := pl_pos hr
      have : (0 * x + q) * pl d ≤ (x - 1) * pl d := Int.mul_le_mul_of_nonneg_right (by omega) (by omega)
      have : 0 ≤ (0 * x + q) * pl d := Int.mul_nonneg (by omega) (by omega)
      have : (x - 1) * pl d = x * pl d - pl d := by grind
      omega
/-- by strides -/
def dot : List Int → List Int → Int
  | p :: ps, s :: ss => p * s + dot ps ss
  | _, _ => 0
theorem dot_mr (d : List Int) : ∀ p, p.length = d.length → dot p (strs d) = mr 0 d p := by
  induction d with
  | nil => intro p h; cases p <;> simp_all [dot, mr]
  | cons x d ih =>
    intro p h; cases p with
    | nil => simp at h
    | cons q p =>
      simp only [dot, strs, mr]
      rw [mr_acc d p _ (by simpa using h), ih p (by simpa using h)]; grind

def mxx (x y : Int) : Int := if x < y then y else x
/-- what two spread to, from the last sides on -/
def jn : List Int → List Int → Option (List Int)
  | [], b => some b
  | x :: a, [] => some (x :: a)
  | x :: a, y :: b => if x = y ∨ x = 1 ∨ y = 1 then (jn a b).map (mxx x y :: ·) else none
theorem jn_nil (a : List Int) : jn a [] = some a := by cases a <;> simp [jn]
theorem mxx_comm (x y : Int) : mxx x y = mxx y x := by unfold mxx; split <;> split <;> omega
theorem jn_comm (a : List Int) : ∀ b, jn a b = jn b a := by
  induction a with
  | nil => intro b; rw [jn_nil]; simp [jn]
  | cons x a ih =>
    intro b
    cases b with
    | nil => simp [jn]
    | cons y b =>
      simp only [jn, ih b, mxx_comm x y]
      have : (x = y ∨ x = 1 ∨ y = 1) ↔ (y = x ∨ y = 1 ∨ x = 1) := by omega
      simp only [this]
theorem jn_again (a : List Int) : ∀ b l, (∀ x ∈ a, 1 ≤ x) → (∀ x ∈ b, 1 ≤ x) → jn a b = some l → jn l a = some l := by
  induction a with
  | nil => intro b l _ _ h; simp [jn] at h; subst h; rw [jn_nil]
  | cons x a ih =>
    intro b l ha hb h
    cases b with
    | nil =>
      simp only [jn, Option.some.injEq] at h; subst h
      have : ∀ a : List Int, jn a a = some a := by
        intro a; induction a with
        | nil => rfl
        | cons z a ih => simp [jn, ih, mxx]
      exact this _
    | cons y b =>
      simp only [jn] at h
      split at h
      · rename_i hc
        rw [Option.map_eq_some_iff] at h
        obtain ⟨l', h1, rfl⟩ := h
        have hx := ha x (List.mem_cons_self ..)
        have hy := hb y (List.mem_cons_self ..)
        have := ih b l' (fun z hz => ha z (List.mem_cons_of_mem _ hz)) (fun z hz => hb z (List.mem_cons_of_mem _ hz)) h1
        simp only [jn, this]
        have e : mxx (mxx x y) x = mxx x y := by unfold mxx; split <;> split <;> omega
        rw [if_pos (by unfold mxx; split <;> omega), e]; rfl
      · simp at h
theorem jn_pos (a : List Int) : ∀ b l, (∀ x ∈ a, 1 ≤ x) → (∀ x ∈ b, 1 ≤ x) → jn a b = some l → ∀ x ∈ l, 1 ≤ x := by
  induction a with
  | nil => intro b l _ hb h; simp [jn] at h; subst h; exact hb
  | cons x a ih =>
    intro b l ha hb h
    cases b with
    | nil => simp only [jn, Option.some.injEq] at h; subst h; exact ha
    | cons y b =>
      simp only [jn] at h
      split at h
      · rw [Option.map_eq_some_iff] at h
        obtain ⟨l', h1, rfl⟩ := h
        have hx := ha x (List.mem_cons_self ..)
        have hy := hb y (List.mem_cons_self ..)
        have := ih b l' (fun z hz => ha z (List.mem_cons_of_mem _ hz)) (fun z hz => hb z (List.mem_cons_of_mem _ hz)) h1
        intro z hz
        rcases List.mem_cons.mp hz with rfl | hz
        · unfold mxx; split <;> omega
        · exact this z hz
      · simp at h
theorem jn_length (a : List Int) : ∀ b l, jn a b = some l → l.length = max a.length b.length := by
  induction a with
  | nil => intro b l h; simp [jn] at h; subst h; simp
  | cons x a ih =>
    intro b l h
    cases b with
    | nil => simp only [jn, Option.some.injEq] at h; subst h; simp
    | cons y b =>
      simp only [jn] at h
      split at h
      · rw [Option.map_eq_some_iff] at h
        obtain ⟨l', h1, rfl⟩ := h
        have := ih b l' h1
        simp only [List.length_cons]; omega
      · simp at h
/-- the shape that both spread to, and why there is none -/
def join (a b : List Int) : List Int × Int :=
  if good a = true ∧ good b = true then
    match jn a.reverse b.reverse with
    | none => ([], 4)
    | some l => if good l.reverse = true then (l.reverse, 0) else ([], 2)
  else ([], 1)
theorem join_comm (a b : List Int) : join a b = join b a := by
  unfold join
  rw [jn_comm]
  have : (good a = true ∧ good b = true) ↔ (good b = true ∧ good a = true) := And.comm
  simp only [this]
theorem rev_all {l : List Int} (h : ∀ x ∈ l, 1 ≤ x) : ∀ x ∈ l.reverse, 1 ≤ x := by simpa using h
theorem join_zero {a b l : List Int} (h : join a b = (l, 0)) : good a = true ∧ good b = true ∧ good l = true ∧ jn a.reverse b.reverse = some l.reverse := by
  unfold join at h
  split at h
  · rename_i hg
    split at h
    · simp at h
    · rename_i r hr
      split at h
      · rename_i hl
        simp only [Prod.mk.injEq, and_true] at h
        subst h
        exact ⟨hg.1, hg.2, hl, by simpa using hr⟩
      · simp at h
  · simp at h
theorem join_mk {a b l : List Int} (ha : good a = true) (hb : good b = true) (hl : good l = true) (h : jn a.reverse b.reverse = some l.reverse) : join a b = (l, 0) := by
  unfold join
  rw [if_pos ⟨ha, hb⟩, h]
  simp [hl]
theorem join_again {a b l : List Int} (h : join a b = (l, 0)) : join l a = (l, 0) := by
  obtain ⟨ha, hb, hl, hj⟩ := join_zero h
  have := jn_again _ _ _ (rev_all (good_iff.mp ha).2.1) (rev_all (good_iff.mp hb).2.1) hj
  exact join_mk hl ha hl this
theorem join_nil {a : List Int} (ha : good a = true) : join a [] = (a, 0) := by
  exact join_mk ha (by decide) ha (by simp [jn_nil])
theorem join_bad {a b : List Int} (h : good a = false ∨ good b = false) : join a b = ([], 1) := by
  unfold join; rw [if_neg]; rcases h with h | h <;> simp [h]
theorem join_code (a b : List Int) : (join a b).2 = 0 ∨ (join a b).1 = [] := by
  unfold join
  split
  · split
    · exact .inr rfl
    · split
      · exact .inl rfl
      · exact .inr rfl
  · exact .inr rfl
/-- 'big' is what the two come to: sides alike, or one -/
def bc : List Int → List Int → Bool
  | [], _ => true
  | _ :: _, [] => false
  | x :: d, y :: b => (decide (x = y) || decide (x = 1)) && bc d b
theorem jn_bc (d : List Int) : ∀ b, (∀ x ∈ d, 1 ≤ x) → (∀ x ∈ b, 1 ≤ x) → (jn d b = some b ↔ bc d b = true) := by
  induction d with
  | nil => intro b _ _; simp [jn, bc]
  | cons x d ih =>
    intro b hd hb
    cases b with
    | nil => simp [jn, bc]
    | cons y b =>
      have hx := hd x (List.mem_cons_self ..)
      have hy := hb y (List.mem_cons_self ..)
      have := ih b (fun z hz => hd z (List.mem_cons_of_mem _ hz)) (fun z hz => hb z (List.mem_cons_of_mem _ hz))
      simp only [jn, bc, Bool.and_eq_true, Bool.or_eq_true, decide_eq_true_eq]
      constructor
      · intro h
        split at h
        · rename_i hc
          rw [Option.map_eq_some_iff] at h
          obtain ⟨l', h1, h2⟩ := h
          injection h2 with h2 h3
          subst h3
          refine ⟨?_, this.mp h1⟩
          unfold mxx at h2; split at h2 <;> omega
        · simp at h
      · rintro ⟨h1, h2⟩
        rw [this.mpr h2, if_pos (by omega)]
        have : mxx x y = y := by unfold mxx; split <;> omega
        simp [this]
theorem join_big {d big : List Int} : join d big = (big, 0) ↔ good d = true ∧ good big = true ∧ bc d.reverse big.reverse = true := by
  constructor
  · intro h
    obtain ⟨h1, h2, _, h4⟩ := join_zero h
    exact ⟨h1, h2, (jn_bc _ _ (rev_all (good_iff.mp h1).2.1) (rev_all (good_iff.mp h2).2.1)).mp h4⟩
  · rintro ⟨h1, h2, h3⟩
    exact join_mk h1 h2 h2 ((jn_bc _ _ (rev_all (good_iff.mp h1).2.1) (rev_all (good_iff.mp h2).2.1)).mpr h3)
theorem bc_length (d : List Int) : ∀ b, bc d b = true → d.length ≤ b.length := by
  induction d with
  | nil => intro b _; simp
  | cons x d ih =>
    intro b h; cases b with
    | nil => simp [bc] at h
    | cons y b => simp [bc] at h; simpa using ih b h.2
/-- sides of the same number, from the first one on -/
def bcs : List Int → List Int → Bool
  | [], [] => true
  | x :: d, y :: b => (decide (x = y) || decide (x = 1)) && bcs d b
  | _, _ => false
theorem bcs_length (d : List Int) : ∀ b, bcs d b = true → d.length = b.length := by
  induction d with
  | nil => intro b h; cases b <;> simp_all [bcs]
  | cons x d ih =>
    intro b h; cases b with
    | nil => simp [bcs] at h
    | cons y b => simp [bcs] at h; simpa using ih b h.2
theorem bcs_snoc (d : List Int) : ∀ b x y, bcs (d ++ [x]) (b ++ [y]) = (bcs d b && (decide (x = y) || decide (x = 1))) := by
  induction d with
  | nil =>
    intro b x y; cases b with
    | nil => simp [bcs]
    | cons z b => cases b <;> simp [bcs]
  | cons w d ih =>
    intro b x y; cases b with
    | nil => cases d <;> simp [bcs]
    | cons z b => simp [bcs, ih, Bool.and_assoc]
theorem bc_append (d : List Int) : ∀ b c, d.length = b.length → bc d (b ++ c) = bcs d b := by
  induction d with
  | nil => intro b c h; cases b <;> simp_all [bc, bcs]
  | cons x d ih =>
    intro b c h; cases b with
    | nil => simp at h
    | cons y b => simp [bc, bcs, ih b c (by simpa using h)]
theorem bcs_rev (d : List Int) : ∀ b, d.length = b.length → bcs d.reverse b.reverse = bcs d b := by
  induction d with
  | nil => intro b h; cases b <;> simp_all
  | cons x d ih =>
    intro b h; cases b with
    | nil => simp at h
    | cons y b => simp only [List.reverse_cons, bcs_snoc, ih b (by simpa using h), bcs]; exact Bool.and_comm _ _
theorem bc_rev {d big : List Int} (h : d.length ≤ big.length) : bc d.reverse big.reverse = bcs d (big.drop (big.length - d.length)) := by
  have e : big.reverse = (big.drop (big.length - d.length)).reverse ++ (big.take (big.length - d.length)).reverse := by
    rw [← List.reverse_append, List.take_append_drop]
  rw [e, bc_append _ _ _ (by simp; omega), bcs_rev _ _ (by simp; omega)]
theorem join_big' {d big : List Int} : join d big = (big, 0) ↔ good d = true ∧ good big = true ∧ d.length ≤ big.length ∧ bcs d (big.drop (big.length - d.length)) = true := by
  rw [join_big]
  constructor
  · rintro ⟨h1, h2, h3⟩
    have := bc_length _ _ h3
    simp at this
    exact ⟨h1, h2, this, by rw [← bc_rev this]; exact h3⟩
  · rintro ⟨h1, h2, h3, h4⟩
    exact ⟨h1, h2, by rw [bc_rev h3]; exact h4⟩
/-- the digits that a smaller shape has -/
def own : List Int → List Int → List Int
  | x :: d, p :: ps => (if x = 1 then 0 else p) :: own d ps
  | _, _ => []
theorem own_length (d : List Int) : ∀ p, p.length = d.length → (own d p).length = d.length := by
  induction d with
  | nil => intro p _; cases p <;> simp_all [own]
  | cons x d ih => intro p h; cases p with
    | nil => simp at h
    | cons q p => simp [own, ih p (by simpa using h)]
/-- the place of the number that is spread there; b: the last sides of the greater shape -/
def fr (d b : List Int) (t : Int) : Int := mr 0 d (own d (pla t b))
theorem ins_own (d : List Int) : ∀ b, bcs d b = true → (∀ x ∈ d, 1 ≤ x) → (∀ x ∈ b, 1 ≤ x) → ∀ t, ins d (own d (pla t b)) = true := by
  induction d with
  | nil => intro b h _ _ t; cases b <;> simp_all [bcs, own, ins]
  | cons x d ih =>
    intro b h hd hb t; cases b with
    | nil => simp [bcs] at h
    | cons y b =>
      simp [bcs] at h
      have hx := hd x (List.mem_cons_self ..)
      have hy := hb y (List.mem_cons_self ..)
      have := ih b h.2 (fun z hz => hd z (List.mem_cons_of_mem _ hz)) (fun z hz => hb z (List.mem_cons_of_mem _ hz)) t
      simp only [pla, own, ins, this, Bool.and_true, Bool.and_eq_true, decide_eq_true_eq]
      split
      · omega
      · rcases h.1 with rfl | h
        · exact ⟨Int.emod_nonneg _ (by omega), Int.emod_lt_of_pos _ (by omega)⟩
        · omega
theorem fr_bound {d b : List Int} (h : bcs d b = true) (hd : ∀ x ∈ d, 1 ≤ x) (hb : ∀ x ∈ b, 1 ≤ x) (t : Int) : 0 ≤ fr d b t ∧ fr d b t < pl d :=
  mr_bound d _ (ins_own d b h hd hb t) hd
theorem fr_cons (x : Int) (d : List Int) (y : Int) (b : List Int) (t : Int) (h : d.length = b.length) : fr (x :: d) (y :: b) t = (if x = 1 then 0 else (t / pl b) % y) * pl d + fr d b t := by
  unfold fr
  simp only [pla, own, mr]
  rw [mr_acc d _ _ (own_length d _ (by rw [pla_length]; exact h.symm))]
  split <;> simp
theorem fr_self (d : List Int) (hd : ∀ x ∈ d, 1 ≤ x) (t : Int) : fr d d t = t % pl d := by
  induction d with
  | nil => simp [fr, mr, pl, Int.emod_one]
  | cons x d ih =>
    have hr : ∀ y ∈ d, 1 ≤ y := fun y hy => hd y (List.mem_cons_of_mem _ hy)
    have hx := hd x (List.mem_cons_self ..)
    have h1 := pl_pos hr
    rw [fr_cons _ _ _ _ _ rfl, ih hr]
    show _ = t % (x * pl d)
    rw [mod_split t x (pl d) (by omega)]
    split
    · rename_i h; subst h; simp [Int.emod_one]
    · rfl
theorem bcs_self (d : List Int) : bcs d d = true := by induction d <;> simp_all [bcs]
/-- From -/
def frm (d big : List Int) (t : Int) : Int × Bool :=
  if join d big = (big, 0) ∧ 0 ≤ t ∧ t < siz big then (fr d (big.drop (big.length - d.length)) t, true) else (0, false)
/-- Place -/
def plc (d : List Int) (t : Int) : List Int × Bool := if 0 ≤ t ∧ t < siz d then (pla t d, true) else ([], false)
/-- At -/
def att (d p : List Int) : Int × Bool := if good d = true ∧ ins d p = true then (mr 0 d p, true) else (0, false)
theorem plc_good {d : List Int} {t : Int} (h : 0 ≤ t ∧ t < siz d) : good d = true := by
  cases hg : good d
  · rw [siz_bad hg] at h; omega
  · rfl
/-- how often F comes to n, below T -/
def cp (F : Int → Int) (n : Int) : Nat → Nat
  | 0 => 0
  | T + 1 => cp F n T + if F T = n then 1 else 0
theorem cp_add (F : Int → Int) (n : Int) (A : Nat) : ∀ B, cp F n (A + B) = cp F n A + cp (fun t => F (A + t)) n B := by
  intro B
  induction B with
  | zero => simp [cp]
  | succ B ih =>
    show cp F n (A + B) + (if F ((A + B : Nat) : Int) = n then 1 else 0) = cp F n A + (cp (fun t => F (A + t)) n B + (if F ((A : Int) + (B : Int)) = n then 1 else 0))
    rw [ih]
    have : ((A + B : Nat) : Int) = (A : Int) + (B : Int) := by omega
    rw [this]; omega
theorem cp_congr {F G : Int → Int} {n m : Int} : ∀ (T : Nat), (∀ t : Nat, t < T → (F t = n ↔ G t = m)) → cp F n T = cp G m T := by
  intro T
  induction T with
  | zero => intro _; rfl
  | succ T ih =>
    intro h
    simp only [cp]
    rw [ih (fun t ht => h t (by omega))]
    have := h T (by omega)
    simp only [this]
theorem cp_none {F : Int → Int} {n : Int} : ∀ (T : Nat), (∀ t : Nat, t < T → F t ≠ n) → cp F n T = 0 := by
  intro T
  induction T with
  | zero => intro _; rfl
  | succ T ih => intro h; simp only [cp]; rw [ih (fun t ht => h t (by omega)), if_neg (h T (by omega))]
/-- so many rounds that are alike -/
theorem cp_same {F : Int → Int} {n : Int} {P c : Nat} : ∀ Q : Nat, (∀ q : Nat, q < Q → cp (fun t => F (((q * P : Nat) : Int) + t)) n P = c) → cp F n (Q * P) = Q * c := by
  intro Q
  induction Q with
  | zero => intro _; simp [cp]
  | succ Q ih =>
    intro h
    rw [Nat.succ_mul, cp_add, ih (fun q hq => h q (by omega)), h Q (by omega), Nat.succ_mul]
/-- one round alone -/
theorem cp_one {F : Int → Int} {n : Int} {P c a : Nat} : ∀ Q : Nat, a < Q → (∀ q : Nat, q < Q → cp (fun t => F (((q * P : Nat) : Int) + t)) n P = if q = a then c else 0) → cp F n (Q * P) = c := by
  intro Q
  induction Q with
  | zero => intro h; omega
  | succ Q ih =>
    intro ha h
    rw [Nat.succ_mul, cp_add, h Q (by omega)]
    by_cases e : Q = a
    · subst e
      have : cp F n (Q * P) = Q * 0 := cp_same Q (fun q hq => by rw [h q (by omega), if_neg (by omega)])
      rw [this]; simp
    · rw [ih (by omega) (fun q hq => h q (by omega)), if_neg e]; omega
theorem pla_period (b : List Int) (hb : ∀ x ∈ b, 1 ≤ x) (q t : Int) : pla (q * pl b + t) b = pla t b := by
  induction b generalizing q with
  | nil => rfl
  | cons y b ih =>
    have hr : ∀ z ∈ b, 1 ≤ z := fun z hz => hb z (List.mem_cons_of_mem _ hz)
    have hy := hb y (List.mem_cons_self ..)
    have h1 := pl_pos hr
    simp only [pla, pl]
    have e : q * (y * pl b) + t = (q * y) * pl b + t := by rw [Int.mul_assoc]
    rw [e, ih hr, Int.add_comm ((q * y) * pl b) t, Int.add_mul_ediv_right _ _ (by omega), Int.add_mul_emod_self_right]
theorem fr_period {d b : List Int} (hb : ∀ x ∈ b, 1 ≤ x) (q t : Int) : fr d b (q * pl b + t) = fr d b t := by
  unfold fr; rw [pla_period b hb]
theorem count_fr (d : List Int) : ∀ b, bcs d b = true → (∀ x ∈ d, 1 ≤ x) → (∀ x ∈ b, 1 ≤ x) → ∀ n, 0 ≤ n → n < pl d → (cp (fr d b) n (pl b).toNat : Int) * pl d = pl b := by
  induction d with
  | nil =>
    intro b h _ _ n h0 h1
    cases b with
    | nil =>
      have : n = 0 := by simp [pl] at h1; omega
      subst this
      simp [pl, cp, fr, mr]
    | cons y b => simp [bcs] at h
  | cons x d ih =>
    intro b h hd hb n h0 h1
    cases b with
    | nil => simp [bcs] at h
    | cons y b =>
      have hdl := bcs_length _ _ h
      simp [bcs] at h
      have hx := hd x (List.mem_cons_self ..)
      have hy := hb y (List.mem_cons_self ..)
      have hd' : ∀ z ∈ d, 1 ≤ z := fun z hz => hd z (List.mem_cons_of_mem _ hz)
      have hb' : ∀ z ∈ b, 1 ≤ z := fun z hz => hb z (List.mem_cons_of_mem _ hz)
      have hD := pl_pos hd'
      have hP := pl_pos hb'
      have ih' := ih b h.2 hd' hb'
      have hl : d.length = b.length := by simpa using hdl
      simp only [pl] at h1 ⊢
      -- n = a * pl d + n'
      have hn' : n = n / pl d * pl d + n % pl d := by have := Int.emod_add_mul_ediv n (pl d); rw [Int.mul_comm] at this; omega
      have a0 : 0 ≤ n / pl d := Int.ediv_nonneg h0 (by omega)
      have a1 : n / pl d < x := Int.ediv_lt_of_lt_mul (by omega) h1
      have m0 := Int.emod_nonneg n (show pl d ≠ 0 by omega)
      have m1 := Int.emod_lt_of_pos n (show 0 < pl d by omega)
      generalize n / pl d = a at *
      generalize n % pl d = n1 at *
      have hc := ih' n1 m0 m1
      obtain ⟨Y, rfl⟩ : ∃ Y : Nat, y = (Y : Int) := ⟨y.toNat, by omega⟩
      obtain ⟨P, hPe⟩ : ∃ P : Nat, pl b = (P : Int) := ⟨(pl b).toNat, by omega⟩
      have hT : ((Y : Int) * pl b).toNat = Y * P := by rw [hPe, ← Int.natCast_mul]; rfl
      have hcP : (pl b).toNat = P := by rw [hPe]; rfl
      rw [hT]; rw [hcP] at hc
      have block : ∀ q : Nat, q < Y → ∀ s : Nat, s < P → fr (x :: d) ((Y : Int) :: b) (((q * P : Nat) : Int) + s) = (if x = 1 then 0 else (q : Int)) * pl d + fr d b s := by
        intro q hq s hs
        have e : ((q * P : Nat) : Int) + s = (q : Int) * pl b + s := by rw [hPe, Int.natCast_mul]
        rw [fr_cons _ _ _ _ _ hl, e, fr_period hb']
        have : ((q : Int) * pl b + s) / pl b % (Y : Int) = q := by
          rw [Int.add_comm, Int.add_mul_ediv_right _ _ (by omega), Int.ediv_eq_zero_of_lt (by omega) (by omega), Int.zero_add]
          exact Int.emod_eq_of_lt (by omega) (by omega)
        rw [this]
      have same : ∀ u : Int, 0 ≤ u → ∀ s : Nat, (u * pl d + fr d b s = n ↔ u = a ∧ fr d b s = n1) := by
        intro u hu s
        have f := fr_bound h.2 hd' hb' s
        constructor
        · intro he
          have : u = a := by
            rcases Int.lt_trichotomy u a with hlt | he2 | hgt
            · have : (u + 1) * pl d ≤ a * pl d := Int.mul_le_mul_of_nonneg_right (by omega) (by omega)
              rw [Int.add_mul, Int.one_mul] at this; omega
            · exact he2
            · have : (a + 1) * pl d ≤ u * pl d := Int.mul_le_mul_of_nonneg_right (by omega) (by omega)
              rw [Int.add_mul, Int.one_mul] at this; omega
          subst this
          exact ⟨rfl, by omega⟩
        · rintro ⟨rfl, rfl⟩; omega
      by_cases hx1 : x = 1
      · have : a = 0 := by omega
        subst this
        have : cp (fr (x :: d) ((Y : Int) :: b)) n (Y * P) = Y * cp (fr d b) n1 P := by
          refine cp_same Y (fun q hq => ?_)
          refine cp_congr P (fun s hs => ?_)
          show fr (x :: d) ((Y : Int) :: b) (((q * P : Nat) : Int) + s) = n ↔ _
          rw [block q hq s hs, if_pos hx1, same 0 (by omega)]
          simp
        rw [this, hx1, Int.one_mul, Int.natCast_mul, Int.mul_assoc, hc]
      · have hxy : x = (Y : Int) := by rcases h.1 with h | h <;> omega
        have : cp (fr (x :: d) ((Y : Int) :: b)) n (Y * P) = cp (fr d b) n1 P := by
          refine cp_one (a := a.toNat) Y (by omega) (fun q hq => ?_)
          by_cases hqa : q = a.toNat
          · rw [if_pos hqa]
            refine cp_congr P (fun s hs => ?_)
            show fr (x :: d) ((Y : Int) :: b) (((q * P : Nat) : Int) + s) = n ↔ _
            rw [block q hq s hs, if_neg hx1, same q (by omega)]
            have : (q : Int) = a := by omega
            simp [this]
          · rw [if_neg hqa]
            refine cp_none P (fun s hs => ?_)
            show fr (x :: d) ((Y : Int) :: b) (((q * P : Nat) : Int) + s) ≠ n
            rw [block q hq s hs, if_neg hx1]
            intro he
            have := ((same q (by omega) s).mp he).1
            omega
        rw [this, hxy, ← hc, ← Int.mul_assoc, ← Int.mul_assoc, Int.mul_comm (Y : Int)]
theorem pl_append (a b : List Int) : pl (a ++ b) = pl a * pl b := by
  induction a with
  | nil => simp [pl]
  | cons x a ih => simp [pl, ih, Int.mul_assoc]
theorem pl_split (l : List Int) (k : Nat) : pl l = pl (l.take k) * pl (l.drop k) := by
  rw [← pl_append, List.take_append_drop]
/-- each number is spread as often as the others -/
theorem each (d big : List Int) (h : join d big = (big, 0)) (n : Int) (h0 : 0 ≤ n) (h1 : n < pl d) :
    (cp (fr d (big.drop (big.length - d.length))) n (pl big).toNat : Int) * pl d = pl big := by
  obtain ⟨hg, hb, hl, hc⟩ := join_big'.mp h
  have hd := (good_iff.mp hg).2.1
  have hbig := (good_iff.mp hb).2.1
  have hb' : ∀ x ∈ big.drop (big.length - d.length), 1 ≤ x := fun x hx => hbig x (List.mem_of_mem_drop hx)
  have hp' : ∀ x ∈ big.take (big.length - d.length), 1 ≤ x := fun x hx => hbig x (List.mem_of_mem_take hx)
  have hs := pl_split big (big.length - d.length)
  generalize big.drop (big.length - d.length) = b at *
  generalize big.take (big.length - d.length) = p at *
  have hP := pl_pos hb'
  have hQ := pl_pos hp'
  have hcf := count_fr d b hc hd hb' n h0 h1
  obtain ⟨P, hPe⟩ : ∃ P : Nat, pl b = (P : Int) := ⟨(pl b).toNat, by omega⟩
  obtain ⟨Q, hQe⟩ : ∃ Q : Nat, pl p = (Q : Int) := ⟨(pl p).toNat, by omega⟩
  have hT : (pl big).toNat = Q * P := by rw [hs, hPe, hQe, ← Int.natCast_mul]; rfl
  have hcP : (pl b).toNat = P := by rw [hPe]; rfl
  rw [hcP] at hcf
  have : cp (fr d b) n (Q * P) = Q * cp (fr d b) n P := by
    refine cp_same Q (fun q hq => ?_)
    refine cp_congr P (fun s hs => ?_)
    show fr d b (((q * P : Nat) : Int) + s) = n ↔ _
    have e : ((q * P : Nat) : Int) + s = (q : Int) * pl b + s := by rw [hPe, Int.natCast_mul]
    rw [e, fr_period hb']
  rw [hT, this, Int.natCast_mul, Int.mul_assoc, hcf, hs, hQe]
end Go.Proofs.Ytbdhabpplidgfaa.Shp
