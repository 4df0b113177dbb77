/- The functions that the law FixKnown reaches, as Lean functions, and that each call of the Go function does what its Lean function says, wherever that one answers. Written by a program of mine over the print of the kit; Lean checks it. -/
import Derived.Test.YtjiloachlemlcaaDoorPFixKnownx0
import Derived.Test.YtjiloachlemlcaaDoorPFixKnownx1
import Derived.Test.YtjiloachlemlcaaDoorPFixKnownx3
import Derived.Test.YtjiloachlemlcaaDoorPFixKnownx4
namespace Go.Proofs.YtjiloachlemlcaaDoor.PFixKnown
open Go.RowKit Go.Proofs.YtjiloachlemlcaaDoorW.PrintWords Go.Proofs.YtjiloachlemlcaaDoorW.PrintLast Go.Proofs.YtjiloachlemlcaaDoorW.PrintMore
attribute [local go_sem] max2_int min2_int max_two min_two max_three min_three max_four min_four   -- for this text's walks alone
set_option linter.unusedVariables false
set_option linter.unusedSimpArgs false

/-! ### fix_Text: function 14 -/
mutual
def fix_Text.j0 : Nat → Int → Int → Int → Bool → Option (ByteArray)
 | 0, _, _, _, _ => none
 | k + 1, x0, x4, x7, x37 => if x37 = true then (fix_Text.j1 k x0 x4 (IntKind.u64.wrap (x7 + 1))) else (fix_Text.j1 k x0 x4 x7)
def fix_Text.j1 : Nat → Int → Int → Int → Option (ByteArray)
 | 0, _, _, _ => none
 | k + 1, x0, x4, x7 => if x7 = 10000000000 then (fix_Text.j2 k x0 (IntKind.u64.wrap (x4 + 1)) 0) else (fix_Text.j2 k x0 x4 x7)
def fix_Text.j2 : Nat → Int → Int → Int → Option (ByteArray)
 | 0, _, _, _ => none
 | k + 1, x0, x4, x7 => (strconv_FormatUint_34.f x7 10).bind fun t133 => ((strconv_FormatUint_34.f x4 10).bind fun t134 => (if t134.size + 1 ≤ 9223372036854775807 then ((strings_Repeat.f k (⟨#[48]⟩ : ByteArray) (wrap64 (10 - (t133.size : Int)))).bind fun t135 => (if (t134 ++ (⟨#[46]⟩ : ByteArray)).size + t135.size ≤ 9223372036854775807 then (if ((t134 ++ (⟨#[46]⟩ : ByteArray)) ++ t135).size + t133.size ≤ 9223372036854775807 then (if x0 < 0 then (if 1 + (((t134 ++ (⟨#[46]⟩ : ByteArray)) ++ t135) ++ t133).size ≤ 9223372036854775807 then (some ((⟨#[45]⟩ : ByteArray) ++ (((t134 ++ (⟨#[46]⟩ : ByteArray)) ++ t135) ++ t133))) else (none)) else (some (((t134 ++ (⟨#[46]⟩ : ByteArray)) ++ t135) ++ t133))) else (none)) else (none))) else (none)))
end
def fix_Text.f (k : Nat) (a0 : Int) : Option (ByteArray) := (fix_size.f a0).bind fun t130 => ((bits_Mul64.f (Go.bits .and .u64 t130 4294967295) 10000000000).bind fun bt131 => (if (Go.bits .and .u64 bt131.2 4294967295) > 2147483648 then (fix_Text.j0 k a0 (t130 / 4294967296) (Go.bits .or .u64 (IntKind.u64.wrap (bt131.1 * 4294967296)) (bt131.2 / 4294967296)) true) else (if (Go.bits .and .u64 bt131.2 4294967295) = 2147483648 then (fix_Text.j0 k a0 (t130 / 4294967296) (Go.bits .or .u64 (IntKind.u64.wrap (bt131.1 * 4294967296)) (bt131.2 / 4294967296)) ((Go.bits .and .u64 (Go.bits .or .u64 (IntKind.u64.wrap (bt131.1 * 4294967296)) (bt131.2 / 4294967296)) 1) == 1)) else (fix_Text.j0 k a0 (t130 / 4294967296) (Go.bits .or .u64 (IntKind.u64.wrap (bt131.1 * 4294967296)) (bt131.2 / 4294967296)) false))))
theorem fix_Text.mono_l : ∀ k, (∀ y0 y1 y2 y3, LeO (fix_Text.j0 k y0 y1 y2 y3) (fix_Text.j0 (k + 1) y0 y1 y2 y3)) ∧ (∀ y0 y1 y2, LeO (fix_Text.j1 k y0 y1 y2) (fix_Text.j1 (k + 1) y0 y1 y2)) ∧ (∀ y0 y1 y2, LeO (fix_Text.j2 k y0 y1 y2) (fix_Text.j2 (k + 1) y0 y1 y2))
 | 0 => ⟨fun _ _ _ _ r h => by simp [fix_Text.j0] at h, fun _ _ _ r h => by simp [fix_Text.j1] at h, fun _ _ _ r h => by simp [fix_Text.j2] at h⟩
 | k + 1 => by
  obtain ⟨ih0, ih1, ih2⟩ := fix_Text.mono_l k
  refine ⟨?_, ?_, ?_⟩
  ·intro y0 y1 y2 y3
   unfold fix_Text.j0
   repeat' first
   | (with_reducible exact ih0 _ _ _ _)
   | (with_reducible exact ih1 _ _ _)
   | (with_reducible exact ih2 _ _ _)
   | (with_reducible exact LeO.refl _)
   | (with_reducible exact LeO.none _)
   | (with_reducible refine LeO.ite ?_ ?_)
   | (with_reducible refine LeO.bind ?_ (fun _ => ?_))
   | exact ih0 _ _ _ _
   | exact ih1 _ _ _
   | exact ih2 _ _ _
   | exact LeO.none _
   | refine LeO.ite ?_ ?_
   | refine LeO.bind ?_ (fun _ => ?_)
  ·intro y0 y1 y2
   unfold fix_Text.j1
   repeat' first
   | (with_reducible exact ih0 _ _ _ _)
   | (with_reducible exact ih1 _ _ _)
   | (with_reducible exact ih2 _ _ _)
   | (with_reducible exact LeO.refl _)
   | (with_reducible exact LeO.none _)
   | (with_reducible refine LeO.ite ?_ ?_)
   | (with_reducible refine LeO.bind ?_ (fun _ => ?_))
   | exact ih0 _ _ _ _
   | exact ih1 _ _ _
   | exact ih2 _ _ _
   | exact LeO.none _
   | refine LeO.ite ?_ ?_
   | refine LeO.bind ?_ (fun _ => ?_)
  ·intro y0 y1 y2
   unfold fix_Text.j2
   repeat' first
   | (with_reducible exact ih0 _ _ _ _)
   | (with_reducible exact ih1 _ _ _)
   | (with_reducible exact ih2 _ _ _)
   | (with_reducible exact strings_Repeat.mono _ _ _)
   | (with_reducible exact LeO.refl _)
   | (with_reducible exact LeO.none _)
   | (with_reducible refine LeO.ite ?_ ?_)
   | (with_reducible refine LeO.bind ?_ (fun _ => ?_))
   | exact ih0 _ _ _ _
   | exact ih1 _ _ _
   | exact ih2 _ _ _
   | exact strings_Repeat.mono _ _ _
   | exact LeO.none _
   | refine LeO.ite ?_ ?_
   | refine LeO.bind ?_ (fun _ => ?_)
theorem fix_Text.mono : ∀ a0 k, LeO (fix_Text.f k a0) (fix_Text.f (k + 1) a0) := by
 intro a0 k
 obtain ⟨ih0, ih1, ih2⟩ := fix_Text.mono_l k
 unfold fix_Text.f
 repeat' first
   | (with_reducible exact ih0 _ _ _ _)
   | (with_reducible exact ih1 _ _ _)
   | (with_reducible exact ih2 _ _ _)
   | (with_reducible exact LeO.refl _)
   | (with_reducible exact LeO.none _)
   | (with_reducible refine LeO.ite ?_ ?_)
   | (with_reducible refine LeO.bind ?_ (fun _ => ?_))
   | exact ih0 _ _ _ _
   | exact ih1 _ _ _
   | exact ih2 _ _ _
   | exact LeO.none _
   | refine LeO.ite ?_ ?_
   | refine LeO.bind ?_ (fun _ => ?_)
set_option maxHeartbeats 8000000 in
set_option maxRecDepth 100000 in
theorem fix_Text.calls (k : Nat) (a0 : Int) (r : ByteArray) (w : World) (h : fix_Text.f k a0 = some r) (hp10 : P10_ w := by first | exact HP10.out | exact p10_below HP10.out (zw0_ HB)) :
  Calls Tryd.prog 14 #[.int .i64 a0] w fun e w' => e = .returned (.string r) ∧ Below w.heap.size w w' := by
 have HP10 := Aside0.mk hp10
 clear hp10
 have HB := Aside0.mk (Below.refl w.heap.size w)
 have H : ((fix_size.f a0).bind fun t130 => ((bits_Mul64.f (Go.bits .and .u64 t130 4294967295) 10000000000).bind fun bt131 => (if (Go.bits .and .u64 bt131.2 4294967295) > 2147483648 then (fix_Text.j0 k a0 (t130 / 4294967296) (Go.bits .or .u64 (IntKind.u64.wrap (bt131.1 * 4294967296)) (bt131.2 / 4294967296)) true) else (if (Go.bits .and .u64 bt131.2 4294967295) = 2147483648 then (fix_Text.j0 k a0 (t130 / 4294967296) (Go.bits .or .u64 (IntKind.u64.wrap (bt131.1 * 4294967296)) (bt131.2 / 4294967296)) ((Go.bits .and .u64 (Go.bits .or .u64 (IntKind.u64.wrap (bt131.1 * 4294967296)) (bt131.2 / 4294967296)) 1) == 1)) else (fix_Text.j0 k a0 (t130 / 4294967296) (Go.bits .or .u64 (IntKind.u64.wrap (bt131.1 * 4294967296)) (bt131.2 / 4294967296)) false))))) = some r := h
 clear h
 replace H := Option.bind_eq_some_iff.mp H
 obtain ⟨t130, A20, H⟩ := H
 (try dsimp only at H)
 have A2 := Aside0.mk A20
 clear A20
 replace H := Option.bind_eq_some_iff.mp H
 obtain ⟨⟨t131, t132⟩, A30, H⟩ := H
 (try dsimp only at H)
 have A3 := Aside0.mk A30
 clear A30
 have HC4 := Aside0.mk H
 clear H
 go_enter Tryd.func14, Tryd.ntmps14
 go_upto_region 6 with (first | ((with_reducible refine gate_callee (f := 32) rfl ?_); refine zg_ (some 11) Tryd.func32 #[.int .i64 a0] (h := ?_); (with_reducible refine (fix_size.calls a0 t130 _ A2.out).mono ?_); rintro e w' ⟨rfl, ⟨nd, rfl⟩⟩; refine ⟨_, rfl, ?_⟩) | ((with_reducible refine gate_callee (f := 33) rfl ?_); refine zg_ (some 17) Tryd.func33 #[.int .u64 (Go.bits .and .u64 t130 4294967295), .int .u64 10000000000] (h := ?_); (with_reducible refine (bits_Mul64.calls (Go.bits .and .u64 t130 4294967295) 10000000000 t131 t132 _ A3.out).mono ?_); rintro e w' ⟨rfl, ⟨nd, rfl⟩⟩; refine ⟨_, rfl, ?_⟩))
 (try simp only [Act.put, List.setIfInBounds_toArray, List.set_cons_zero, List.set_cons_succ])
 go_cut [37] (fun v37 wc => ∃ (kq : Nat) (x37_3 : Bool), v37 = .bool x37_3 ∧ Aside0 (fix_Text.j0 kq a0 (t130 / 4294967296) (Go.bits .or .u64 (IntKind.u64.wrap (t131 * 4294967296)) (t132 / 4294967296)) x37_3 = some r) ∧ Aside0 (kq ≤ k) ∧ Aside0 (Below w.heap.size w wc))
 case first =>
  have H := HC4.out
  clear HC4
  by_cases c5 : (Go.bits .and .u64 t132 4294967295) > 2147483648
  ·rw [if_pos c5] at H
   have c5b0 : decide (2147483648 < (Go.bits .and .u64 t132 4294967295)) = true := decide_eq_true c5
   clear c5
   (first | rw [c5b0] | (simp only [i64_w, i32_w]; rw [c5b0]) | skip)
   have H' := Aside0.mk H
   clear H
   go_wp2
   go_meet
   case rel => exact ⟨_, (true), z1_, H', ⟨by first | omega | exact Nat.le_refl _⟩, ⟨zw0_ HB⟩⟩
  rw [if_neg c5] at H
  have c5b0 : decide (2147483648 < (Go.bits .and .u64 t132 4294967295)) = false := decide_eq_false c5
  clear c5
  (first | rw [c5b0] | (simp only [i64_w, i32_w]; rw [c5b0]) | skip)
  by_cases c6 : (Go.bits .and .u64 t132 4294967295) = 2147483648
  rotate_left
  ·rw [if_neg c6] at H
   have c6b0 : ((Go.bits .and .u64 t132 4294967295) == 2147483648) = false := beq_eq_false_iff_ne.mpr c6
   have c6b1 : ((Go.bits .and .u64 t132 4294967295) != 2147483648) = true := bne_iff_ne.mpr c6
   have H' := Aside0.mk H
   clear H
   go_wp2
   go_meet
   case rel => exact ⟨_, (false), z1_, H', ⟨by first | omega | exact Nat.le_refl _⟩, ⟨zw0_ HB⟩⟩
  rw [if_pos c6] at H
  have c6b0 : ((Go.bits .and .u64 t132 4294967295) == 2147483648) = true := beq_iff_eq.mpr c6
  have c6b1 : ((Go.bits .and .u64 t132 4294967295) != 2147483648) = false := bne_eq_false_iff_eq.mpr c6
  clear c6
  have H' := Aside0.mk H
  clear H
  go_wp2
  go_meet
  case rel => exact ⟨_, (((Go.bits .and .u64 (Go.bits .or .u64 (IntKind.u64.wrap (t131 * 4294967296)) (t132 / 4294967296)) 1) == 1)), z1_, H', ⟨by first | omega | exact Nat.le_refl _⟩, ⟨zw0_ HB⟩⟩
 case rest =>
  clear HC4
  try clear c1
  try clear p2
  try clear c3
  try clear c5
  try clear c5b0
  try clear c6
  try clear c6b0
  try clear c6b1
  obtain ⟨kq, x37_3, rfl, HA, HJ3, HB⟩ := hcut
  cases kq with
  | zero => exact absurd HA.out (by simp [fix_Text.j0])
  | succ kj3 =>
   have H := HA.out
   clear HA
   simp only [fix_Text.j0] at H
   have HC7 := Aside0.mk H
   clear H
   go_upto_if 37 with (fail)
   go_cut [7] (fun v7 wc => ∃ (kq : Nat) (x7_6 : Int), v7 = .int .u64 x7_6 ∧ Aside0 (fix_Text.j1 kq a0 (t130 / 4294967296) x7_6 = some r) ∧ Aside0 (kq ≤ kj3) ∧ Aside0 (Below w.heap.size w wc))
   case first =>
    have H := HC7.out
    clear HC7
    by_cases c8 : x37_3 = true
    ·subst c8
     have H1 := H
     rw [if_pos rfl] at H1
     clear H
     have H := H1
     clear H1
     have H' := Aside0.mk H
     clear H
     go_wp2
     go_meet
     case rel => exact ⟨_, (IntKind.u64.wrap ((Go.bits .or .u64 (IntKind.u64.wrap (t131 * 4294967296)) (t132 / 4294967296)) + 1)), z1_, H', ⟨by have := HJ3.out; first | omega | exact Nat.le_refl _⟩, ⟨zw0_ HB⟩⟩
    replace c8 := Bool.eq_false_iff.mpr c8
    subst c8
    have H1 := H
    rw [if_neg (show ¬ (false = true) by decide)] at H1
    clear H
    have H := H1
    clear H1
    have H' := Aside0.mk H
    clear H
    go_wp2
    go_meet
    case rel => exact ⟨_, ((Go.bits .or .u64 (IntKind.u64.wrap (t131 * 4294967296)) (t132 / 4294967296))), z1_, H', ⟨by have := HJ3.out; first | omega | exact Nat.le_refl _⟩, ⟨zw0_ HB⟩⟩
   case rest =>
    clear HC7
    try clear c1
    try clear p2
    try clear c3
    try clear c5
    try clear c5b0
    try clear c6
    try clear c6b0
    try clear c6b1
    try clear c8
    try clear p2
    obtain ⟨kq, x7_6, rfl, HA, HJ6, HB⟩ := hcut
    cases kq with
    | zero => exact absurd HA.out (by simp [fix_Text.j1])
    | succ kj6 =>
     have H := HA.out
     clear HA
     simp only [fix_Text.j1] at H
     have HC9 := Aside0.mk H
     clear H
     go_upto_if 41 with (fail)
     go_cut [4, 7] (fun v4 v7 wc => ∃ (kq : Nat) (x4_8 : Int) (x7_8 : Int), v4 = .int .u64 x4_8 ∧ v7 = .int .u64 x7_8 ∧ Aside0 (fix_Text.j2 kq a0 x4_8 x7_8 = some r) ∧ Aside0 (kq ≤ kj6) ∧ Aside0 (Below w.heap.size w wc))
     case first =>
      have H := HC9.out
      clear HC9
      by_cases c10 : x7_6 = 10000000000
      rotate_left
      ·rw [if_neg c10] at H
       have c10b0 : (x7_6 == 10000000000) = false := beq_eq_false_iff_ne.mpr c10
       have c10b1 : (x7_6 != 10000000000) = true := bne_iff_ne.mpr c10
       (first | rw [c10b0] | (simp only [i64_w, i32_w]; rw [c10b0]) | skip)
       have H' := Aside0.mk H
       clear H
       go_wp2
       go_meet
       case rel => exact ⟨_, ((t130 / 4294967296)), (x7_6), z1_, z1_, H', ⟨by have := HJ3.out; have := HJ6.out; first | omega | exact Nat.le_refl _⟩, ⟨zw0_ HB⟩⟩
      rw [if_pos c10] at H
      have c10b0 : (x7_6 == 10000000000) = true := beq_iff_eq.mpr c10
      have c10b1 : (x7_6 != 10000000000) = false := bne_eq_false_iff_eq.mpr c10
      clear c10
      (first | rw [c10b0] | (simp only [i64_w, i32_w]; rw [c10b0]) | skip)
      have H' := Aside0.mk H
      clear H
      go_wp2
      go_meet
      case rel => exact ⟨_, (IntKind.u64.wrap ((t130 / 4294967296) + 1)), (0), z1_, z1_, H', ⟨by have := HJ3.out; have := HJ6.out; first | omega | exact Nat.le_refl _⟩, ⟨zw0_ HB⟩⟩
     case rest =>
      clear HC9
      try clear c1
      try clear p2
      try clear c3
      try clear c5
      try clear c5b0
      try clear c6
      try clear c6b0
      try clear c6b1
      try clear c8
      try clear c10
      try clear c10b0
      try clear c10b1
      try clear p2
      obtain ⟨kq, x4_8, x7_8, rfl, rfl, HA, HJ8, HB⟩ := hcut
      cases kq with
      | zero => exact absurd HA.out (by simp [fix_Text.j2])
      | succ kj8 =>
       have H := HA.out
       clear HA
       simp only [fix_Text.j2] at H
       replace H := Option.bind_eq_some_iff.mp H
       obtain ⟨t133, A110, H⟩ := H
       (try dsimp only at H)
       have A11 := Aside0.mk A110
       clear A110
       replace H := Option.bind_eq_some_iff.mp H
       obtain ⟨t134, A120, H⟩ := H
       (try dsimp only at H)
       have A12 := Aside0.mk A120
       clear A120
       by_cases c13 : t134.size + 1 ≤ 9223372036854775807
       rotate_left
       ·rw [if_neg c13] at H
        exact absurd H (by simp)
       rw [if_pos c13] at H
       have c13b0 := eq_true c13
       have c13b1 : decide (t134.size + 1 ≤ 9223372036854775807) = true := decide_eq_true c13
       try have c13b2 : (9223372036854775807 < t134.size + 1) = False := eq_false (Nat.not_lt.2 c13)
       replace H := Option.bind_eq_some_iff.mp H
       obtain ⟨t135, A140, H⟩ := H
       (try dsimp only at H)
       have A14 := Aside0.mk A140
       clear A140
       by_cases c15 : (t134 ++ (⟨#[46]⟩ : ByteArray)).size + t135.size ≤ 9223372036854775807
       rotate_left
       ·rw [if_neg c15] at H
        exact absurd H (by simp)
       rw [if_pos c15] at H
       have c15b0 := eq_true c15
       have c15b1 : decide ((t134 ++ (⟨#[46]⟩ : ByteArray)).size + t135.size ≤ 9223372036854775807) = true := decide_eq_true c15
       try have c15b2 : (9223372036854775807 < (t134 ++ (⟨#[46]⟩ : ByteArray)).size + t135.size) = False := eq_false (Nat.not_lt.2 c15)
       by_cases c16 : ((t134 ++ (⟨#[46]⟩ : ByteArray)) ++ t135).size + t133.size ≤ 9223372036854775807
       rotate_left
       ·rw [if_neg c16] at H
        exact absurd H (by simp)
       rw [if_pos c16] at H
       have c16b0 := eq_true c16
       have c16b1 : decide (((t134 ++ (⟨#[46]⟩ : ByteArray)) ++ t135).size + t133.size ≤ 9223372036854775807) = true := decide_eq_true c16
       try have c16b2 : (9223372036854775807 < ((t134 ++ (⟨#[46]⟩ : ByteArray)) ++ t135).size + t133.size) = False := eq_false (Nat.not_lt.2 c16)
       by_cases c17 : a0 < 0
       rotate_left
       ·rw [if_neg c17] at H
        have c17b0 : decide (a0 < 0) = false := decide_eq_false c17
        clear c17
        obtain rfl := Option.some.inj H
        have e_w : wrap64 (10 - (t133.size : Int)) = 10 - (t133.size : Int) := by (have h_ := of_eq_true c16b0); unfold wrap64; omega
        rw [e_w] at A14
        clear e_w
        have e_s : (9223372036854775807 < t134.size + 1 + t135.size) = False := eq_false (by have h_ := of_eq_true c15b0; have h2_ : (t134 ++ (⟨#[46]⟩ : ByteArray)).size = t134.size + 1 := (ByteArray.size_append).trans rfl; omega)
        go_wp2_with (first | ((with_reducible refine gate_callee (f := 34) rfl ?_); refine zg_ (some 45) Tryd.func34 #[.int .u64 x7_8, .int .i64 10] (h := ?_); (with_reducible refine (strconv_FormatUint_34.calls x7_8 10 t133 _ A11.out).mono ?_); rintro e w22 ⟨rfl, hb⟩; refine ⟨_, rfl, ?_⟩; replace HB := Aside0.mk (below_step (zw0_ HB) hb); (try clear hb)) | ((with_reducible refine gate_callee (f := 34) rfl ?_); refine zg_ (some 47) Tryd.func34 #[.int .u64 x4_8, .int .i64 10] (h := ?_); (with_reducible refine (strconv_FormatUint_34.calls x4_8 10 t134 _ A12.out).mono ?_); rintro e w23 ⟨rfl, hb⟩; refine ⟨_, rfl, ?_⟩; replace HB := Aside0.mk (below_step (zw0_ HB) hb); (try clear hb)) | ((with_reducible refine gate_callee (f := 35) rfl ?_); refine zg_ (some 52) Tryd.func35 #[.string (⟨#[48]⟩ : ByteArray), .int .i64 (10 - (t133.size : Int))] (h := ?_); (with_reducible refine (strings_Repeat.calls kj8 (⟨#[48]⟩ : ByteArray) (10 - (t133.size : Int)) t135 _ A14.out).mono ?_); rintro e w24 ⟨rfl, hb⟩; refine ⟨_, rfl, ?_⟩; replace HB := Aside0.mk (below_step (zw0_ HB) hb); (try clear hb)))
        go_ret
        exact ⟨z0_, zw0_ HB⟩
       rw [if_pos c17] at H
       have c17b0 : decide (a0 < 0) = true := decide_eq_true c17
       clear c17
       by_cases c18 : 1 + (((t134 ++ (⟨#[46]⟩ : ByteArray)) ++ t135) ++ t133).size ≤ 9223372036854775807
       rotate_left
       ·rw [if_neg c18] at H
        exact absurd H (by simp)
       rw [if_pos c18] at H
       have c18b0 := eq_true c18
       have c18b1 : decide (1 + (((t134 ++ (⟨#[46]⟩ : ByteArray)) ++ t135) ++ t133).size ≤ 9223372036854775807) = true := decide_eq_true c18
       try have c18b2 : (9223372036854775807 < 1 + (((t134 ++ (⟨#[46]⟩ : ByteArray)) ++ t135) ++ t133).size) = False := eq_false (Nat.not_lt.2 c18)
       obtain rfl := Option.some.inj H
       have e_w : wrap64 (10 - (t133.size : Int)) = 10 - (t133.size : Int) := by (have h_ := of_eq_true c16b0); unfold wrap64; omega
       rw [e_w] at A14
       clear e_w
       have e_s : (9223372036854775807 < t134.size + 1 + t135.size) = False := eq_false (by have h_ := of_eq_true c15b0; have h2_ : (t134 ++ (⟨#[46]⟩ : ByteArray)).size = t134.size + 1 := (ByteArray.size_append).trans rfl; omega)
       have e_s3 : (9223372036854775807 < 1 + (t134.size + 1 + t135.size + t133.size)) = False := eq_false (by have h_ := of_eq_true c18b0; have s1_ : (⟨#[46]⟩ : ByteArray).size = 1 := rfl; simp only [ByteArray.size_append, s1_] at h_; omega)
       go_wp2_with (first | ((with_reducible refine gate_callee (f := 34) rfl ?_); refine zg_ (some 45) Tryd.func34 #[.int .u64 x7_8, .int .i64 10] (h := ?_); (with_reducible refine (strconv_FormatUint_34.calls x7_8 10 t133 _ A11.out).mono ?_); rintro e w19 ⟨rfl, hb⟩; refine ⟨_, rfl, ?_⟩; replace HB := Aside0.mk (below_step (zw0_ HB) hb); (try clear hb)) | ((with_reducible refine gate_callee (f := 34) rfl ?_); refine zg_ (some 47) Tryd.func34 #[.int .u64 x4_8, .int .i64 10] (h := ?_); (with_reducible refine (strconv_FormatUint_34.calls x4_8 10 t134 _ A12.out).mono ?_); rintro e w20 ⟨rfl, hb⟩; refine ⟨_, rfl, ?_⟩; replace HB := Aside0.mk (below_step (zw0_ HB) hb); (try clear hb)) | ((with_reducible refine gate_callee (f := 35) rfl ?_); refine zg_ (some 52) Tryd.func35 #[.string (⟨#[48]⟩ : ByteArray), .int .i64 (10 - (t133.size : Int))] (h := ?_); (with_reducible refine (strings_Repeat.calls kj8 (⟨#[48]⟩ : ByteArray) (10 - (t133.size : Int)) t135 _ A14.out).mono ?_); rintro e w21 ⟨rfl, hb⟩; refine ⟨_, rfl, ?_⟩; replace HB := Aside0.mk (below_step (zw0_ HB) hb); (try clear hb)))
       go_ret
       exact ⟨z0_, zw0_ HB⟩

/-- A call of a function without a body that the model answers itself. -/
def XCalls (P : Program) (f : FuncId) (args : Array Value) (w : World) (R : Ending → World → Prop) : Prop :=
 ∃ v, (callFunc f args).run P w = .ok (.value v) w ∧ R (.returned v) w
theorem XCalls.mono {P : Program} {f : FuncId} {args : Array Value} {w : World} {R R' : Ending → World → Prop} (h : XCalls P f args w R) (k : ∀ e w', R e w' → R' e w') : XCalls P f args w R' := by
 obtain ⟨v, h1, h2⟩ := h
 exact ⟨v, h1, k _ _ h2⟩
theorem goesX_ {P : Program} {ops : Array Oper} {Q : Exit → Act → World → Prop} {rest : List Oper} {oi : Oper} {a : Act} {w : World} (N : Option Tmp) (hd : oi.dst = N) (hg : oi.guard = none) {f : FuncId} {xs : Array Operand} {ts : Array TypeId} (args : Array Value)
  (hop : oi.op = .call { callee := .value (.func f), args := xs, argTypes := ts }) (hargs : xs.map a.eval = args)
  (h : XCalls P f args w fun e w' => ∃ v, e = .returned v ∧ wpList P ops Q rest (a.put N v) w') : wpList P ops Q (oi :: rest) a w := by
 obtain ⟨v, h1, v', h2, h3⟩ := h
 cases h2
 refine Kd.event_run hg ?_ (by rw [hd]; exact h3)
 unfold execOp
 simp [hop, resolve, Deferred.ofValue, invoke, Act.eval, hargs, h1]
/-! ### bits_Add64: function 40 -/
def bits_Add64.f (a0 a1 a2 : Int) : Option (Int × Int) := if 0 ≤ a0 ∧ 0 ≤ a1 ∧ 0 ≤ a2 ∧ a2 ≤ 1 then some ((a0 + a1 + a2) % 18446744073709551616, (a0 + a1 + a2) / 18446744073709551616) else none
theorem bits_Add64.calls (a0 a1 a2 r1 r2 : Int) (w : World) (h : bits_Add64.f a0 a1 a2 = some (r1, r2)) :
  XCalls Tryd.prog 40 #[.int .u64 a0, .int .u64 a1, .int .u64 a2] w fun e w' => e = .returned (.tuple #[.int .u64 r1, .int .u64 r2]) ∧ Drawn0 w w' := by
 unfold bits_Add64.f at h
 split at h
 ·rename_i hc
  simp only [Option.some.injEq, Prod.mk.injEq] at h
  obtain ⟨rfl, rfl⟩ := h
  refine ⟨_, ?_, rfl, Drawn0.refl _⟩
  rw [run_callFunc_extern (e := add64Entry) Tryd.func40 rfl (by kernel_rfl) (by kernel_rfl) (by kernel_rfl), run_add64 a0 a1 a2 hc.1 hc.2.1 hc.2.2.1 hc.2.2.2]
  rfl
 ·cases h

/-! ### fix_held: function 41 -/
def fix_held.j0 : Nat → Int → Int → Bool → Bool → Option (Int)
 | 0, _, _, _, _ => none
 | k + 1, x0, x1, x2, x7 => if x7 = true then (some (-9223372036854775808)) else (if x2 = true then (some (wrap64 (-(wrap64 (x1))))) else (if x0 > 0 then (some 9223372036854775807) else (if x1 ≥ 9223372036854775808 then (some 9223372036854775807) else (some (wrap64 (x1))))))
def fix_held.f (k : Nat) (a0 : Int) (a1 : Int) (a2 : Bool) : Option (Int) := if a2 = true then (if a0 > 0 then (fix_held.j0 k a0 a1 a2 true) else (fix_held.j0 k a0 a1 a2 (decide (a1 ≥ 9223372036854775808)))) else (fix_held.j0 k a0 a1 a2 false)
theorem fix_held.mono_l : ∀ k, (∀ y0 y1 y2 y3, LeO (fix_held.j0 k y0 y1 y2 y3) (fix_held.j0 (k + 1) y0 y1 y2 y3))
 | 0 => fun _ _ _ _ r h => by simp [fix_held.j0] at h
 | k + 1 => by
  have ih0 := fix_held.mono_l k
  ·intro y0 y1 y2 y3
   unfold fix_held.j0
   repeat' first
   | (with_reducible exact ih0 _ _ _ _)
   | (with_reducible exact LeO.refl _)
   | (with_reducible exact LeO.none _)
   | (with_reducible refine LeO.ite ?_ ?_)
   | (with_reducible refine LeO.bind ?_ (fun _ => ?_))
   | exact ih0 _ _ _ _
   | exact LeO.none _
   | refine LeO.ite ?_ ?_
   | refine LeO.bind ?_ (fun _ => ?_)
theorem fix_held.mono : ∀ a0 a1 a2 k, LeO (fix_held.f k a0 a1 a2) (fix_held.f (k + 1) a0 a1 a2) := by
 intro a0 a1 a2 k
 have ih0 := fix_held.mono_l k
 unfold fix_held.f
 repeat' first
   | (with_reducible exact ih0 _ _ _ _)
   | (with_reducible exact LeO.refl _)
   | (with_reducible exact LeO.none _)
   | (with_reducible refine LeO.ite ?_ ?_)
   | (with_reducible refine LeO.bind ?_ (fun _ => ?_))
   | exact ih0 _ _ _ _
   | exact LeO.none _
   | refine LeO.ite ?_ ?_
   | refine LeO.bind ?_ (fun _ => ?_)
set_option maxHeartbeats 8000000 in
set_option maxRecDepth 100000 in
theorem fix_held.calls (k : Nat) (a0 : Int) (a1 : Int) (a2 : Bool) (r : Int) (w : World) (h : fix_held.f k a0 a1 a2 = some r) :
  Calls Tryd.prog 41 #[.int .u64 a0, .int .u64 a1, .bool a2] w fun e w' => e = .returned (.int .i64 r) ∧ Drawn0 w w' := by
 have H : (if a2 = true then (if a0 > 0 then (fix_held.j0 k a0 a1 a2 true) else (fix_held.j0 k a0 a1 a2 (decide (a1 ≥ 9223372036854775808)))) else (fix_held.j0 k a0 a1 a2 false)) = some r := h
 clear h
 have HC4 := Aside0.mk H
 clear H
 go_enter Tryd.func41, Tryd.ntmps41
 go_upto_region 1 with (fail)
 go_cut [7] (fun v7 wc => ∃ (kq : Nat) (x7_3 : Bool), v7 = .bool x7_3 ∧ Aside0 (fix_held.j0 kq a0 a1 a2 x7_3 = some r) ∧ Aside0 (kq ≤ k) ∧ Drawn0 w wc)
 case first =>
  have H := HC4.out
  clear HC4
  by_cases c5 : a2 = true
  rotate_left
  ·replace c5 := Bool.eq_false_iff.mpr c5
   subst c5
   have H1 : (fix_held.j0 k a0 a1 false false) = some r := by rw [if_neg (show ¬ (false = true) by decide)] at H; exact H
   clear H
   have H := H1
   clear H1
   have H' := Aside0.mk H
   clear H
   go_wp2
   go_meet
   case rel => exact ⟨_, (false), z1_, H', ⟨by first | omega | exact Nat.le_refl _⟩, by repeat (first | exact Drawn0.refl _ | apply Drawn0.step)⟩
  subst c5
  have H1 := H
  rw [if_pos rfl] at H1
  clear H
  have H := H1
  clear H1
  by_cases c6 : a0 > 0
  ·rw [if_pos c6] at H
   have c6b0 : decide (0 < a0) = true := decide_eq_true c6
   clear c6
   (first | rw [c6b0] | (simp only [i64_w, i32_w]; rw [c6b0]) | skip)
   have H' := Aside0.mk H
   clear H
   go_wp2
   go_meet
   case rel => exact ⟨_, (true), z1_, H', ⟨by first | omega | exact Nat.le_refl _⟩, by repeat (first | exact Drawn0.refl _ | apply Drawn0.step)⟩
  rw [if_neg c6] at H
  have c6b0 : decide (0 < a0) = false := decide_eq_false c6
  clear c6
  (first | rw [c6b0] | (simp only [i64_w, i32_w]; rw [c6b0]) | skip)
  have H' := Aside0.mk H
  clear H
  go_wp2
  go_meet
  case rel => exact ⟨_, (decide (a1 ≥ 9223372036854775808)), z1_, H', ⟨by first | omega | exact Nat.le_refl _⟩, by repeat (first | exact Drawn0.refl _ | apply Drawn0.step)⟩
 case rest =>
  clear HC4
  try clear p2
  try clear c4
  try clear c5
  try clear c6
  try clear c6b0
  obtain ⟨kq, x7_3, rfl, HA, HJ3, ⟨mc3, rfl⟩⟩ := hcut
  cases kq with
  | zero => exact absurd HA.out (by simp [fix_held.j0])
  | succ kj3 =>
   have H := HA.out
   clear HA
   simp only [fix_held.j0] at H
   by_cases c7 : x7_3 = true
   ·subst c7
    have H1 : (some (-9223372036854775808)) = some r := by rw [if_pos rfl] at H; exact H
    clear H
    have H := H1
    clear H1
    obtain rfl := Option.some.inj H
    go_wp2
    go_ret
    exact ⟨by first | rfl | (simp; done) | (simp [*]; done), by repeat (first | exact Drawn0.refl _ | apply Drawn0.step)⟩
   replace c7 := Bool.eq_false_iff.mpr c7
   subst c7
   have H1 := H
   rw [if_neg (show ¬ (false = true) by decide)] at H1
   clear H
   have H := H1
   clear H1
   by_cases c8 : a2 = true
   ·subst c8
    have H1 : (some (wrap64 (-(wrap64 (a1))))) = some r := by rw [if_pos rfl] at H; exact H
    clear H
    have H := H1
    clear H1
    obtain rfl := Option.some.inj H
    go_wp2
    go_ret
    exact ⟨by first | rfl | (simp; done) | (simp [*]; done), by repeat (first | exact Drawn0.refl _ | apply Drawn0.step)⟩
   replace c8 := Bool.eq_false_iff.mpr c8
   subst c8
   have H1 := H
   rw [if_neg (show ¬ (false = true) by decide)] at H1
   clear H
   have H := H1
   clear H1
   by_cases c9 : a0 > 0
   ·rw [if_pos c9] at H
    have c9b0 : decide (0 < a0) = true := decide_eq_true c9
    clear c9
    obtain rfl := Option.some.inj H
    go_wp2
    go_ret
    exact ⟨by first | rfl | (simp; done) | (simp [*]; done), by repeat (first | exact Drawn0.refl _ | apply Drawn0.step)⟩
   rw [if_neg c9] at H
   have c9b0 : decide (0 < a0) = false := decide_eq_false c9
   clear c9
   by_cases c10 : a1 ≥ 9223372036854775808
   ·rw [if_pos c10] at H
    have c10b0 : decide (9223372036854775808 ≤ a1) = true := decide_eq_true c10
    clear c10
    obtain rfl := Option.some.inj H
    go_wp2
    go_ret
    exact ⟨by first | rfl | (simp; done) | (simp [*]; done), by repeat (first | exact Drawn0.refl _ | apply Drawn0.step)⟩
   rw [if_neg c10] at H
   have c10b0 : decide (9223372036854775808 ≤ a1) = false := decide_eq_false c10
   clear c10
   obtain rfl := Option.some.inj H
   go_wp2
   go_ret
   exact ⟨by first | rfl | (simp; done) | (simp [*]; done), by repeat (first | exact Drawn0.refl _ | apply Drawn0.step)⟩

/-! ### fix_Mul: function 16 -/
def fix_Mul.j0 : Nat → Int → Int → Int → Int → Bool → Option (Int)
 | 0, _, _, _, _, _ => none
 | k + 1, x0, x1, x8, x9, x38 => if x38 = true then ((bits_Add64.f x8 1 0).bind fun bt140 => ((fix_held.f k (IntKind.u64.wrap (x9 + bt140.2)) bt140.1 ((decide (x0 < 0)) != (decide (x1 < 0)))).bind fun t142 => (some t142))) else ((fix_held.f k x9 x8 ((decide (x0 < 0)) != (decide (x1 < 0)))).bind fun t143 => (some t143))
def fix_Mul.f (k : Nat) (a0 : Int) (a1 : Int) : Option (Int) := (fix_size.f a0).bind fun t136 => ((fix_size.f a1).bind fun t137 => ((bits_Mul64.f t136 t137).bind fun bt138 => (if (Go.bits .and .u64 bt138.2 4294967295) > 2147483648 then (fix_Mul.j0 k a0 a1 (Go.bits .or .u64 (IntKind.u64.wrap (bt138.1 * 4294967296)) (bt138.2 / 4294967296)) (bt138.1 / 4294967296) true) else (if (Go.bits .and .u64 bt138.2 4294967295) = 2147483648 then (fix_Mul.j0 k a0 a1 (Go.bits .or .u64 (IntKind.u64.wrap (bt138.1 * 4294967296)) (bt138.2 / 4294967296)) (bt138.1 / 4294967296) ((Go.bits .and .u64 (Go.bits .or .u64 (IntKind.u64.wrap (bt138.1 * 4294967296)) (bt138.2 / 4294967296)) 1) == 1)) else (fix_Mul.j0 k a0 a1 (Go.bits .or .u64 (IntKind.u64.wrap (bt138.1 * 4294967296)) (bt138.2 / 4294967296)) (bt138.1 / 4294967296) false)))))
theorem fix_Mul.mono_l : ∀ k, (∀ y0 y1 y2 y3 y4, LeO (fix_Mul.j0 k y0 y1 y2 y3 y4) (fix_Mul.j0 (k + 1) y0 y1 y2 y3 y4))
 | 0 => fun _ _ _ _ _ r h => by simp [fix_Mul.j0] at h
 | k + 1 => by
  have ih0 := fix_Mul.mono_l k
  ·intro y0 y1 y2 y3 y4
   unfold fix_Mul.j0
   repeat' first
   | (with_reducible exact ih0 _ _ _ _ _)
   | (with_reducible exact fix_held.mono _ _ _ _)
   | (with_reducible exact LeO.refl _)
   | (with_reducible exact LeO.none _)
   | (with_reducible refine LeO.ite ?_ ?_)
   | (with_reducible refine LeO.bind ?_ (fun _ => ?_))
   | exact ih0 _ _ _ _ _
   | exact fix_held.mono _ _ _ _
   | exact LeO.none _
   | refine LeO.ite ?_ ?_
   | refine LeO.bind ?_ (fun _ => ?_)
theorem fix_Mul.mono : ∀ a0 a1 k, LeO (fix_Mul.f k a0 a1) (fix_Mul.f (k + 1) a0 a1) := by
 intro a0 a1 k
 have ih0 := fix_Mul.mono_l k
 unfold fix_Mul.f
 repeat' first
   | (with_reducible exact ih0 _ _ _ _ _)
   | (with_reducible exact LeO.refl _)
   | (with_reducible exact LeO.none _)
   | (with_reducible refine LeO.ite ?_ ?_)
   | (with_reducible refine LeO.bind ?_ (fun _ => ?_))
   | exact ih0 _ _ _ _ _
   | exact LeO.none _
   | refine LeO.ite ?_ ?_
   | refine LeO.bind ?_ (fun _ => ?_)
set_option maxHeartbeats 8000000 in
set_option maxRecDepth 100000 in
theorem fix_Mul.calls (k : Nat) (a0 : Int) (a1 : Int) (r : Int) (w : World) (h : fix_Mul.f k a0 a1 = some r) :
  Calls Tryd.prog 16 #[.int .i64 a0, .int .i64 a1] w fun e w' => e = .returned (.int .i64 r) ∧ Drawn0 w w' := by
 have H : ((fix_size.f a0).bind fun t136 => ((fix_size.f a1).bind fun t137 => ((bits_Mul64.f t136 t137).bind fun bt138 => (if (Go.bits .and .u64 bt138.2 4294967295) > 2147483648 then (fix_Mul.j0 k a0 a1 (Go.bits .or .u64 (IntKind.u64.wrap (bt138.1 * 4294967296)) (bt138.2 / 4294967296)) (bt138.1 / 4294967296) true) else (if (Go.bits .and .u64 bt138.2 4294967295) = 2147483648 then (fix_Mul.j0 k a0 a1 (Go.bits .or .u64 (IntKind.u64.wrap (bt138.1 * 4294967296)) (bt138.2 / 4294967296)) (bt138.1 / 4294967296) ((Go.bits .and .u64 (Go.bits .or .u64 (IntKind.u64.wrap (bt138.1 * 4294967296)) (bt138.2 / 4294967296)) 1) == 1)) else (fix_Mul.j0 k a0 a1 (Go.bits .or .u64 (IntKind.u64.wrap (bt138.1 * 4294967296)) (bt138.2 / 4294967296)) (bt138.1 / 4294967296) false)))))) = some r := h
 clear h
 replace H := Option.bind_eq_some_iff.mp H
 obtain ⟨t136, A30, H⟩ := H
 (try dsimp only at H)
 have A3 := Aside0.mk A30
 clear A30
 replace H := Option.bind_eq_some_iff.mp H
 obtain ⟨t137, A40, H⟩ := H
 (try dsimp only at H)
 have A4 := Aside0.mk A40
 clear A40
 replace H := Option.bind_eq_some_iff.mp H
 obtain ⟨⟨t138, t139⟩, A50, H⟩ := H
 (try dsimp only at H)
 have A5 := Aside0.mk A50
 clear A50
 have HC6 := Aside0.mk H
 clear H
 go_enter Tryd.func16, Tryd.ntmps16
 go_upto_region 5 with (first | ((with_reducible refine gate_callee (f := 32) rfl ?_); refine zg_ (some 13) Tryd.func32 #[.int .i64 a0] (h := ?_); (with_reducible refine (fix_size.calls a0 t136 _ A3.out).mono ?_); rintro e w' ⟨rfl, ⟨nd, rfl⟩⟩; refine ⟨_, rfl, ?_⟩) | ((with_reducible refine gate_callee (f := 32) rfl ?_); refine zg_ (some 15) Tryd.func32 #[.int .i64 a1] (h := ?_); (with_reducible refine (fix_size.calls a1 t137 _ A4.out).mono ?_); rintro e w' ⟨rfl, ⟨nd, rfl⟩⟩; refine ⟨_, rfl, ?_⟩) | ((with_reducible refine gate_callee (f := 33) rfl ?_); refine zg_ (some 16) Tryd.func33 #[.int .u64 t136, .int .u64 t137] (h := ?_); (with_reducible refine (bits_Mul64.calls t136 t137 t138 t139 _ A5.out).mono ?_); rintro e w' ⟨rfl, ⟨nd, rfl⟩⟩; refine ⟨_, rfl, ?_⟩))
 (try simp only [Act.put, List.setIfInBounds_toArray, List.set_cons_zero, List.set_cons_succ])
 go_cut [38] (fun v38 wc => ∃ (kq : Nat) (x38_5 : Bool), v38 = .bool x38_5 ∧ Aside0 (fix_Mul.j0 kq a0 a1 (Go.bits .or .u64 (IntKind.u64.wrap (t138 * 4294967296)) (t139 / 4294967296)) (t138 / 4294967296) x38_5 = some r) ∧ Aside0 (kq ≤ k) ∧ Drawn0 w wc)
 case first =>
  have H := HC6.out
  clear HC6
  by_cases c7 : (Go.bits .and .u64 t139 4294967295) > 2147483648
  ·rw [if_pos c7] at H
   have c7b0 : decide (2147483648 < (Go.bits .and .u64 t139 4294967295)) = true := decide_eq_true c7
   clear c7
   (first | rw [c7b0] | (simp only [i64_w, i32_w]; rw [c7b0]) | skip)
   have H' := Aside0.mk H
   clear H
   go_wp2
   go_meet
   case rel => exact ⟨_, (true), z1_, H', ⟨by first | omega | exact Nat.le_refl _⟩, by repeat (first | exact Drawn0.refl _ | apply Drawn0.step)⟩
  rw [if_neg c7] at H
  have c7b0 : decide (2147483648 < (Go.bits .and .u64 t139 4294967295)) = false := decide_eq_false c7
  clear c7
  (first | rw [c7b0] | (simp only [i64_w, i32_w]; rw [c7b0]) | skip)
  by_cases c8 : (Go.bits .and .u64 t139 4294967295) = 2147483648
  rotate_left
  ·rw [if_neg c8] at H
   have c8b0 : ((Go.bits .and .u64 t139 4294967295) == 2147483648) = false := beq_eq_false_iff_ne.mpr c8
   have c8b1 : ((Go.bits .and .u64 t139 4294967295) != 2147483648) = true := bne_iff_ne.mpr c8
   have H' := Aside0.mk H
   clear H
   go_wp2
   go_meet
   case rel => exact ⟨_, (false), z1_, H', ⟨by first | omega | exact Nat.le_refl _⟩, by repeat (first | exact Drawn0.refl _ | apply Drawn0.step)⟩
  rw [if_pos c8] at H
  have c8b0 : ((Go.bits .and .u64 t139 4294967295) == 2147483648) = true := beq_iff_eq.mpr c8
  have c8b1 : ((Go.bits .and .u64 t139 4294967295) != 2147483648) = false := bne_eq_false_iff_eq.mpr c8
  clear c8
  have H' := Aside0.mk H
  clear H
  go_wp2
  go_meet
  case rel => exact ⟨_, (((Go.bits .and .u64 (Go.bits .or .u64 (IntKind.u64.wrap (t138 * 4294967296)) (t139 / 4294967296)) 1) == 1)), z1_, H', ⟨by first | omega | exact Nat.le_refl _⟩, by repeat (first | exact Drawn0.refl _ | apply Drawn0.step)⟩
 case rest =>
  clear HC6
  try clear c1
  try clear p2
  try clear c3
  try clear c7
  try clear c7b0
  try clear c8
  try clear c8b0
  try clear c8b1
  obtain ⟨kq, x38_5, rfl, HA, HJ5, ⟨mc5, rfl⟩⟩ := hcut
  cases kq with
  | zero => exact absurd HA.out (by simp [fix_Mul.j0])
  | succ kj5 =>
   have H := HA.out
   clear HA
   simp only [fix_Mul.j0] at H
   by_cases c9 : x38_5 = true
   rotate_left
   ·replace c9 := Bool.eq_false_iff.mpr c9
    subst c9
    have H1 := H
    rw [if_neg (show ¬ (false = true) by decide)] at H1
    clear H
    have H := H1
    clear H1
    replace H := Option.bind_eq_some_iff.mp H
    obtain ⟨t143, A120, H⟩ := H
    replace H : (some t143) = some r := H
    have A12 := Aside0.mk A120
    clear A120
    obtain rfl := Option.some.inj H
    go_wp2_with (first | ((with_reducible refine gate_callee (f := 41) rfl ?_); refine zg_ (some 54) Tryd.func41 #[.int .u64 (t138 / 4294967296), .int .u64 (Go.bits .or .u64 (IntKind.u64.wrap (t138 * 4294967296)) (t139 / 4294967296)), .bool ((decide (a0 < 0)) != (decide (a1 < 0)))] (h := ?_); (with_reducible refine (fix_held.calls kj5 (t138 / 4294967296) (Go.bits .or .u64 (IntKind.u64.wrap (t138 * 4294967296)) (t139 / 4294967296)) ((decide (a0 < 0)) != (decide (a1 < 0))) t143 _ A12.out).mono ?_); rintro e w' ⟨rfl, ⟨nd, rfl⟩⟩; refine ⟨_, rfl, ?_⟩))
    go_ret
    exact ⟨by first | rfl | (simp; done) | (simp [*]; done), by repeat (first | exact Drawn0.refl _ | apply Drawn0.step)⟩
   subst c9
   have H1 := H
   rw [if_pos rfl] at H1
   clear H
   have H := H1
   clear H1
   replace H := Option.bind_eq_some_iff.mp H
   obtain ⟨⟨t140, t141⟩, A100, H⟩ := H
   (try dsimp only at H)
   have A10 := Aside0.mk A100
   clear A100
   replace H := Option.bind_eq_some_iff.mp H
   obtain ⟨t142, A110, H⟩ := H
   replace H : (some t142) = some r := H
   have A11 := Aside0.mk A110
   clear A110
   obtain rfl := Option.some.inj H
   go_wp2_with (first | ((with_reducible refine gate_callee (f := 40) rfl ?_); refine goesX_ (some 41) rfl rfl (f := 40) #[.int .u64 (Go.bits .or .u64 (IntKind.u64.wrap (t138 * 4294967296)) (t139 / 4294967296)), .int .u64 1, .int .u64 0] rfl (by (try simp only [List.map_toArray, List.map_cons, List.map_nil]); first | done | rfl | (simp only [List.length_drop, List.length_take]; rfl)) ?_; (with_reducible refine (bits_Add64.calls (Go.bits .or .u64 (IntKind.u64.wrap (t138 * 4294967296)) (t139 / 4294967296)) 1 0 t140 t141 _ A10.out).mono ?_); rintro e w' ⟨rfl, ⟨nd, rfl⟩⟩; refine ⟨_, rfl, ?_⟩) | ((with_reducible refine gate_callee (f := 41) rfl ?_); refine zg_ (some 54) Tryd.func41 #[.int .u64 (IntKind.u64.wrap ((t138 / 4294967296) + t141)), .int .u64 t140, .bool ((decide (a0 < 0)) != (decide (a1 < 0)))] (h := ?_); (with_reducible refine (fix_held.calls kj5 (IntKind.u64.wrap ((t138 / 4294967296) + t141)) t140 ((decide (a0 < 0)) != (decide (a1 < 0))) t142 _ A11.out).mono ?_); rintro e w' ⟨rfl, ⟨nd, rfl⟩⟩; refine ⟨_, rfl, ?_⟩))
   go_ret
   exact ⟨by first | rfl | (simp; done) | (simp [*]; done), by repeat (first | exact Drawn0.refl _ | apply Drawn0.step)⟩

/-! ### bits_LeadingZeros64: function 56 -/
def bits_LeadingZeros64.f (k : Nat) (a0 : Int) : Option (Int) := (bits_Len64.f k a0).bind fun t144 => (some (wrap64 (64 - t144)))
theorem bits_LeadingZeros64.mono : ∀ a0 k, LeO (bits_LeadingZeros64.f k a0) (bits_LeadingZeros64.f (k + 1) a0) := by
 intro a0 k
 unfold bits_LeadingZeros64.f
 repeat' first
   | (with_reducible exact bits_Len64.mono _ _)
   | (with_reducible exact LeO.refl _)
   | (with_reducible exact LeO.none _)
   | (with_reducible refine LeO.ite ?_ ?_)
   | (with_reducible refine LeO.bind ?_ (fun _ => ?_))
   | exact bits_Len64.mono _ _
   | exact LeO.none _
   | refine LeO.ite ?_ ?_
   | refine LeO.bind ?_ (fun _ => ?_)
set_option maxHeartbeats 8000000 in
set_option maxRecDepth 100000 in
theorem bits_LeadingZeros64.calls (k : Nat) (a0 : Int) (r : Int) (w : World) (h : bits_LeadingZeros64.f k a0 = some r) :
  Calls Tryd.prog 56 #[.int .u64 a0] w fun e w' => e = .returned (.int .i64 r) ∧ Drawn0 w w' := by
 have H : ((bits_Len64.f k a0).bind fun t144 => (some (wrap64 (64 - t144)))) = some r := h
 clear h
 replace H := Option.bind_eq_some_iff.mp H
 obtain ⟨t144, A20, H⟩ := H
 replace H : (some (wrap64 (64 - t144))) = some r := H
 have A2 := Aside0.mk A20
 clear A20
 obtain rfl := Option.some.inj H
 go_enter Tryd.func56, Tryd.ntmps56
 go_wp2_with (first | ((with_reducible refine gate_callee (f := 67) rfl ?_); refine zg_ (some 4) Tryd.func67 #[.int .u64 a0] (h := ?_); (with_reducible refine (bits_Len64.calls k a0 t144 _ A2.out).mono ?_); rintro e w' ⟨rfl, ⟨nd, rfl⟩⟩; refine ⟨_, rfl, ?_⟩))
 go_ret
 exact ⟨by first | rfl | (simp; done) | (simp [*]; done), by repeat (first | exact Drawn0.refl _ | apply Drawn0.step)⟩

end Go.Proofs.YtjiloachlemlcaaDoor.PFixKnown
