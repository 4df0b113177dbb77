/- The functions that the law FixSays reaches, as Lean functions, and that each call of the Go function does what its Lean function says, wherever that one answers. Written by a program of mine over the print of the kit; Lean checks it. -/
import Derived.Test.YtjiloachlemlcaaDoorPFixSaysx0
import Derived.Test.YtjiloachlemlcaaDoorPFixSaysx1
import Derived.Test.YtjiloachlemlcaaDoorPFixSaysx5
import Derived.Test.YtjiloachlemlcaaDoorPFixSaysx6
namespace Go.Proofs.YtjiloachlemlcaaDoor.PFixSays
open Go.RowKit Go.Proofs.YtjiloachlemlcaaDoorW.PrintWords Go.Proofs.YtjiloachlemlcaaDoorW.PrintLast Go.Proofs.YtjiloachlemlcaaDoorW.PrintMore
attribute [local go_sem] max2_int min2_int max_two min_two max_three min_three max_four min_four   -- for this text's walks alone
set_option linter.unusedVariables false
set_option linter.unusedSimpArgs false

/-! ### carousellaw1_awake: function 11 -/
def carousellaw1_awake.f (k : Nat)  : Option (Bool) := (fix_Mul.f k 4294967296 4294967296).bind fun t155 => (if t155 = 4294967296 then ((fix_Of.f 3).bind fun t156 => ((fix_Div.f k 4294967296 t156).bind fun t157 => (if t157 = 1431655765 then ((fix_Text.f k 4294967296).bind fun t158 => (some (t158.toList == ([49, 46, 48, 48, 48, 48, 48, 48, 48, 48, 48, 48] : List UInt8)))) else (none)))) else (none))
theorem carousellaw1_awake.mono : ∀ k, LeO (carousellaw1_awake.f k ) (carousellaw1_awake.f (k + 1) ) := by
 intro  k
 unfold carousellaw1_awake.f
 repeat' first
   | (with_reducible exact fix_Div.mono _ _ _)
   | (with_reducible exact fix_Mul.mono _ _ _)
   | (with_reducible exact fix_Text.mono _ _)
   | (with_reducible exact LeO.refl _)
   | (with_reducible exact LeO.none _)
   | (with_reducible refine LeO.ite ?_ ?_)
   | (with_reducible refine LeO.bind ?_ (fun _ => ?_))
   | exact fix_Div.mono _ _ _
   | exact fix_Mul.mono _ _ _
   | exact fix_Text.mono _ _
   | exact LeO.none _
   | refine LeO.ite ?_ ?_
   | refine LeO.bind ?_ (fun _ => ?_)
set_option maxHeartbeats 8000000 in
set_option maxRecDepth 100000 in
theorem carousellaw1_awake.calls (k : Nat)  (r : Bool) (w : World) (h : carousellaw1_awake.f k  = some r) (hp10 : P10_ w := by first | exact HP10.out | exact p10_below HP10.out (zw0_ HB)) :
  Calls Tryd.prog 11 #[] w fun e w' => e = .returned (.bool r) ∧ Below w.heap.size w w' := by
 have HP10 := Aside0.mk hp10
 clear hp10
 have HB := Aside0.mk (Below.refl w.heap.size w)
 have H : ((fix_Mul.f k 4294967296 4294967296).bind fun t155 => (if t155 = 4294967296 then ((fix_Of.f 3).bind fun t156 => ((fix_Div.f k 4294967296 t156).bind fun t157 => (if t157 = 1431655765 then ((fix_Text.f k 4294967296).bind fun t158 => (some (t158.toList == ([49, 46, 48, 48, 48, 48, 48, 48, 48, 48, 48, 48] : List UInt8)))) else (none)))) else (none))) = some r := h
 clear h
 replace H := Option.bind_eq_some_iff.mp H
 obtain ⟨t155, A10, H⟩ := H
 (try dsimp only at H)
 have A1 := Aside0.mk A10
 clear A10
 by_cases c2 : t155 = 4294967296
 rotate_left
 ·rw [if_neg c2] at H
  exact absurd H (by simp)
 rw [if_pos c2] at H
 have c2b0 : (t155 == 4294967296) = true := beq_iff_eq.mpr c2
 have c2b1 : (t155 != 4294967296) = false := bne_eq_false_iff_eq.mpr c2
 clear c2
 replace H := Option.bind_eq_some_iff.mp H
 obtain ⟨t156, A30, H⟩ := H
 (try dsimp only at H)
 have A3 := Aside0.mk A30
 clear A30
 replace H := Option.bind_eq_some_iff.mp H
 obtain ⟨t157, A40, H⟩ := H
 (try dsimp only at H)
 have A4 := Aside0.mk A40
 clear A40
 by_cases c5 : t157 = 1431655765
 rotate_left
 ·rw [if_neg c5] at H
  exact absurd H (by simp)
 rw [if_pos c5] at H
 have c5b0 : (t157 == 1431655765) = true := beq_iff_eq.mpr c5
 have c5b1 : (t157 != 1431655765) = false := bne_eq_false_iff_eq.mpr c5
 clear c5
 replace H := Option.bind_eq_some_iff.mp H
 obtain ⟨t158, A60, H⟩ := H
 replace H : (some (t158.toList == ([49, 46, 48, 48, 48, 48, 48, 48, 48, 48, 48, 48] : List UInt8))) = some r := H
 have A6 := Aside0.mk A60
 clear A60
 obtain rfl := Option.some.inj H
 go_enter Tryd.func11, Tryd.ntmps11
 go_wp2_with (first | ((with_reducible refine gate_callee (f := 16) rfl ?_); refine zg_ (some 1) Tryd.func16 #[.int .i64 4294967296, .int .i64 4294967296] (h := ?_); (with_reducible refine (fix_Mul.calls k 4294967296 4294967296 t155 _ A1.out).mono ?_); rintro e w' ⟨rfl, ⟨nd, rfl⟩⟩; refine ⟨_, rfl, ?_⟩) | (go_at_call 12; (with_reducible refine (fix_Of.calls 3 t156 _ A3.out).mono ?_); rintro e w' ⟨rfl, ⟨nd, rfl⟩⟩) | (go_at_call 19; (with_reducible refine (fix_Div.calls k 4294967296 t156 t157 _ A4.out).mono ?_); rintro e w' ⟨rfl, ⟨nd, rfl⟩⟩) | (go_at_call 14; (with_reducible refine (fix_Text.calls k 4294967296 t158 _ A6.out).mono ?_); rintro e w7 ⟨rfl, hb⟩; replace HB := Aside0.mk (below_step (zw0_ HB) hb); (try clear hb)))
 go_ret
 exact ⟨z0_, zw0_ HB⟩

/-! ### carouselref1_Held: function 29 -/
def carouselref1_Held.j0 : Nat → Bool → Bool → Int → Int → Int → Int → Option (Int)
 | 0, _, _, _, _, _, _ => none
 | k + 1, x20, x160000, x160001, x160002, x160003, x160004 => if x20 = true then (if x160000 = true then (some (-9223372036854775808)) else (some 9223372036854775807)) else (if x160000 = true then (some (wrap64 (-(wrap64 (x160001))))) else (some (wrap64 (x160001))))
def carouselref1_Held.f (k : Nat) (a0_0 : Bool) (a0_1 : Int) (a0_2 : Int) (a0_3 : Int) (a0_4 : Int) : Option (Int) := if (Go.bits .or .u64 (Go.bits .or .u64 a0_2 a0_3) a0_4) = 0 then (carouselref1_Held.j0 k (decide (a0_1 ≥ 9223372036854775808)) a0_0 a0_1 a0_2 a0_3 a0_4) else (carouselref1_Held.j0 k true a0_0 a0_1 a0_2 a0_3 a0_4)
theorem carouselref1_Held.mono_l : ∀ k, (∀ y0 y1 y2 y3 y4 y5, LeO (carouselref1_Held.j0 k y0 y1 y2 y3 y4 y5) (carouselref1_Held.j0 (k + 1) y0 y1 y2 y3 y4 y5))
 | 0 => fun _ _ _ _ _ _ r h => by simp [carouselref1_Held.j0] at h
 | k + 1 => by
  have ih0 := carouselref1_Held.mono_l k
  ·intro y0 y1 y2 y3 y4 y5
   unfold carouselref1_Held.j0
   repeat' first
   | (with_reducible exact ih0 _ _ _ _ _ _)
   | (with_reducible exact LeO.refl _)
   | (with_reducible exact LeO.none _)
   | (with_reducible refine LeO.ite ?_ ?_)
   | (with_reducible refine LeO.bind ?_ (fun _ => ?_))
   | exact ih0 _ _ _ _ _ _
   | exact LeO.none _
   | refine LeO.ite ?_ ?_
   | refine LeO.bind ?_ (fun _ => ?_)
theorem carouselref1_Held.mono : ∀ a0 a1 a2 a3 a4 k, LeO (carouselref1_Held.f k a0 a1 a2 a3 a4) (carouselref1_Held.f (k + 1) a0 a1 a2 a3 a4) := by
 intro a0 a1 a2 a3 a4 k
 have ih0 := carouselref1_Held.mono_l k
 unfold carouselref1_Held.f
 repeat' first
   | (with_reducible exact ih0 _ _ _ _ _ _)
   | (with_reducible exact LeO.refl _)
   | (with_reducible exact LeO.none _)
   | (with_reducible refine LeO.ite ?_ ?_)
   | (with_reducible refine LeO.bind ?_ (fun _ => ?_))
   | exact ih0 _ _ _ _ _ _
   | exact LeO.none _
   | refine LeO.ite ?_ ?_
   | refine LeO.bind ?_ (fun _ => ?_)
set_option maxHeartbeats 8000000 in
set_option maxRecDepth 100000 in
theorem carouselref1_Held.calls (k : Nat) (a0_0 : Bool) (a0_1 : Int) (a0_2 : Int) (a0_3 : Int) (a0_4 : Int) (r : Int) (w : World) (h : carouselref1_Held.f k a0_0 a0_1 a0_2 a0_3 a0_4 = some r) :
  Calls Tryd.prog 29 #[.agg #[.bool a0_0, .int .u64 a0_1, .int .u64 a0_2, .int .u64 a0_3, .int .u64 a0_4]] w fun e w' => e = .returned (.int .i64 r) ∧ Below w.heap.size w w' := by
 have hu41 := Tryd.underlying41
 have HB := Aside0.mk (Below.refl w.heap.size w)
 have H : (if (Go.bits .or .u64 (Go.bits .or .u64 a0_2 a0_3) a0_4) = 0 then (carouselref1_Held.j0 k (decide (a0_1 ≥ 9223372036854775808)) a0_0 a0_1 a0_2 a0_3 a0_4) else (carouselref1_Held.j0 k true a0_0 a0_1 a0_2 a0_3 a0_4)) = some r := h
 clear h
 have HC2 := Aside0.mk H
 clear H
 go_enter Tryd.func29, Tryd.ntmps29
 go_upto_region 1 with (first | ((with_reducible refine gate_dst (N := 1) rfl ?_); refine box_event ?hg (N := 1) ?hd (cs := #[.bool a0_0, .int .u64 a0_1, .int .u64 a0_2, .int .u64 a0_3, .int .u64 a0_4]) (t := 41) ?hr ?_; (case hd => rfl); (case hg => rfl); (case hr => first | (go_simp; done) | (go_simp; rfl)); intro gb159 hg w3 hbox hb; have BK159 := Aside0.mk (hbox); have GW159 := Aside0.mk (zs_ hg (zw0_ HB)); have GE159 := Aside0.mk (zs_ hg (zw0_ HB)); replace HB := Aside0.mk (below_step (zw0_ HB) hb); clear hb hbox hg))
 (try simp only [Act.put, List.setIfInBounds_toArray, List.set_cons_zero, List.set_cons_succ])
 go_cut [20] (fun v20 wc => ∃ (kq : Nat) (x20_1 : Bool), v20 = .bool x20_1 ∧ Aside0 (carouselref1_Held.j0 kq x20_1 a0_0 a0_1 a0_2 a0_3 a0_4 = some r) ∧ Aside0 (kq ≤ k) ∧ Aside0 (wc.heap[gb159]? = some (.cells #[.bool a0_0, .int .u64 a0_1, .int .u64 a0_2, .int .u64 a0_3, .int .u64 a0_4] 41 (0, 0))) ∧ Aside0 (Below w.heap.size w wc))
 case first =>
  have H := HC2.out
  clear HC2
  by_cases c4 : (Go.bits .or .u64 (Go.bits .or .u64 a0_2 a0_3) a0_4) = 0
  rotate_left
  ·rw [if_neg c4] at H
   have c4b0 : ((Go.bits .or .u64 (Go.bits .or .u64 a0_2 a0_3) a0_4) == 0) = false := beq_eq_false_iff_ne.mpr c4
   have c4b1 : ((Go.bits .or .u64 (Go.bits .or .u64 a0_2 a0_3) a0_4) != 0) = true := bne_iff_ne.mpr c4
   (first | rw [c4b0] | (simp only [i64_w, i32_w]; rw [c4b0]) | skip)
   have H' := Aside0.mk H
   clear H
   have hcz6_0 := zx_ (v := .bool a0_0) BK159 0
   have hcz6_1 := zx_ (v := .int .u64 a0_1) BK159 1
   have hcz6_2 := zx_ (v := .int .u64 a0_2) BK159 2
   have hcz6_3 := zx_ (v := .int .u64 a0_3) BK159 3
   have hcz6_4 := zx_ (v := .int .u64 a0_4) BK159 4
   have hfz6_0 := blk_frozen BK159.out 0
   have hfz6_1 := blk_frozen BK159.out 1
   have hfz6_2 := blk_frozen BK159.out 2
   have hfz6_3 := blk_frozen BK159.out 3
   have hfz6_4 := blk_frozen BK159.out 4
   go_wp2
   go_meet
   case rel => exact ⟨_, (true), z1_, H', ⟨by first | omega | exact Nat.le_refl _⟩, ⟨zb_ BK159⟩, ⟨zw1_ HB GE159⟩⟩
  rw [if_pos c4] at H
  have c4b0 : ((Go.bits .or .u64 (Go.bits .or .u64 a0_2 a0_3) a0_4) == 0) = true := beq_iff_eq.mpr c4
  have c4b1 : ((Go.bits .or .u64 (Go.bits .or .u64 a0_2 a0_3) a0_4) != 0) = false := bne_eq_false_iff_eq.mpr c4
  clear c4
  (first | rw [c4b0] | (simp only [i64_w, i32_w]; rw [c4b0]) | skip)
  have H' := Aside0.mk H
  clear H
  have hcz5_0 := zx_ (v := .bool a0_0) BK159 0
  have hcz5_1 := zx_ (v := .int .u64 a0_1) BK159 1
  have hcz5_2 := zx_ (v := .int .u64 a0_2) BK159 2
  have hcz5_3 := zx_ (v := .int .u64 a0_3) BK159 3
  have hcz5_4 := zx_ (v := .int .u64 a0_4) BK159 4
  have hfz5_0 := blk_frozen BK159.out 0
  have hfz5_1 := blk_frozen BK159.out 1
  have hfz5_2 := blk_frozen BK159.out 2
  have hfz5_3 := blk_frozen BK159.out 3
  have hfz5_4 := blk_frozen BK159.out 4
  go_wp2
  go_meet
  case rel => exact ⟨_, (decide (a0_1 ≥ 9223372036854775808)), z1_, H', ⟨by first | omega | exact Nat.le_refl _⟩, ⟨zb_ BK159⟩, ⟨zw1_ HB GE159⟩⟩
 case rest =>
  clear HC2
  try clear c2
  try clear p2
  try clear c4
  try clear c4b0
  try clear c4b1
  try clear hcz5_0
  try clear hcz5_1
  try clear hcz5_2
  try clear hcz5_3
  try clear hcz5_4
  try clear hcz6_0
  try clear hcz6_1
  try clear hcz6_2
  try clear hcz6_3
  try clear hcz6_4
  try clear hfz5_0
  try clear hfz5_1
  try clear hfz5_2
  try clear hfz5_3
  try clear hfz5_4
  try clear hfz6_0
  try clear hfz6_1
  try clear hfz6_2
  try clear hfz6_3
  try clear hfz6_4
  obtain ⟨kq, x20_1, rfl, HA, HJ1, BK159, HB⟩ := hcut
  cases kq with
  | zero => exact absurd HA.out (by simp [carouselref1_Held.j0])
  | succ kj1 =>
   have H := HA.out
   clear HA
   simp only [carouselref1_Held.j0] at H
   by_cases c7 : x20_1 = true
   ·subst c7
    have H1 : (if a0_0 = true then (some (-9223372036854775808)) else (some 9223372036854775807)) = some r := by rw [if_pos rfl] at H; exact H
    clear H
    have H := H1
    clear H1
    by_cases c8 : a0_0 = true
    ·subst c8
     have H1 : (some (-9223372036854775808)) = some r := by rw [if_pos rfl] at H; exact H
     clear H
     have H := H1
     clear H1
     obtain rfl := Option.some.inj H
     have hcz9_0 := zx_ (v := .bool true) BK159 0
     have hcz9_1 := zx_ (v := .int .u64 a0_1) BK159 1
     have hcz9_2 := zx_ (v := .int .u64 a0_2) BK159 2
     have hcz9_3 := zx_ (v := .int .u64 a0_3) BK159 3
     have hcz9_4 := zx_ (v := .int .u64 a0_4) BK159 4
     have hfz9_0 := blk_frozen BK159.out 0
     have hfz9_1 := blk_frozen BK159.out 1
     have hfz9_2 := blk_frozen BK159.out 2
     have hfz9_3 := blk_frozen BK159.out 3
     have hfz9_4 := blk_frozen BK159.out 4
     go_wp2
     go_ret
     exact ⟨z0_, zw1_ HB GE159⟩
    replace c8 := Bool.eq_false_iff.mpr c8
    subst c8
    have H1 : (some 9223372036854775807) = some r := by rw [if_neg (show ¬ (false = true) by decide)] at H; exact H
    clear H
    have H := H1
    clear H1
    obtain rfl := Option.some.inj H
    have hcz10_0 := zx_ (v := .bool false) BK159 0
    have hcz10_1 := zx_ (v := .int .u64 a0_1) BK159 1
    have hcz10_2 := zx_ (v := .int .u64 a0_2) BK159 2
    have hcz10_3 := zx_ (v := .int .u64 a0_3) BK159 3
    have hcz10_4 := zx_ (v := .int .u64 a0_4) BK159 4
    have hfz10_0 := blk_frozen BK159.out 0
    have hfz10_1 := blk_frozen BK159.out 1
    have hfz10_2 := blk_frozen BK159.out 2
    have hfz10_3 := blk_frozen BK159.out 3
    have hfz10_4 := blk_frozen BK159.out 4
    go_wp2
    go_ret
    exact ⟨z0_, zw1_ HB GE159⟩
   replace c7 := Bool.eq_false_iff.mpr c7
   subst c7
   have H1 := H
   rw [if_neg (show ¬ (false = true) by decide)] at H1
   clear H
   have H := H1
   clear H1
   by_cases c11 : a0_0 = true
   ·subst c11
    have H1 : (some (wrap64 (-(wrap64 (a0_1))))) = some r := by rw [if_pos rfl] at H; exact H
    clear H
    have H := H1
    clear H1
    obtain rfl := Option.some.inj H
    have hcz12_0 := zx_ (v := .bool true) BK159 0
    have hcz12_1 := zx_ (v := .int .u64 a0_1) BK159 1
    have hcz12_2 := zx_ (v := .int .u64 a0_2) BK159 2
    have hcz12_3 := zx_ (v := .int .u64 a0_3) BK159 3
    have hcz12_4 := zx_ (v := .int .u64 a0_4) BK159 4
    have hfz12_0 := blk_frozen BK159.out 0
    have hfz12_1 := blk_frozen BK159.out 1
    have hfz12_2 := blk_frozen BK159.out 2
    have hfz12_3 := blk_frozen BK159.out 3
    have hfz12_4 := blk_frozen BK159.out 4
    go_wp2
    go_ret
    exact ⟨z0_, zw1_ HB GE159⟩
   replace c11 := Bool.eq_false_iff.mpr c11
   subst c11
   have H1 : (some (wrap64 (a0_1))) = some r := by rw [if_neg (show ¬ (false = true) by decide)] at H; exact H
   clear H
   have H := H1
   clear H1
   obtain rfl := Option.some.inj H
   have hcz13_0 := zx_ (v := .bool false) BK159 0
   have hcz13_1 := zx_ (v := .int .u64 a0_1) BK159 1
   have hcz13_2 := zx_ (v := .int .u64 a0_2) BK159 2
   have hcz13_3 := zx_ (v := .int .u64 a0_3) BK159 3
   have hcz13_4 := zx_ (v := .int .u64 a0_4) BK159 4
   have hfz13_0 := blk_frozen BK159.out 0
   have hfz13_1 := blk_frozen BK159.out 1
   have hfz13_2 := blk_frozen BK159.out 2
   have hfz13_3 := blk_frozen BK159.out 3
   have hfz13_4 := blk_frozen BK159.out 4
   go_wp2
   go_ret
   exact ⟨z0_, zw1_ HB GE159⟩

/-! ### carouselref1_bit: function 47 -/
def carouselref1_bit.w (a0 a1 a2 a3 j : Int) : Int := if j = 0 then a0 else if j = 1 then a1 else if j = 2 then a2 else a3
def carouselref1_bit.f (a0_0 : Int) (a0_1 : Int) (a0_2 : Int) (a0_3 : Int) (a1 : Int) : Option (Int) := if 0 ≤ a1 ∧ a1 < 256 then some (Go.bits .and .u64 (carouselref1_bit.w a0_0 a0_1 a0_2 a0_3 (a1 / 64) / 2 ^ (a1 % 64).toNat) 1) else none
set_option maxHeartbeats 8000000 in
set_option maxRecDepth 100000 in
theorem carouselref1_bit.calls (a0_0 : Int) (a0_1 : Int) (a0_2 : Int) (a0_3 : Int) (a1 : Int) (r : Int) (w : World) (h : carouselref1_bit.f a0_0 a0_1 a0_2 a0_3 a1 = some r) :
  Calls Tryd.prog 47 #[.agg #[.int .u64 a0_0, .int .u64 a0_1, .int .u64 a0_2, .int .u64 a0_3], .int .i64 a1] w fun e w' => e = .returned (.int .u64 r) ∧ Below w.heap.size w w' := by
 unfold carouselref1_bit.f at h
 by_cases hc : 0 ≤ a1 ∧ a1 < 256
 case neg => rw [if_neg hc] at h; cases h
 rw [if_pos hc] at h
 have H := Aside0.mk (Option.some.inj h)
 clear h
 have HB := Aside0.mk (Below.refl w.heap.size w)
 have hu39 := Tryd.underlying39
 obtain ⟨s, hs⟩ : ∃ s, s = a1 % 64 := ⟨_, rfl⟩
 have h0 : 0 ≤ s := by omega
 have h1 : s < 64 := by omega
 have e2 : a1.tmod 64 = s := by rw [Int.tmod_eq_emod_of_nonneg (by omega)]; omega
 rw [← hs] at H
 by_cases c0 : a1 / 64 = 0
 case pos =>
  have e1 : a1.tdiv 64 = 0 := by rw [Int.tdiv_eq_ediv_of_nonneg (by omega)]; omega
  have H2 := H.out
  rw [c0] at H2
  have H3 := Aside0.mk H2
  clear H2 H hc hs
  clear c0
  go_enter Tryd.func47, Tryd.ntmps47
  go_wp2
  go_ret
  refine ⟨?_, zw0_ HB⟩
  rw [← H3.out]
  rfl
 case neg =>
  by_cases c1 : a1 / 64 = 1
  case pos =>
   have e1 : a1.tdiv 64 = 1 := by rw [Int.tdiv_eq_ediv_of_nonneg (by omega)]; omega
   have H2 := H.out
   rw [c1] at H2
   have H3 := Aside0.mk H2
   clear H2 H hc hs
   clear c0 c1
   go_enter Tryd.func47, Tryd.ntmps47
   go_wp2
   go_ret
   refine ⟨?_, zw0_ HB⟩
   rw [← H3.out]
   rfl
  case neg =>
   by_cases c2 : a1 / 64 = 2
   case pos =>
    have e1 : a1.tdiv 64 = 2 := by rw [Int.tdiv_eq_ediv_of_nonneg (by omega)]; omega
    have H2 := H.out
    rw [c2] at H2
    have H3 := Aside0.mk H2
    clear H2 H hc hs
    clear c0 c1 c2
    go_enter Tryd.func47, Tryd.ntmps47
    go_wp2
    go_ret
    refine ⟨?_, zw0_ HB⟩
    rw [← H3.out]
    rfl
   case neg =>
    have c3 : a1 / 64 = 3 := by omega
    have e1 : a1.tdiv 64 = 3 := by rw [Int.tdiv_eq_ediv_of_nonneg (by omega)]; omega
    have H2 := H.out
    rw [c3] at H2
    have H3 := Aside0.mk H2
    clear H2 H hc hs
    clear c0 c1 c2 c3
    go_enter Tryd.func47, Tryd.ntmps47
    go_wp2
    go_ret
    refine ⟨?_, zw0_ HB⟩
    rw [← H3.out]
    rfl

/-! ### carouselref1_Shifted: function 30 -/
/-- the words of a number -/
def w0_ (x : Int) : Int := x % 18446744073709551616
def w1_ (x : Int) : Int := x / 18446744073709551616 % 18446744073709551616
def w2_ (x : Int) : Int := x / 340282366920938463463374607431768211456 % 18446744073709551616
def w3_ (x : Int) : Int := x / 6277101735386680763835789423207666416102355444464034512896 % 18446744073709551616
def bv_ (a0 a1 a2 a3 : Int) : Int := a0 + a1 * 18446744073709551616 + a2 * 340282366920938463463374607431768211456 + a3 * 6277101735386680763835789423207666416102355444464034512896
def bitOf_ (x i : Int) : Int := x / 2 ^ i.toNat % 2
def row5_ (n : Bool) (x : Int) : Array Value := #[.bool n, .int .u64 (w0_ x), .int .u64 (w1_ x), .int .u64 (w2_ x), .int .u64 (w3_ x)]
theorem or_low_ (a : Int) (s : Nat) (hs : s < 64) (a0 : 0 ≤ a) (a1 : a < 2 ^ s) : Go.bits .or .u64 a (2 ^ s) = a + 2 ^ s := by
 obtain ⟨A, rfl⟩ := Int.eq_ofNat_of_zero_le a0
 have hA : A < 2 ^ s := by
  have : ((2 ^ s : Nat) : Int) = 2 ^ s := by simp
  omega
 have h64 : 2 ^ s ≤ 2 ^ 63 := Nat.pow_le_pow_right (by decide) (by omega)
 have e : (2 : Int) ^ s = ((2 ^ s : Nat) : Int) := by simp
 rw [e, Go.u64_or _ _ (by omega) (by omega) (by omega) (by omega)]
 simp only [Int.toNat_natCast]
 have := Nat.two_pow_add_eq_or_of_lt hA 1
 rw [Nat.mul_one] at this
 rw [Nat.or_comm, ← this]
 omega
theorem low_bits_ (y : Int) (d : Nat) : y % 2 ^ (d + 1) = y % 2 ^ d + 2 ^ d * (y / 2 ^ d % 2) := by
 have p : (0 : Int) < 2 ^ d := Int.pow_pos (by decide)
 have e1 := Int.mul_ediv_add_emod y (2 ^ d)
 have e2 := Int.mul_ediv_add_emod (y / 2 ^ d) 2
 have m0 := Int.emod_nonneg y (show (2 : Int) ^ d ≠ 0 by omega)
 have m1 := Int.emod_lt_of_pos y p
 have e3 : y = (y % 2 ^ d + 2 ^ d * (y / 2 ^ d % 2)) + 2 ^ (d + 1) * (y / 2 ^ d / 2) := by
  rw [Int.pow_succ, Int.mul_assoc, Int.add_assoc, ← Int.mul_add, Int.add_comm (y / 2 ^ d % 2), e2]
  omega
 have hb : y / 2 ^ d % 2 = 0 ∨ y / 2 ^ d % 2 = 1 := by omega
 conv => lhs; rw [e3]
 rw [Int.add_mul_emod_self_left]
 refine Int.emod_eq_of_lt ?_ ?_
 ·rcases hb with h | h <;> rw [h] <;> omega
 rw [Int.pow_succ]
 rcases hb with h | h <;> rw [h] <;> omega
/-- one bit more of a number that is brought down by m -/
theorem next_bit_ (V m i : Int) (hm : 0 ≤ m) (hi : m ≤ i) : V / 2 ^ m.toNat % 2 ^ (i + 1 - m).toNat = V / 2 ^ m.toNat % 2 ^ (i - m).toNat + 2 ^ (i - m).toNat * bitOf_ V i := by
 rw [show (i + 1 - m).toNat = (i - m).toNat + 1 by omega, low_bits_]
 unfold bitOf_
 have : V / 2 ^ m.toNat / 2 ^ (i - m).toNat = V / 2 ^ i.toNat := by
  have hn : (0 : Int) ≤ 2 ^ m.toNat := Int.le_of_lt (Int.pow_pos (by decide))
  rw [Int.ediv_ediv_of_nonneg hn, ← Int.pow_add]
  congr 2; omega
 rw [this]
/-- a word of the row, one bit set -/
theorem set_word_ (x : Int) (d j s : Nat) (hd : d = 64 * j + s) (hj : j < 4) (hs : s < 64) (x0 : 0 ≤ x) (x1 : x < 2 ^ d) (n : Bool) :
  row5_ n (x + 2 ^ d) = (row5_ n x).setIfInBounds (1 + j) (.int .u64 ((if j = 0 then w0_ x else if j = 1 then w1_ x else if j = 2 then w2_ x else w3_ x) + 2 ^ s)) ∧ (if j = 0 then w0_ x else if j = 1 then w1_ x else if j = 2 then w2_ x else w3_ x) < 2 ^ s := by
 have e : (2 : Int) ^ d = 2 ^ s * (2 ^ 64) ^ j := by rw [hd, ← Int.pow_mul, ← Int.pow_add, Nat.add_comm]
 have p1 : (1 : Int) ≤ 2 ^ s := by have : (0 : Int) < 2 ^ s := Int.pow_pos (by decide); omega
 have p2 : (2 : Int) ^ s ≤ 9223372036854775808 := by
  have : (2 : Nat) ^ s ≤ 2 ^ 63 := Nat.pow_le_pow_right (by decide) (by omega)
  have : ((2 ^ s : Nat) : Int) = 2 ^ s := by simp
  omega
 rw [e] at x1 ⊢
 generalize (2 : Int) ^ s = p at *
 unfold row5_ w0_ w1_ w2_ w3_
 obtain h | h | h | h : j = 0 ∨ j = 1 ∨ j = 2 ∨ j = 3 := by omega
 all_goals subst h
 all_goals simp only [show ((2 : Int) ^ 64) ^ 0 = 1 from rfl, show ((2 : Int) ^ 64) ^ 1 = 18446744073709551616 from rfl, show ((2 : Int) ^ 64) ^ 2 = 340282366920938463463374607431768211456 from rfl, show ((2 : Int) ^ 64) ^ 3 = 6277101735386680763835789423207666416102355444464034512896 from rfl] at x1 ⊢
 all_goals simp
 all_goals omega
/-- the memory of a walk: the number that came in, the result's place, the number that is made -/
def Mem5_ (w : World) (t : TypeId) (n : Bool) (a0 a1 a2 a3 : Int) (m : Bool) (x : Int) (w' : World) : Prop :=
 w'.heap[w.heap.size]? = some (.cells #[.bool n, .int .u64 a0, .int .u64 a1, .int .u64 a2, .int .u64 a3] t (0, 0)) ∧
 w'.heap[w.heap.size + 1]? = some (.cells #[.bool false, .int .u64 0, .int .u64 0, .int .u64 0, .int .u64 0] t (0, 0)) ∧
 w'.heap[w.heap.size + 1 + 1]? = some (.cells (row5_ m x) t (0, 0)) ∧ Below w.heap.size w w'
theorem row5_zero_ (m : Bool) : row5_ m 0 = #[.bool m, .int .u64 0, .int .u64 0, .int .u64 0, .int .u64 0] := by
 unfold row5_ w0_ w1_ w2_ w3_; rfl
theorem mem5_start_ (w : World) (t : TypeId) (n m : Bool) (a0 a1 a2 a3 x : Int) (hx : x = 0) :
  Mem5_ w t n a0 a1 a2 a3 m x (((w.alloc (.cells #[.bool n, .int .u64 a0, .int .u64 a1, .int .u64 a2, .int .u64 a3] t)).alloc (.cells #[.bool false, .int .u64 0, .int .u64 0, .int .u64 0, .int .u64 0] t)).alloc (.cells #[.bool m, .int .u64 0, .int .u64 0, .int .u64 0, .int .u64 0] t)) := by
 subst hx
 unfold Mem5_
 rw [row5_zero_]
 have s1 : (w.alloc (.cells #[.bool n, .int .u64 a0, .int .u64 a1, .int .u64 a2, .int .u64 a3] t)).heap.size = w.heap.size + 1 := by simp only [World.alloc, Array.size_push]
 have s2 : ((w.alloc (.cells #[.bool n, .int .u64 a0, .int .u64 a1, .int .u64 a2, .int .u64 a3] t)).alloc (.cells #[.bool false, .int .u64 0, .int .u64 0, .int .u64 0, .int .u64 0] t)).heap.size = w.heap.size + 1 + 1 := by simp only [World.alloc, Array.size_push]
 have b1 := blk_new (w.alloc (.cells #[.bool n, .int .u64 a0, .int .u64 a1, .int .u64 a2, .int .u64 a3] t)) (.cells #[.bool false, .int .u64 0, .int .u64 0, .int .u64 0, .int .u64 0] t)
 rw [s1] at b1
 have b2 := blk_new ((w.alloc (.cells #[.bool n, .int .u64 a0, .int .u64 a1, .int .u64 a2, .int .u64 a3] t)).alloc (.cells #[.bool false, .int .u64 0, .int .u64 0, .int .u64 0, .int .u64 0] t)) (.cells #[.bool m, .int .u64 0, .int .u64 0, .int .u64 0, .int .u64 0] t)
 rw [s2] at b2
 exact ⟨blk_alloc (blk_alloc (blk_new w _) _) _, blk_alloc b1 _, b2, (((Below.refl w.heap.size w).alloc (Nat.le_refl _) _).alloc (by rw [s1]; omega) _).alloc (by rw [s2]; omega) _⟩
theorem mem5_call_ {w : World} {t : TypeId} {n m : Bool} {a0 a1 a2 a3 x : Int} {w' w4 : World} (h : Mem5_ w t n a0 a1 a2 a3 m x w') (hb : Below w'.heap.size w' w4) : Mem5_ w t n a0 a1 a2 a3 m x w4 :=
 ⟨blk_below h.1 hb, blk_below h.2.1 hb, blk_below h.2.2.1 hb, h.2.2.2.trans (hb.mono h.2.2.2.size)⟩
theorem mem5_set_ {w : World} {t : TypeId} {n m : Bool} {a0 a1 a2 a3 x : Int} {w' : World} (h : Mem5_ w t n a0 a1 a2 a3 m x w') (y : Int) (j : Nat) (v : Value) (e : row5_ m y = (row5_ m x).setIfInBounds j v) : Mem5_ w t n a0 a1 a2 a3 m y (w'.setCell ⟨w.heap.size + 1 + 1, j, none⟩ v) := by
 refine ⟨?_, ?_, ?_, h.2.2.2.setCell (by show w.heap.size ≤ w.heap.size + 1 + 1; omega) _⟩
 ·rw [Below.heap_setCell _ _ _ _ (by show w.heap.size ≠ w.heap.size + 1 + 1; omega)]; exact h.1
 ·rw [Below.heap_setCell _ _ _ _ (by show w.heap.size + 1 ≠ w.heap.size + 1 + 1; omega)]; exact h.2.1
 exact blk_put h.2.2.1 j v e.symm
theorem set_or_ (x d s : Int) (j : Nat) (hd : d = 64 * j + s) (hj : j < 4) (s0 : 0 ≤ s) (s1 : s < 64) (x0 : 0 ≤ x) (x1 : x < 2 ^ d.toNat) (n : Bool) :
  row5_ n (x + 2 ^ d.toNat) = (row5_ n x).setIfInBounds (1 + j) (.int .u64 (Go.bits .or .u64 (if j = 0 then w0_ x else if j = 1 then w1_ x else if j = 2 then w2_ x else w3_ x) (IntKind.u64.wrap (2 ^ s.toNat)))) := by
 obtain ⟨h1, h2⟩ := set_word_ x d.toNat j s.toNat (by omega) hj (by omega) x0 x1 n
 have wp : IntKind.u64.wrap (2 ^ s.toNat) = 2 ^ s.toNat := by
  have : (2 : Nat) ^ s.toNat ≤ 2 ^ 63 := Nat.pow_le_pow_right (by decide) (by omega)
  have e : ((2 ^ s.toNat : Nat) : Int) = 2 ^ s.toNat := by simp
  have p1 : (0 : Int) < 2 ^ s.toNat := Int.pow_pos (by decide)
  simp only [IntKind.wrap, IntKind.bits, IntKind.signed]
  simp
  omega
 have nn : 0 ≤ (if j = 0 then w0_ x else if j = 1 then w1_ x else if j = 2 then w2_ x else w3_ x) := by
  unfold w0_ w1_ w2_ w3_
  repeat' split
  all_goals omega
 rw [h1, wp, or_low_ _ _ (by omega) nn h2]
theorem end5_ (w w7 : World) (g : Nat) (hg : w.heap.size ≤ g) (t : TypeId) (z0 z1 z2 z3 z4 v0 v1 v2 v3 v4 : Value) (b0 : w7.heap[g]? = some (.cells #[z0, z1, z2, z3, z4] t (0, 0))) (hb : Below w.heap.size w w7) :
  (((((w7.setCell ⟨g, 0, none⟩ v0).setCell ⟨g, 1, none⟩ v1).setCell ⟨g, 2, none⟩ v2).setCell ⟨g, 3, none⟩ v3).setCell ⟨g, 4, none⟩ v4).heap[g]? = some (.cells #[v0, v1, v2, v3, v4] t (0, 0)) ∧
  Below w.heap.size w (((((w7.setCell ⟨g, 0, none⟩ v0).setCell ⟨g, 1, none⟩ v1).setCell ⟨g, 2, none⟩ v2).setCell ⟨g, 3, none⟩ v3).setCell ⟨g, 4, none⟩ v4) :=
 ⟨blk_put (cs := #[v0, v1, v2, v3, z4]) (blk_put (cs := #[v0, v1, v2, z3, z4]) (blk_put (cs := #[v0, v1, z2, z3, z4]) (blk_put (cs := #[v0, z1, z2, z3, z4]) (blk_put (cs := #[z0, z1, z2, z3, z4]) b0 0 _ rfl) 1 _ rfl) 2 _ rfl) 3 _ rfl) 4 _ rfl,
  ((((hb.setCell hg _).setCell hg _).setCell hg _).setCell hg _).setCell hg _⟩
/-- is there a bit below the j-th, or is the number odd? -/
def more_ (V x j : Int) : Bool := decide (w0_ x % 2 = 1) || decide (V % 2 ^ j.toNat ≠ 0)
theorem and1_ (x : Int) (h0 : 0 ≤ x) (h1 : x < 18446744073709551616) : Go.bits .and .u64 x 1 = x % 2 := by
 rw [Go.u64_and x 1 h0 (by omega) (by omega) (by omega)]
 have : (1 : Int).toNat = 2 ^ 1 - 1 := rfl
 rw [this, Nat.and_two_pow_sub_one_eq_mod]
 omega
theorem more_start_ (V x : Int) : (Go.bits .and .u64 (w0_ x) 1 == 1) = more_ V x 0 := by
 rw [and1_ _ (by unfold w0_; omega) (by unfold w0_; omega)]
 unfold more_
 have : V % 2 ^ (0 : Int).toNat = 0 := by simp
 simp [this]
 rfl
theorem more_step_ (V j : Int) (hj : 0 ≤ j) : V % 2 ^ (j + 1).toNat = V % 2 ^ j.toNat + 2 ^ j.toNat * bitOf_ V j ∧ 0 ≤ V % 2 ^ j.toNat ∧ (0 : Int) < 2 ^ j.toNat ∧ (bitOf_ V j = 0 ∨ bitOf_ V j = 1) := by
 have p : (0 : Int) < 2 ^ j.toNat := Int.pow_pos (by decide)
 refine ⟨?_, Int.emod_nonneg _ (by omega), p, by unfold bitOf_; omega⟩
 rw [show (j + 1).toNat = j.toNat + 1 by omega, low_bits_]; rfl
theorem more_up_ (V x j : Int) (hj : 0 ≤ j) (h : true = more_ V x j) : true = more_ V x (j + 1) := by
 obtain ⟨e, n0, p, b⟩ := more_step_ V j hj
 unfold more_ at *
 rw [e]
 rcases b with b | b <;> rw [b] <;> simp at h ⊢ <;> omega
theorem more_one_ (V x j : Int) (hj : 0 ≤ j) (h : false = more_ V x j) (b : bitOf_ V j = 1) : true = more_ V x (j + 1) := by
 obtain ⟨e, n0, p, -⟩ := more_step_ V j hj
 unfold more_ at *
 rw [e, b]
 simp at h ⊢
 omega
theorem more_zero_ (V x j : Int) (hj : 0 ≤ j) (h : false = more_ V x j) (b : ¬ bitOf_ V j = 1) : false = more_ V x (j + 1) := by
 obtain ⟨e, n0, p, b'⟩ := more_step_ V j hj
 have b0 : bitOf_ V j = 0 := by omega
 unfold more_ at *
 rw [e, b0]
 simp at h ⊢
 omega
theorem set4_ {w : World} {t : TypeId} {n m : Bool} {a0 a1 a2 a3 x : Int} {w' : World} (h : Mem5_ w t n a0 a1 a2 a3 m x w') (p0 p1 p2 p3 : Value) (w6 : World)
  (e : ((((w'.setCell ⟨w.heap.size + 1 + 1, 1, none⟩ p0).setCell ⟨w.heap.size + 1 + 1, 2, none⟩ p1).setCell ⟨w.heap.size + 1 + 1, 3, none⟩ p2).setCell ⟨w.heap.size + 1 + 1, 4, none⟩ p3) = w6) :
  w6.heap[w.heap.size + 1 + 1]? = some (.cells #[.bool m, p0, p1, p2, p3] t (0, 0)) ∧ w6.heap[w.heap.size + 1]? = some (.cells #[.bool false, .int .u64 0, .int .u64 0, .int .u64 0, .int .u64 0] t (0, 0)) ∧ Below w.heap.size w w6 := by
 subst e
 have hp : ∀ i, w.heap.size ≤ (⟨w.heap.size + 1 + 1, i, none⟩ : Addr).block := fun i => by show w.heap.size ≤ w.heap.size + 1 + 1; omega
 have q : ∀ i, w.heap.size + 1 ≠ (⟨w.heap.size + 1 + 1, i, none⟩ : Addr).block := fun i => by show w.heap.size + 1 ≠ w.heap.size + 1 + 1; omega
 refine ⟨?_, ?_, (((h.2.2.2.setCell (hp 1) _).setCell (hp 2) _).setCell (hp 3) _).setCell (hp 4) _⟩
 ·exact blk_put (cs := #[.bool m, p0, p1, p2, .int .u64 (w3_ x)]) (blk_put (cs := #[.bool m, p0, p1, .int .u64 (w2_ x), .int .u64 (w3_ x)]) (blk_put (cs := #[.bool m, p0, .int .u64 (w1_ x), .int .u64 (w2_ x), .int .u64 (w3_ x)]) (blk_put (cs := row5_ m x) h.2.2.1 1 _ rfl) 2 _ rfl) 3 _ rfl) 4 _ rfl
 ·rw [Below.heap_setCell _ _ _ _ (q 4), Below.heap_setCell _ _ _ _ (q 3), Below.heap_setCell _ _ _ _ (q 2), Below.heap_setCell _ _ _ _ (q 1)]
  exact h.2.1
theorem bit_low_ (a r : Int) (s : Nat) (hs : s < 64) : (a + 18446744073709551616 * r) / 2 ^ s % 2 = a / 2 ^ s % 2 := by
 have p : (0 : Int) < 2 ^ s := Int.pow_pos (by decide)
 have e : (18446744073709551616 : Int) = 2 ^ s * (2 ^ (63 - s) * 2) := by
  rw [← Int.pow_succ, ← Int.pow_add, show s + (63 - s + 1) = 64 by omega]; rfl
 rw [e, Int.mul_assoc, Int.add_mul_ediv_left _ _ (by omega), Int.mul_assoc, Int.mul_comm 2 r, ← Int.mul_assoc, Int.add_mul_emod_self_right]
theorem bit_word_ (V x : Int) (i s : Int) (j : Nat) (W r : Int) (hW : W = 2 ^ (64 * j)) (hi : i = 64 * j + s) (s0 : 0 ≤ s) (s1 : s < 64) (hx : V / W = x + 18446744073709551616 * r) : bitOf_ V i = x / 2 ^ s.toNat % 2 := by
 unfold bitOf_
 have hn : (0 : Int) ≤ 2 ^ (64 * j) := Int.le_of_lt (Int.pow_pos (by decide))
 rw [show i.toNat = 64 * j + s.toNat by omega, Int.pow_add, ← Int.ediv_ediv_of_nonneg hn, ← hW, hx]
 exact bit_low_ x r s.toNat (by omega)
def ok_ (a0 a1 a2 a3 : Int) : Prop := 0 ≤ a0 ∧ a0 < 18446744073709551616 ∧ 0 ≤ a1 ∧ a1 < 18446744073709551616 ∧ 0 ≤ a2 ∧ a2 < 18446744073709551616 ∧ 0 ≤ a3 ∧ a3 < 18446744073709551616
instance (a0 a1 a2 a3 : Int) : Decidable (ok_ a0 a1 a2 a3) := by unfold ok_; infer_instance
theorem bit_eq_ (a0 a1 a2 a3 i : Int) (h : ok_ a0 a1 a2 a3) (i0 : 0 ≤ i) (i1 : i < 256) : Go.bits .and .u64 ((if i / 64 = 0 then a0 else if i / 64 = 1 then a1 else if i / 64 = 2 then a2 else a3) / 2 ^ (i % 64).toNat) 1 = bitOf_ (bv_ a0 a1 a2 a3) i := by
 unfold ok_ at h
 have rng : ∀ a : Int, 0 ≤ a → a < 18446744073709551616 → Go.bits .and .u64 (a / 2 ^ (i % 64).toNat) 1 = a / 2 ^ (i % 64).toNat % 2 := by
  intro a h0 h1
  have p : (0 : Int) < 2 ^ (i % 64).toNat := Int.pow_pos (by decide)
  have := Int.ediv_nonneg h0 (Int.le_of_lt p)
  have := Int.ediv_le_self (2 ^ (i % 64).toNat) h0
  exact and1_ _ (by omega) (by omega)
 by_cases c0 : i / 64 = 0
 ·rw [if_pos c0, rng a0 (by omega) (by omega)]
  exact (bit_word_ _ a0 i (i % 64) 0 1 (a1 + a2 * 18446744073709551616 + a3 * 340282366920938463463374607431768211456) rfl (by omega) (by omega) (by omega) (by unfold bv_; omega)).symm
 rw [if_neg c0]
 by_cases c1 : i / 64 = 1
 ·rw [if_pos c1, rng a1 (by omega) (by omega)]
  exact (bit_word_ _ a1 i (i % 64) 1 18446744073709551616 (a2 + a3 * 18446744073709551616) rfl (by omega) (by omega) (by omega) (by unfold bv_; omega)).symm
 rw [if_neg c1]
 by_cases c2 : i / 64 = 2
 ·rw [if_pos c2, rng a2 (by omega) (by omega)]
  exact (bit_word_ _ a2 i (i % 64) 2 340282366920938463463374607431768211456 a3 rfl (by omega) (by omega) (by omega) (by unfold bv_; omega)).symm
 rw [if_neg c2, rng a3 (by omega) (by omega)]
 exact (bit_word_ _ a3 i (i % 64) 3 6277101735386680763835789423207666416102355444464034512896 0 rfl (by omega) (by omega) (by omega) (by unfold bv_; omega)).symm
theorem or_high_ (a : Int) (s : Nat) (hs : s < 64) (a0 : 0 ≤ a) (a1 : a < 18446744073709551616) (hm : a % 2 ^ (s + 1) = 0) : Go.bits .or .u64 a (2 ^ s) = a + 2 ^ s := by
 obtain ⟨A, rfl⟩ := Int.eq_ofNat_of_zero_le a0
 have h64 : 2 ^ s ≤ 2 ^ 63 := Nat.pow_le_pow_right (by decide) (by omega)
 have e : (2 : Int) ^ s = ((2 ^ s : Nat) : Int) := by simp
 have e1 : (2 : Int) ^ (s + 1) = ((2 ^ (s + 1) : Nat) : Int) := by simp
 rw [e1] at hm
 have hA : A % 2 ^ (s + 1) = 0 := by omega
 obtain ⟨B, rfl⟩ : ∃ B, A = 2 ^ (s + 1) * B := ⟨A / 2 ^ (s + 1), by have := Nat.div_add_mod A (2 ^ (s + 1)); omega⟩
 rw [e, Go.u64_or _ _ (by omega) (by omega) (by omega) (by omega)]
 simp only [Int.toNat_natCast]
 have := Nat.two_pow_add_eq_or_of_lt (show 2 ^ s < 2 ^ (s + 1) by rw [Nat.pow_succ]; have := Nat.pow_pos (n := s) (show 0 < 2 by decide); omega) B
 rw [← this]
 omega
/-- a bit set below those that are there -/
theorem set_hi_ (x d s : Int) (j : Nat) (hd : d = 64 * j + s) (hj : j < 4) (s0 : 0 ≤ s) (s1 : s < 64) (x0 : 0 ≤ x) (x1 : x < 115792089237316195423570985008687907853269984665640564039457584007913129639936) (hm : x % 2 ^ (d.toNat + 1) = 0) (n : Bool) :
  row5_ n (x + 2 ^ d.toNat) = (row5_ n x).setIfInBounds (1 + j) (.int .u64 (Go.bits .or .u64 (if j = 0 then w0_ x else if j = 1 then w1_ x else if j = 2 then w2_ x else w3_ x) (IntKind.u64.wrap (2 ^ s.toNat)))) := by
 obtain ⟨t, rfl⟩ := Int.eq_ofNat_of_zero_le s0
 have ht : t < 64 := by omega
 have p1 : (1 : Int) ≤ 2 ^ t := by have : (0 : Int) < 2 ^ t := Int.pow_pos (by decide); omega
 have p2 : (2 : Int) ^ t ≤ 9223372036854775808 := by
  have : (2 : Nat) ^ t ≤ 2 ^ 63 := Nat.pow_le_pow_right (by decide) (by omega)
  have e : ((2 ^ t : Nat) : Int) = 2 ^ t := by simp
  omega
 have wp : IntKind.u64.wrap (2 ^ t) = 2 ^ t := by
  simp only [IntKind.wrap, IntKind.bits, IntKind.signed]
  simp
  omega
 have e : (2 : Int) ^ d.toNat = 2 ^ t * (2 ^ 64) ^ j := by rw [show d.toNat = 64 * j + t by omega, ← Int.pow_mul, ← Int.pow_add, Nat.add_comm]
 have e' : (2 : Int) ^ (d.toNat + 1) = 2 ^ (t + 1) * (2 ^ 64) ^ j := by
  have gen : ∀ c : Int, 2 ^ t * c * 2 = 2 ^ (t + 1) * c := by intro c; rw [Int.pow_succ, Int.mul_right_comm]
  rw [Int.pow_succ, e]
  exact gen _
 have q : (2 : Int) ^ (t + 1) * 2 ^ (63 - t) = 18446744073709551616 := by rw [← Int.pow_add, show t + 1 + (63 - t) = 64 by omega]; rfl
 obtain ⟨y, hy⟩ : ∃ y, x = 2 ^ (t + 1) * (2 ^ 64) ^ j * y := ⟨x / (2 ^ (t + 1) * (2 ^ 64) ^ j), by rw [← e']; have := Int.mul_ediv_add_emod x (2 ^ (d.toNat + 1)); omega⟩
 have hx : x = 2 ^ (t + 1) * y * (2 ^ 64) ^ j := by rw [hy, Int.mul_right_comm]
 have pp : (2 : Int) ^ (t + 1) = 2 * 2 ^ t := by rw [Int.pow_succ, Int.mul_comm]
 -- the word itself
 have ha : 2 ^ (t + 1) * y % 18446744073709551616 = 2 ^ (t + 1) * (y % 2 ^ (63 - t)) := by rw [← q, Int.mul_emod_mul_of_pos _ _ (by omega)]
 have r0 := Int.emod_nonneg y (show (2 : Int) ^ (63 - t) ≠ 0 by have : (0 : Int) < 2 ^ (63 - t) := Int.pow_pos (by decide); omega)
 have r1 := Int.emod_lt_of_pos y (show (0 : Int) < 2 ^ (63 - t) from Int.pow_pos (by decide))
 have hb : 2 ^ (t + 1) * (y % 2 ^ (63 - t)) ≤ 2 ^ (t + 1) * (2 ^ (63 - t) - 1) := Int.mul_le_mul_of_nonneg_left (by omega) (by omega)
 rw [Int.mul_sub, q, Int.mul_one] at hb
 have hz : 2 ^ (t + 1) * (y % 2 ^ (63 - t)) % 2 ^ (t + 1) = 0 := Int.mul_emod_right _ _
 have ho := or_high_ (2 ^ (t + 1) * (y % 2 ^ (63 - t))) t ht (Int.mul_nonneg (by omega) r0) (by omega) hz
 have hn := Int.mul_nonneg (show (0 : Int) ≤ 2 ^ (t + 1) by omega) r0
 rw [← ha] at hb ho hn
 rw [e]
 rw [show ((t : Int)).toNat = t from rfl, wp]
 clear hz r0 r1 ha q e e' hy hm wp hd
 rw [pp] at hx hb ho hn
 generalize (2 : Int) ^ t = p at *
 generalize 2 * p * y = u at *
 unfold row5_
 obtain h | h | h | h : j = 0 ∨ j = 1 ∨ j = 2 ∨ j = 3 := by omega
 all_goals subst h
 all_goals simp only [show ((2 : Int) ^ 64) ^ 0 = 1 from rfl, show ((2 : Int) ^ 64) ^ 1 = 18446744073709551616 from rfl, show ((2 : Int) ^ 64) ^ 2 = 340282366920938463463374607431768211456 from rfl, show ((2 : Int) ^ 64) ^ 3 = 6277101735386680763835789423207666416102355444464034512896 from rfl] at hx ⊢
 ·have hw : w0_ x = u % 18446744073709551616 := by unfold w0_; omega
  simp only [if_true]
  rw [hw, ho]
  simp
  unfold w0_ w1_ w2_ w3_
  omega
 ·have hw : w1_ x = u % 18446744073709551616 := by unfold w1_; omega
  simp only [show ¬ (1 : Nat) = 0 by decide, if_true, if_false]
  rw [hw, ho]
  simp
  unfold w0_ w1_ w2_ w3_
  omega
 ·have hw : w2_ x = u % 18446744073709551616 := by unfold w2_; omega
  simp only [show ¬ (2 : Nat) = 0 by decide, show ¬ (2 : Nat) = 1 by decide, if_true, if_false]
  rw [hw, ho]
  simp
  unfold w0_ w1_ w2_ w3_
  omega
 ·have hw : w3_ x = u % 18446744073709551616 := by unfold w3_; omega
  simp only [show ¬ (3 : Nat) = 0 by decide, show ¬ (3 : Nat) = 1 by decide, show ¬ (3 : Nat) = 2 by decide, if_false]
  rw [hw, ho]
  simp
  unfold w0_ w1_ w2_ w3_
  omega
theorem sh_step_ (Z i : Int) (i0 : 0 ≤ i) : Z - Z % 2 ^ i.toNat = (Z - Z % 2 ^ (i + 1).toNat) + 2 ^ i.toNat * bitOf_ Z i := by
 rw [show (i + 1).toNat = i.toNat + 1 by omega, low_bits_]
 unfold bitOf_
 omega
theorem sh_bit_ (V m i : Int) (m0 : 0 ≤ m) (hi : m ≤ i) (i1 : i < 256) : bitOf_ (V * 2 ^ m.toNat % 2 ^ 256) i = bitOf_ V (i - m) := by
 unfold bitOf_
 have p : (0 : Int) < 2 ^ i.toNat := Int.pow_pos (by decide)
 have pm : (0 : Int) < 2 ^ m.toNat := Int.pow_pos (by decide)
 have e : (2 : Int) ^ 256 = 2 ^ i.toNat * (2 * 2 ^ (255 - i.toNat)) := by
  rw [Int.mul_comm 2, ← Int.pow_succ, ← Int.pow_add]; congr 1; omega
 have d := Int.mul_ediv_add_emod (V * 2 ^ m.toNat) (2 ^ 256)
 have h1 : V * 2 ^ m.toNat % 2 ^ 256 = V * 2 ^ m.toNat + 2 ^ i.toNat * (2 * 2 ^ (255 - i.toNat) * -(V * 2 ^ m.toNat / 2 ^ 256)) := by
  rw [← Int.mul_assoc, ← e, Int.mul_neg]; omega
 rw [h1, Int.add_mul_ediv_left _ _ (by omega), Int.mul_assoc 2, Int.add_mul_emod_self_left]
 have h2 : (2 : Int) ^ i.toNat = 2 ^ (i - m).toNat * 2 ^ m.toNat := by rw [← Int.pow_add]; congr 1; omega
 rw [h2, Int.mul_ediv_mul_of_pos_left _ _ pm]
theorem sh_low_ (Z i : Int) : (Z - Z % 2 ^ (i + 1).toNat) % 2 ^ (i + 1).toNat = 0 := by
 rw [Int.sub_emod, Int.emod_emod, Int.sub_self]; simp
theorem sh_end_ (V m : Int) (m0 : 0 ≤ m) (m1 : m ≤ 256) : (V * 2 ^ m.toNat % 2 ^ 256) - (V * 2 ^ m.toNat % 2 ^ 256) % 2 ^ m.toNat = V * 2 ^ m.toNat % 2 ^ 256 := by
 have e : (2 : Int) ^ 256 = 2 ^ m.toNat * 2 ^ (256 - m.toNat) := by rw [← Int.pow_add]; congr 1; omega
 have : (V * 2 ^ m.toNat % 2 ^ 256) % 2 ^ m.toNat = 0 := by
  rw [e, Int.emod_emod_of_dvd _ (Int.dvd_mul_right ..), Int.mul_emod_left]
 omega
def carouselref1_Shifted.f (a0_0 : Bool) (a0_1 : Int) (a0_2 : Int) (a0_3 : Int) (a0_4 : Int) (a1 : Int) : Option (Bool × Int × Int × Int × Int) := if ok_ a0_1 a0_2 a0_3 a0_4 ∧ 0 ≤ a1 ∧ a1 ≤ 255 then some (a0_0, w0_ (bv_ a0_1 a0_2 a0_3 a0_4 * 2 ^ a1.toNat % 2 ^ 256), w1_ (bv_ a0_1 a0_2 a0_3 a0_4 * 2 ^ a1.toNat % 2 ^ 256), w2_ (bv_ a0_1 a0_2 a0_3 a0_4 * 2 ^ a1.toNat % 2 ^ 256), w3_ (bv_ a0_1 a0_2 a0_3 a0_4 * 2 ^ a1.toNat % 2 ^ 256)) else none
set_option maxHeartbeats 8000000 in
set_option maxRecDepth 100000 in
theorem carouselref1_Shifted.calls (a0_0 : Bool) (a0_1 : Int) (a0_2 : Int) (a0_3 : Int) (a0_4 : Int) (a1 : Int) (r1 : Bool) (r2 : Int) (r3 : Int) (r4 : Int) (r5 : Int) (w : World) (h : carouselref1_Shifted.f a0_0 a0_1 a0_2 a0_3 a0_4 a1 = some (r1, r2, r3, r4, r5)) :
  Calls Tryd.prog 30 #[.agg #[.bool a0_0, .int .u64 a0_1, .int .u64 a0_2, .int .u64 a0_3, .int .u64 a0_4], .int .i64 a1] w fun e w' => e = .returned (.agg #[.bool r1, .int .u64 r2, .int .u64 r3, .int .u64 r4, .int .u64 r5]) ∧ Below w.heap.size w w' := by
 unfold carouselref1_Shifted.f at h
 by_cases hc : ok_ a0_1 a0_2 a0_3 a0_4 ∧ 0 ≤ a1 ∧ a1 ≤ 255
 case neg => rw [if_neg hc] at h; cases h
 rw [if_pos hc] at h
 simp only [Option.some.injEq, Prod.mk.injEq] at h
 obtain ⟨rfl, rfl, rfl, rfl, rfl⟩ := h
 obtain ⟨hok, m0, m1⟩ := hc
 have sb : ∀ w i, 0 ≤ i → i < 256 → Calls Tryd.prog 47 #[.agg #[.int .u64 a0_1, .int .u64 a0_2, .int .u64 a0_3, .int .u64 a0_4], .int .i64 i] w fun e w' => e = .returned (.int .u64 (bitOf_ (bv_ a0_1 a0_2 a0_3 a0_4) i)) ∧ Below w.heap.size w w' := by
  intro w i i0 i1
  have := carouselref1_bit.calls a0_1 a0_2 a0_3 a0_4 i _ w (show carouselref1_bit.f a0_1 a0_2 a0_3 a0_4 i = some _ by unfold carouselref1_bit.f; rw [if_pos ⟨i0, i1⟩])
  have e := bit_eq_ a0_1 a0_2 a0_3 a0_4 i hok i0 i1
  rw [← e]
  exact this
 have hu39 := Tryd.underlying39
 have hu41 := Tryd.underlying41
 have SB := Aside0.mk sb
 have M0 := Aside0.mk m0
 have M1 := Aside0.mk m1
 clear sb m0 m1 hok
 obtain ⟨z, hz⟩ : ∃ z, z = (bv_ a0_1 a0_2 a0_3 a0_4 * 2 ^ a1.toNat % 2 ^ 256) := ⟨_, rfl⟩
 have z0 : 0 ≤ z ∧ z < 115792089237316195423570985008687907853269984665640564039457584007913129639936 := by
  rw [hz]
  exact ⟨Int.emod_nonneg _ (by decide), Int.emod_lt_of_pos _ (by decide)⟩
 rw [← hz]
 have HZ := Aside0.mk hz
 have Z0 := Aside0.mk z0
 clear hz z0
 go_enter Tryd.func30, Tryd.ntmps30
 go_wp2
 go_loopg [6] (256 - a1).toNat (fun kq v6 w' => ∃ (i : Int), v6 = .int .i64 i ∧ Aside0 (a1 - 1 ≤ i ∧ i ≤ 255) ∧ Aside0 (kq = (i + 1 - a1).toNat) ∧ Aside0 (Mem5_ w 41 a0_0 a0_1 a0_2 a0_3 a0_4 a0_0 (z - z % 2 ^ (i + 1).toNat) w'))
 case atStart => exact ⟨255, rfl, ⟨by have := M1.out; omega⟩, ⟨by omega⟩, ⟨mem5_start_ w 41 a0_0 a0_0 a0_1 a0_2 a0_3 a0_4 _ (by have := Int.emod_eq_of_lt Z0.out.1 Z0.out.2; have e : (2 : Int) ^ ((255 : Int) + 1).toNat = 115792089237316195423570985008687907853269984665640564039457584007913129639936 := rfl; rw [e]; omega)⟩⟩
 case round =>
  obtain ⟨i, rfl, HI, HK, HM⟩ := hrel
  obtain ⟨x, hx⟩ : ∃ x, x = z - z % 2 ^ (i + 1).toNat := ⟨_, rfl⟩
  rw [← hx] at HM
  have HX := Aside0.mk hx
  clear hx
  by_cases c : a1 ≤ i
  case neg =>
   have cb : decide (a1 ≤ i) = false := decide_eq_false c
   have im : i + 1 = a1 := by have := HI.out; omega
   have hxz : x = z := by rw [HX.out, im, HZ.out]; exact sh_end_ _ a1 M0.out (by have := M1.out; omega)
   subst hxz
   clear c
   have hx_0 : wr.cell? ⟨w.heap.size + 1 + 1, 0, none⟩ = some (.bool a0_0) := (blk_cell HM.out.2.2.1 0).trans rfl
   have fx_0 := blk_frozen HM.out.2.2.1 0
   have hx_1 : wr.cell? ⟨w.heap.size + 1 + 1, 1, none⟩ = some (.int .u64 (w0_ x)) := (blk_cell HM.out.2.2.1 1).trans rfl
   have fx_1 := blk_frozen HM.out.2.2.1 1
   have hx_2 : wr.cell? ⟨w.heap.size + 1 + 1, 2, none⟩ = some (.int .u64 (w1_ x)) := (blk_cell HM.out.2.2.1 2).trans rfl
   have fx_2 := blk_frozen HM.out.2.2.1 2
   have hx_3 : wr.cell? ⟨w.heap.size + 1 + 1, 3, none⟩ = some (.int .u64 (w2_ x)) := (blk_cell HM.out.2.2.1 3).trans rfl
   have fx_3 := blk_frozen HM.out.2.2.1 3
   have hx_4 : wr.cell? ⟨w.heap.size + 1 + 1, 4, none⟩ = some (.int .u64 (w3_ x)) := (blk_cell HM.out.2.2.1 4).trans rfl
   have fx_4 := blk_frozen HM.out.2.2.1 4
   have hy_0 : wr.cell? ⟨w.heap.size + 1, 0, none⟩ = some (.bool false) := (blk_cell HM.out.2.1 0).trans rfl
   have fy_0 := blk_frozen HM.out.2.1 0
   have hy_1 : wr.cell? ⟨w.heap.size + 1, 1, none⟩ = some (.int .u64 0) := (blk_cell HM.out.2.1 1).trans rfl
   have fy_1 := blk_frozen HM.out.2.1 1
   have hy_2 : wr.cell? ⟨w.heap.size + 1, 2, none⟩ = some (.int .u64 0) := (blk_cell HM.out.2.1 2).trans rfl
   have fy_2 := blk_frozen HM.out.2.1 2
   have hy_3 : wr.cell? ⟨w.heap.size + 1, 3, none⟩ = some (.int .u64 0) := (blk_cell HM.out.2.1 3).trans rfl
   have fy_3 := blk_frozen HM.out.2.1 3
   have hy_4 : wr.cell? ⟨w.heap.size + 1, 4, none⟩ = some (.int .u64 0) := (blk_cell HM.out.2.1 4).trans rfl
   have fy_4 := blk_frozen HM.out.2.1 4
   go_wp2
   have E := end5_ w wr (w.heap.size + 1) (by omega) 41 _ _ _ _ _ (.bool a0_0) (.int .u64 (w0_ x)) (.int .u64 (w1_ x)) (.int .u64 (w2_ x)) (.int .u64 (w3_ x)) HM.out.2.1 HM.out.2.2.2
   exact bodyPost_ret (results_cell_row rfl _ _ (w.heap.size + 1) 41 (row5_ a0_0 x) (0, 0) _ rfl E.1 hu41 rfl (by kernel_rfl)) rfl ⟨rfl, E.2⟩
  case pos =>
   have C := Aside0.mk c
   have cb : decide (a1 ≤ i) = true := decide_eq_true c
   obtain ⟨d, hd⟩ : ∃ d, d = i - a1 := ⟨_, rfl⟩
   have i0 : 0 ≤ i ∧ i ≤ 255 := by have := HI.out; have := M0.out; omega
   have d0 : 0 ≤ d ∧ d < 256 := by have := M0.out; omega
   have I0 := Aside0.mk i0
   have wd : wrap64 (i - a1) = d := by unfold wrap64; omega
   have D0 : Aside0 (0 ≤ wrap64 (i - a1) ∧ wrap64 (i - a1) < 256) := ⟨by rw [wd]; exact d0⟩
   have w1 : wrap64 (i - 1) = i - 1 := by unfold wrap64; omega
   have NB := Aside0.mk (sh_step_ z i i0.1)
   have SBT : Aside0 (bitOf_ z i = bitOf_ (bv_ a0_1 a0_2 a0_3 a0_4) (wrap64 (i - a1))) := ⟨by rw [HZ.out, wd, hd]; exact sh_bit_ _ a1 i M0.out c (by omega)⟩
   obtain ⟨s, hs⟩ : ∃ s, s = i % 64 := ⟨_, rfl⟩
   have s0 : 0 ≤ s := by omega
   have s1 : s < 64 := by omega
   have e2 : i.tmod 64 = s := by rw [Int.tmod_eq_emod_of_nonneg (by omega)]; omega
   clear c hd d0 wd
   have ha_0 : wr.cell? ⟨w.heap.size, 0, none⟩ = some (.bool a0_0) := (blk_cell HM.out.1 0).trans rfl
   have fa_0 := blk_frozen HM.out.1 0
   have ha_1 : wr.cell? ⟨w.heap.size, 1, none⟩ = some (.int .u64 a0_1) := (blk_cell HM.out.1 1).trans rfl
   have fa_1 := blk_frozen HM.out.1 1
   have ha_2 : wr.cell? ⟨w.heap.size, 2, none⟩ = some (.int .u64 a0_2) := (blk_cell HM.out.1 2).trans rfl
   have fa_2 := blk_frozen HM.out.1 2
   have ha_3 : wr.cell? ⟨w.heap.size, 3, none⟩ = some (.int .u64 a0_3) := (blk_cell HM.out.1 3).trans rfl
   have fa_3 := blk_frozen HM.out.1 3
   have ha_4 : wr.cell? ⟨w.heap.size, 4, none⟩ = some (.int .u64 a0_4) := (blk_cell HM.out.1 4).trans rfl
   have fa_4 := blk_frozen HM.out.1 4
   by_cases b1 : bitOf_ (bv_ a0_1 a0_2 a0_3 a0_4) (wrap64 (i - a1)) = 1
   case neg =>
    have bb : (bitOf_ (bv_ a0_1 a0_2 a0_3 a0_4) (wrap64 (i - a1)) == 1) = false := by simp [b1]
    have B0 : Aside0 (bitOf_ (bv_ a0_1 a0_2 a0_3 a0_4) (wrap64 (i - a1)) = 0) := ⟨by unfold bitOf_ at b1 ⊢; omega⟩
    clear b1 hs i0
    go_wp2_with (((with_reducible refine gate_dst (N := 20) rfl ?_); refine zg_ (some 20) Tryd.func47 #[.agg #[.int .u64 a0_1, .int .u64 a0_2, .int .u64 a0_3, .int .u64 a0_4], .int .i64 (wrap64 (i - a1))] (h := ?_); (with_reducible refine (SB.out _ (wrap64 (i - a1)) D0.out.1 D0.out.2).mono ?_); rintro e w4 ⟨rfl, hb⟩; refine ⟨_, rfl, ?_⟩; have HM4 := Aside0.mk (mem5_call_ HM.out hb); clear hb; have hq_0 : w4.cell? ⟨w.heap.size + 1 + 1, 0, none⟩ = some (.bool a0_0) := (blk_cell HM4.out.2.2.1 0).trans rfl; have fq_0 := blk_frozen HM4.out.2.2.1 0; have hq_1 : w4.cell? ⟨w.heap.size + 1 + 1, 1, none⟩ = some (.int .u64 (w0_ x)) := (blk_cell HM4.out.2.2.1 1).trans rfl; have fq_1 := blk_frozen HM4.out.2.2.1 1; have hq_2 : w4.cell? ⟨w.heap.size + 1 + 1, 2, none⟩ = some (.int .u64 (w1_ x)) := (blk_cell HM4.out.2.2.1 2).trans rfl; have fq_2 := blk_frozen HM4.out.2.2.1 2; have hq_3 : w4.cell? ⟨w.heap.size + 1 + 1, 3, none⟩ = some (.int .u64 (w2_ x)) := (blk_cell HM4.out.2.2.1 3).trans rfl; have fq_3 := blk_frozen HM4.out.2.2.1 3; have hq_4 : w4.cell? ⟨w.heap.size + 1 + 1, 4, none⟩ = some (.int .u64 (w3_ x)) := (blk_cell HM4.out.2.2.1 4).trans rfl; have fq_4 := blk_frozen HM4.out.2.2.1 4))
    go_roundg (i - a1).toNat
    case measure => have := HK.out; have := C.out; omega
    case rel => exact ⟨i - 1, by first | rfl | rw [w1], ⟨by have := HI.out; have := C.out; omega⟩, ⟨by congr 1; omega⟩, ⟨by rw [show i - 1 + 1 = i by omega, NB.out, SBT.out, B0.out, Int.mul_zero, Int.add_zero, ← HX.out]; exact HM4.out⟩⟩
   case pos =>
    have bb : (bitOf_ (bv_ a0_1 a0_2 a0_3 a0_4) (wrap64 (i - a1)) == 1) = true := by simp [b1]
    have B1 := Aside0.mk b1
    clear b1
    have xb : 0 ≤ x ∧ x < 115792089237316195423570985008687907853269984665640564039457584007913129639936 := by
     rw [HX.out]
     have p : (0 : Int) < 2 ^ (i + 1).toNat := Int.pow_pos (by decide)
     have q1 := Int.emod_nonneg z (show (2 : Int) ^ (i + 1).toNat ≠ 0 by omega)
     have q2 := Int.mul_ediv_add_emod z (2 ^ (i + 1).toNat)
     have q3 := Int.mul_nonneg (Int.le_of_lt p) (Int.ediv_nonneg Z0.out.1 (Int.le_of_lt p))
     have := Z0.out
     omega
    have xm : x % 2 ^ (i.toNat + 1) = 0 := by rw [HX.out, show i.toNat + 1 = (i + 1).toNat by omega]; exact sh_low_ z i
    have XB := Aside0.mk xb
    have XM := Aside0.mk xm
    clear xb xm
    by_cases j0 : i / 64 = 0
    case pos =>
     have e1 : i.tdiv 64 = 0 := by rw [Int.tdiv_eq_ediv_of_nonneg (by omega)]; omega
     have E := Aside0.mk (set_hi_ x i s 0 (by omega) (by decide) s0 s1 XB.out.1 XB.out.2 XM.out a0_0)
     clear hs i0 j0
     go_wp2_with (((with_reducible refine gate_dst (N := 20) rfl ?_); refine zg_ (some 20) Tryd.func47 #[.agg #[.int .u64 a0_1, .int .u64 a0_2, .int .u64 a0_3, .int .u64 a0_4], .int .i64 (wrap64 (i - a1))] (h := ?_); (with_reducible refine (SB.out _ (wrap64 (i - a1)) D0.out.1 D0.out.2).mono ?_); rintro e w4 ⟨rfl, hb⟩; refine ⟨_, rfl, ?_⟩; have HM4 := Aside0.mk (mem5_call_ HM.out hb); clear hb; have hq_0 : w4.cell? ⟨w.heap.size + 1 + 1, 0, none⟩ = some (.bool a0_0) := (blk_cell HM4.out.2.2.1 0).trans rfl; have fq_0 := blk_frozen HM4.out.2.2.1 0; have hq_1 : w4.cell? ⟨w.heap.size + 1 + 1, 1, none⟩ = some (.int .u64 (w0_ x)) := (blk_cell HM4.out.2.2.1 1).trans rfl; have fq_1 := blk_frozen HM4.out.2.2.1 1; have hq_2 : w4.cell? ⟨w.heap.size + 1 + 1, 2, none⟩ = some (.int .u64 (w1_ x)) := (blk_cell HM4.out.2.2.1 2).trans rfl; have fq_2 := blk_frozen HM4.out.2.2.1 2; have hq_3 : w4.cell? ⟨w.heap.size + 1 + 1, 3, none⟩ = some (.int .u64 (w2_ x)) := (blk_cell HM4.out.2.2.1 3).trans rfl; have fq_3 := blk_frozen HM4.out.2.2.1 3; have hq_4 : w4.cell? ⟨w.heap.size + 1 + 1, 4, none⟩ = some (.int .u64 (w3_ x)) := (blk_cell HM4.out.2.2.1 4).trans rfl; have fq_4 := blk_frozen HM4.out.2.2.1 4))
     go_roundg (i - a1).toNat
     case measure => have := HK.out; have := C.out; omega
     case rel => exact ⟨i - 1, by first | rfl | rw [w1], ⟨by have := HI.out; have := C.out; omega⟩, ⟨by congr 1; omega⟩, ⟨mem5_set_ HM4.out _ _ _ (by rw [show i - 1 + 1 = i by omega, NB.out, SBT.out, B1.out, Int.mul_one, ← HX.out]; exact E.out)⟩⟩
    case neg =>
     by_cases j1 : i / 64 = 1
     case pos =>
      have e1 : i.tdiv 64 = 1 := by rw [Int.tdiv_eq_ediv_of_nonneg (by omega)]; omega
      have E := Aside0.mk (set_hi_ x i s 1 (by omega) (by decide) s0 s1 XB.out.1 XB.out.2 XM.out a0_0)
      clear hs i0 j0 j1
      go_wp2_with (((with_reducible refine gate_dst (N := 20) rfl ?_); refine zg_ (some 20) Tryd.func47 #[.agg #[.int .u64 a0_1, .int .u64 a0_2, .int .u64 a0_3, .int .u64 a0_4], .int .i64 (wrap64 (i - a1))] (h := ?_); (with_reducible refine (SB.out _ (wrap64 (i - a1)) D0.out.1 D0.out.2).mono ?_); rintro e w4 ⟨rfl, hb⟩; refine ⟨_, rfl, ?_⟩; have HM4 := Aside0.mk (mem5_call_ HM.out hb); clear hb; have hq_0 : w4.cell? ⟨w.heap.size + 1 + 1, 0, none⟩ = some (.bool a0_0) := (blk_cell HM4.out.2.2.1 0).trans rfl; have fq_0 := blk_frozen HM4.out.2.2.1 0; have hq_1 : w4.cell? ⟨w.heap.size + 1 + 1, 1, none⟩ = some (.int .u64 (w0_ x)) := (blk_cell HM4.out.2.2.1 1).trans rfl; have fq_1 := blk_frozen HM4.out.2.2.1 1; have hq_2 : w4.cell? ⟨w.heap.size + 1 + 1, 2, none⟩ = some (.int .u64 (w1_ x)) := (blk_cell HM4.out.2.2.1 2).trans rfl; have fq_2 := blk_frozen HM4.out.2.2.1 2; have hq_3 : w4.cell? ⟨w.heap.size + 1 + 1, 3, none⟩ = some (.int .u64 (w2_ x)) := (blk_cell HM4.out.2.2.1 3).trans rfl; have fq_3 := blk_frozen HM4.out.2.2.1 3; have hq_4 : w4.cell? ⟨w.heap.size + 1 + 1, 4, none⟩ = some (.int .u64 (w3_ x)) := (blk_cell HM4.out.2.2.1 4).trans rfl; have fq_4 := blk_frozen HM4.out.2.2.1 4))
      go_roundg (i - a1).toNat
      case measure => have := HK.out; have := C.out; omega
      case rel => exact ⟨i - 1, by first | rfl | rw [w1], ⟨by have := HI.out; have := C.out; omega⟩, ⟨by congr 1; omega⟩, ⟨mem5_set_ HM4.out _ _ _ (by rw [show i - 1 + 1 = i by omega, NB.out, SBT.out, B1.out, Int.mul_one, ← HX.out]; exact E.out)⟩⟩
     case neg =>
      by_cases j2 : i / 64 = 2
      case pos =>
       have e1 : i.tdiv 64 = 2 := by rw [Int.tdiv_eq_ediv_of_nonneg (by omega)]; omega
       have E := Aside0.mk (set_hi_ x i s 2 (by omega) (by decide) s0 s1 XB.out.1 XB.out.2 XM.out a0_0)
       clear hs i0 j0 j1 j2
       go_wp2_with (((with_reducible refine gate_dst (N := 20) rfl ?_); refine zg_ (some 20) Tryd.func47 #[.agg #[.int .u64 a0_1, .int .u64 a0_2, .int .u64 a0_3, .int .u64 a0_4], .int .i64 (wrap64 (i - a1))] (h := ?_); (with_reducible refine (SB.out _ (wrap64 (i - a1)) D0.out.1 D0.out.2).mono ?_); rintro e w4 ⟨rfl, hb⟩; refine ⟨_, rfl, ?_⟩; have HM4 := Aside0.mk (mem5_call_ HM.out hb); clear hb; have hq_0 : w4.cell? ⟨w.heap.size + 1 + 1, 0, none⟩ = some (.bool a0_0) := (blk_cell HM4.out.2.2.1 0).trans rfl; have fq_0 := blk_frozen HM4.out.2.2.1 0; have hq_1 : w4.cell? ⟨w.heap.size + 1 + 1, 1, none⟩ = some (.int .u64 (w0_ x)) := (blk_cell HM4.out.2.2.1 1).trans rfl; have fq_1 := blk_frozen HM4.out.2.2.1 1; have hq_2 : w4.cell? ⟨w.heap.size + 1 + 1, 2, none⟩ = some (.int .u64 (w1_ x)) := (blk_cell HM4.out.2.2.1 2).trans rfl; have fq_2 := blk_frozen HM4.out.2.2.1 2; have hq_3 : w4.cell? ⟨w.heap.size + 1 + 1, 3, none⟩ = some (.int .u64 (w2_ x)) := (blk_cell HM4.out.2.2.1 3).trans rfl; have fq_3 := blk_frozen HM4.out.2.2.1 3; have hq_4 : w4.cell? ⟨w.heap.size + 1 + 1, 4, none⟩ = some (.int .u64 (w3_ x)) := (blk_cell HM4.out.2.2.1 4).trans rfl; have fq_4 := blk_frozen HM4.out.2.2.1 4))
       go_roundg (i - a1).toNat
       case measure => have := HK.out; have := C.out; omega
       case rel => exact ⟨i - 1, by first | rfl | rw [w1], ⟨by have := HI.out; have := C.out; omega⟩, ⟨by congr 1; omega⟩, ⟨mem5_set_ HM4.out _ _ _ (by rw [show i - 1 + 1 = i by omega, NB.out, SBT.out, B1.out, Int.mul_one, ← HX.out]; exact E.out)⟩⟩
      case neg =>
       have j3 : i / 64 = 3 := by omega
       have e1 : i.tdiv 64 = 3 := by rw [Int.tdiv_eq_ediv_of_nonneg (by omega)]; omega
       have E := Aside0.mk (set_hi_ x i s 3 (by omega) (by decide) s0 s1 XB.out.1 XB.out.2 XM.out a0_0)
       clear hs i0 j0 j1 j2 j3
       go_wp2_with (((with_reducible refine gate_dst (N := 20) rfl ?_); refine zg_ (some 20) Tryd.func47 #[.agg #[.int .u64 a0_1, .int .u64 a0_2, .int .u64 a0_3, .int .u64 a0_4], .int .i64 (wrap64 (i - a1))] (h := ?_); (with_reducible refine (SB.out _ (wrap64 (i - a1)) D0.out.1 D0.out.2).mono ?_); rintro e w4 ⟨rfl, hb⟩; refine ⟨_, rfl, ?_⟩; have HM4 := Aside0.mk (mem5_call_ HM.out hb); clear hb; have hq_0 : w4.cell? ⟨w.heap.size + 1 + 1, 0, none⟩ = some (.bool a0_0) := (blk_cell HM4.out.2.2.1 0).trans rfl; have fq_0 := blk_frozen HM4.out.2.2.1 0; have hq_1 : w4.cell? ⟨w.heap.size + 1 + 1, 1, none⟩ = some (.int .u64 (w0_ x)) := (blk_cell HM4.out.2.2.1 1).trans rfl; have fq_1 := blk_frozen HM4.out.2.2.1 1; have hq_2 : w4.cell? ⟨w.heap.size + 1 + 1, 2, none⟩ = some (.int .u64 (w1_ x)) := (blk_cell HM4.out.2.2.1 2).trans rfl; have fq_2 := blk_frozen HM4.out.2.2.1 2; have hq_3 : w4.cell? ⟨w.heap.size + 1 + 1, 3, none⟩ = some (.int .u64 (w2_ x)) := (blk_cell HM4.out.2.2.1 3).trans rfl; have fq_3 := blk_frozen HM4.out.2.2.1 3; have hq_4 : w4.cell? ⟨w.heap.size + 1 + 1, 4, none⟩ = some (.int .u64 (w3_ x)) := (blk_cell HM4.out.2.2.1 4).trans rfl; have fq_4 := blk_frozen HM4.out.2.2.1 4))
       go_roundg (i - a1).toNat
       case measure => have := HK.out; have := C.out; omega
       case rel => exact ⟨i - 1, by first | rfl | rw [w1], ⟨by have := HI.out; have := C.out; omega⟩, ⟨by congr 1; omega⟩, ⟨mem5_set_ HM4.out _ _ _ (by rw [show i - 1 + 1 = i by omega, NB.out, SBT.out, B1.out, Int.mul_one, ← HX.out]; exact E.out)⟩⟩

/-! ### carouselref1_size: function 36 -/
def carouselref1_size.f (a0 : Int) : Option (Int) := if a0 < 0 then (some (IntKind.u64.wrap ((IntKind.u64.wrap (wrap64 (-(wrap64 (a0 + 1))))) + 1))) else (some (IntKind.u64.wrap (a0)))
set_option maxHeartbeats 8000000 in
set_option maxRecDepth 100000 in
theorem carouselref1_size.calls (a0 : Int) (r : Int) (w : World) (h : carouselref1_size.f a0 = some r) :
  Calls Tryd.prog 36 #[.int .i64 a0] w fun e w' => e = .returned (.int .u64 r) ∧ Drawn0 w w' := by
 have H : (if a0 < 0 then (some (IntKind.u64.wrap ((IntKind.u64.wrap (wrap64 (-(wrap64 (a0 + 1))))) + 1))) else (some (IntKind.u64.wrap (a0)))) = some r := h
 clear h
 by_cases c2 : a0 < 0
 ·rw [if_pos c2] at H
  have c2b0 : decide (a0 < 0) = true := decide_eq_true c2
  clear c2
  obtain rfl := Option.some.inj H
  go_enter Tryd.func36, Tryd.ntmps36
  go_wp2
  go_ret
  exact ⟨by first | rfl | (simp; done) | (simp [*]; done), by repeat (first | exact Drawn0.refl _ | apply Drawn0.step)⟩
 rw [if_neg c2] at H
 have c2b0 : decide (a0 < 0) = false := decide_eq_false c2
 clear c2
 obtain rfl := Option.some.inj H
 go_enter Tryd.func36, Tryd.ntmps36
 go_wp2
 go_ret
 exact ⟨by first | rfl | (simp; done) | (simp [*]; done), by repeat (first | exact Drawn0.refl _ | apply Drawn0.step)⟩

/-! ### carouselref1_From: function 31 -/
def carouselref1_From.f (a0 : Int) : Option (Bool × Int × Int × Int × Int) := (carouselref1_size.f a0).bind fun t161 => (some (decide (a0 < 0), t161, 0, 0, 0))
set_option maxHeartbeats 8000000 in
set_option maxRecDepth 100000 in
theorem carouselref1_From.calls (a0 : Int) (r1 : Bool) (r2 : Int) (r3 : Int) (r4 : Int) (r5 : Int) (w : World) (h : carouselref1_From.f a0 = some (r1, r2, r3, r4, r5)) :
  Calls Tryd.prog 31 #[.int .i64 a0] w fun e w' => e = .returned (.agg #[.bool r1, .int .u64 r2, .int .u64 r3, .int .u64 r4, .int .u64 r5]) ∧ Below w.heap.size w w' := by
 have hu41 := Tryd.underlying41
 have hu39 := Tryd.underlying39
 have HB := Aside0.mk (Below.refl w.heap.size w)
 have H : ((carouselref1_size.f a0).bind fun t161 => (some (decide (a0 < 0), t161, 0, 0, 0))) = some (r1, r2, r3, r4, r5) := h
 clear h
 replace H := Option.bind_eq_some_iff.mp H
 obtain ⟨t161, A20, H⟩ := H
 replace H : (some (decide (a0 < 0), t161, 0, 0, 0)) = some (r1, r2, r3, r4, r5) := H
 have A2 := Aside0.mk A20
 clear A20
 simp only [Option.some.injEq, Prod.mk.injEq] at H
 obtain ⟨rfl, rfl, rfl, rfl, rfl⟩ := H
 go_enter Tryd.func31, Tryd.ntmps31
 go_wp2_with (first | ((with_reducible refine gate_dst (N := 2) rfl ?_); refine box_event ?hg (N := 2) ?hd (cs := #[.bool false, .int .u64 0, .int .u64 0, .int .u64 0, .int .u64 0]) (t := 41) ?hr ?_; (case hd => rfl); (case hg => rfl); (case hr => first | (go_simp; done) | (go_simp; rfl)); intro gb160 hg w3 hbox hb; have BK160 := Aside0.mk (hbox); have GW160 := Aside0.mk (zs_ hg (zw0_ HB)); have GE160 := Aside0.mk (zs_ hg (zw0_ HB)); replace HB := Aside0.mk (below_step (zw0_ HB) hb); clear hb hbox hg) | ((with_reducible refine gate_callee (f := 36) rfl ?_); refine zg_ (some 6) Tryd.func36 #[.int .i64 a0] (h := ?_); (with_reducible refine (carouselref1_size.calls a0 t161 _ A2.out).mono ?_); rintro e w' ⟨rfl, ⟨nd, rfl⟩⟩; refine ⟨_, rfl, ?_⟩; (try (rw [drewN_self w3]; generalize hq_ : World.drewN w3 _ = w3; have n0_ : Aside0 (w3.heap[gb160]? = some (.cells #[.bool false, .int .u64 0, .int .u64 0, .int .u64 0, .int .u64 0] 41 (0, 0))) := ⟨by rw [← hq_]; exact (zb_ BK160)⟩; have n1_ : Aside0 (Below w.heap.size w w3) := ⟨by rw [← hq_]; exact (zw1_ HB GE160)⟩; clear BK160 HB hq_; have BK160 := n0_; have HB := n1_; clear n0_ n1_)); have hcz4_0 := zx_ (v := .bool false) BK160 0; have hcz4_1 := zx_ (v := .int .u64 0) BK160 1; have hcz4_2 := zx_ (v := .int .u64 0) BK160 2; have hcz4_3 := zx_ (v := .int .u64 0) BK160 3; have hcz4_4 := zx_ (v := .int .u64 0) BK160 4; have hfz4_0 := blk_frozen BK160.out 0; have hfz4_1 := blk_frozen BK160.out 1; have hfz4_2 := blk_frozen BK160.out 2; have hfz4_3 := blk_frozen BK160.out 3; have hfz4_4 := blk_frozen BK160.out 4))
 refine bodyPost_ret (results_cell_row rfl _ _ gb160 41 #[.bool (decide (a0 < 0)), .int .u64 t161, .int .u64 0, .int .u64 0, .int .u64 0] (0, 0) _ rfl (zo5_ BK160) Tryd.underlying41 rfl (by kernel_rfl)) rfl ?_
 exact ⟨z0_, zw1_ HB GE160⟩

end Go.Proofs.YtjiloachlemlcaaDoor.PFixSays
