/- The functions that the law ConvBacks reaches, as Lean functions, and that each call of the Go function does what its Lean function says, wherever that one answers. Written by a program of mine over the print of the kit; Lean checks it. -/
import Derived.Test.YtcipfhlcgnomaaaPConvBacksx0
import Derived.Test.YtcipfhlcgnomaaaPConvBacksx9
namespace Go.Proofs.Ytcipfhlcgnomaaa.PConvBacks
open Go.RowKit Go.Proofs.YtcipfhlcgnomaaaW.PrintWords Go.Proofs.YtcipfhlcgnomaaaW.PrintLast Go.Proofs.YtcipfhlcgnomaaaW.PrintMore
attribute [local go_sem] max2_int min2_int max_two min_two max_three min_three max_four min_four   -- for this text's walks alone
set_option linter.unusedVariables false
set_option linter.unusedSimpArgs false

/-! ### carouselref1_Held: function 37 -/
def carouselref1_Held.j0 : Nat → Bool → Bool → Int → Int → Int → Int → Option (Int)
 | 0, _, _, _, _, _, _ => none
 | k + 1, x20, x314000, x314001, x314002, x314003, x314004 => if x20 = true then (if x314000 = true then (some (-9223372036854775808)) else (some 9223372036854775807)) else (if x314000 = true then (some (wrap64 (-(wrap64 (x314001))))) else (some (wrap64 (x314001))))
def carouselref1_Held.f (k : Nat) (a0_0 : Bool) (a0_1 : Int) (a0_2 : Int) (a0_3 : Int) (a0_4 : Int) : Option (Int) := if (Go.bits .or .u64 (Go.bits .or .u64 a0_2 a0_3) a0_4) = 0 then (carouselref1_Held.j0 k (decide (a0_1 ≥ 9223372036854775808)) a0_0 a0_1 a0_2 a0_3 a0_4) else (carouselref1_Held.j0 k true a0_0 a0_1 a0_2 a0_3 a0_4)
theorem carouselref1_Held.mono_l : ∀ k, (∀ y0 y1 y2 y3 y4 y5, LeO (carouselref1_Held.j0 k y0 y1 y2 y3 y4 y5) (carouselref1_Held.j0 (k + 1) y0 y1 y2 y3 y4 y5))
 | 0 => fun _ _ _ _ _ _ r h => by simp [carouselref1_Held.j0] at h
 | k + 1 => by
  have ih0 := carouselref1_Held.mono_l k
  ·intro y0 y1 y2 y3 y4 y5
   unfold carouselref1_Held.j0
   repeat' first
   | (with_reducible exact ih0 _ _ _ _ _ _)
   | (with_reducible exact LeO.refl _)
   | (with_reducible exact LeO.none _)
   | (with_reducible refine LeO.ite ?_ ?_)
   | (with_reducible refine LeO.bind ?_ (fun _ => ?_))
   | exact ih0 _ _ _ _ _ _
   | exact LeO.none _
   | refine LeO.ite ?_ ?_
   | refine LeO.bind ?_ (fun _ => ?_)
theorem carouselref1_Held.mono : ∀ a0 a1 a2 a3 a4 k, LeO (carouselref1_Held.f k a0 a1 a2 a3 a4) (carouselref1_Held.f (k + 1) a0 a1 a2 a3 a4) := by
 intro a0 a1 a2 a3 a4 k
 have ih0 := carouselref1_Held.mono_l k
 unfold carouselref1_Held.f
 repeat' first
   | (with_reducible exact ih0 _ _ _ _ _ _)
   | (with_reducible exact LeO.refl _)
   | (with_reducible exact LeO.none _)
   | (with_reducible refine LeO.ite ?_ ?_)
   | (with_reducible refine LeO.bind ?_ (fun _ => ?_))
   | exact ih0 _ _ _ _ _ _
   | exact LeO.none _
   | refine LeO.ite ?_ ?_
   | refine LeO.bind ?_ (fun _ => ?_)
set_option maxHeartbeats 8000000 in
set_option maxRecDepth 100000 in
theorem carouselref1_Held.calls (k : Nat) (a0_0 : Bool) (a0_1 : Int) (a0_2 : Int) (a0_3 : Int) (a0_4 : Int) (r : Int) (w : World) (h : carouselref1_Held.f k a0_0 a0_1 a0_2 a0_3 a0_4 = some r) :
  Calls Try.prog 37 #[.agg #[.bool a0_0, .int .u64 a0_1, .int .u64 a0_2, .int .u64 a0_3, .int .u64 a0_4]] w fun e w' => e = .returned (.int .i64 r) ∧ Below w.heap.size w w' := by
 have hu61 := Try.underlying61
 have HB := Aside0.mk (Below.refl w.heap.size w)
 have H : (if (Go.bits .or .u64 (Go.bits .or .u64 a0_2 a0_3) a0_4) = 0 then (carouselref1_Held.j0 k (decide (a0_1 ≥ 9223372036854775808)) a0_0 a0_1 a0_2 a0_3 a0_4) else (carouselref1_Held.j0 k true a0_0 a0_1 a0_2 a0_3 a0_4)) = some r := h
 clear h
 have HC2 := Aside0.mk H
 clear H
 go_enter Try.func37, Try.ntmps37
 go_upto_region 1 with (first | ((with_reducible refine gate_dst (N := 1) rfl ?_); refine box_event ?hg (N := 1) ?hd (cs := #[.bool a0_0, .int .u64 a0_1, .int .u64 a0_2, .int .u64 a0_3, .int .u64 a0_4]) (t := 61) ?hr ?_; (case hd => rfl); (case hg => rfl); (case hr => first | (go_simp; done) | (go_simp; rfl)); intro gb313 hg w3 hbox hb; have BK313 := Aside0.mk (hbox); have GW313 := Aside0.mk (zs_ hg (zw0_ HB)); have GE313 := Aside0.mk (zs_ hg (zw0_ HB)); replace HB := Aside0.mk (below_step (zw0_ HB) hb); clear hb hbox hg))
 (try simp only [Act.put, List.setIfInBounds_toArray, List.set_cons_zero, List.set_cons_succ])
 go_cut [20] (fun v20 wc => ∃ (kq : Nat) (x20_1 : Bool), v20 = .bool x20_1 ∧ Aside0 (carouselref1_Held.j0 kq x20_1 a0_0 a0_1 a0_2 a0_3 a0_4 = some r) ∧ Aside0 (kq ≤ k) ∧ Aside0 (wc.heap[gb313]? = some (.cells #[.bool a0_0, .int .u64 a0_1, .int .u64 a0_2, .int .u64 a0_3, .int .u64 a0_4] 61 (0, 0))) ∧ Aside0 (Below w.heap.size w wc))
 case first =>
  have H := HC2.out
  clear HC2
  by_cases c4 : (Go.bits .or .u64 (Go.bits .or .u64 a0_2 a0_3) a0_4) = 0
  rotate_left
  ·rw [if_neg c4] at H
   have c4b0 : ((Go.bits .or .u64 (Go.bits .or .u64 a0_2 a0_3) a0_4) == 0) = false := beq_eq_false_iff_ne.mpr c4
   have c4b1 : ((Go.bits .or .u64 (Go.bits .or .u64 a0_2 a0_3) a0_4) != 0) = true := bne_iff_ne.mpr c4
   (first | rw [c4b0] | (simp only [i64_w, i32_w]; rw [c4b0]) | skip)
   have H' := Aside0.mk H
   clear H
   have hcz6_0 := zx_ (v := .bool a0_0) BK313 0
   have hcz6_1 := zx_ (v := .int .u64 a0_1) BK313 1
   have hcz6_2 := zx_ (v := .int .u64 a0_2) BK313 2
   have hcz6_3 := zx_ (v := .int .u64 a0_3) BK313 3
   have hcz6_4 := zx_ (v := .int .u64 a0_4) BK313 4
   have hfz6_0 := blk_frozen BK313.out 0
   have hfz6_1 := blk_frozen BK313.out 1
   have hfz6_2 := blk_frozen BK313.out 2
   have hfz6_3 := blk_frozen BK313.out 3
   have hfz6_4 := blk_frozen BK313.out 4
   go_wp2
   go_meet
   case rel => exact ⟨_, (true), z1_, H', ⟨by first | omega | exact Nat.le_refl _⟩, ⟨zb_ BK313⟩, ⟨zw1_ HB GE313⟩⟩
  rw [if_pos c4] at H
  have c4b0 : ((Go.bits .or .u64 (Go.bits .or .u64 a0_2 a0_3) a0_4) == 0) = true := beq_iff_eq.mpr c4
  have c4b1 : ((Go.bits .or .u64 (Go.bits .or .u64 a0_2 a0_3) a0_4) != 0) = false := bne_eq_false_iff_eq.mpr c4
  clear c4
  (first | rw [c4b0] | (simp only [i64_w, i32_w]; rw [c4b0]) | skip)
  have H' := Aside0.mk H
  clear H
  have hcz5_0 := zx_ (v := .bool a0_0) BK313 0
  have hcz5_1 := zx_ (v := .int .u64 a0_1) BK313 1
  have hcz5_2 := zx_ (v := .int .u64 a0_2) BK313 2
  have hcz5_3 := zx_ (v := .int .u64 a0_3) BK313 3
  have hcz5_4 := zx_ (v := .int .u64 a0_4) BK313 4
  have hfz5_0 := blk_frozen BK313.out 0
  have hfz5_1 := blk_frozen BK313.out 1
  have hfz5_2 := blk_frozen BK313.out 2
  have hfz5_3 := blk_frozen BK313.out 3
  have hfz5_4 := blk_frozen BK313.out 4
  go_wp2
  go_meet
  case rel => exact ⟨_, (decide (a0_1 ≥ 9223372036854775808)), z1_, H', ⟨by first | omega | exact Nat.le_refl _⟩, ⟨zb_ BK313⟩, ⟨zw1_ HB GE313⟩⟩
 case rest =>
  clear HC2
  try clear p2
  try clear c3
  try clear c4
  try clear c4b0
  try clear c4b1
  try clear hcz5_0
  try clear hcz5_1
  try clear hcz5_2
  try clear hcz5_3
  try clear hcz5_4
  try clear hcz6_0
  try clear hcz6_1
  try clear hcz6_2
  try clear hcz6_3
  try clear hcz6_4
  try clear hfz5_0
  try clear hfz5_1
  try clear hfz5_2
  try clear hfz5_3
  try clear hfz5_4
  try clear hfz6_0
  try clear hfz6_1
  try clear hfz6_2
  try clear hfz6_3
  try clear hfz6_4
  obtain ⟨kq, x20_1, rfl, HA, HJ1, BK313, HB⟩ := hcut
  cases kq with
  | zero => exact absurd HA.out (by simp [carouselref1_Held.j0])
  | succ kj1 =>
   have H := HA.out
   clear HA
   simp only [carouselref1_Held.j0] at H
   by_cases c7 : x20_1 = true
   ·subst c7
    have H1 : (if a0_0 = true then (some (-9223372036854775808)) else (some 9223372036854775807)) = some r := by rw [if_pos rfl] at H; exact H
    clear H
    have H := H1
    clear H1
    by_cases c8 : a0_0 = true
    ·subst c8
     have H1 : (some (-9223372036854775808)) = some r := by rw [if_pos rfl] at H; exact H
     clear H
     have H := H1
     clear H1
     obtain rfl := Option.some.inj H
     have hcz9_0 := zx_ (v := .bool true) BK313 0
     have hcz9_1 := zx_ (v := .int .u64 a0_1) BK313 1
     have hcz9_2 := zx_ (v := .int .u64 a0_2) BK313 2
     have hcz9_3 := zx_ (v := .int .u64 a0_3) BK313 3
     have hcz9_4 := zx_ (v := .int .u64 a0_4) BK313 4
     have hfz9_0 := blk_frozen BK313.out 0
     have hfz9_1 := blk_frozen BK313.out 1
     have hfz9_2 := blk_frozen BK313.out 2
     have hfz9_3 := blk_frozen BK313.out 3
     have hfz9_4 := blk_frozen BK313.out 4
     go_wp2
     go_ret
     exact ⟨z0_, zw1_ HB GE313⟩
    replace c8 := Bool.eq_false_iff.mpr c8
    subst c8
    have H1 : (some 9223372036854775807) = some r := by rw [if_neg (show ¬ (false = true) by decide)] at H; exact H
    clear H
    have H := H1
    clear H1
    obtain rfl := Option.some.inj H
    have hcz10_0 := zx_ (v := .bool false) BK313 0
    have hcz10_1 := zx_ (v := .int .u64 a0_1) BK313 1
    have hcz10_2 := zx_ (v := .int .u64 a0_2) BK313 2
    have hcz10_3 := zx_ (v := .int .u64 a0_3) BK313 3
    have hcz10_4 := zx_ (v := .int .u64 a0_4) BK313 4
    have hfz10_0 := blk_frozen BK313.out 0
    have hfz10_1 := blk_frozen BK313.out 1
    have hfz10_2 := blk_frozen BK313.out 2
    have hfz10_3 := blk_frozen BK313.out 3
    have hfz10_4 := blk_frozen BK313.out 4
    go_wp2
    go_ret
    exact ⟨z0_, zw1_ HB GE313⟩
   replace c7 := Bool.eq_false_iff.mpr c7
   subst c7
   have H1 := H
   rw [if_neg (show ¬ (false = true) by decide)] at H1
   clear H
   have H := H1
   clear H1
   by_cases c11 : a0_0 = true
   ·subst c11
    have H1 : (some (wrap64 (-(wrap64 (a0_1))))) = some r := by rw [if_pos rfl] at H; exact H
    clear H
    have H := H1
    clear H1
    obtain rfl := Option.some.inj H
    have hcz12_0 := zx_ (v := .bool true) BK313 0
    have hcz12_1 := zx_ (v := .int .u64 a0_1) BK313 1
    have hcz12_2 := zx_ (v := .int .u64 a0_2) BK313 2
    have hcz12_3 := zx_ (v := .int .u64 a0_3) BK313 3
    have hcz12_4 := zx_ (v := .int .u64 a0_4) BK313 4
    have hfz12_0 := blk_frozen BK313.out 0
    have hfz12_1 := blk_frozen BK313.out 1
    have hfz12_2 := blk_frozen BK313.out 2
    have hfz12_3 := blk_frozen BK313.out 3
    have hfz12_4 := blk_frozen BK313.out 4
    go_wp2
    go_ret
    exact ⟨z0_, zw1_ HB GE313⟩
   replace c11 := Bool.eq_false_iff.mpr c11
   subst c11
   have H1 : (some (wrap64 (a0_1))) = some r := by rw [if_neg (show ¬ (false = true) by decide)] at H; exact H
   clear H
   have H := H1
   clear H1
   obtain rfl := Option.some.inj H
   have hcz13_0 := zx_ (v := .bool false) BK313 0
   have hcz13_1 := zx_ (v := .int .u64 a0_1) BK313 1
   have hcz13_2 := zx_ (v := .int .u64 a0_2) BK313 2
   have hcz13_3 := zx_ (v := .int .u64 a0_3) BK313 3
   have hcz13_4 := zx_ (v := .int .u64 a0_4) BK313 4
   have hfz13_0 := blk_frozen BK313.out 0
   have hfz13_1 := blk_frozen BK313.out 1
   have hfz13_2 := blk_frozen BK313.out 2
   have hfz13_3 := blk_frozen BK313.out 3
   have hfz13_4 := blk_frozen BK313.out 4
   go_wp2
   go_ret
   exact ⟨z0_, zw1_ HB GE313⟩

/-! ### carouselref1_bit: function 52 -/
def carouselref1_bit.w (a0 a1 a2 a3 j : Int) : Int := if j = 0 then a0 else if j = 1 then a1 else if j = 2 then a2 else a3
def carouselref1_bit.f (a0_0 : Int) (a0_1 : Int) (a0_2 : Int) (a0_3 : Int) (a1 : Int) : Option (Int) := if 0 ≤ a1 ∧ a1 < 256 then some (Go.bits .and .u64 (carouselref1_bit.w a0_0 a0_1 a0_2 a0_3 (a1 / 64) / 2 ^ (a1 % 64).toNat) 1) else none
set_option maxHeartbeats 8000000 in
set_option maxRecDepth 100000 in
theorem carouselref1_bit.calls (a0_0 : Int) (a0_1 : Int) (a0_2 : Int) (a0_3 : Int) (a1 : Int) (r : Int) (w : World) (h : carouselref1_bit.f a0_0 a0_1 a0_2 a0_3 a1 = some r) :
  Calls Try.prog 52 #[.agg #[.int .u64 a0_0, .int .u64 a0_1, .int .u64 a0_2, .int .u64 a0_3], .int .i64 a1] w fun e w' => e = .returned (.int .u64 r) ∧ Below w.heap.size w w' := by
 unfold carouselref1_bit.f at h
 by_cases hc : 0 ≤ a1 ∧ a1 < 256
 case neg => rw [if_neg hc] at h; cases h
 rw [if_pos hc] at h
 have H := Aside0.mk (Option.some.inj h)
 clear h
 have HB := Aside0.mk (Below.refl w.heap.size w)
 have hu59 := Try.underlying59
 obtain ⟨s, hs⟩ : ∃ s, s = a1 % 64 := ⟨_, rfl⟩
 have h0 : 0 ≤ s := by omega
 have h1 : s < 64 := by omega
 have e2 : a1.tmod 64 = s := by rw [Int.tmod_eq_emod_of_nonneg (by omega)]; omega
 rw [← hs] at H
 by_cases c0 : a1 / 64 = 0
 case pos =>
  have e1 : a1.tdiv 64 = 0 := by rw [Int.tdiv_eq_ediv_of_nonneg (by omega)]; omega
  have H2 := H.out
  rw [c0] at H2
  have H3 := Aside0.mk H2
  clear H2 H hc hs
  clear c0
  go_enter Try.func52, Try.ntmps52
  go_wp2
  go_ret
  refine ⟨?_, zw0_ HB⟩
  rw [← H3.out]
  rfl
 case neg =>
  by_cases c1 : a1 / 64 = 1
  case pos =>
   have e1 : a1.tdiv 64 = 1 := by rw [Int.tdiv_eq_ediv_of_nonneg (by omega)]; omega
   have H2 := H.out
   rw [c1] at H2
   have H3 := Aside0.mk H2
   clear H2 H hc hs
   clear c0 c1
   go_enter Try.func52, Try.ntmps52
   go_wp2
   go_ret
   refine ⟨?_, zw0_ HB⟩
   rw [← H3.out]
   rfl
  case neg =>
   by_cases c2 : a1 / 64 = 2
   case pos =>
    have e1 : a1.tdiv 64 = 2 := by rw [Int.tdiv_eq_ediv_of_nonneg (by omega)]; omega
    have H2 := H.out
    rw [c2] at H2
    have H3 := Aside0.mk H2
    clear H2 H hc hs
    clear c0 c1 c2
    go_enter Try.func52, Try.ntmps52
    go_wp2
    go_ret
    refine ⟨?_, zw0_ HB⟩
    rw [← H3.out]
    rfl
   case neg =>
    have c3 : a1 / 64 = 3 := by omega
    have e1 : a1.tdiv 64 = 3 := by rw [Int.tdiv_eq_ediv_of_nonneg (by omega)]; omega
    have H2 := H.out
    rw [c3] at H2
    have H3 := Aside0.mk H2
    clear H2 H hc hs
    clear c0 c1 c2 c3
    go_enter Try.func52, Try.ntmps52
    go_wp2
    go_ret
    refine ⟨?_, zw0_ HB⟩
    rw [← H3.out]
    rfl

/-! ### carouselref1_Halved: function 38 -/
/-- the words of a number -/
def w0_ (x : Int) : Int := x % 18446744073709551616
def w1_ (x : Int) : Int := x / 18446744073709551616 % 18446744073709551616
def w2_ (x : Int) : Int := x / 340282366920938463463374607431768211456 % 18446744073709551616
def w3_ (x : Int) : Int := x / 6277101735386680763835789423207666416102355444464034512896 % 18446744073709551616
def bv_ (a0 a1 a2 a3 : Int) : Int := a0 + a1 * 18446744073709551616 + a2 * 340282366920938463463374607431768211456 + a3 * 6277101735386680763835789423207666416102355444464034512896
def bitOf_ (x i : Int) : Int := x / 2 ^ i.toNat % 2
def row5_ (n : Bool) (x : Int) : Array Value := #[.bool n, .int .u64 (w0_ x), .int .u64 (w1_ x), .int .u64 (w2_ x), .int .u64 (w3_ x)]
theorem or_low_ (a : Int) (s : Nat) (hs : s < 64) (a0 : 0 ≤ a) (a1 : a < 2 ^ s) : Go.bits .or .u64 a (2 ^ s) = a + 2 ^ s := by
 obtain ⟨A, rfl⟩ := Int.eq_ofNat_of_zero_le a0
 have hA : A < 2 ^ s := by
  have : ((2 ^ s : Nat) : Int) = 2 ^ s := by simp
  omega
 have h64 : 2 ^ s ≤ 2 ^ 63 := Nat.pow_le_pow_right (by decide) (by omega)
 have e : (2 : Int) ^ s = ((2 ^ s : Nat) : Int) := by simp
 rw [e, Go.u64_or _ _ (by omega) (by omega) (by omega) (by omega)]
 simp only [Int.toNat_natCast]
 have := Nat.two_pow_add_eq_or_of_lt hA 1
 rw [Nat.mul_one] at this
 rw [Nat.or_comm, ← this]
 omega
theorem low_bits_ (y : Int) (d : Nat) : y % 2 ^ (d + 1) = y % 2 ^ d + 2 ^ d * (y / 2 ^ d % 2) := by
 have p : (0 : Int) < 2 ^ d := Int.pow_pos (by decide)
 have e1 := Int.mul_ediv_add_emod y (2 ^ d)
 have e2 := Int.mul_ediv_add_emod (y / 2 ^ d) 2
 have m0 := Int.emod_nonneg y (show (2 : Int) ^ d ≠ 0 by omega)
 have m1 := Int.emod_lt_of_pos y p
 have e3 : y = (y % 2 ^ d + 2 ^ d * (y / 2 ^ d % 2)) + 2 ^ (d + 1) * (y / 2 ^ d / 2) := by
  rw [Int.pow_succ, Int.mul_assoc, Int.add_assoc, ← Int.mul_add, Int.add_comm (y / 2 ^ d % 2), e2]
  omega
 have hb : y / 2 ^ d % 2 = 0 ∨ y / 2 ^ d % 2 = 1 := by omega
 conv => lhs; rw [e3]
 rw [Int.add_mul_emod_self_left]
 refine Int.emod_eq_of_lt ?_ ?_
 ·rcases hb with h | h <;> rw [h] <;> omega
 rw [Int.pow_succ]
 rcases hb with h | h <;> rw [h] <;> omega
/-- one bit more of a number that is brought down by m -/
theorem next_bit_ (V m i : Int) (hm : 0 ≤ m) (hi : m ≤ i) : V / 2 ^ m.toNat % 2 ^ (i + 1 - m).toNat = V / 2 ^ m.toNat % 2 ^ (i - m).toNat + 2 ^ (i - m).toNat * bitOf_ V i := by
 rw [show (i + 1 - m).toNat = (i - m).toNat + 1 by omega, low_bits_]
 unfold bitOf_
 have : V / 2 ^ m.toNat / 2 ^ (i - m).toNat = V / 2 ^ i.toNat := by
  have hn : (0 : Int) ≤ 2 ^ m.toNat := Int.le_of_lt (Int.pow_pos (by decide))
  rw [Int.ediv_ediv_of_nonneg hn, ← Int.pow_add]
  congr 2; omega
 rw [this]
/-- a word of the row, one bit set -/
theorem set_word_ (x : Int) (d j s : Nat) (hd : d = 64 * j + s) (hj : j < 4) (hs : s < 64) (x0 : 0 ≤ x) (x1 : x < 2 ^ d) (n : Bool) :
  row5_ n (x + 2 ^ d) = (row5_ n x).setIfInBounds (1 + j) (.int .u64 ((if j = 0 then w0_ x else if j = 1 then w1_ x else if j = 2 then w2_ x else w3_ x) + 2 ^ s)) ∧ (if j = 0 then w0_ x else if j = 1 then w1_ x else if j = 2 then w2_ x else w3_ x) < 2 ^ s := by
 have e : (2 : Int) ^ d = 2 ^ s * (2 ^ 64) ^ j := by rw [hd, ← Int.pow_mul, ← Int.pow_add, Nat.add_comm]
 have p1 : (1 : Int) ≤ 2 ^ s := by have : (0 : Int) < 2 ^ s := Int.pow_pos (by decide); omega
 have p2 : (2 : Int) ^ s ≤ 9223372036854775808 := by
  have : (2 : Nat) ^ s ≤ 2 ^ 63 := Nat.pow_le_pow_right (by decide) (by omega)
  have : ((2 ^ s : Nat) : Int) = 2 ^ s := by simp
  omega
 rw [e] at x1 ⊢
 generalize (2 : Int) ^ s = p at *
 unfold row5_ w0_ w1_ w2_ w3_
 obtain h | h | h | h : j = 0 ∨ j = 1 ∨ j = 2 ∨ j = 3 := by omega
 all_goals subst h
 all_goals simp only [show ((2 : Int) ^ 64) ^ 0 = 1 from rfl, show ((2 : Int) ^ 64) ^ 1 = 18446744073709551616 from rfl, show ((2 : Int) ^ 64) ^ 2 = 340282366920938463463374607431768211456 from rfl, show ((2 : Int) ^ 64) ^ 3 = 6277101735386680763835789423207666416102355444464034512896 from rfl] at x1 ⊢
 all_goals simp
 all_goals omega
/-- the memory of a walk: the number that came in, the result's place, the number that is made -/
def Mem5_ (w : World) (t : TypeId) (n : Bool) (a0 a1 a2 a3 : Int) (m : Bool) (x : Int) (w' : World) : Prop :=
 w'.heap[w.heap.size]? = some (.cells #[.bool n, .int .u64 a0, .int .u64 a1, .int .u64 a2, .int .u64 a3] t (0, 0)) ∧
 w'.heap[w.heap.size + 1]? = some (.cells #[.bool false, .int .u64 0, .int .u64 0, .int .u64 0, .int .u64 0] t (0, 0)) ∧
 w'.heap[w.heap.size + 1 + 1]? = some (.cells (row5_ m x) t (0, 0)) ∧ Below w.heap.size w w'
theorem row5_zero_ (m : Bool) : row5_ m 0 = #[.bool m, .int .u64 0, .int .u64 0, .int .u64 0, .int .u64 0] := by
 unfold row5_ w0_ w1_ w2_ w3_; rfl
theorem mem5_start_ (w : World) (t : TypeId) (n m : Bool) (a0 a1 a2 a3 x : Int) (hx : x = 0) :
  Mem5_ w t n a0 a1 a2 a3 m x (((w.alloc (.cells #[.bool n, .int .u64 a0, .int .u64 a1, .int .u64 a2, .int .u64 a3] t)).alloc (.cells #[.bool false, .int .u64 0, .int .u64 0, .int .u64 0, .int .u64 0] t)).alloc (.cells #[.bool m, .int .u64 0, .int .u64 0, .int .u64 0, .int .u64 0] t)) := by
 subst hx
 unfold Mem5_
 rw [row5_zero_]
 have s1 : (w.alloc (.cells #[.bool n, .int .u64 a0, .int .u64 a1, .int .u64 a2, .int .u64 a3] t)).heap.size = w.heap.size + 1 := by simp only [World.alloc, Array.size_push]
 have s2 : ((w.alloc (.cells #[.bool n, .int .u64 a0, .int .u64 a1, .int .u64 a2, .int .u64 a3] t)).alloc (.cells #[.bool false, .int .u64 0, .int .u64 0, .int .u64 0, .int .u64 0] t)).heap.size = w.heap.size + 1 + 1 := by simp only [World.alloc, Array.size_push]
 have b1 := blk_new (w.alloc (.cells #[.bool n, .int .u64 a0, .int .u64 a1, .int .u64 a2, .int .u64 a3] t)) (.cells #[.bool false, .int .u64 0, .int .u64 0, .int .u64 0, .int .u64 0] t)
 rw [s1] at b1
 have b2 := blk_new ((w.alloc (.cells #[.bool n, .int .u64 a0, .int .u64 a1, .int .u64 a2, .int .u64 a3] t)).alloc (.cells #[.bool false, .int .u64 0, .int .u64 0, .int .u64 0, .int .u64 0] t)) (.cells #[.bool m, .int .u64 0, .int .u64 0, .int .u64 0, .int .u64 0] t)
 rw [s2] at b2
 exact ⟨blk_alloc (blk_alloc (blk_new w _) _) _, blk_alloc b1 _, b2, (((Below.refl w.heap.size w).alloc (Nat.le_refl _) _).alloc (by rw [s1]; omega) _).alloc (by rw [s2]; omega) _⟩
theorem mem5_call_ {w : World} {t : TypeId} {n m : Bool} {a0 a1 a2 a3 x : Int} {w' w4 : World} (h : Mem5_ w t n a0 a1 a2 a3 m x w') (hb : Below w'.heap.size w' w4) : Mem5_ w t n a0 a1 a2 a3 m x w4 :=
 ⟨blk_below h.1 hb, blk_below h.2.1 hb, blk_below h.2.2.1 hb, h.2.2.2.trans (hb.mono h.2.2.2.size)⟩
theorem mem5_set_ {w : World} {t : TypeId} {n m : Bool} {a0 a1 a2 a3 x : Int} {w' : World} (h : Mem5_ w t n a0 a1 a2 a3 m x w') (y : Int) (j : Nat) (v : Value) (e : row5_ m y = (row5_ m x).setIfInBounds j v) : Mem5_ w t n a0 a1 a2 a3 m y (w'.setCell ⟨w.heap.size + 1 + 1, j, none⟩ v) := by
 refine ⟨?_, ?_, ?_, h.2.2.2.setCell (by show w.heap.size ≤ w.heap.size + 1 + 1; omega) _⟩
 ·rw [Below.heap_setCell _ _ _ _ (by show w.heap.size ≠ w.heap.size + 1 + 1; omega)]; exact h.1
 ·rw [Below.heap_setCell _ _ _ _ (by show w.heap.size + 1 ≠ w.heap.size + 1 + 1; omega)]; exact h.2.1
 exact blk_put h.2.2.1 j v e.symm
theorem set_or_ (x d s : Int) (j : Nat) (hd : d = 64 * j + s) (hj : j < 4) (s0 : 0 ≤ s) (s1 : s < 64) (x0 : 0 ≤ x) (x1 : x < 2 ^ d.toNat) (n : Bool) :
  row5_ n (x + 2 ^ d.toNat) = (row5_ n x).setIfInBounds (1 + j) (.int .u64 (Go.bits .or .u64 (if j = 0 then w0_ x else if j = 1 then w1_ x else if j = 2 then w2_ x else w3_ x) (IntKind.u64.wrap (2 ^ s.toNat)))) := by
 obtain ⟨h1, h2⟩ := set_word_ x d.toNat j s.toNat (by omega) hj (by omega) x0 x1 n
 have wp : IntKind.u64.wrap (2 ^ s.toNat) = 2 ^ s.toNat := by
  have : (2 : Nat) ^ s.toNat ≤ 2 ^ 63 := Nat.pow_le_pow_right (by decide) (by omega)
  have e : ((2 ^ s.toNat : Nat) : Int) = 2 ^ s.toNat := by simp
  have p1 : (0 : Int) < 2 ^ s.toNat := Int.pow_pos (by decide)
  simp only [IntKind.wrap, IntKind.bits, IntKind.signed]
  simp
  omega
 have nn : 0 ≤ (if j = 0 then w0_ x else if j = 1 then w1_ x else if j = 2 then w2_ x else w3_ x) := by
  unfold w0_ w1_ w2_ w3_
  repeat' split
  all_goals omega
 rw [h1, wp, or_low_ _ _ (by omega) nn h2]
theorem end5_ (w w7 : World) (g : Nat) (hg : w.heap.size ≤ g) (t : TypeId) (z0 z1 z2 z3 z4 v0 v1 v2 v3 v4 : Value) (b0 : w7.heap[g]? = some (.cells #[z0, z1, z2, z3, z4] t (0, 0))) (hb : Below w.heap.size w w7) :
  (((((w7.setCell ⟨g, 0, none⟩ v0).setCell ⟨g, 1, none⟩ v1).setCell ⟨g, 2, none⟩ v2).setCell ⟨g, 3, none⟩ v3).setCell ⟨g, 4, none⟩ v4).heap[g]? = some (.cells #[v0, v1, v2, v3, v4] t (0, 0)) ∧
  Below w.heap.size w (((((w7.setCell ⟨g, 0, none⟩ v0).setCell ⟨g, 1, none⟩ v1).setCell ⟨g, 2, none⟩ v2).setCell ⟨g, 3, none⟩ v3).setCell ⟨g, 4, none⟩ v4) :=
 ⟨blk_put (cs := #[v0, v1, v2, v3, z4]) (blk_put (cs := #[v0, v1, v2, z3, z4]) (blk_put (cs := #[v0, v1, z2, z3, z4]) (blk_put (cs := #[v0, z1, z2, z3, z4]) (blk_put (cs := #[z0, z1, z2, z3, z4]) b0 0 _ rfl) 1 _ rfl) 2 _ rfl) 3 _ rfl) 4 _ rfl,
  ((((hb.setCell hg _).setCell hg _).setCell hg _).setCell hg _).setCell hg _⟩
/-- is there a bit below the j-th, or is the number odd? -/
def more_ (V x j : Int) : Bool := decide (w0_ x % 2 = 1) || decide (V % 2 ^ j.toNat ≠ 0)
theorem and1_ (x : Int) (h0 : 0 ≤ x) (h1 : x < 18446744073709551616) : Go.bits .and .u64 x 1 = x % 2 := by
 rw [Go.u64_and x 1 h0 (by omega) (by omega) (by omega)]
 have : (1 : Int).toNat = 2 ^ 1 - 1 := rfl
 rw [this, Nat.and_two_pow_sub_one_eq_mod]
 omega
theorem more_start_ (V x : Int) : (Go.bits .and .u64 (w0_ x) 1 == 1) = more_ V x 0 := by
 rw [and1_ _ (by unfold w0_; omega) (by unfold w0_; omega)]
 unfold more_
 have : V % 2 ^ (0 : Int).toNat = 0 := by simp
 simp [this]
 rfl
theorem more_step_ (V j : Int) (hj : 0 ≤ j) : V % 2 ^ (j + 1).toNat = V % 2 ^ j.toNat + 2 ^ j.toNat * bitOf_ V j ∧ 0 ≤ V % 2 ^ j.toNat ∧ (0 : Int) < 2 ^ j.toNat ∧ (bitOf_ V j = 0 ∨ bitOf_ V j = 1) := by
 have p : (0 : Int) < 2 ^ j.toNat := Int.pow_pos (by decide)
 refine ⟨?_, Int.emod_nonneg _ (by omega), p, by unfold bitOf_; omega⟩
 rw [show (j + 1).toNat = j.toNat + 1 by omega, low_bits_]; rfl
theorem more_up_ (V x j : Int) (hj : 0 ≤ j) (h : true = more_ V x j) : true = more_ V x (j + 1) := by
 obtain ⟨e, n0, p, b⟩ := more_step_ V j hj
 unfold more_ at *
 rw [e]
 rcases b with b | b <;> rw [b] <;> simp at h ⊢ <;> omega
theorem more_one_ (V x j : Int) (hj : 0 ≤ j) (h : false = more_ V x j) (b : bitOf_ V j = 1) : true = more_ V x (j + 1) := by
 obtain ⟨e, n0, p, -⟩ := more_step_ V j hj
 unfold more_ at *
 rw [e, b]
 simp at h ⊢
 omega
theorem more_zero_ (V x j : Int) (hj : 0 ≤ j) (h : false = more_ V x j) (b : ¬ bitOf_ V j = 1) : false = more_ V x (j + 1) := by
 obtain ⟨e, n0, p, b'⟩ := more_step_ V j hj
 have b0 : bitOf_ V j = 0 := by omega
 unfold more_ at *
 rw [e, b0]
 simp at h ⊢
 omega
theorem set4_ {w : World} {t : TypeId} {n m : Bool} {a0 a1 a2 a3 x : Int} {w' : World} (h : Mem5_ w t n a0 a1 a2 a3 m x w') (p0 p1 p2 p3 : Value) (w6 : World)
  (e : ((((w'.setCell ⟨w.heap.size + 1 + 1, 1, none⟩ p0).setCell ⟨w.heap.size + 1 + 1, 2, none⟩ p1).setCell ⟨w.heap.size + 1 + 1, 3, none⟩ p2).setCell ⟨w.heap.size + 1 + 1, 4, none⟩ p3) = w6) :
  w6.heap[w.heap.size + 1 + 1]? = some (.cells #[.bool m, p0, p1, p2, p3] t (0, 0)) ∧ w6.heap[w.heap.size + 1]? = some (.cells #[.bool false, .int .u64 0, .int .u64 0, .int .u64 0, .int .u64 0] t (0, 0)) ∧ Below w.heap.size w w6 := by
 subst e
 have hp : ∀ i, w.heap.size ≤ (⟨w.heap.size + 1 + 1, i, none⟩ : Addr).block := fun i => by show w.heap.size ≤ w.heap.size + 1 + 1; omega
 have q : ∀ i, w.heap.size + 1 ≠ (⟨w.heap.size + 1 + 1, i, none⟩ : Addr).block := fun i => by show w.heap.size + 1 ≠ w.heap.size + 1 + 1; omega
 refine ⟨?_, ?_, (((h.2.2.2.setCell (hp 1) _).setCell (hp 2) _).setCell (hp 3) _).setCell (hp 4) _⟩
 ·exact blk_put (cs := #[.bool m, p0, p1, p2, .int .u64 (w3_ x)]) (blk_put (cs := #[.bool m, p0, p1, .int .u64 (w2_ x), .int .u64 (w3_ x)]) (blk_put (cs := #[.bool m, p0, .int .u64 (w1_ x), .int .u64 (w2_ x), .int .u64 (w3_ x)]) (blk_put (cs := row5_ m x) h.2.2.1 1 _ rfl) 2 _ rfl) 3 _ rfl) 4 _ rfl
 ·rw [Below.heap_setCell _ _ _ _ (q 4), Below.heap_setCell _ _ _ _ (q 3), Below.heap_setCell _ _ _ _ (q 2), Below.heap_setCell _ _ _ _ (q 1)]
  exact h.2.1
theorem bit_low_ (a r : Int) (s : Nat) (hs : s < 64) : (a + 18446744073709551616 * r) / 2 ^ s % 2 = a / 2 ^ s % 2 := by
 have p : (0 : Int) < 2 ^ s := Int.pow_pos (by decide)
 have e : (18446744073709551616 : Int) = 2 ^ s * (2 ^ (63 - s) * 2) := by
  rw [← Int.pow_succ, ← Int.pow_add, show s + (63 - s + 1) = 64 by omega]; rfl
 rw [e, Int.mul_assoc, Int.add_mul_ediv_left _ _ (by omega), Int.mul_assoc, Int.mul_comm 2 r, ← Int.mul_assoc, Int.add_mul_emod_self_right]
theorem bit_word_ (V x : Int) (i s : Int) (j : Nat) (W r : Int) (hW : W = 2 ^ (64 * j)) (hi : i = 64 * j + s) (s0 : 0 ≤ s) (s1 : s < 64) (hx : V / W = x + 18446744073709551616 * r) : bitOf_ V i = x / 2 ^ s.toNat % 2 := by
 unfold bitOf_
 have hn : (0 : Int) ≤ 2 ^ (64 * j) := Int.le_of_lt (Int.pow_pos (by decide))
 rw [show i.toNat = 64 * j + s.toNat by omega, Int.pow_add, ← Int.ediv_ediv_of_nonneg hn, ← hW, hx]
 exact bit_low_ x r s.toNat (by omega)
def ok_ (a0 a1 a2 a3 : Int) : Prop := 0 ≤ a0 ∧ a0 < 18446744073709551616 ∧ 0 ≤ a1 ∧ a1 < 18446744073709551616 ∧ 0 ≤ a2 ∧ a2 < 18446744073709551616 ∧ 0 ≤ a3 ∧ a3 < 18446744073709551616
instance (a0 a1 a2 a3 : Int) : Decidable (ok_ a0 a1 a2 a3) := by unfold ok_; infer_instance
theorem bit_eq_ (a0 a1 a2 a3 i : Int) (h : ok_ a0 a1 a2 a3) (i0 : 0 ≤ i) (i1 : i < 256) : Go.bits .and .u64 ((if i / 64 = 0 then a0 else if i / 64 = 1 then a1 else if i / 64 = 2 then a2 else a3) / 2 ^ (i % 64).toNat) 1 = bitOf_ (bv_ a0 a1 a2 a3) i := by
 unfold ok_ at h
 have rng : ∀ a : Int, 0 ≤ a → a < 18446744073709551616 → Go.bits .and .u64 (a / 2 ^ (i % 64).toNat) 1 = a / 2 ^ (i % 64).toNat % 2 := by
  intro a h0 h1
  have p : (0 : Int) < 2 ^ (i % 64).toNat := Int.pow_pos (by decide)
  have := Int.ediv_nonneg h0 (Int.le_of_lt p)
  have := Int.ediv_le_self (2 ^ (i % 64).toNat) h0
  exact and1_ _ (by omega) (by omega)
 by_cases c0 : i / 64 = 0
 ·rw [if_pos c0, rng a0 (by omega) (by omega)]
  exact (bit_word_ _ a0 i (i % 64) 0 1 (a1 + a2 * 18446744073709551616 + a3 * 340282366920938463463374607431768211456) rfl (by omega) (by omega) (by omega) (by unfold bv_; omega)).symm
 rw [if_neg c0]
 by_cases c1 : i / 64 = 1
 ·rw [if_pos c1, rng a1 (by omega) (by omega)]
  exact (bit_word_ _ a1 i (i % 64) 1 18446744073709551616 (a2 + a3 * 18446744073709551616) rfl (by omega) (by omega) (by omega) (by unfold bv_; omega)).symm
 rw [if_neg c1]
 by_cases c2 : i / 64 = 2
 ·rw [if_pos c2, rng a2 (by omega) (by omega)]
  exact (bit_word_ _ a2 i (i % 64) 2 340282366920938463463374607431768211456 a3 rfl (by omega) (by omega) (by omega) (by unfold bv_; omega)).symm
 rw [if_neg c2, rng a3 (by omega) (by omega)]
 exact (bit_word_ _ a3 i (i % 64) 3 6277101735386680763835789423207666416102355444464034512896 0 rfl (by omega) (by omega) (by omega) (by unfold bv_; omega)).symm
def carouselref1_Halved.f (a0_0 : Bool) (a0_1 : Int) (a0_2 : Int) (a0_3 : Int) (a0_4 : Int) (a1 : Int) : Option (Bool × Int × Int × Int × Int) := if ok_ a0_1 a0_2 a0_3 a0_4 ∧ 0 ≤ a1 ∧ a1 < 256 then (if a1 = 0 then some (a0_0, w0_ (bv_ a0_1 a0_2 a0_3 a0_4 / 2 ^ a1.toNat % 2 ^ (256 - a1).toNat), w1_ (bv_ a0_1 a0_2 a0_3 a0_4 / 2 ^ a1.toNat % 2 ^ (256 - a1).toNat), w2_ (bv_ a0_1 a0_2 a0_3 a0_4 / 2 ^ a1.toNat % 2 ^ (256 - a1).toNat), w3_ (bv_ a0_1 a0_2 a0_3 a0_4 / 2 ^ a1.toNat % 2 ^ (256 - a1).toNat)) else if bitOf_ (bv_ a0_1 a0_2 a0_3 a0_4) (a1 - 1) = 0 then some (a0_0, w0_ (bv_ a0_1 a0_2 a0_3 a0_4 / 2 ^ a1.toNat % 2 ^ (256 - a1).toNat), w1_ (bv_ a0_1 a0_2 a0_3 a0_4 / 2 ^ a1.toNat % 2 ^ (256 - a1).toNat), w2_ (bv_ a0_1 a0_2 a0_3 a0_4 / 2 ^ a1.toNat % 2 ^ (256 - a1).toNat), w3_ (bv_ a0_1 a0_2 a0_3 a0_4 / 2 ^ a1.toNat % 2 ^ (256 - a1).toNat)) else if more_ (bv_ a0_1 a0_2 a0_3 a0_4) (bv_ a0_1 a0_2 a0_3 a0_4 / 2 ^ a1.toNat % 2 ^ (256 - a1).toNat) (a1 - 1) = true then (carouselref1_plus.f (w0_ (bv_ a0_1 a0_2 a0_3 a0_4 / 2 ^ a1.toNat % 2 ^ (256 - a1).toNat)) (w1_ (bv_ a0_1 a0_2 a0_3 a0_4 / 2 ^ a1.toNat % 2 ^ (256 - a1).toNat)) (w2_ (bv_ a0_1 a0_2 a0_3 a0_4 / 2 ^ a1.toNat % 2 ^ (256 - a1).toNat)) (w3_ (bv_ a0_1 a0_2 a0_3 a0_4 / 2 ^ a1.toNat % 2 ^ (256 - a1).toNat)) 1 0 0 0).bind fun p => some (a0_0, p.1, p.2.1, p.2.2.1, p.2.2.2) else some (a0_0, w0_ (bv_ a0_1 a0_2 a0_3 a0_4 / 2 ^ a1.toNat % 2 ^ (256 - a1).toNat), w1_ (bv_ a0_1 a0_2 a0_3 a0_4 / 2 ^ a1.toNat % 2 ^ (256 - a1).toNat), w2_ (bv_ a0_1 a0_2 a0_3 a0_4 / 2 ^ a1.toNat % 2 ^ (256 - a1).toNat), w3_ (bv_ a0_1 a0_2 a0_3 a0_4 / 2 ^ a1.toNat % 2 ^ (256 - a1).toNat))) else none
set_option maxHeartbeats 8000000 in
set_option maxRecDepth 100000 in
theorem carouselref1_Halved.calls (a0_0 : Bool) (a0_1 : Int) (a0_2 : Int) (a0_3 : Int) (a0_4 : Int) (a1 : Int) (r1 : Bool) (r2 : Int) (r3 : Int) (r4 : Int) (r5 : Int) (w : World) (h : carouselref1_Halved.f a0_0 a0_1 a0_2 a0_3 a0_4 a1 = some (r1, r2, r3, r4, r5)) :
  Calls Try.prog 38 #[.agg #[.bool a0_0, .int .u64 a0_1, .int .u64 a0_2, .int .u64 a0_3, .int .u64 a0_4], .int .i64 a1] w fun e w' => e = .returned (.agg #[.bool r1, .int .u64 r2, .int .u64 r3, .int .u64 r4, .int .u64 r5]) ∧ Below w.heap.size w w' := by
 unfold carouselref1_Halved.f at h
 by_cases hc : ok_ a0_1 a0_2 a0_3 a0_4 ∧ 0 ≤ a1 ∧ a1 < 256
 case neg => rw [if_neg hc] at h; cases h
 rw [if_pos hc] at h
 have H0 := Aside0.mk h
 clear h
 obtain ⟨hok, m0, m1⟩ := hc
 have sb : ∀ w i, 0 ≤ i → i < 256 → Calls Try.prog 52 #[.agg #[.int .u64 a0_1, .int .u64 a0_2, .int .u64 a0_3, .int .u64 a0_4], .int .i64 i] w fun e w' => e = .returned (.int .u64 (bitOf_ (bv_ a0_1 a0_2 a0_3 a0_4) i)) ∧ Below w.heap.size w w' := by
  intro w i i0 i1
  have := carouselref1_bit.calls a0_1 a0_2 a0_3 a0_4 i _ w (show carouselref1_bit.f a0_1 a0_2 a0_3 a0_4 i = some _ by unfold carouselref1_bit.f; rw [if_pos ⟨i0, i1⟩])
  have e := bit_eq_ a0_1 a0_2 a0_3 a0_4 i hok i0 i1
  rw [← e]
  exact this
 have hu59 := Try.underlying59
 have hu61 := Try.underlying61
 have SB := Aside0.mk sb
 have M0 := Aside0.mk m0
 have M1 := Aside0.mk m1
 clear sb m0 m1 hok
 go_enter Try.func38, Try.ntmps38
 go_wp2
 go_loopg [6] (256 - a1).toNat (fun kq v6 w' => ∃ (i : Int), v6 = .int .i64 i ∧ Aside0 (a1 ≤ i ∧ i ≤ 256) ∧ Aside0 (kq = (256 - i).toNat) ∧ Aside0 (Mem5_ w 61 a0_0 a0_1 a0_2 a0_3 a0_4 a0_0 (bv_ a0_1 a0_2 a0_3 a0_4 / 2 ^ a1.toNat % 2 ^ (i - a1).toNat) w'))
 case atStart => exact ⟨a1, rfl, ⟨by have := M1.out; omega⟩, ⟨rfl⟩, ⟨mem5_start_ w 61 a0_0 a0_0 a0_1 a0_2 a0_3 a0_4 _ (by simp)⟩⟩
 case round =>
  obtain ⟨i, rfl, HI, HK, HM⟩ := hrel
  by_cases c : i < 256
  case neg =>
   have cb : decide (i < 256) = false := decide_eq_false c
   have i256 : i = 256 := by have := HI.out; omega
   subst i256
   clear c
   obtain ⟨x, hx⟩ : ∃ x, x = bv_ a0_1 a0_2 a0_3 a0_4 / 2 ^ a1.toNat % 2 ^ (256 - a1).toNat := ⟨_, rfl⟩
   rw [← hx] at HM
   have HX := Aside0.mk hx
   clear hx
   by_cases mz : a1 = 0
   case pos =>
    have mb : (a1 == 0) = true := by simp [mz]
    have MZ := Aside0.mk mz
    clear mz
    have hx_0 : wr.cell? ⟨w.heap.size + 1 + 1, 0, none⟩ = some (.bool a0_0) := (blk_cell HM.out.2.2.1 0).trans rfl
    have fx_0 := blk_frozen HM.out.2.2.1 0
    have hx_1 : wr.cell? ⟨w.heap.size + 1 + 1, 1, none⟩ = some (.int .u64 (w0_ x)) := (blk_cell HM.out.2.2.1 1).trans rfl
    have fx_1 := blk_frozen HM.out.2.2.1 1
    have hx_2 : wr.cell? ⟨w.heap.size + 1 + 1, 2, none⟩ = some (.int .u64 (w1_ x)) := (blk_cell HM.out.2.2.1 2).trans rfl
    have fx_2 := blk_frozen HM.out.2.2.1 2
    have hx_3 : wr.cell? ⟨w.heap.size + 1 + 1, 3, none⟩ = some (.int .u64 (w2_ x)) := (blk_cell HM.out.2.2.1 3).trans rfl
    have fx_3 := blk_frozen HM.out.2.2.1 3
    have hx_4 : wr.cell? ⟨w.heap.size + 1 + 1, 4, none⟩ = some (.int .u64 (w3_ x)) := (blk_cell HM.out.2.2.1 4).trans rfl
    have fx_4 := blk_frozen HM.out.2.2.1 4
    have hy_0 : wr.cell? ⟨w.heap.size + 1, 0, none⟩ = some (.bool false) := (blk_cell HM.out.2.1 0).trans rfl
    have fy_0 := blk_frozen HM.out.2.1 0
    have hy_1 : wr.cell? ⟨w.heap.size + 1, 1, none⟩ = some (.int .u64 0) := (blk_cell HM.out.2.1 1).trans rfl
    have fy_1 := blk_frozen HM.out.2.1 1
    have hy_2 : wr.cell? ⟨w.heap.size + 1, 2, none⟩ = some (.int .u64 0) := (blk_cell HM.out.2.1 2).trans rfl
    have fy_2 := blk_frozen HM.out.2.1 2
    have hy_3 : wr.cell? ⟨w.heap.size + 1, 3, none⟩ = some (.int .u64 0) := (blk_cell HM.out.2.1 3).trans rfl
    have fy_3 := blk_frozen HM.out.2.1 3
    have hy_4 : wr.cell? ⟨w.heap.size + 1, 4, none⟩ = some (.int .u64 0) := (blk_cell HM.out.2.1 4).trans rfl
    have fy_4 := blk_frozen HM.out.2.1 4
    go_wp2
    have E := end5_ w wr (w.heap.size + 1) (by omega) 61 _ _ _ _ _ (.bool a0_0) (.int .u64 (w0_ x)) (.int .u64 (w1_ x)) (.int .u64 (w2_ x)) (.int .u64 (w3_ x)) HM.out.2.1 HM.out.2.2.2
    exact bodyPost_ret (results_cell_row rfl _ _ (w.heap.size + 1) 61 (row5_ a0_0 x) (0, 0) _ rfl E.1 hu61 rfl (by kernel_rfl)) rfl ⟨by have H := H0.out; rw [← HX.out, if_pos MZ.out] at H; simp only [Option.some.injEq, Prod.mk.injEq] at H; obtain ⟨rfl, rfl, rfl, rfl, rfl⟩ := H; rfl, E.2⟩
   case neg =>
    have mb : (a1 == 0) = false := by simp [mz]
    have MZ := Aside0.mk mz
    clear mz
    have wm : wrap64 (a1 - 1) = a1 - 1 := by have := M0.out; have := M1.out; unfold wrap64; omega
    have ha_0 : wr.cell? ⟨w.heap.size, 0, none⟩ = some (.bool a0_0) := (blk_cell HM.out.1 0).trans rfl
    have fa_0 := blk_frozen HM.out.1 0
    have ha_1 : wr.cell? ⟨w.heap.size, 1, none⟩ = some (.int .u64 a0_1) := (blk_cell HM.out.1 1).trans rfl
    have fa_1 := blk_frozen HM.out.1 1
    have ha_2 : wr.cell? ⟨w.heap.size, 2, none⟩ = some (.int .u64 a0_2) := (blk_cell HM.out.1 2).trans rfl
    have fa_2 := blk_frozen HM.out.1 2
    have ha_3 : wr.cell? ⟨w.heap.size, 3, none⟩ = some (.int .u64 a0_3) := (blk_cell HM.out.1 3).trans rfl
    have fa_3 := blk_frozen HM.out.1 3
    have ha_4 : wr.cell? ⟨w.heap.size, 4, none⟩ = some (.int .u64 a0_4) := (blk_cell HM.out.1 4).trans rfl
    have fa_4 := blk_frozen HM.out.1 4
    by_cases b1 : bitOf_ (bv_ a0_1 a0_2 a0_3 a0_4) (a1 - 1) = 0
    case pos =>
     have bb : (bitOf_ (bv_ a0_1 a0_2 a0_3 a0_4) (a1 - 1) == 0) = true := by simp [b1]
     have B1 := Aside0.mk b1
     clear b1
     go_wp2_with ((go_at_call 52; (with_reducible refine (SB.out _ (a1 - 1) (by have := M0.out; have := MZ.out; omega) (by have := M1.out; omega)).mono ?_); rintro e w4 ⟨rfl, hb⟩; have HM4 := Aside0.mk (mem5_call_ HM.out hb); clear hb; have hq_0 : w4.cell? ⟨w.heap.size + 1 + 1, 0, none⟩ = some (.bool a0_0) := (blk_cell HM4.out.2.2.1 0).trans rfl; have fq_0 := blk_frozen HM4.out.2.2.1 0; have hq_1 : w4.cell? ⟨w.heap.size + 1 + 1, 1, none⟩ = some (.int .u64 (w0_ x)) := (blk_cell HM4.out.2.2.1 1).trans rfl; have fq_1 := blk_frozen HM4.out.2.2.1 1; have hq_2 : w4.cell? ⟨w.heap.size + 1 + 1, 2, none⟩ = some (.int .u64 (w1_ x)) := (blk_cell HM4.out.2.2.1 2).trans rfl; have fq_2 := blk_frozen HM4.out.2.2.1 2; have hq_3 : w4.cell? ⟨w.heap.size + 1 + 1, 3, none⟩ = some (.int .u64 (w2_ x)) := (blk_cell HM4.out.2.2.1 3).trans rfl; have fq_3 := blk_frozen HM4.out.2.2.1 3; have hq_4 : w4.cell? ⟨w.heap.size + 1 + 1, 4, none⟩ = some (.int .u64 (w3_ x)) := (blk_cell HM4.out.2.2.1 4).trans rfl; have fq_4 := blk_frozen HM4.out.2.2.1 4; have hr_0 : w4.cell? ⟨w.heap.size + 1, 0, none⟩ = some (.bool false) := (blk_cell HM4.out.2.1 0).trans rfl; have fr_0 := blk_frozen HM4.out.2.1 0; have hr_1 : w4.cell? ⟨w.heap.size + 1, 1, none⟩ = some (.int .u64 0) := (blk_cell HM4.out.2.1 1).trans rfl; have fr_1 := blk_frozen HM4.out.2.1 1; have hr_2 : w4.cell? ⟨w.heap.size + 1, 2, none⟩ = some (.int .u64 0) := (blk_cell HM4.out.2.1 2).trans rfl; have fr_2 := blk_frozen HM4.out.2.1 2; have hr_3 : w4.cell? ⟨w.heap.size + 1, 3, none⟩ = some (.int .u64 0) := (blk_cell HM4.out.2.1 3).trans rfl; have fr_3 := blk_frozen HM4.out.2.1 3; have hr_4 : w4.cell? ⟨w.heap.size + 1, 4, none⟩ = some (.int .u64 0) := (blk_cell HM4.out.2.1 4).trans rfl; have fr_4 := blk_frozen HM4.out.2.1 4))
     have E := end5_ w w4 (w.heap.size + 1) (by omega) 61 _ _ _ _ _ (.bool a0_0) (.int .u64 (w0_ x)) (.int .u64 (w1_ x)) (.int .u64 (w2_ x)) (.int .u64 (w3_ x)) HM4.out.2.1 HM4.out.2.2.2
     exact bodyPost_ret (results_cell_row rfl _ _ (w.heap.size + 1) 61 (row5_ a0_0 x) (0, 0) _ rfl E.1 hu61 rfl (by kernel_rfl)) rfl ⟨by have H := H0.out; rw [← HX.out, if_neg MZ.out, if_pos B1.out] at H; simp only [Option.some.injEq, Prod.mk.injEq] at H; obtain ⟨rfl, rfl, rfl, rfl, rfl⟩ := H; rfl, E.2⟩
    case neg =>
     have bb : (bitOf_ (bv_ a0_1 a0_2 a0_3 a0_4) (a1 - 1) == 0) = false := by simp [b1]
     have B1 := Aside0.mk b1
     clear b1
     go_wp2_with ((go_at_call 52; (with_reducible refine (SB.out _ (a1 - 1) (by have := M0.out; have := MZ.out; omega) (by have := M1.out; omega)).mono ?_); rintro e w4 ⟨rfl, hb⟩; have HM4 := Aside0.mk (mem5_call_ HM.out hb); clear hb; have hq_0 : w4.cell? ⟨w.heap.size + 1 + 1, 0, none⟩ = some (.bool a0_0) := (blk_cell HM4.out.2.2.1 0).trans rfl; have fq_0 := blk_frozen HM4.out.2.2.1 0; have hq_1 : w4.cell? ⟨w.heap.size + 1 + 1, 1, none⟩ = some (.int .u64 (w0_ x)) := (blk_cell HM4.out.2.2.1 1).trans rfl; have fq_1 := blk_frozen HM4.out.2.2.1 1; have hq_2 : w4.cell? ⟨w.heap.size + 1 + 1, 2, none⟩ = some (.int .u64 (w1_ x)) := (blk_cell HM4.out.2.2.1 2).trans rfl; have fq_2 := blk_frozen HM4.out.2.2.1 2; have hq_3 : w4.cell? ⟨w.heap.size + 1 + 1, 3, none⟩ = some (.int .u64 (w2_ x)) := (blk_cell HM4.out.2.2.1 3).trans rfl; have fq_3 := blk_frozen HM4.out.2.2.1 3; have hq_4 : w4.cell? ⟨w.heap.size + 1 + 1, 4, none⟩ = some (.int .u64 (w3_ x)) := (blk_cell HM4.out.2.2.1 4).trans rfl; have fq_4 := blk_frozen HM4.out.2.2.1 4; have hr_0 : w4.cell? ⟨w.heap.size + 1, 0, none⟩ = some (.bool false) := (blk_cell HM4.out.2.1 0).trans rfl; have fr_0 := blk_frozen HM4.out.2.1 0; have hr_1 : w4.cell? ⟨w.heap.size + 1, 1, none⟩ = some (.int .u64 0) := (blk_cell HM4.out.2.1 1).trans rfl; have fr_1 := blk_frozen HM4.out.2.1 1; have hr_2 : w4.cell? ⟨w.heap.size + 1, 2, none⟩ = some (.int .u64 0) := (blk_cell HM4.out.2.1 2).trans rfl; have fr_2 := blk_frozen HM4.out.2.1 2; have hr_3 : w4.cell? ⟨w.heap.size + 1, 3, none⟩ = some (.int .u64 0) := (blk_cell HM4.out.2.1 3).trans rfl; have fr_3 := blk_frozen HM4.out.2.1 3; have hr_4 : w4.cell? ⟨w.heap.size + 1, 4, none⟩ = some (.int .u64 0) := (blk_cell HM4.out.2.1 4).trans rfl; have fr_4 := blk_frozen HM4.out.2.1 4))
     go_loopg [7, 8] (a1 - 1).toNat (fun kq v7 v8 w' => ∃ (mo : Bool) (j : Int), v7 = .bool mo ∧ v8 = .int .i64 j ∧ Aside0 (0 ≤ j ∧ j ≤ a1 - 1) ∧ Aside0 (kq = (a1 - 1 - j).toNat) ∧ Aside0 (mo = more_ (bv_ a0_1 a0_2 a0_3 a0_4) x j) ∧ Aside0 (Mem5_ w 61 a0_0 a0_1 a0_2 a0_3 a0_4 a0_0 x w'))
     case atStart => exact ⟨_, 0, rfl, rfl, ⟨by have := M0.out; have := MZ.out; omega⟩, ⟨by simp⟩, ⟨more_start_ _ x⟩, HM4⟩
     case round =>
      clear HM HM4
      obtain ⟨mo, j, rfl, rfl, HJ, HK, HMO, HM⟩ := hrel
      by_cases c : j < a1 - 1
      case pos =>
       have cb : decide (j < a1 - 1) = true := decide_eq_true c
       have C := Aside0.mk c
       clear c
       have w1 : wrap64 (j + 1) = j + 1 := by have := HJ.out; have := M1.out; unfold wrap64; omega
       have ha_0 : wr.cell? ⟨w.heap.size, 0, none⟩ = some (.bool a0_0) := (blk_cell HM.out.1 0).trans rfl
       have fa_0 := blk_frozen HM.out.1 0
       have ha_1 : wr.cell? ⟨w.heap.size, 1, none⟩ = some (.int .u64 a0_1) := (blk_cell HM.out.1 1).trans rfl
       have fa_1 := blk_frozen HM.out.1 1
       have ha_2 : wr.cell? ⟨w.heap.size, 2, none⟩ = some (.int .u64 a0_2) := (blk_cell HM.out.1 2).trans rfl
       have fa_2 := blk_frozen HM.out.1 2
       have ha_3 : wr.cell? ⟨w.heap.size, 3, none⟩ = some (.int .u64 a0_3) := (blk_cell HM.out.1 3).trans rfl
       have fa_3 := blk_frozen HM.out.1 3
       have ha_4 : wr.cell? ⟨w.heap.size, 4, none⟩ = some (.int .u64 a0_4) := (blk_cell HM.out.1 4).trans rfl
       have fa_4 := blk_frozen HM.out.1 4
       cases mo with
       | true =>
        go_wp2
        go_roundg (a1 - 1 - (j + 1)).toNat
        case measure => have := HK.out; have := C.out; have := HJ.out; omega
        case rel => exact ⟨_, j + 1, rfl, by first | rfl | rw [w1], ⟨by have := HJ.out; have := C.out; omega⟩, ⟨rfl⟩, ⟨more_up_ _ x j HJ.out.1 HMO.out⟩, HM⟩
       | false =>
        by_cases b1 : bitOf_ (bv_ a0_1 a0_2 a0_3 a0_4) j = 1
        case pos =>
         have bb : (bitOf_ (bv_ a0_1 a0_2 a0_3 a0_4) j == 1) = true := by simp [b1]
         have B2 := Aside0.mk b1
         clear b1
         go_wp2_with ((go_at_call 52; (with_reducible refine (SB.out _ j (by have := HJ.out; omega) (by have := HJ.out; have := M1.out; omega)).mono ?_); rintro e w5 ⟨rfl, hb⟩; have HM5 := Aside0.mk (mem5_call_ HM.out hb); clear hb))
         go_roundg (a1 - 1 - (j + 1)).toNat
         case measure => have := HK.out; have := C.out; have := HJ.out; omega
         case rel => exact ⟨_, j + 1, rfl, by first | rfl | rw [w1], ⟨by have := HJ.out; have := C.out; omega⟩, ⟨rfl⟩, ⟨more_one_ _ x j HJ.out.1 HMO.out B2.out⟩, HM5⟩
        case neg =>
         have bb : (bitOf_ (bv_ a0_1 a0_2 a0_3 a0_4) j == 1) = false := by simp [b1]
         have B2 := Aside0.mk b1
         clear b1
         go_wp2_with ((go_at_call 52; (with_reducible refine (SB.out _ j (by have := HJ.out; omega) (by have := HJ.out; have := M1.out; omega)).mono ?_); rintro e w5 ⟨rfl, hb⟩; have HM5 := Aside0.mk (mem5_call_ HM.out hb); clear hb))
         go_roundg (a1 - 1 - (j + 1)).toNat
         case measure => have := HK.out; have := C.out; have := HJ.out; omega
         case rel => exact ⟨_, j + 1, rfl, by first | rfl | rw [w1], ⟨by have := HJ.out; have := C.out; omega⟩, ⟨rfl⟩, ⟨more_zero_ _ x j HJ.out.1 HMO.out B2.out⟩, HM5⟩
      case neg =>
       have cb : decide (j < a1 - 1) = false := decide_eq_false c
       have jm : j = a1 - 1 := by have := HJ.out; omega
       subst jm
       clear c
       have hx_0 : wr.cell? ⟨w.heap.size + 1 + 1, 0, none⟩ = some (.bool a0_0) := (blk_cell HM.out.2.2.1 0).trans rfl
       have fx_0 := blk_frozen HM.out.2.2.1 0
       have hx_1 : wr.cell? ⟨w.heap.size + 1 + 1, 1, none⟩ = some (.int .u64 (w0_ x)) := (blk_cell HM.out.2.2.1 1).trans rfl
       have fx_1 := blk_frozen HM.out.2.2.1 1
       have hx_2 : wr.cell? ⟨w.heap.size + 1 + 1, 2, none⟩ = some (.int .u64 (w1_ x)) := (blk_cell HM.out.2.2.1 2).trans rfl
       have fx_2 := blk_frozen HM.out.2.2.1 2
       have hx_3 : wr.cell? ⟨w.heap.size + 1 + 1, 3, none⟩ = some (.int .u64 (w2_ x)) := (blk_cell HM.out.2.2.1 3).trans rfl
       have fx_3 := blk_frozen HM.out.2.2.1 3
       have hx_4 : wr.cell? ⟨w.heap.size + 1 + 1, 4, none⟩ = some (.int .u64 (w3_ x)) := (blk_cell HM.out.2.2.1 4).trans rfl
       have fx_4 := blk_frozen HM.out.2.2.1 4
       have hy_0 : wr.cell? ⟨w.heap.size + 1, 0, none⟩ = some (.bool false) := (blk_cell HM.out.2.1 0).trans rfl
       have fy_0 := blk_frozen HM.out.2.1 0
       have hy_1 : wr.cell? ⟨w.heap.size + 1, 1, none⟩ = some (.int .u64 0) := (blk_cell HM.out.2.1 1).trans rfl
       have fy_1 := blk_frozen HM.out.2.1 1
       have hy_2 : wr.cell? ⟨w.heap.size + 1, 2, none⟩ = some (.int .u64 0) := (blk_cell HM.out.2.1 2).trans rfl
       have fy_2 := blk_frozen HM.out.2.1 2
       have hy_3 : wr.cell? ⟨w.heap.size + 1, 3, none⟩ = some (.int .u64 0) := (blk_cell HM.out.2.1 3).trans rfl
       have fy_3 := blk_frozen HM.out.2.1 3
       have hy_4 : wr.cell? ⟨w.heap.size + 1, 4, none⟩ = some (.int .u64 0) := (blk_cell HM.out.2.1 4).trans rfl
       have fy_4 := blk_frozen HM.out.2.1 4
       cases mo with
       | false =>
        go_wp2
        have E := end5_ w wr (w.heap.size + 1) (by omega) 61 _ _ _ _ _ (.bool a0_0) (.int .u64 (w0_ x)) (.int .u64 (w1_ x)) (.int .u64 (w2_ x)) (.int .u64 (w3_ x)) HM.out.2.1 HM.out.2.2.2
        exact bodyPost_ret (results_cell_row rfl _ _ (w.heap.size + 1) 61 (row5_ a0_0 x) (0, 0) _ rfl E.1 hu61 rfl (by kernel_rfl)) rfl ⟨by have H := H0.out; rw [← HX.out, if_neg MZ.out, if_neg B1.out, if_neg (by rw [← HMO.out]; decide)] at H; simp only [Option.some.injEq, Prod.mk.injEq] at H; obtain ⟨rfl, rfl, rfl, rfl, rfl⟩ := H; rfl, E.2⟩
       | true =>
        have H := H0.out
        rw [← HX.out, if_neg MZ.out, if_neg B1.out, if_pos HMO.out.symm] at H
        obtain ⟨⟨p0, p1, p2, p3⟩, hp, H⟩ := Option.bind_eq_some_iff.mp H
        have HP := Aside0.mk hp
        have HR := Aside0.mk H
        clear hp H
        go_upto_region 16 with (((with_reducible refine gate_dst (N := 76) rfl ?_); refine zg_ (some 76) Try.func48 #[.agg #[.int .u64 (w0_ x), .int .u64 (w1_ x), .int .u64 (w2_ x), .int .u64 (w3_ x)], .agg #[.int .u64 1, .int .u64 0, .int .u64 0, .int .u64 0]] (h := ?_); (with_reducible refine (carouselref1_plus.calls (w0_ x) (w1_ x) (w2_ x) (w3_ x) 1 0 0 0 p0 p1 p2 p3 _ HP.out).mono ?_); rintro e w5 ⟨rfl, hb⟩; refine ⟨_, rfl, ?_⟩; have HM5 := Aside0.mk (mem5_call_ HM.out hb); clear hb; have hq_0 : w5.cell? ⟨w.heap.size + 1 + 1, 0, none⟩ = some (.bool a0_0) := (blk_cell HM5.out.2.2.1 0).trans rfl; have fq_0 := blk_frozen HM5.out.2.2.1 0; have hq_1 : w5.cell? ⟨w.heap.size + 1 + 1, 1, none⟩ = some (.int .u64 (w0_ x)) := (blk_cell HM5.out.2.2.1 1).trans rfl; have fq_1 := blk_frozen HM5.out.2.2.1 1; have hq_2 : w5.cell? ⟨w.heap.size + 1 + 1, 2, none⟩ = some (.int .u64 (w1_ x)) := (blk_cell HM5.out.2.2.1 2).trans rfl; have fq_2 := blk_frozen HM5.out.2.2.1 2; have hq_3 : w5.cell? ⟨w.heap.size + 1 + 1, 3, none⟩ = some (.int .u64 (w2_ x)) := (blk_cell HM5.out.2.2.1 3).trans rfl; have fq_3 := blk_frozen HM5.out.2.2.1 3; have hq_4 : w5.cell? ⟨w.heap.size + 1 + 1, 4, none⟩ = some (.int .u64 (w3_ x)) := (blk_cell HM5.out.2.2.1 4).trans rfl; have fq_4 := blk_frozen HM5.out.2.2.1 4))
        generalize hW : ((((w5.setCell ⟨w.heap.size + 1 + 1, 1, none⟩ (.int .u64 p0)).setCell ⟨w.heap.size + 1 + 1, 2, none⟩ (.int .u64 p1)).setCell ⟨w.heap.size + 1 + 1, 3, none⟩ (.int .u64 p2)).setCell ⟨w.heap.size + 1 + 1, 4, none⟩ (.int .u64 p3)) = w6
        have F6 := Aside0.mk (set4_ HM5.out _ _ _ _ w6 hW)
        clear hW
        have hs_0 : w6.cell? ⟨w.heap.size + 1 + 1, 0, none⟩ = some (.bool a0_0) := (blk_cell F6.out.1 0).trans rfl
        have fs_0 := blk_frozen F6.out.1 0
        have hs_1 : w6.cell? ⟨w.heap.size + 1 + 1, 1, none⟩ = some (.int .u64 p0) := (blk_cell F6.out.1 1).trans rfl
        have fs_1 := blk_frozen F6.out.1 1
        have hs_2 : w6.cell? ⟨w.heap.size + 1 + 1, 2, none⟩ = some (.int .u64 p1) := (blk_cell F6.out.1 2).trans rfl
        have fs_2 := blk_frozen F6.out.1 2
        have hs_3 : w6.cell? ⟨w.heap.size + 1 + 1, 3, none⟩ = some (.int .u64 p2) := (blk_cell F6.out.1 3).trans rfl
        have fs_3 := blk_frozen F6.out.1 3
        have hs_4 : w6.cell? ⟨w.heap.size + 1 + 1, 4, none⟩ = some (.int .u64 p3) := (blk_cell F6.out.1 4).trans rfl
        have fs_4 := blk_frozen F6.out.1 4
        have ht_0 : w6.cell? ⟨w.heap.size + 1, 0, none⟩ = some (.bool false) := (blk_cell F6.out.2.1 0).trans rfl
        have ft_0 := blk_frozen F6.out.2.1 0
        have ht_1 : w6.cell? ⟨w.heap.size + 1, 1, none⟩ = some (.int .u64 0) := (blk_cell F6.out.2.1 1).trans rfl
        have ft_1 := blk_frozen F6.out.2.1 1
        have ht_2 : w6.cell? ⟨w.heap.size + 1, 2, none⟩ = some (.int .u64 0) := (blk_cell F6.out.2.1 2).trans rfl
        have ft_2 := blk_frozen F6.out.2.1 2
        have ht_3 : w6.cell? ⟨w.heap.size + 1, 3, none⟩ = some (.int .u64 0) := (blk_cell F6.out.2.1 3).trans rfl
        have ft_3 := blk_frozen F6.out.2.1 3
        have ht_4 : w6.cell? ⟨w.heap.size + 1, 4, none⟩ = some (.int .u64 0) := (blk_cell F6.out.2.1 4).trans rfl
        have ft_4 := blk_frozen F6.out.2.1 4
        go_wp2
        have E := end5_ w w6 (w.heap.size + 1) (by omega) 61 _ _ _ _ _ (.bool a0_0) (.int .u64 p0) (.int .u64 p1) (.int .u64 p2) (.int .u64 p3) F6.out.2.1 F6.out.2.2
        exact bodyPost_ret (results_cell_row rfl _ _ (w.heap.size + 1) 61 #[.bool a0_0, .int .u64 p0, .int .u64 p1, .int .u64 p2, .int .u64 p3] (0, 0) _ rfl E.1 hu61 rfl (by kernel_rfl)) rfl ⟨by have H := HR.out; simp only [Option.some.injEq, Prod.mk.injEq] at H; obtain ⟨rfl, rfl, rfl, rfl, rfl⟩ := H; rfl, E.2⟩
  case pos =>
   have C := Aside0.mk c
   have cb : decide (i < 256) = true := decide_eq_true c
   clear c
   obtain ⟨x, hx⟩ : ∃ x, x = bv_ a0_1 a0_2 a0_3 a0_4 / 2 ^ a1.toNat % 2 ^ (i - a1).toNat := ⟨_, rfl⟩
   rw [← hx] at HM
   have HX := Aside0.mk hx
   clear hx
   obtain ⟨b, hb0⟩ : ∃ b, b = bitOf_ (bv_ a0_1 a0_2 a0_3 a0_4) i := ⟨_, rfl⟩
   have HBT := Aside0.mk hb0
   have w1 : wrap64 (i + 1) = i + 1 := by have := HI.out; have := M0.out; have := C.out; unfold wrap64; omega
   have NB := Aside0.mk (next_bit_ (bv_ a0_1 a0_2 a0_3 a0_4) a1 i M0.out HI.out.1)
   have ha_0 : wr.cell? ⟨w.heap.size, 0, none⟩ = some (.bool a0_0) := (blk_cell HM.out.1 0).trans rfl
   have fa_0 := blk_frozen HM.out.1 0
   have ha_1 : wr.cell? ⟨w.heap.size, 1, none⟩ = some (.int .u64 a0_1) := (blk_cell HM.out.1 1).trans rfl
   have fa_1 := blk_frozen HM.out.1 1
   have ha_2 : wr.cell? ⟨w.heap.size, 2, none⟩ = some (.int .u64 a0_2) := (blk_cell HM.out.1 2).trans rfl
   have fa_2 := blk_frozen HM.out.1 2
   have ha_3 : wr.cell? ⟨w.heap.size, 3, none⟩ = some (.int .u64 a0_3) := (blk_cell HM.out.1 3).trans rfl
   have fa_3 := blk_frozen HM.out.1 3
   have ha_4 : wr.cell? ⟨w.heap.size, 4, none⟩ = some (.int .u64 a0_4) := (blk_cell HM.out.1 4).trans rfl
   have fa_4 := blk_frozen HM.out.1 4
   by_cases b1 : bitOf_ (bv_ a0_1 a0_2 a0_3 a0_4) i = 1
   case neg =>
    have bb : (bitOf_ (bv_ a0_1 a0_2 a0_3 a0_4) i == 1) = false := by simp [b1]
    have B0 : Aside0 (bitOf_ (bv_ a0_1 a0_2 a0_3 a0_4) i = 0) := ⟨by unfold bitOf_ at b1 ⊢; omega⟩
    clear b1 hb0
    go_wp2_with (((with_reducible refine gate_dst (N := 20) rfl ?_); refine zg_ (some 20) Try.func52 #[.agg #[.int .u64 a0_1, .int .u64 a0_2, .int .u64 a0_3, .int .u64 a0_4], .int .i64 i] (h := ?_); (with_reducible refine (SB.out _ i (by have := HI.out; have := M0.out; omega) C.out).mono ?_); rintro e w4 ⟨rfl, hb⟩; refine ⟨_, rfl, ?_⟩; have HM4 := Aside0.mk (mem5_call_ HM.out hb); clear hb; have hq_0 : w4.cell? ⟨w.heap.size + 1 + 1, 0, none⟩ = some (.bool a0_0) := (blk_cell HM4.out.2.2.1 0).trans rfl; have fq_0 := blk_frozen HM4.out.2.2.1 0; have hq_1 : w4.cell? ⟨w.heap.size + 1 + 1, 1, none⟩ = some (.int .u64 (w0_ x)) := (blk_cell HM4.out.2.2.1 1).trans rfl; have fq_1 := blk_frozen HM4.out.2.2.1 1; have hq_2 : w4.cell? ⟨w.heap.size + 1 + 1, 2, none⟩ = some (.int .u64 (w1_ x)) := (blk_cell HM4.out.2.2.1 2).trans rfl; have fq_2 := blk_frozen HM4.out.2.2.1 2; have hq_3 : w4.cell? ⟨w.heap.size + 1 + 1, 3, none⟩ = some (.int .u64 (w2_ x)) := (blk_cell HM4.out.2.2.1 3).trans rfl; have fq_3 := blk_frozen HM4.out.2.2.1 3; have hq_4 : w4.cell? ⟨w.heap.size + 1 + 1, 4, none⟩ = some (.int .u64 (w3_ x)) := (blk_cell HM4.out.2.2.1 4).trans rfl; have fq_4 := blk_frozen HM4.out.2.2.1 4))
    go_roundg (256 - (i + 1)).toNat
    case measure => have := HK.out; have := C.out; have := HI.out; omega
    case rel => exact ⟨i + 1, by first | rfl | rw [w1], ⟨by have := HI.out; have := C.out; omega⟩, ⟨rfl⟩, ⟨by rw [NB.out, B0.out, Int.mul_zero, Int.add_zero, ← HX.out]; exact HM4.out⟩⟩
   case pos =>
    have bb : (bitOf_ (bv_ a0_1 a0_2 a0_3 a0_4) i == 1) = true := by simp [b1]
    have B1 := Aside0.mk b1
    clear b1 hb0
    obtain ⟨d, hd⟩ : ∃ d, d = i - a1 := ⟨_, rfl⟩
    have d0 : 0 ≤ d ∧ d < 256 := by have := HI.out; have := C.out; have := M0.out; omega
    have wd : wrap64 (i - a1) = d := by unfold wrap64; omega
    obtain ⟨s, hs⟩ : ∃ s, s = d % 64 := ⟨_, rfl⟩
    have s0 : 0 ≤ s := by omega
    have s1 : s < 64 := by omega
    have e2 : d.tmod 64 = s := by rw [Int.tmod_eq_emod_of_nonneg (by omega)]; omega
    have D := Aside0.mk hd
    have S := Aside0.mk hs
    have x0 : 0 ≤ x ∧ x < 2 ^ (i - a1).toNat := by
     rw [HX.out]
     have p : (0 : Int) < 2 ^ (i - a1).toNat := Int.pow_pos (by decide)
     exact ⟨Int.emod_nonneg _ (by omega), Int.emod_lt_of_pos _ p⟩
    have X0 := Aside0.mk x0
    clear x0
    by_cases j0 : d / 64 = 0
    case pos =>
     have e1 : d.tdiv 64 = 0 := by rw [Int.tdiv_eq_ediv_of_nonneg (by omega)]; omega
     have E := Aside0.mk (set_or_ x d s 0 (by omega) (by decide) s0 s1 X0.out.1 (by rw [hd]; exact X0.out.2) a0_0)
     clear hd hs j0
     go_wp2_with (((with_reducible refine gate_dst (N := 20) rfl ?_); refine zg_ (some 20) Try.func52 #[.agg #[.int .u64 a0_1, .int .u64 a0_2, .int .u64 a0_3, .int .u64 a0_4], .int .i64 i] (h := ?_); (with_reducible refine (SB.out _ i (by have := HI.out; have := M0.out; omega) C.out).mono ?_); rintro e w4 ⟨rfl, hb⟩; refine ⟨_, rfl, ?_⟩; have HM4 := Aside0.mk (mem5_call_ HM.out hb); clear hb; have hq_0 : w4.cell? ⟨w.heap.size + 1 + 1, 0, none⟩ = some (.bool a0_0) := (blk_cell HM4.out.2.2.1 0).trans rfl; have fq_0 := blk_frozen HM4.out.2.2.1 0; have hq_1 : w4.cell? ⟨w.heap.size + 1 + 1, 1, none⟩ = some (.int .u64 (w0_ x)) := (blk_cell HM4.out.2.2.1 1).trans rfl; have fq_1 := blk_frozen HM4.out.2.2.1 1; have hq_2 : w4.cell? ⟨w.heap.size + 1 + 1, 2, none⟩ = some (.int .u64 (w1_ x)) := (blk_cell HM4.out.2.2.1 2).trans rfl; have fq_2 := blk_frozen HM4.out.2.2.1 2; have hq_3 : w4.cell? ⟨w.heap.size + 1 + 1, 3, none⟩ = some (.int .u64 (w2_ x)) := (blk_cell HM4.out.2.2.1 3).trans rfl; have fq_3 := blk_frozen HM4.out.2.2.1 3; have hq_4 : w4.cell? ⟨w.heap.size + 1 + 1, 4, none⟩ = some (.int .u64 (w3_ x)) := (blk_cell HM4.out.2.2.1 4).trans rfl; have fq_4 := blk_frozen HM4.out.2.2.1 4))
     go_roundg (256 - (i + 1)).toNat
     case measure => have := HK.out; have := C.out; have := HI.out; omega
     case rel => exact ⟨i + 1, by first | rfl | rw [w1], ⟨by have := HI.out; have := C.out; omega⟩, ⟨rfl⟩, ⟨mem5_set_ HM4.out _ _ _ (by rw [NB.out, B1.out, Int.mul_one, ← HX.out, ← D.out]; exact E.out)⟩⟩
    case neg =>
     by_cases j1 : d / 64 = 1
     case pos =>
      have e1 : d.tdiv 64 = 1 := by rw [Int.tdiv_eq_ediv_of_nonneg (by omega)]; omega
      have E := Aside0.mk (set_or_ x d s 1 (by omega) (by decide) s0 s1 X0.out.1 (by rw [hd]; exact X0.out.2) a0_0)
      clear hd hs j0 j1
      go_wp2_with (((with_reducible refine gate_dst (N := 20) rfl ?_); refine zg_ (some 20) Try.func52 #[.agg #[.int .u64 a0_1, .int .u64 a0_2, .int .u64 a0_3, .int .u64 a0_4], .int .i64 i] (h := ?_); (with_reducible refine (SB.out _ i (by have := HI.out; have := M0.out; omega) C.out).mono ?_); rintro e w4 ⟨rfl, hb⟩; refine ⟨_, rfl, ?_⟩; have HM4 := Aside0.mk (mem5_call_ HM.out hb); clear hb; have hq_0 : w4.cell? ⟨w.heap.size + 1 + 1, 0, none⟩ = some (.bool a0_0) := (blk_cell HM4.out.2.2.1 0).trans rfl; have fq_0 := blk_frozen HM4.out.2.2.1 0; have hq_1 : w4.cell? ⟨w.heap.size + 1 + 1, 1, none⟩ = some (.int .u64 (w0_ x)) := (blk_cell HM4.out.2.2.1 1).trans rfl; have fq_1 := blk_frozen HM4.out.2.2.1 1; have hq_2 : w4.cell? ⟨w.heap.size + 1 + 1, 2, none⟩ = some (.int .u64 (w1_ x)) := (blk_cell HM4.out.2.2.1 2).trans rfl; have fq_2 := blk_frozen HM4.out.2.2.1 2; have hq_3 : w4.cell? ⟨w.heap.size + 1 + 1, 3, none⟩ = some (.int .u64 (w2_ x)) := (blk_cell HM4.out.2.2.1 3).trans rfl; have fq_3 := blk_frozen HM4.out.2.2.1 3; have hq_4 : w4.cell? ⟨w.heap.size + 1 + 1, 4, none⟩ = some (.int .u64 (w3_ x)) := (blk_cell HM4.out.2.2.1 4).trans rfl; have fq_4 := blk_frozen HM4.out.2.2.1 4))
      go_roundg (256 - (i + 1)).toNat
      case measure => have := HK.out; have := C.out; have := HI.out; omega
      case rel => exact ⟨i + 1, by first | rfl | rw [w1], ⟨by have := HI.out; have := C.out; omega⟩, ⟨rfl⟩, ⟨mem5_set_ HM4.out _ _ _ (by rw [NB.out, B1.out, Int.mul_one, ← HX.out, ← D.out]; exact E.out)⟩⟩
     case neg =>
      by_cases j2 : d / 64 = 2
      case pos =>
       have e1 : d.tdiv 64 = 2 := by rw [Int.tdiv_eq_ediv_of_nonneg (by omega)]; omega
       have E := Aside0.mk (set_or_ x d s 2 (by omega) (by decide) s0 s1 X0.out.1 (by rw [hd]; exact X0.out.2) a0_0)
       clear hd hs j0 j1 j2
       go_wp2_with (((with_reducible refine gate_dst (N := 20) rfl ?_); refine zg_ (some 20) Try.func52 #[.agg #[.int .u64 a0_1, .int .u64 a0_2, .int .u64 a0_3, .int .u64 a0_4], .int .i64 i] (h := ?_); (with_reducible refine (SB.out _ i (by have := HI.out; have := M0.out; omega) C.out).mono ?_); rintro e w4 ⟨rfl, hb⟩; refine ⟨_, rfl, ?_⟩; have HM4 := Aside0.mk (mem5_call_ HM.out hb); clear hb; have hq_0 : w4.cell? ⟨w.heap.size + 1 + 1, 0, none⟩ = some (.bool a0_0) := (blk_cell HM4.out.2.2.1 0).trans rfl; have fq_0 := blk_frozen HM4.out.2.2.1 0; have hq_1 : w4.cell? ⟨w.heap.size + 1 + 1, 1, none⟩ = some (.int .u64 (w0_ x)) := (blk_cell HM4.out.2.2.1 1).trans rfl; have fq_1 := blk_frozen HM4.out.2.2.1 1; have hq_2 : w4.cell? ⟨w.heap.size + 1 + 1, 2, none⟩ = some (.int .u64 (w1_ x)) := (blk_cell HM4.out.2.2.1 2).trans rfl; have fq_2 := blk_frozen HM4.out.2.2.1 2; have hq_3 : w4.cell? ⟨w.heap.size + 1 + 1, 3, none⟩ = some (.int .u64 (w2_ x)) := (blk_cell HM4.out.2.2.1 3).trans rfl; have fq_3 := blk_frozen HM4.out.2.2.1 3; have hq_4 : w4.cell? ⟨w.heap.size + 1 + 1, 4, none⟩ = some (.int .u64 (w3_ x)) := (blk_cell HM4.out.2.2.1 4).trans rfl; have fq_4 := blk_frozen HM4.out.2.2.1 4))
       go_roundg (256 - (i + 1)).toNat
       case measure => have := HK.out; have := C.out; have := HI.out; omega
       case rel => exact ⟨i + 1, by first | rfl | rw [w1], ⟨by have := HI.out; have := C.out; omega⟩, ⟨rfl⟩, ⟨mem5_set_ HM4.out _ _ _ (by rw [NB.out, B1.out, Int.mul_one, ← HX.out, ← D.out]; exact E.out)⟩⟩
      case neg =>
       have j3 : d / 64 = 3 := by omega
       have e1 : d.tdiv 64 = 3 := by rw [Int.tdiv_eq_ediv_of_nonneg (by omega)]; omega
       have E := Aside0.mk (set_or_ x d s 3 (by omega) (by decide) s0 s1 X0.out.1 (by rw [hd]; exact X0.out.2) a0_0)
       clear hd hs j0 j1 j2 j3
       go_wp2_with (((with_reducible refine gate_dst (N := 20) rfl ?_); refine zg_ (some 20) Try.func52 #[.agg #[.int .u64 a0_1, .int .u64 a0_2, .int .u64 a0_3, .int .u64 a0_4], .int .i64 i] (h := ?_); (with_reducible refine (SB.out _ i (by have := HI.out; have := M0.out; omega) C.out).mono ?_); rintro e w4 ⟨rfl, hb⟩; refine ⟨_, rfl, ?_⟩; have HM4 := Aside0.mk (mem5_call_ HM.out hb); clear hb; have hq_0 : w4.cell? ⟨w.heap.size + 1 + 1, 0, none⟩ = some (.bool a0_0) := (blk_cell HM4.out.2.2.1 0).trans rfl; have fq_0 := blk_frozen HM4.out.2.2.1 0; have hq_1 : w4.cell? ⟨w.heap.size + 1 + 1, 1, none⟩ = some (.int .u64 (w0_ x)) := (blk_cell HM4.out.2.2.1 1).trans rfl; have fq_1 := blk_frozen HM4.out.2.2.1 1; have hq_2 : w4.cell? ⟨w.heap.size + 1 + 1, 2, none⟩ = some (.int .u64 (w1_ x)) := (blk_cell HM4.out.2.2.1 2).trans rfl; have fq_2 := blk_frozen HM4.out.2.2.1 2; have hq_3 : w4.cell? ⟨w.heap.size + 1 + 1, 3, none⟩ = some (.int .u64 (w2_ x)) := (blk_cell HM4.out.2.2.1 3).trans rfl; have fq_3 := blk_frozen HM4.out.2.2.1 3; have hq_4 : w4.cell? ⟨w.heap.size + 1 + 1, 4, none⟩ = some (.int .u64 (w3_ x)) := (blk_cell HM4.out.2.2.1 4).trans rfl; have fq_4 := blk_frozen HM4.out.2.2.1 4))
       go_roundg (256 - (i + 1)).toNat
       case measure => have := HK.out; have := C.out; have := HI.out; omega
       case rel => exact ⟨i + 1, by first | rfl | rw [w1], ⟨by have := HI.out; have := C.out; omega⟩, ⟨rfl⟩, ⟨mem5_set_ HM4.out _ _ _ (by rw [NB.out, B1.out, Int.mul_one, ← HX.out, ← D.out]; exact E.out)⟩⟩

end Go.Proofs.Ytcipfhlcgnomaaa.PConvBacks
