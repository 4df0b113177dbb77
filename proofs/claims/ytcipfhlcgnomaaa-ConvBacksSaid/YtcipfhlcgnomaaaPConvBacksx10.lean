/- The functions that the law ConvBacks reaches, as Lean functions, and that each call of the Go function does what its Lean function says, wherever that one answers. Written by a program of mine over the print of the kit; Lean checks it. -/
import Derived.Test.YtcipfhlcgnomaaaPConvBacksx0
import Derived.Test.YtcipfhlcgnomaaaPConvBacksx9
namespace Go.Proofs.Ytcipfhlcgnomaaa.PConvBacks
open Go.RowKit Go.Proofs.YtcipfhlcgnomaaaW.PrintWords Go.Proofs.YtcipfhlcgnomaaaW.PrintLast Go.Proofs.YtcipfhlcgnomaaaW.PrintMore
attribute [local go_sem] max2_int min2_int max_two min_two max_three min_three max_four min_four   -- for this text's walks alone
set_option linter.unusedVariables false
set_option linter.unusedSimpArgs false

/-! ### carouselref1_minus: function 50 -/
def carouselref1_minus.s (a b c : Int) : Int := IntKind.u64.wrap (IntKind.u64.wrap (a - b) - c)
def carouselref1_minus.c (a b c : Int) : Int := if a < b then 1 else if IntKind.u64.wrap (a - b) < c then 1 else 0
theorem carouselref1_minus.s_z (a b : Int) : IntKind.u64.wrap (IntKind.u64.wrap (a - b)) = carouselref1_minus.s a b 0 := by unfold carouselref1_minus.s; rw [Int.sub_zero]
theorem carouselref1_minus.c_pos (a b c : Int) (h : a < b) : 1 = carouselref1_minus.c a b c := by unfold carouselref1_minus.c; rw [if_pos h]
theorem carouselref1_minus.c_mid (a b c : Int) (h1 : ¬ a < b) (h : IntKind.u64.wrap (a - b) < c) : 1 = carouselref1_minus.c a b c := by
 unfold carouselref1_minus.c; rw [if_neg h1, if_pos h]
theorem carouselref1_minus.c_neg (a b c : Int) (h1 : ¬ a < b) (h2 : c ≤ IntKind.u64.wrap (a - b)) : 0 = carouselref1_minus.c a b c := by unfold carouselref1_minus.c; rw [if_neg h1, if_neg (by omega)]
theorem carouselref1_minus.c_posz (a b : Int) (h : a < b) : 1 = carouselref1_minus.c a b 0 := carouselref1_minus.c_pos a b 0 h
theorem carouselref1_minus.c_midz (a b : Int) (h1 : ¬ a < b) (h : IntKind.u64.wrap (a - b) < 0) : 1 = carouselref1_minus.c a b 0 := carouselref1_minus.c_mid a b 0 h1 h
theorem carouselref1_minus.c_negz (a b : Int) (h1 : ¬ a < b) (h2 : 0 ≤ IntKind.u64.wrap (a - b)) : 0 = carouselref1_minus.c a b 0 := carouselref1_minus.c_neg a b 0 h1 h2
def carouselref1_minus.f (a0_0 : Int) (a0_1 : Int) (a0_2 : Int) (a0_3 : Int) (a1_0 : Int) (a1_1 : Int) (a1_2 : Int) (a1_3 : Int) : Option (Int × Int × Int × Int) := some (carouselref1_minus.s a0_0 a1_0 0, carouselref1_minus.s a0_1 a1_1 (carouselref1_minus.c a0_0 a1_0 0), carouselref1_minus.s a0_2 a1_2 (carouselref1_minus.c a0_1 a1_1 (carouselref1_minus.c a0_0 a1_0 0)), carouselref1_minus.s a0_3 a1_3 (carouselref1_minus.c a0_2 a1_2 (carouselref1_minus.c a0_1 a1_1 (carouselref1_minus.c a0_0 a1_0 0))))
set_option maxHeartbeats 8000000 in
set_option maxRecDepth 100000 in
theorem carouselref1_minus.calls (a0_0 : Int) (a0_1 : Int) (a0_2 : Int) (a0_3 : Int) (a1_0 : Int) (a1_1 : Int) (a1_2 : Int) (a1_3 : Int) (r1 : Int) (r2 : Int) (r3 : Int) (r4 : Int) (w : World) (h : carouselref1_minus.f a0_0 a0_1 a0_2 a0_3 a1_0 a1_1 a1_2 a1_3 = some (r1, r2, r3, r4)) :
  Calls Try.prog 50 #[.agg #[.int .u64 a0_0, .int .u64 a0_1, .int .u64 a0_2, .int .u64 a0_3], .agg #[.int .u64 a1_0, .int .u64 a1_1, .int .u64 a1_2, .int .u64 a1_3]] w fun e w' => e = .returned (.agg #[.int .u64 r1, .int .u64 r2, .int .u64 r3, .int .u64 r4]) ∧ Below w.heap.size w w' := by
 unfold carouselref1_minus.f at h
 have H0 := Aside0.mk h
 clear h
 have hu59 := Try.underlying59
 go_enter Try.func50, Try.ntmps50
 go_wp2
 refine wp_loop_rounds 5 ?_
 rw [rounds_succ]
 go_upto_block 1 with (fail)
 go_cut [6] (fun v6 wc => ∃ (n : Nat) (k0 t0 : Int), v6 = .int .u64 k0 ∧ Aside0 (k0 = carouselref1_minus.c a0_0 a1_0 0) ∧ Aside0 (t0 = carouselref1_minus.s a0_0 a1_0 0) ∧ wc = (((((w.alloc (.cells #[.int .u64 a0_0, .int .u64 a0_1, .int .u64 a0_2, .int .u64 a0_3] 59)).alloc (.cells #[.int .u64 a1_0, .int .u64 a1_1, .int .u64 a1_2, .int .u64 a1_3] 59)).alloc (.cells #[.int .u64 0, .int .u64 0, .int .u64 0, .int .u64 0] 59)).alloc (.cells #[.int .u64 t0, .int .u64 0, .int .u64 0, .int .u64 0] 59))).drewN n)
 case first =>
  go_wp2
  go_quiet (fail)
  go_wp2
  by_cases cc : a0_0 < a1_0
  case pos =>
   go_quiet (fail)
   go_wp2
   go_meet
   exact ⟨_, _, _, rfl, ⟨carouselref1_minus.c_posz a0_0 a1_0 cc⟩, ⟨carouselref1_minus.s_z a0_0 a1_0⟩, set_last4_ _ _ _ _ _ _ _ _ _ _⟩
  case neg =>
   have dd : decide (a0_0 < a1_0) = false := decide_eq_false cc
   have CC := Aside0.mk cc
   clear cc
   go_quiet (fail)
   go_wp2
   all_goals go_meet
   all_goals first | exact ⟨_, _, _, rfl, ⟨carouselref1_minus.c_midz a0_0 a1_0 (by have := CC.out; omega) (by assumption)⟩, ⟨carouselref1_minus.s_z a0_0 a1_0⟩, set_last4_ _ _ _ _ _ _ _ _ _ _⟩ | exact ⟨_, _, _, rfl, ⟨carouselref1_minus.c_negz a0_0 a1_0 (by have := CC.out; omega) (by assumption)⟩, ⟨carouselref1_minus.s_z a0_0 a1_0⟩, set_last4_ _ _ _ _ _ _ _ _ _ _⟩
 case rest =>
  obtain ⟨n0, k0, t0, rfl, K0, T0, rfl⟩ := hcut
  go_wp2
  rw [rounds_succ]
  go_upto_block 1 with (fail)
  go_cut [6] (fun v6 wc => ∃ (n : Nat) (k1 t1 : Int), v6 = .int .u64 k1 ∧ Aside0 (k1 = carouselref1_minus.c a0_1 a1_1 k0) ∧ Aside0 (t1 = carouselref1_minus.s a0_1 a1_1 k0) ∧ wc = (((((w.alloc (.cells #[.int .u64 a0_0, .int .u64 a0_1, .int .u64 a0_2, .int .u64 a0_3] 59)).alloc (.cells #[.int .u64 a1_0, .int .u64 a1_1, .int .u64 a1_2, .int .u64 a1_3] 59)).alloc (.cells #[.int .u64 0, .int .u64 0, .int .u64 0, .int .u64 0] 59)).alloc (.cells #[.int .u64 t0, .int .u64 t1, .int .u64 0, .int .u64 0] 59))).drewN n)
  case first =>
   go_wp2
   go_quiet (fail)
   go_wp2
   by_cases cc : a0_1 < a1_1
   case pos =>
    go_quiet (fail)
    go_wp2
    go_meet
    exact ⟨_, _, _, rfl, ⟨carouselref1_minus.c_pos a0_1 a1_1 k0 cc⟩, ⟨rfl⟩, set_last4_ _ _ _ _ _ _ _ _ _ _⟩
   case neg =>
    have dd : decide (a0_1 < a1_1) = false := decide_eq_false cc
    have CC := Aside0.mk cc
    clear cc
    go_quiet (fail)
    go_wp2
    all_goals go_meet
    all_goals first | exact ⟨_, _, _, rfl, ⟨carouselref1_minus.c_mid a0_1 a1_1 k0 (by have := CC.out; omega) (by assumption)⟩, ⟨rfl⟩, set_last4_ _ _ _ _ _ _ _ _ _ _⟩ | exact ⟨_, _, _, rfl, ⟨carouselref1_minus.c_neg a0_1 a1_1 k0 (by have := CC.out; omega) (by assumption)⟩, ⟨rfl⟩, set_last4_ _ _ _ _ _ _ _ _ _ _⟩
  case rest =>
   obtain ⟨n1, k1, t1, rfl, K1, T1, rfl⟩ := hcut
   go_wp2
   rw [rounds_succ]
   go_upto_block 1 with (fail)
   go_cut [6] (fun v6 wc => ∃ (n : Nat) (k2 t2 : Int), v6 = .int .u64 k2 ∧ Aside0 (k2 = carouselref1_minus.c a0_2 a1_2 k1) ∧ Aside0 (t2 = carouselref1_minus.s a0_2 a1_2 k1) ∧ wc = (((((w.alloc (.cells #[.int .u64 a0_0, .int .u64 a0_1, .int .u64 a0_2, .int .u64 a0_3] 59)).alloc (.cells #[.int .u64 a1_0, .int .u64 a1_1, .int .u64 a1_2, .int .u64 a1_3] 59)).alloc (.cells #[.int .u64 0, .int .u64 0, .int .u64 0, .int .u64 0] 59)).alloc (.cells #[.int .u64 t0, .int .u64 t1, .int .u64 t2, .int .u64 0] 59))).drewN n)
   case first =>
    go_wp2
    go_quiet (fail)
    go_wp2
    by_cases cc : a0_2 < a1_2
    case pos =>
     go_quiet (fail)
     go_wp2
     go_meet
     exact ⟨_, _, _, rfl, ⟨carouselref1_minus.c_pos a0_2 a1_2 k1 cc⟩, ⟨rfl⟩, set_last4_ _ _ _ _ _ _ _ _ _ _⟩
    case neg =>
     have dd : decide (a0_2 < a1_2) = false := decide_eq_false cc
     have CC := Aside0.mk cc
     clear cc
     go_quiet (fail)
     go_wp2
     all_goals go_meet
     all_goals first | exact ⟨_, _, _, rfl, ⟨carouselref1_minus.c_mid a0_2 a1_2 k1 (by have := CC.out; omega) (by assumption)⟩, ⟨rfl⟩, set_last4_ _ _ _ _ _ _ _ _ _ _⟩ | exact ⟨_, _, _, rfl, ⟨carouselref1_minus.c_neg a0_2 a1_2 k1 (by have := CC.out; omega) (by assumption)⟩, ⟨rfl⟩, set_last4_ _ _ _ _ _ _ _ _ _ _⟩
   case rest =>
    obtain ⟨n2, k2, t2, rfl, K2, T2, rfl⟩ := hcut
    go_wp2
    rw [rounds_succ]
    go_upto_block 1 with (fail)
    go_cut [6] (fun v6 wc => ∃ (n : Nat) (k3 t3 : Int), v6 = .int .u64 k3 ∧ Aside0 (k3 = carouselref1_minus.c a0_3 a1_3 k2) ∧ Aside0 (t3 = carouselref1_minus.s a0_3 a1_3 k2) ∧ wc = (((((w.alloc (.cells #[.int .u64 a0_0, .int .u64 a0_1, .int .u64 a0_2, .int .u64 a0_3] 59)).alloc (.cells #[.int .u64 a1_0, .int .u64 a1_1, .int .u64 a1_2, .int .u64 a1_3] 59)).alloc (.cells #[.int .u64 0, .int .u64 0, .int .u64 0, .int .u64 0] 59)).alloc (.cells #[.int .u64 t0, .int .u64 t1, .int .u64 t2, .int .u64 t3] 59))).drewN n)
    case first =>
     go_wp2
     go_quiet (fail)
     go_wp2
     by_cases cc : a0_3 < a1_3
     case pos =>
      go_quiet (fail)
      go_wp2
      go_meet
      exact ⟨_, _, _, rfl, ⟨carouselref1_minus.c_pos a0_3 a1_3 k2 cc⟩, ⟨rfl⟩, set_last4_ _ _ _ _ _ _ _ _ _ _⟩
     case neg =>
      have dd : decide (a0_3 < a1_3) = false := decide_eq_false cc
      have CC := Aside0.mk cc
      clear cc
      go_quiet (fail)
      go_wp2
      all_goals go_meet
      all_goals first | exact ⟨_, _, _, rfl, ⟨carouselref1_minus.c_mid a0_3 a1_3 k2 (by have := CC.out; omega) (by assumption)⟩, ⟨rfl⟩, set_last4_ _ _ _ _ _ _ _ _ _ _⟩ | exact ⟨_, _, _, rfl, ⟨carouselref1_minus.c_neg a0_3 a1_3 k2 (by have := CC.out; omega) (by assumption)⟩, ⟨rfl⟩, set_last4_ _ _ _ _ _ _ _ _ _ _⟩
    case rest =>
     obtain ⟨n3, k3, t3, rfl, K3, T3, rfl⟩ := hcut
     go_wp2
     rw [rounds_succ]
     go_wp2
     have E := end4_ w (.cells #[.int .u64 a0_0, .int .u64 a0_1, .int .u64 a0_2, .int .u64 a0_3] 59) (.cells #[.int .u64 a1_0, .int .u64 a1_1, .int .u64 a1_2, .int .u64 a1_3] 59) (.cells #[.int .u64 t0, .int .u64 t1, .int .u64 t2, .int .u64 t3] 59) 59 n3 (.int .u64 0) (.int .u64 0) (.int .u64 0) (.int .u64 0) (.int .u64 t0) (.int .u64 t1) (.int .u64 t2) (.int .u64 t3)
     refine bodyPost_ret (results_cell_row rfl _ _ (w.heap.size + 1 + 1) 59 #[.int .u64 t0, .int .u64 t1, .int .u64 t2, .int .u64 t3] (0, 0) _ rfl E.1 hu59 rfl (by kernel_rfl)) rfl ⟨?_, E.2⟩
     have H := H0.out
     simp only [Option.some.injEq, Prod.mk.injEq] at H
     obtain ⟨rfl, rfl, rfl, rfl⟩ := H
     rw [T0.out, T1.out, T2.out, T3.out, K2.out, K1.out, K0.out]

/-! ### carouselref1_Plus: function 35 -/
def carouselref1_Plus.f (a0_0 : Bool) (a0_1 : Int) (a0_2 : Int) (a0_3 : Int) (a0_4 : Int) (a1_0 : Bool) (a1_1 : Int) (a1_2 : Int) (a1_3 : Int) (a1_4 : Int) : Option (Bool × Int × Int × Int × Int) := if (a0_0 == a1_0) = true then ((carouselref1_plus.f a0_1 a0_2 a0_3 a0_4 a1_1 a1_2 a1_3 a1_4).bind fun bt300 => (some (a0_0, bt300.1, bt300.2.1, bt300.2.2.1, bt300.2.2.2))) else ((carouselref1_less.f a0_1 a0_2 a0_3 a0_4 a1_1 a1_2 a1_3 a1_4).bind fun t304 => (if t304 = true then ((carouselref1_minus.f a1_1 a1_2 a1_3 a1_4 a0_1 a0_2 a0_3 a0_4).bind fun bt305 => (some (a1_0, bt305.1, bt305.2.1, bt305.2.2.1, bt305.2.2.2))) else ((carouselref1_minus.f a0_1 a0_2 a0_3 a0_4 a1_1 a1_2 a1_3 a1_4).bind fun bt309 => (some (a0_0, bt309.1, bt309.2.1, bt309.2.2.1, bt309.2.2.2)))))
def carouselref1_Plus.T2 : Bool × List (List Nat × List Nat) := (true, [([], []), ([0], [0]), ([], []), ([2], [2]), ([], []), ([4], [4]), ([3, 5], [3, 5]), ([1, 6], [1, 6]), ([7, 6, 0, 1, 2, 3, 4, 5, 6, 7], [7])])
def carouselref1_Plus.B2 : List Nat := [0, 1, 0, 4, 0, 16, 60, 127, 255]
theorem carouselref1_Plus.tab2 : rtab .any (opsOf Try.f35 2) = carouselref1_Plus.T2 := by kernel_rfl
theorem carouselref1_Plus.bits2 : waitsOk carouselref1_Plus.T2.2 carouselref1_Plus.B2 = true := by kernel_rfl
def carouselref1_Plus.T4 : Bool × List (List Nat × List Nat) := (true, [([], []), ([0], [0]), ([], []), ([2], [2]), ([], []), ([4], [4]), ([3, 5], [3, 5]), ([1, 6], [1, 6]), ([7, 6, 0, 1, 2, 3, 4, 5, 6, 7], [7])])
def carouselref1_Plus.B4 : List Nat := [0, 1, 0, 4, 0, 16, 60, 127, 255]
theorem carouselref1_Plus.tab4 : rtab .any (opsOf Try.f35 4) = carouselref1_Plus.T4 := by kernel_rfl
theorem carouselref1_Plus.bits4 : waitsOk carouselref1_Plus.T4.2 carouselref1_Plus.B4 = true := by kernel_rfl
def carouselref1_Plus.T5 : Bool × List (List Nat × List Nat) := (true, [([], []), ([0], [0]), ([], []), ([2], [2]), ([], []), ([4], [4]), ([3, 5], [3, 5]), ([1, 6], [1, 6]), ([7, 6, 0, 1, 2, 3, 4, 5, 6, 7], [7])])
def carouselref1_Plus.B5 : List Nat := [0, 1, 0, 4, 0, 16, 60, 127, 255]
theorem carouselref1_Plus.tab5 : rtab .any (opsOf Try.f35 5) = carouselref1_Plus.T5 := by kernel_rfl
theorem carouselref1_Plus.bits5 : waitsOk carouselref1_Plus.T5.2 carouselref1_Plus.B5 = true := by kernel_rfl
set_option maxHeartbeats 8000000 in
set_option maxRecDepth 100000 in
theorem carouselref1_Plus.calls (a0_0 : Bool) (a0_1 : Int) (a0_2 : Int) (a0_3 : Int) (a0_4 : Int) (a1_0 : Bool) (a1_1 : Int) (a1_2 : Int) (a1_3 : Int) (a1_4 : Int) (r1 : Bool) (r2 : Int) (r3 : Int) (r4 : Int) (r5 : Int) (w : World) (h : carouselref1_Plus.f a0_0 a0_1 a0_2 a0_3 a0_4 a1_0 a1_1 a1_2 a1_3 a1_4 = some (r1, r2, r3, r4, r5)) :
  Calls Try.prog 35 #[.agg #[.bool a0_0, .int .u64 a0_1, .int .u64 a0_2, .int .u64 a0_3, .int .u64 a0_4], .agg #[.bool a1_0, .int .u64 a1_1, .int .u64 a1_2, .int .u64 a1_3, .int .u64 a1_4]] w fun e w' => e = .returned (.agg #[.bool r1, .int .u64 r2, .int .u64 r3, .int .u64 r4, .int .u64 r5]) ∧ Below w.heap.size w w' := by
 have hu61 := Try.underlying61
 have hu59 := Try.underlying59
 have HB := Aside0.mk (Below.refl w.heap.size w)
 have H : (if (a0_0 == a1_0) = true then ((carouselref1_plus.f a0_1 a0_2 a0_3 a0_4 a1_1 a1_2 a1_3 a1_4).bind fun bt300 => (some (a0_0, bt300.1, bt300.2.1, bt300.2.2.1, bt300.2.2.2))) else ((carouselref1_less.f a0_1 a0_2 a0_3 a0_4 a1_1 a1_2 a1_3 a1_4).bind fun t304 => (if t304 = true then ((carouselref1_minus.f a1_1 a1_2 a1_3 a1_4 a0_1 a0_2 a0_3 a0_4).bind fun bt305 => (some (a1_0, bt305.1, bt305.2.1, bt305.2.2.1, bt305.2.2.2))) else ((carouselref1_minus.f a0_1 a0_2 a0_3 a0_4 a1_1 a1_2 a1_3 a1_4).bind fun bt309 => (some (a0_0, bt309.1, bt309.2.1, bt309.2.2.1, bt309.2.2.2)))))) = some (r1, r2, r3, r4, r5) := h
 clear h
 by_cases c3 : (a0_0 == a1_0) = true
 ·rw [if_pos c3] at H
  have c3b0 : (a0_0 == a1_0) = true := c3
  (try (have c3b1 : decide (a0_0 = a1_0) = true := by simpa using c3))
  (try (have c3b2 : (a0_0 == a1_0) = true := by simpa using c3))
  clear c3
  replace H := Option.bind_eq_some_iff.mp H
  obtain ⟨⟨t300, t301, t302, t303⟩, A40, H⟩ := H
  replace H : (some (a0_0, t300, t301, t302, t303)) = some (r1, r2, r3, r4, r5) := H
  have A4 := Aside0.mk A40
  clear A40
  simp only [Option.some.injEq, Prod.mk.injEq] at H
  obtain ⟨rfl, rfl, rfl, rfl, rfl⟩ := H
  go_enter Try.func35, Try.ntmps35
  try go_wp2_with (first | ((with_reducible refine gate_dst (N := 2) rfl ?_); refine box_event ?hg (N := 2) ?hd (cs := #[.bool a0_0, .int .u64 a0_1, .int .u64 a0_2, .int .u64 a0_3, .int .u64 a0_4]) (t := 61) ?hr ?_; (case hd => rfl); (case hg => rfl); (case hr => first | (go_simp; done) | (go_simp; rfl)); intro gb297 hg w5 hbox hb; have BK297 := Aside0.mk (hbox); have GW297 := Aside0.mk (zs_ hg (zw0_ HB)); have GE297 := Aside0.mk (zs_ hg (zw0_ HB)); replace HB := Aside0.mk (below_step (zw0_ HB) hb); clear hb hbox hg) | ((with_reducible refine gate_dst (N := 3) rfl ?_); refine box_event ?hg (N := 3) ?hd (cs := #[.bool a1_0, .int .u64 a1_1, .int .u64 a1_2, .int .u64 a1_3, .int .u64 a1_4]) (t := 61) ?hr ?_; (case hd => rfl); (case hg => rfl); (case hr => first | (go_simp; done) | (go_simp; rfl)); intro gb298 hg w6 hbox hb; have BK298 := Aside0.mk (hbox); have GW298 := Aside0.mk (zs_ hg (zw1_ HB GE297)); have GE298 := Aside0.mk (zs_ hg (zw1_ HB GE297)); replace HB := Aside0.mk (below_step (zw1_ HB GE297) hb); have NB297_298 := Aside0.mk (zn_ hg BK297); have NB298_297 := Aside0.mk (zm_ hg BK297); replace BK297 := za_ BK297 hb; clear hb hbox hg) | ((with_reducible refine gate_dst (N := 4) rfl ?_); refine box_event ?hg (N := 4) ?hd (cs := #[.bool false, .int .u64 0, .int .u64 0, .int .u64 0, .int .u64 0]) (t := 61) ?hr ?_; (case hd => rfl); (case hg => rfl); (case hr => first | (go_simp; done) | (go_simp; rfl)); intro gb299 hg w7 hbox hb; have BK299 := Aside0.mk (hbox); have GW299 := Aside0.mk (zs_ hg (zw2_ HB GE297 GE298)); have GE299 := Aside0.mk (zs_ hg (zw2_ HB GE297 GE298)); replace HB := Aside0.mk (below_step (zw2_ HB GE297 GE298) hb); have NB297_299 := Aside0.mk (zn_ hg BK297); have NB299_297 := Aside0.mk (zm_ hg BK297); replace BK297 := za_ BK297 hb; have NB298_299 := Aside0.mk (zn_ hg BK298); have NB299_298 := Aside0.mk (zm_ hg BK298); replace BK298 := za_ BK298 hb; clear hb hbox hg; have hnb8 := NB297_298.out; have hnc8 := NB298_297.out; have hnb9 := NB297_299.out; have hnc9 := NB299_297.out; have hcz10_0 := zx_ (v := .bool a0_0) BK297 0; have hcz10_1 := zx_ (v := .int .u64 a0_1) BK297 1; have hcz10_2 := zx_ (v := .int .u64 a0_2) BK297 2; have hcz10_3 := zx_ (v := .int .u64 a0_3) BK297 3; have hcz10_4 := zx_ (v := .int .u64 a0_4) BK297 4; have hfz10_0 := blk_frozen BK297.out 0; have hfz10_1 := blk_frozen BK297.out 1; have hfz10_2 := blk_frozen BK297.out 2; have hfz10_3 := blk_frozen BK297.out 3; have hfz10_4 := blk_frozen BK297.out 4; have hnb11 := NB298_299.out; have hnc11 := NB299_298.out; have hcz12_0 := zx_ (v := .bool a1_0) BK298 0; have hcz12_1 := zx_ (v := .int .u64 a1_1) BK298 1; have hcz12_2 := zx_ (v := .int .u64 a1_2) BK298 2; have hcz12_3 := zx_ (v := .int .u64 a1_3) BK298 3; have hcz12_4 := zx_ (v := .int .u64 a1_4) BK298 4; have hfz12_0 := blk_frozen BK298.out 0; have hfz12_1 := blk_frozen BK298.out 1; have hfz12_2 := blk_frozen BK298.out 2; have hfz12_3 := blk_frozen BK298.out 3; have hfz12_4 := blk_frozen BK298.out 4))
  replace BK297 := Aside0.mk (blk_drew BK297.out)
  replace BK298 := Aside0.mk (blk_drew BK298.out)
  replace BK299 := Aside0.mk (blk_drew BK299.out)
  replace HB := Aside0.mk (below_drew1 HB.out)
  refine start_ (n := 9) (S := fun w' => w'.cell? ⟨gb297, 0, none⟩ = some (.bool a0_0) ∧ w'.cell? ⟨gb297, 1, none⟩ = some (.int .u64 a0_1) ∧ w'.cell? ⟨gb297, 2, none⟩ = some (.int .u64 a0_2) ∧ w'.cell? ⟨gb297, 3, none⟩ = some (.int .u64 a0_3) ∧ w'.cell? ⟨gb297, 4, none⟩ = some (.int .u64 a0_4) ∧ w'.cell? ⟨gb298, 0, none⟩ = some (.bool a1_0) ∧ w'.cell? ⟨gb298, 1, none⟩ = some (.int .u64 a1_1) ∧ w'.cell? ⟨gb298, 2, none⟩ = some (.int .u64 a1_2) ∧ w'.cell? ⟨gb298, 3, none⟩ = some (.int .u64 a1_3) ∧ w'.cell? ⟨gb298, 4, none⟩ = some (.int .u64 a1_4)) (ds := []) #[false, false, false, false, false, false, false, false, false] (by kernel_rfl) rfl rfl ⟨(blk_cell BK297.out 0).trans rfl, (blk_cell BK297.out 1).trans rfl, (blk_cell BK297.out 2).trans rfl, (blk_cell BK297.out 3).trans rfl, (blk_cell BK297.out 4).trans rfl, (blk_cell BK298.out 0).trans rfl, (blk_cell BK298.out 1).trans rfl, (blk_cell BK298.out 2).trans rfl, (blk_cell BK298.out 3).trans rfl, (blk_cell BK298.out 4).trans rfl⟩ (fun hHeld => ?_); refine with_tabW carouselref1_Plus.tab2 carouselref1_Plus.bits2 (fun HT_ HW_ => ?_)
  generalize w7.drew = w13 at BK297 BK298 BK299 HB hHeld ⊢
  refine yp_ ?_ 0 10
  refine yp_ ?_ 2 12
  refine yp_ ?_ 4 14
  refine yt10_ ?_ 1 11
  refine yt10_ ?_ 3 13
  refine yt10_ ?_ 5 15
  refine yo_ 6 (some 16) (fun K hK => ?_)
  refine yg_ Try.func48 #[.agg #[.int .u64 a0_1, .int .u64 a0_2, .int .u64 a0_3, .int .u64 a0_4], .agg #[.int .u64 a1_1, .int .u64 a1_2, .int .u64 a1_3, .int .u64 a1_4]] ?_
  with_reducible refine (carouselref1_plus.calls a0_1 a0_2 a0_3 a0_4 a1_1 a1_2 a1_3 a1_4 t300 t301 t302 t303 _ A4.out).mono ?_
  rintro e w14 ⟨rfl, hb⟩
  refine ⟨_, rfl, ?_⟩
  replace BK297 := za_ BK297 hb
  replace BK298 := za_ BK298 hb
  replace BK299 := za_ BK299 hb
  replace HB := Aside0.mk (below_step (zw3_ HB GE297 GE298 GE299) hb)
  (try clear hb)
  (try clear hb2)
  (try clear hk)
  (try clear hi)
  refine hK.out _ _ ⟨zx_ BK297 0, zx_ BK297 1, zx_ BK297 2, zx_ BK297 3, zx_ BK297 4, zx_ BK298 0, zx_ BK298 1, zx_ BK298 2, zx_ BK298 3, zx_ BK298 4⟩ (fun hHeld => ?_)
  clear hK K
  refine zq_ (some 16) (h := ?_)
  refine yp_ ?_ 7 17
  refine yo_ 8 none (fun K hK => ?_)
  have hs15 := zx_ (v := .bool false) BK299 0
  have hfs15 := blk_frozen BK299.out 0
  have hns15_0 := NB297_299.out
  have hns15_1 := NB298_299.out
  have hms15_0 := NB299_297.out
  have hms15_1 := NB299_298.out
  have hs16 := zx_ (v := .int .u64 0) BK299 1
  have hfs16 := blk_frozen BK299.out 1
  have hns16_0 := NB297_299.out
  have hns16_1 := NB298_299.out
  have hms16_0 := NB299_297.out
  have hms16_1 := NB299_298.out
  have hs17 := zx_ (v := .int .u64 0) BK299 2
  have hfs17 := blk_frozen BK299.out 2
  have hns17_0 := NB297_299.out
  have hns17_1 := NB298_299.out
  have hms17_0 := NB299_297.out
  have hms17_1 := NB299_298.out
  have hs18 := zx_ (v := .int .u64 0) BK299 3
  have hfs18 := blk_frozen BK299.out 3
  have hns18_0 := NB297_299.out
  have hns18_1 := NB298_299.out
  have hms18_0 := NB299_297.out
  have hms18_1 := NB299_298.out
  have hs19 := zx_ (v := .int .u64 0) BK299 4
  have hfs19 := blk_frozen BK299.out 4
  have hns19_0 := NB297_299.out
  have hns19_1 := NB298_299.out
  have hms19_0 := NB299_297.out
  have hms19_1 := NB299_298.out
  refine skip_ (w1 := ?_) (by rfl) rfl ?_ ?_
  rotate_left
  ·go_simp
   rfl
  refine hK.out _ _ ⟨((cell_far (p := ⟨gb299, _, none⟩) NB297_299.out _).trans (((cell_far (p := ⟨gb299, _, none⟩) NB297_299.out _).trans (((cell_far (p := ⟨gb299, _, none⟩) NB297_299.out _).trans (((cell_far (p := ⟨gb299, _, none⟩) NB297_299.out _).trans (((cell_far (p := ⟨gb299, _, none⟩) NB297_299.out _).trans (hHeld.1)))))))))), ((cell_far (p := ⟨gb299, _, none⟩) NB297_299.out _).trans (((cell_far (p := ⟨gb299, _, none⟩) NB297_299.out _).trans (((cell_far (p := ⟨gb299, _, none⟩) NB297_299.out _).trans (((cell_far (p := ⟨gb299, _, none⟩) NB297_299.out _).trans (((cell_far (p := ⟨gb299, _, none⟩) NB297_299.out _).trans (hHeld.2.1)))))))))), ((cell_far (p := ⟨gb299, _, none⟩) NB297_299.out _).trans (((cell_far (p := ⟨gb299, _, none⟩) NB297_299.out _).trans (((cell_far (p := ⟨gb299, _, none⟩) NB297_299.out _).trans (((cell_far (p := ⟨gb299, _, none⟩) NB297_299.out _).trans (((cell_far (p := ⟨gb299, _, none⟩) NB297_299.out _).trans (hHeld.2.2.1)))))))))), ((cell_far (p := ⟨gb299, _, none⟩) NB297_299.out _).trans (((cell_far (p := ⟨gb299, _, none⟩) NB297_299.out _).trans (((cell_far (p := ⟨gb299, _, none⟩) NB297_299.out _).trans (((cell_far (p := ⟨gb299, _, none⟩) NB297_299.out _).trans (((cell_far (p := ⟨gb299, _, none⟩) NB297_299.out _).trans (hHeld.2.2.2.1)))))))))), ((cell_far (p := ⟨gb299, _, none⟩) NB297_299.out _).trans (((cell_far (p := ⟨gb299, _, none⟩) NB297_299.out _).trans (((cell_far (p := ⟨gb299, _, none⟩) NB297_299.out _).trans (((cell_far (p := ⟨gb299, _, none⟩) NB297_299.out _).trans (((cell_far (p := ⟨gb299, _, none⟩) NB297_299.out _).trans (hHeld.2.2.2.2.1)))))))))), ((cell_far (p := ⟨gb299, _, none⟩) NB298_299.out _).trans (((cell_far (p := ⟨gb299, _, none⟩) NB298_299.out _).trans (((cell_far (p := ⟨gb299, _, none⟩) NB298_299.out _).trans (((cell_far (p := ⟨gb299, _, none⟩) NB298_299.out _).trans (((cell_far (p := ⟨gb299, _, none⟩) NB298_299.out _).trans (hHeld.2.2.2.2.2.1)))))))))), ((cell_far (p := ⟨gb299, _, none⟩) NB298_299.out _).trans (((cell_far (p := ⟨gb299, _, none⟩) NB298_299.out _).trans (((cell_far (p := ⟨gb299, _, none⟩) NB298_299.out _).trans (((cell_far (p := ⟨gb299, _, none⟩) NB298_299.out _).trans (((cell_far (p := ⟨gb299, _, none⟩) NB298_299.out _).trans (hHeld.2.2.2.2.2.2.1)))))))))), ((cell_far (p := ⟨gb299, _, none⟩) NB298_299.out _).trans (((cell_far (p := ⟨gb299, _, none⟩) NB298_299.out _).trans (((cell_far (p := ⟨gb299, _, none⟩) NB298_299.out _).trans (((cell_far (p := ⟨gb299, _, none⟩) NB298_299.out _).trans (((cell_far (p := ⟨gb299, _, none⟩) NB298_299.out _).trans (hHeld.2.2.2.2.2.2.2.1)))))))))), ((cell_far (p := ⟨gb299, _, none⟩) NB298_299.out _).trans (((cell_far (p := ⟨gb299, _, none⟩) NB298_299.out _).trans (((cell_far (p := ⟨gb299, _, none⟩) NB298_299.out _).trans (((cell_far (p := ⟨gb299, _, none⟩) NB298_299.out _).trans (((cell_far (p := ⟨gb299, _, none⟩) NB298_299.out _).trans (hHeld.2.2.2.2.2.2.2.2.1)))))))))), ((cell_far (p := ⟨gb299, _, none⟩) NB298_299.out _).trans (((cell_far (p := ⟨gb299, _, none⟩) NB298_299.out _).trans (((cell_far (p := ⟨gb299, _, none⟩) NB298_299.out _).trans (((cell_far (p := ⟨gb299, _, none⟩) NB298_299.out _).trans (((cell_far (p := ⟨gb299, _, none⟩) NB298_299.out _).trans (hHeld.2.2.2.2.2.2.2.2.2))))))))))⟩ (fun hHeld => ?_)
  clear hK K
  refine done_ (done_of HT_.out (by kernel_rfl)) ?_
  try go_wp2
  refine bodyPost_ret (results_cell_row rfl _ _ gb299 61 #[.bool a0_0, .int .u64 t300, .int .u64 t301, .int .u64 t302, .int .u64 t303] (0, 0) _ rfl (zo5_ BK299) Try.underlying61 rfl (by kernel_rfl)) rfl ?_
  exact ⟨z0_, zw3_ HB GE297 GE298 GE299⟩
 rw [if_neg c3] at H
 have c3b0 : (a0_0 == a1_0) = false := by simpa using c3
 (try (have c3b1 : decide (a0_0 = a1_0) = false := by simpa using c3))
 (try (have c3b2 : (a0_0 == a1_0) = false := by simpa using c3))
 (try (have c3b3 : ¬ (a0_0 = a1_0) := by simpa using c3))
 clear c3
 replace H := Option.bind_eq_some_iff.mp H
 obtain ⟨t304, A200, H⟩ := H
 (try dsimp only at H)
 have A20 := Aside0.mk A200
 clear A200
 by_cases c21 : t304 = true
 ·subst c21
  have H1 := H
  rw [if_pos rfl] at H1
  clear H
  have H := H1
  clear H1
  replace H := Option.bind_eq_some_iff.mp H
  obtain ⟨⟨t305, t306, t307, t308⟩, A220, H⟩ := H
  replace H : (some (a1_0, t305, t306, t307, t308)) = some (r1, r2, r3, r4, r5) := H
  have A22 := Aside0.mk A220
  clear A220
  simp only [Option.some.injEq, Prod.mk.injEq] at H
  obtain ⟨rfl, rfl, rfl, rfl, rfl⟩ := H
  go_enter Try.func35, Try.ntmps35
  try go_wp2_with (first | ((with_reducible refine gate_dst (N := 2) rfl ?_); refine box_event ?hg (N := 2) ?hd (cs := #[.bool a0_0, .int .u64 a0_1, .int .u64 a0_2, .int .u64 a0_3, .int .u64 a0_4]) (t := 61) ?hr ?_; (case hd => rfl); (case hg => rfl); (case hr => first | (go_simp; done) | (go_simp; rfl)); intro gb297 hg w23 hbox hb; have BK297 := Aside0.mk (hbox); have GW297 := Aside0.mk (zs_ hg (zw0_ HB)); have GE297 := Aside0.mk (zs_ hg (zw0_ HB)); replace HB := Aside0.mk (below_step (zw0_ HB) hb); clear hb hbox hg) | ((with_reducible refine gate_dst (N := 3) rfl ?_); refine box_event ?hg (N := 3) ?hd (cs := #[.bool a1_0, .int .u64 a1_1, .int .u64 a1_2, .int .u64 a1_3, .int .u64 a1_4]) (t := 61) ?hr ?_; (case hd => rfl); (case hg => rfl); (case hr => first | (go_simp; done) | (go_simp; rfl)); intro gb298 hg w24 hbox hb; have BK298 := Aside0.mk (hbox); have GW298 := Aside0.mk (zs_ hg (zw1_ HB GE297)); have GE298 := Aside0.mk (zs_ hg (zw1_ HB GE297)); replace HB := Aside0.mk (below_step (zw1_ HB GE297) hb); have NB297_298 := Aside0.mk (zn_ hg BK297); have NB298_297 := Aside0.mk (zm_ hg BK297); replace BK297 := za_ BK297 hb; clear hb hbox hg) | ((with_reducible refine gate_dst (N := 4) rfl ?_); refine box_event ?hg (N := 4) ?hd (cs := #[.bool false, .int .u64 0, .int .u64 0, .int .u64 0, .int .u64 0]) (t := 61) ?hr ?_; (case hd => rfl); (case hg => rfl); (case hr => first | (go_simp; done) | (go_simp; rfl)); intro gb299 hg w25 hbox hb; have BK299 := Aside0.mk (hbox); have GW299 := Aside0.mk (zs_ hg (zw2_ HB GE297 GE298)); have GE299 := Aside0.mk (zs_ hg (zw2_ HB GE297 GE298)); replace HB := Aside0.mk (below_step (zw2_ HB GE297 GE298) hb); have NB297_299 := Aside0.mk (zn_ hg BK297); have NB299_297 := Aside0.mk (zm_ hg BK297); replace BK297 := za_ BK297 hb; have NB298_299 := Aside0.mk (zn_ hg BK298); have NB299_298 := Aside0.mk (zm_ hg BK298); replace BK298 := za_ BK298 hb; clear hb hbox hg; have hnb26 := NB297_298.out; have hnc26 := NB298_297.out; have hnb27 := NB297_299.out; have hnc27 := NB299_297.out; have hcz28_0 := zx_ (v := .bool a0_0) BK297 0; have hcz28_1 := zx_ (v := .int .u64 a0_1) BK297 1; have hcz28_2 := zx_ (v := .int .u64 a0_2) BK297 2; have hcz28_3 := zx_ (v := .int .u64 a0_3) BK297 3; have hcz28_4 := zx_ (v := .int .u64 a0_4) BK297 4; have hfz28_0 := blk_frozen BK297.out 0; have hfz28_1 := blk_frozen BK297.out 1; have hfz28_2 := blk_frozen BK297.out 2; have hfz28_3 := blk_frozen BK297.out 3; have hfz28_4 := blk_frozen BK297.out 4; have hnb29 := NB298_299.out; have hnc29 := NB299_298.out; have hcz30_0 := zx_ (v := .bool a1_0) BK298 0; have hcz30_1 := zx_ (v := .int .u64 a1_1) BK298 1; have hcz30_2 := zx_ (v := .int .u64 a1_2) BK298 2; have hcz30_3 := zx_ (v := .int .u64 a1_3) BK298 3; have hcz30_4 := zx_ (v := .int .u64 a1_4) BK298 4; have hfz30_0 := blk_frozen BK298.out 0; have hfz30_1 := blk_frozen BK298.out 1; have hfz30_2 := blk_frozen BK298.out 2; have hfz30_3 := blk_frozen BK298.out 3; have hfz30_4 := blk_frozen BK298.out 4) | ((with_reducible refine gate_callee (f := 49) rfl ?_); refine zg_ (some 22) Try.func49 #[.agg #[.int .u64 a0_1, .int .u64 a0_2, .int .u64 a0_3, .int .u64 a0_4], .agg #[.int .u64 a1_1, .int .u64 a1_2, .int .u64 a1_3, .int .u64 a1_4]] (h := ?_); (with_reducible refine (carouselref1_less.calls a0_1 a0_2 a0_3 a0_4 a1_1 a1_2 a1_3 a1_4 true _ A20.out).mono ?_); rintro e w31 ⟨rfl, hb⟩; refine ⟨_, rfl, ?_⟩; replace BK297 := za_ BK297 hb; replace BK298 := za_ BK298 hb; replace BK299 := za_ BK299 hb; replace HB := Aside0.mk (below_step (zw3_ HB GE297 GE298 GE299) hb); (try clear hb)))
  replace BK297 := Aside0.mk (blk_drew BK297.out)
  replace BK298 := Aside0.mk (blk_drew BK298.out)
  replace BK299 := Aside0.mk (blk_drew BK299.out)
  replace HB := Aside0.mk (below_drew1 HB.out)
  refine start_ (n := 9) (S := fun w' => w'.cell? ⟨gb298, 0, none⟩ = some (.bool a1_0) ∧ w'.cell? ⟨gb298, 1, none⟩ = some (.int .u64 a1_1) ∧ w'.cell? ⟨gb298, 2, none⟩ = some (.int .u64 a1_2) ∧ w'.cell? ⟨gb298, 3, none⟩ = some (.int .u64 a1_3) ∧ w'.cell? ⟨gb298, 4, none⟩ = some (.int .u64 a1_4) ∧ w'.cell? ⟨gb297, 0, none⟩ = some (.bool a0_0) ∧ w'.cell? ⟨gb297, 1, none⟩ = some (.int .u64 a0_1) ∧ w'.cell? ⟨gb297, 2, none⟩ = some (.int .u64 a0_2) ∧ w'.cell? ⟨gb297, 3, none⟩ = some (.int .u64 a0_3) ∧ w'.cell? ⟨gb297, 4, none⟩ = some (.int .u64 a0_4)) (ds := []) #[false, false, false, false, false, false, false, false, false] (by kernel_rfl) rfl rfl ⟨(blk_cell BK298.out 0).trans rfl, (blk_cell BK298.out 1).trans rfl, (blk_cell BK298.out 2).trans rfl, (blk_cell BK298.out 3).trans rfl, (blk_cell BK298.out 4).trans rfl, (blk_cell BK297.out 0).trans rfl, (blk_cell BK297.out 1).trans rfl, (blk_cell BK297.out 2).trans rfl, (blk_cell BK297.out 3).trans rfl, (blk_cell BK297.out 4).trans rfl⟩ (fun hHeld => ?_); refine with_tabW carouselref1_Plus.tab4 carouselref1_Plus.bits4 (fun HT_ HW_ => ?_)
  generalize w31.drew = w32 at BK297 BK298 BK299 HB hHeld ⊢
  refine yp_ ?_ 0 23
  refine yp_ ?_ 2 25
  refine yp_ ?_ 4 27
  refine yt10_ ?_ 1 24
  refine yt10_ ?_ 3 26
  refine yt10_ ?_ 5 28
  refine yo_ 6 (some 29) (fun K hK => ?_)
  refine yg_ Try.func50 #[.agg #[.int .u64 a1_1, .int .u64 a1_2, .int .u64 a1_3, .int .u64 a1_4], .agg #[.int .u64 a0_1, .int .u64 a0_2, .int .u64 a0_3, .int .u64 a0_4]] ?_
  with_reducible refine (carouselref1_minus.calls a1_1 a1_2 a1_3 a1_4 a0_1 a0_2 a0_3 a0_4 t305 t306 t307 t308 _ A22.out).mono ?_
  rintro e w33 ⟨rfl, hb⟩
  refine ⟨_, rfl, ?_⟩
  replace BK297 := za_ BK297 hb
  replace BK298 := za_ BK298 hb
  replace BK299 := za_ BK299 hb
  replace HB := Aside0.mk (below_step (zw3_ HB GE297 GE298 GE299) hb)
  (try clear hb)
  (try clear hb2)
  (try clear hk)
  (try clear hi)
  refine hK.out _ _ ⟨zx_ BK298 0, zx_ BK298 1, zx_ BK298 2, zx_ BK298 3, zx_ BK298 4, zx_ BK297 0, zx_ BK297 1, zx_ BK297 2, zx_ BK297 3, zx_ BK297 4⟩ (fun hHeld => ?_)
  clear hK K
  refine zq_ (some 29) (h := ?_)
  refine yp_ ?_ 7 30
  refine yo_ 8 none (fun K hK => ?_)
  have hs34 := zx_ (v := .bool false) BK299 0
  have hfs34 := blk_frozen BK299.out 0
  have hns34_0 := NB297_299.out
  have hns34_1 := NB298_299.out
  have hms34_0 := NB299_297.out
  have hms34_1 := NB299_298.out
  have hs35 := zx_ (v := .int .u64 0) BK299 1
  have hfs35 := blk_frozen BK299.out 1
  have hns35_0 := NB297_299.out
  have hns35_1 := NB298_299.out
  have hms35_0 := NB299_297.out
  have hms35_1 := NB299_298.out
  have hs36 := zx_ (v := .int .u64 0) BK299 2
  have hfs36 := blk_frozen BK299.out 2
  have hns36_0 := NB297_299.out
  have hns36_1 := NB298_299.out
  have hms36_0 := NB299_297.out
  have hms36_1 := NB299_298.out
  have hs37 := zx_ (v := .int .u64 0) BK299 3
  have hfs37 := blk_frozen BK299.out 3
  have hns37_0 := NB297_299.out
  have hns37_1 := NB298_299.out
  have hms37_0 := NB299_297.out
  have hms37_1 := NB299_298.out
  have hs38 := zx_ (v := .int .u64 0) BK299 4
  have hfs38 := blk_frozen BK299.out 4
  have hns38_0 := NB297_299.out
  have hns38_1 := NB298_299.out
  have hms38_0 := NB299_297.out
  have hms38_1 := NB299_298.out
  refine skip_ (w1 := ?_) (by rfl) rfl ?_ ?_
  rotate_left
  ·go_simp
   rfl
  refine hK.out _ _ ⟨((cell_far (p := ⟨gb299, _, none⟩) NB298_299.out _).trans (((cell_far (p := ⟨gb299, _, none⟩) NB298_299.out _).trans (((cell_far (p := ⟨gb299, _, none⟩) NB298_299.out _).trans (((cell_far (p := ⟨gb299, _, none⟩) NB298_299.out _).trans (((cell_far (p := ⟨gb299, _, none⟩) NB298_299.out _).trans (hHeld.1)))))))))), ((cell_far (p := ⟨gb299, _, none⟩) NB298_299.out _).trans (((cell_far (p := ⟨gb299, _, none⟩) NB298_299.out _).trans (((cell_far (p := ⟨gb299, _, none⟩) NB298_299.out _).trans (((cell_far (p := ⟨gb299, _, none⟩) NB298_299.out _).trans (((cell_far (p := ⟨gb299, _, none⟩) NB298_299.out _).trans (hHeld.2.1)))))))))), ((cell_far (p := ⟨gb299, _, none⟩) NB298_299.out _).trans (((cell_far (p := ⟨gb299, _, none⟩) NB298_299.out _).trans (((cell_far (p := ⟨gb299, _, none⟩) NB298_299.out _).trans (((cell_far (p := ⟨gb299, _, none⟩) NB298_299.out _).trans (((cell_far (p := ⟨gb299, _, none⟩) NB298_299.out _).trans (hHeld.2.2.1)))))))))), ((cell_far (p := ⟨gb299, _, none⟩) NB298_299.out _).trans (((cell_far (p := ⟨gb299, _, none⟩) NB298_299.out _).trans (((cell_far (p := ⟨gb299, _, none⟩) NB298_299.out _).trans (((cell_far (p := ⟨gb299, _, none⟩) NB298_299.out _).trans (((cell_far (p := ⟨gb299, _, none⟩) NB298_299.out _).trans (hHeld.2.2.2.1)))))))))), ((cell_far (p := ⟨gb299, _, none⟩) NB298_299.out _).trans (((cell_far (p := ⟨gb299, _, none⟩) NB298_299.out _).trans (((cell_far (p := ⟨gb299, _, none⟩) NB298_299.out _).trans (((cell_far (p := ⟨gb299, _, none⟩) NB298_299.out _).trans (((cell_far (p := ⟨gb299, _, none⟩) NB298_299.out _).trans (hHeld.2.2.2.2.1)))))))))), ((cell_far (p := ⟨gb299, _, none⟩) NB297_299.out _).trans (((cell_far (p := ⟨gb299, _, none⟩) NB297_299.out _).trans (((cell_far (p := ⟨gb299, _, none⟩) NB297_299.out _).trans (((cell_far (p := ⟨gb299, _, none⟩) NB297_299.out _).trans (((cell_far (p := ⟨gb299, _, none⟩) NB297_299.out _).trans (hHeld.2.2.2.2.2.1)))))))))), ((cell_far (p := ⟨gb299, _, none⟩) NB297_299.out _).trans (((cell_far (p := ⟨gb299, _, none⟩) NB297_299.out _).trans (((cell_far (p := ⟨gb299, _, none⟩) NB297_299.out _).trans (((cell_far (p := ⟨gb299, _, none⟩) NB297_299.out _).trans (((cell_far (p := ⟨gb299, _, none⟩) NB297_299.out _).trans (hHeld.2.2.2.2.2.2.1)))))))))), ((cell_far (p := ⟨gb299, _, none⟩) NB297_299.out _).trans (((cell_far (p := ⟨gb299, _, none⟩) NB297_299.out _).trans (((cell_far (p := ⟨gb299, _, none⟩) NB297_299.out _).trans (((cell_far (p := ⟨gb299, _, none⟩) NB297_299.out _).trans (((cell_far (p := ⟨gb299, _, none⟩) NB297_299.out _).trans (hHeld.2.2.2.2.2.2.2.1)))))))))), ((cell_far (p := ⟨gb299, _, none⟩) NB297_299.out _).trans (((cell_far (p := ⟨gb299, _, none⟩) NB297_299.out _).trans (((cell_far (p := ⟨gb299, _, none⟩) NB297_299.out _).trans (((cell_far (p := ⟨gb299, _, none⟩) NB297_299.out _).trans (((cell_far (p := ⟨gb299, _, none⟩) NB297_299.out _).trans (hHeld.2.2.2.2.2.2.2.2.1)))))))))), ((cell_far (p := ⟨gb299, _, none⟩) NB297_299.out _).trans (((cell_far (p := ⟨gb299, _, none⟩) NB297_299.out _).trans (((cell_far (p := ⟨gb299, _, none⟩) NB297_299.out _).trans (((cell_far (p := ⟨gb299, _, none⟩) NB297_299.out _).trans (((cell_far (p := ⟨gb299, _, none⟩) NB297_299.out _).trans (hHeld.2.2.2.2.2.2.2.2.2))))))))))⟩ (fun hHeld => ?_)
  clear hK K
  refine done_ (done_of HT_.out (by kernel_rfl)) ?_
  try go_wp2
  refine bodyPost_ret (results_cell_row rfl _ _ gb299 61 #[.bool a1_0, .int .u64 t305, .int .u64 t306, .int .u64 t307, .int .u64 t308] (0, 0) _ rfl (zo5_ BK299) Try.underlying61 rfl (by kernel_rfl)) rfl ?_
  exact ⟨z0_, zw3_ HB GE297 GE298 GE299⟩
 replace c21 := Bool.eq_false_iff.mpr c21
 subst c21
 have H1 := H
 rw [if_neg (show ¬ (false = true) by decide)] at H1
 clear H
 have H := H1
 clear H1
 replace H := Option.bind_eq_some_iff.mp H
 obtain ⟨⟨t309, t310, t311, t312⟩, A390, H⟩ := H
 replace H : (some (a0_0, t309, t310, t311, t312)) = some (r1, r2, r3, r4, r5) := H
 have A39 := Aside0.mk A390
 clear A390
 simp only [Option.some.injEq, Prod.mk.injEq] at H
 obtain ⟨rfl, rfl, rfl, rfl, rfl⟩ := H
 go_enter Try.func35, Try.ntmps35
 try go_wp2_with (first | ((with_reducible refine gate_dst (N := 2) rfl ?_); refine box_event ?hg (N := 2) ?hd (cs := #[.bool a0_0, .int .u64 a0_1, .int .u64 a0_2, .int .u64 a0_3, .int .u64 a0_4]) (t := 61) ?hr ?_; (case hd => rfl); (case hg => rfl); (case hr => first | (go_simp; done) | (go_simp; rfl)); intro gb297 hg w40 hbox hb; have BK297 := Aside0.mk (hbox); have GW297 := Aside0.mk (zs_ hg (zw0_ HB)); have GE297 := Aside0.mk (zs_ hg (zw0_ HB)); replace HB := Aside0.mk (below_step (zw0_ HB) hb); clear hb hbox hg) | ((with_reducible refine gate_dst (N := 3) rfl ?_); refine box_event ?hg (N := 3) ?hd (cs := #[.bool a1_0, .int .u64 a1_1, .int .u64 a1_2, .int .u64 a1_3, .int .u64 a1_4]) (t := 61) ?hr ?_; (case hd => rfl); (case hg => rfl); (case hr => first | (go_simp; done) | (go_simp; rfl)); intro gb298 hg w41 hbox hb; have BK298 := Aside0.mk (hbox); have GW298 := Aside0.mk (zs_ hg (zw1_ HB GE297)); have GE298 := Aside0.mk (zs_ hg (zw1_ HB GE297)); replace HB := Aside0.mk (below_step (zw1_ HB GE297) hb); have NB297_298 := Aside0.mk (zn_ hg BK297); have NB298_297 := Aside0.mk (zm_ hg BK297); replace BK297 := za_ BK297 hb; clear hb hbox hg) | ((with_reducible refine gate_dst (N := 4) rfl ?_); refine box_event ?hg (N := 4) ?hd (cs := #[.bool false, .int .u64 0, .int .u64 0, .int .u64 0, .int .u64 0]) (t := 61) ?hr ?_; (case hd => rfl); (case hg => rfl); (case hr => first | (go_simp; done) | (go_simp; rfl)); intro gb299 hg w42 hbox hb; have BK299 := Aside0.mk (hbox); have GW299 := Aside0.mk (zs_ hg (zw2_ HB GE297 GE298)); have GE299 := Aside0.mk (zs_ hg (zw2_ HB GE297 GE298)); replace HB := Aside0.mk (below_step (zw2_ HB GE297 GE298) hb); have NB297_299 := Aside0.mk (zn_ hg BK297); have NB299_297 := Aside0.mk (zm_ hg BK297); replace BK297 := za_ BK297 hb; have NB298_299 := Aside0.mk (zn_ hg BK298); have NB299_298 := Aside0.mk (zm_ hg BK298); replace BK298 := za_ BK298 hb; clear hb hbox hg; have hnb43 := NB297_298.out; have hnc43 := NB298_297.out; have hnb44 := NB297_299.out; have hnc44 := NB299_297.out; have hcz45_0 := zx_ (v := .bool a0_0) BK297 0; have hcz45_1 := zx_ (v := .int .u64 a0_1) BK297 1; have hcz45_2 := zx_ (v := .int .u64 a0_2) BK297 2; have hcz45_3 := zx_ (v := .int .u64 a0_3) BK297 3; have hcz45_4 := zx_ (v := .int .u64 a0_4) BK297 4; have hfz45_0 := blk_frozen BK297.out 0; have hfz45_1 := blk_frozen BK297.out 1; have hfz45_2 := blk_frozen BK297.out 2; have hfz45_3 := blk_frozen BK297.out 3; have hfz45_4 := blk_frozen BK297.out 4; have hnb46 := NB298_299.out; have hnc46 := NB299_298.out; have hcz47_0 := zx_ (v := .bool a1_0) BK298 0; have hcz47_1 := zx_ (v := .int .u64 a1_1) BK298 1; have hcz47_2 := zx_ (v := .int .u64 a1_2) BK298 2; have hcz47_3 := zx_ (v := .int .u64 a1_3) BK298 3; have hcz47_4 := zx_ (v := .int .u64 a1_4) BK298 4; have hfz47_0 := blk_frozen BK298.out 0; have hfz47_1 := blk_frozen BK298.out 1; have hfz47_2 := blk_frozen BK298.out 2; have hfz47_3 := blk_frozen BK298.out 3; have hfz47_4 := blk_frozen BK298.out 4) | ((with_reducible refine gate_callee (f := 49) rfl ?_); refine zg_ (some 22) Try.func49 #[.agg #[.int .u64 a0_1, .int .u64 a0_2, .int .u64 a0_3, .int .u64 a0_4], .agg #[.int .u64 a1_1, .int .u64 a1_2, .int .u64 a1_3, .int .u64 a1_4]] (h := ?_); (with_reducible refine (carouselref1_less.calls a0_1 a0_2 a0_3 a0_4 a1_1 a1_2 a1_3 a1_4 false _ A20.out).mono ?_); rintro e w48 ⟨rfl, hb⟩; refine ⟨_, rfl, ?_⟩; replace BK297 := za_ BK297 hb; replace BK298 := za_ BK298 hb; replace BK299 := za_ BK299 hb; replace HB := Aside0.mk (below_step (zw3_ HB GE297 GE298 GE299) hb); (try clear hb)))
 replace BK297 := Aside0.mk (blk_drew BK297.out)
 replace BK298 := Aside0.mk (blk_drew BK298.out)
 replace BK299 := Aside0.mk (blk_drew BK299.out)
 replace HB := Aside0.mk (below_drew1 HB.out)
 refine start_ (n := 9) (S := fun w' => w'.cell? ⟨gb297, 0, none⟩ = some (.bool a0_0) ∧ w'.cell? ⟨gb297, 1, none⟩ = some (.int .u64 a0_1) ∧ w'.cell? ⟨gb297, 2, none⟩ = some (.int .u64 a0_2) ∧ w'.cell? ⟨gb297, 3, none⟩ = some (.int .u64 a0_3) ∧ w'.cell? ⟨gb297, 4, none⟩ = some (.int .u64 a0_4) ∧ w'.cell? ⟨gb298, 0, none⟩ = some (.bool a1_0) ∧ w'.cell? ⟨gb298, 1, none⟩ = some (.int .u64 a1_1) ∧ w'.cell? ⟨gb298, 2, none⟩ = some (.int .u64 a1_2) ∧ w'.cell? ⟨gb298, 3, none⟩ = some (.int .u64 a1_3) ∧ w'.cell? ⟨gb298, 4, none⟩ = some (.int .u64 a1_4)) (ds := []) #[false, false, false, false, false, false, false, false, false] (by kernel_rfl) rfl rfl ⟨(blk_cell BK297.out 0).trans rfl, (blk_cell BK297.out 1).trans rfl, (blk_cell BK297.out 2).trans rfl, (blk_cell BK297.out 3).trans rfl, (blk_cell BK297.out 4).trans rfl, (blk_cell BK298.out 0).trans rfl, (blk_cell BK298.out 1).trans rfl, (blk_cell BK298.out 2).trans rfl, (blk_cell BK298.out 3).trans rfl, (blk_cell BK298.out 4).trans rfl⟩ (fun hHeld => ?_); refine with_tabW carouselref1_Plus.tab5 carouselref1_Plus.bits5 (fun HT_ HW_ => ?_)
 generalize w48.drew = w49 at BK297 BK298 BK299 HB hHeld ⊢
 refine yp_ ?_ 0 31
 refine yp_ ?_ 2 33
 refine yp_ ?_ 4 35
 refine yt10_ ?_ 1 32
 refine yt10_ ?_ 3 34
 refine yt10_ ?_ 5 36
 refine yo_ 6 (some 37) (fun K hK => ?_)
 refine yg_ Try.func50 #[.agg #[.int .u64 a0_1, .int .u64 a0_2, .int .u64 a0_3, .int .u64 a0_4], .agg #[.int .u64 a1_1, .int .u64 a1_2, .int .u64 a1_3, .int .u64 a1_4]] ?_
 with_reducible refine (carouselref1_minus.calls a0_1 a0_2 a0_3 a0_4 a1_1 a1_2 a1_3 a1_4 t309 t310 t311 t312 _ A39.out).mono ?_
 rintro e w50 ⟨rfl, hb⟩
 refine ⟨_, rfl, ?_⟩
 replace BK297 := za_ BK297 hb
 replace BK298 := za_ BK298 hb
 replace BK299 := za_ BK299 hb
 replace HB := Aside0.mk (below_step (zw3_ HB GE297 GE298 GE299) hb)
 (try clear hb)
 (try clear hb2)
 (try clear hk)
 (try clear hi)
 refine hK.out _ _ ⟨zx_ BK297 0, zx_ BK297 1, zx_ BK297 2, zx_ BK297 3, zx_ BK297 4, zx_ BK298 0, zx_ BK298 1, zx_ BK298 2, zx_ BK298 3, zx_ BK298 4⟩ (fun hHeld => ?_)
 clear hK K
 refine zq_ (some 37) (h := ?_)
 refine yp_ ?_ 7 38
 refine yo_ 8 none (fun K hK => ?_)
 have hs51 := zx_ (v := .bool false) BK299 0
 have hfs51 := blk_frozen BK299.out 0
 have hns51_0 := NB297_299.out
 have hns51_1 := NB298_299.out
 have hms51_0 := NB299_297.out
 have hms51_1 := NB299_298.out
 have hs52 := zx_ (v := .int .u64 0) BK299 1
 have hfs52 := blk_frozen BK299.out 1
 have hns52_0 := NB297_299.out
 have hns52_1 := NB298_299.out
 have hms52_0 := NB299_297.out
 have hms52_1 := NB299_298.out
 have hs53 := zx_ (v := .int .u64 0) BK299 2
 have hfs53 := blk_frozen BK299.out 2
 have hns53_0 := NB297_299.out
 have hns53_1 := NB298_299.out
 have hms53_0 := NB299_297.out
 have hms53_1 := NB299_298.out
 have hs54 := zx_ (v := .int .u64 0) BK299 3
 have hfs54 := blk_frozen BK299.out 3
 have hns54_0 := NB297_299.out
 have hns54_1 := NB298_299.out
 have hms54_0 := NB299_297.out
 have hms54_1 := NB299_298.out
 have hs55 := zx_ (v := .int .u64 0) BK299 4
 have hfs55 := blk_frozen BK299.out 4
 have hns55_0 := NB297_299.out
 have hns55_1 := NB298_299.out
 have hms55_0 := NB299_297.out
 have hms55_1 := NB299_298.out
 refine skip_ (w1 := ?_) (by rfl) rfl ?_ ?_
 rotate_left
 ·go_simp
  rfl
 refine hK.out _ _ ⟨((cell_far (p := ⟨gb299, _, none⟩) NB297_299.out _).trans (((cell_far (p := ⟨gb299, _, none⟩) NB297_299.out _).trans (((cell_far (p := ⟨gb299, _, none⟩) NB297_299.out _).trans (((cell_far (p := ⟨gb299, _, none⟩) NB297_299.out _).trans (((cell_far (p := ⟨gb299, _, none⟩) NB297_299.out _).trans (hHeld.1)))))))))), ((cell_far (p := ⟨gb299, _, none⟩) NB297_299.out _).trans (((cell_far (p := ⟨gb299, _, none⟩) NB297_299.out _).trans (((cell_far (p := ⟨gb299, _, none⟩) NB297_299.out _).trans (((cell_far (p := ⟨gb299, _, none⟩) NB297_299.out _).trans (((cell_far (p := ⟨gb299, _, none⟩) NB297_299.out _).trans (hHeld.2.1)))))))))), ((cell_far (p := ⟨gb299, _, none⟩) NB297_299.out _).trans (((cell_far (p := ⟨gb299, _, none⟩) NB297_299.out _).trans (((cell_far (p := ⟨gb299, _, none⟩) NB297_299.out _).trans (((cell_far (p := ⟨gb299, _, none⟩) NB297_299.out _).trans (((cell_far (p := ⟨gb299, _, none⟩) NB297_299.out _).trans (hHeld.2.2.1)))))))))), ((cell_far (p := ⟨gb299, _, none⟩) NB297_299.out _).trans (((cell_far (p := ⟨gb299, _, none⟩) NB297_299.out _).trans (((cell_far (p := ⟨gb299, _, none⟩) NB297_299.out _).trans (((cell_far (p := ⟨gb299, _, none⟩) NB297_299.out _).trans (((cell_far (p := ⟨gb299, _, none⟩) NB297_299.out _).trans (hHeld.2.2.2.1)))))))))), ((cell_far (p := ⟨gb299, _, none⟩) NB297_299.out _).trans (((cell_far (p := ⟨gb299, _, none⟩) NB297_299.out _).trans (((cell_far (p := ⟨gb299, _, none⟩) NB297_299.out _).trans (((cell_far (p := ⟨gb299, _, none⟩) NB297_299.out _).trans (((cell_far (p := ⟨gb299, _, none⟩) NB297_299.out _).trans (hHeld.2.2.2.2.1)))))))))), ((cell_far (p := ⟨gb299, _, none⟩) NB298_299.out _).trans (((cell_far (p := ⟨gb299, _, none⟩) NB298_299.out _).trans (((cell_far (p := ⟨gb299, _, none⟩) NB298_299.out _).trans (((cell_far (p := ⟨gb299, _, none⟩) NB298_299.out _).trans (((cell_far (p := ⟨gb299, _, none⟩) NB298_299.out _).trans (hHeld.2.2.2.2.2.1)))))))))), ((cell_far (p := ⟨gb299, _, none⟩) NB298_299.out _).trans (((cell_far (p := ⟨gb299, _, none⟩) NB298_299.out _).trans (((cell_far (p := ⟨gb299, _, none⟩) NB298_299.out _).trans (((cell_far (p := ⟨gb299, _, none⟩) NB298_299.out _).trans (((cell_far (p := ⟨gb299, _, none⟩) NB298_299.out _).trans (hHeld.2.2.2.2.2.2.1)))))))))), ((cell_far (p := ⟨gb299, _, none⟩) NB298_299.out _).trans (((cell_far (p := ⟨gb299, _, none⟩) NB298_299.out _).trans (((cell_far (p := ⟨gb299, _, none⟩) NB298_299.out _).trans (((cell_far (p := ⟨gb299, _, none⟩) NB298_299.out _).trans (((cell_far (p := ⟨gb299, _, none⟩) NB298_299.out _).trans (hHeld.2.2.2.2.2.2.2.1)))))))))), ((cell_far (p := ⟨gb299, _, none⟩) NB298_299.out _).trans (((cell_far (p := ⟨gb299, _, none⟩) NB298_299.out _).trans (((cell_far (p := ⟨gb299, _, none⟩) NB298_299.out _).trans (((cell_far (p := ⟨gb299, _, none⟩) NB298_299.out _).trans (((cell_far (p := ⟨gb299, _, none⟩) NB298_299.out _).trans (hHeld.2.2.2.2.2.2.2.2.1)))))))))), ((cell_far (p := ⟨gb299, _, none⟩) NB298_299.out _).trans (((cell_far (p := ⟨gb299, _, none⟩) NB298_299.out _).trans (((cell_far (p := ⟨gb299, _, none⟩) NB298_299.out _).trans (((cell_far (p := ⟨gb299, _, none⟩) NB298_299.out _).trans (((cell_far (p := ⟨gb299, _, none⟩) NB298_299.out _).trans (hHeld.2.2.2.2.2.2.2.2.2))))))))))⟩ (fun hHeld => ?_)
 clear hK K
 refine done_ (done_of HT_.out (by kernel_rfl)) ?_
 try go_wp2
 refine bodyPost_ret (results_cell_row rfl _ _ gb299 61 #[.bool a0_0, .int .u64 t309, .int .u64 t310, .int .u64 t311, .int .u64 t312] (0, 0) _ rfl (zo5_ BK299) Try.underlying61 rfl (by kernel_rfl)) rfl ?_
 exact ⟨z0_, zw3_ HB GE297 GE298 GE299⟩

/-! ### carouselref1_size: function 51 -/
def carouselref1_size.f (a0 : Int) : Option (Int) := if a0 < 0 then (some (IntKind.u64.wrap ((IntKind.u64.wrap (wrap64 (-(wrap64 (a0 + 1))))) + 1))) else (some (IntKind.u64.wrap (a0)))
set_option maxHeartbeats 8000000 in
set_option maxRecDepth 100000 in
theorem carouselref1_size.calls (a0 : Int) (r : Int) (w : World) (h : carouselref1_size.f a0 = some r) :
  Calls Try.prog 51 #[.int .i64 a0] w fun e w' => e = .returned (.int .u64 r) ∧ Drawn0 w w' := by
 have H : (if a0 < 0 then (some (IntKind.u64.wrap ((IntKind.u64.wrap (wrap64 (-(wrap64 (a0 + 1))))) + 1))) else (some (IntKind.u64.wrap (a0)))) = some r := h
 clear h
 by_cases c2 : a0 < 0
 ·rw [if_pos c2] at H
  have c2b0 : decide (a0 < 0) = true := decide_eq_true c2
  clear c2
  obtain rfl := Option.some.inj H
  go_enter Try.func51, Try.ntmps51
  go_wp2
  go_ret
  exact ⟨by first | rfl | (simp; done) | (simp [*]; done), by repeat (first | exact Drawn0.refl _ | apply Drawn0.step)⟩
 rw [if_neg c2] at H
 have c2b0 : decide (a0 < 0) = false := decide_eq_false c2
 clear c2
 obtain rfl := Option.some.inj H
 go_enter Try.func51, Try.ntmps51
 go_wp2
 go_ret
 exact ⟨by first | rfl | (simp; done) | (simp [*]; done), by repeat (first | exact Drawn0.refl _ | apply Drawn0.step)⟩

/-! ### carouselref1_Times: function 36 -/
theorem tm_start_ (w : World) (o1 : Obj) (n : Nat) (cs : Array Value) (t : TypeId) (w4 : World) (hb : Below (((w.alloc o1).drewN n).alloc (.cells cs t)).heap.size (((w.alloc o1).drewN n).alloc (.cells cs t)) w4) :
  w4.heap[w.heap.size + 1]? = some (.cells cs t (0, 0)) ∧ w4.heap[w.heap.size]? = some o1 ∧ Below w.heap.size w w4 := by
 have s1 : ((w.alloc o1).drewN n).heap.size = w.heap.size + 1 := by simp only [World.alloc, World.drewN, Array.size_push]
 have b1 := blk_new ((w.alloc o1).drewN n) (.cells cs t (0, 0))
 rw [s1] at b1
 have b0 : (((w.alloc o1).drewN n).alloc (.cells cs t (0, 0))).heap[w.heap.size]? = some o1 := blk_alloc (blk_drewN (blk_new w o1) n) _
 have h1 : Below w.heap.size w ((w.alloc o1).drewN n) := by
  have h := (Below.refl w.heap.size w).alloc (Nat.le_refl _) o1
  exact ⟨h.os, h.tape, h.output, h.size, h.block⟩
 have h2 := h1.alloc (by rw [s1]; omega) (.cells cs t (0, 0))
 exact ⟨blk_below b1 hb, blk_below b0 hb, h2.trans (hb.mono h2.size)⟩
theorem tm_step_ (w w4 : World) (g : Nat) (o1 : Obj) (t : TypeId) (c0 c1 c2 c3 v0 v1 v2 v3 : Value) (hg : g = w.heap.size + 1) (b1 : w4.heap[g]? = some (.cells #[c0, c1, c2, c3] t (0, 0))) (b0 : w4.heap[w.heap.size]? = some o1) (hb : Below w.heap.size w w4) (w5 : World)
  (e : ((((w4.setCell ⟨g, 0, none⟩ v0).setCell ⟨g, 1, none⟩ v1).setCell ⟨g, 2, none⟩ v2).setCell ⟨g, 3, none⟩ v3) = w5) :
  w5.heap[g]? = some (.cells #[v0, v1, v2, v3] t (0, 0)) ∧ w5.heap[w.heap.size]? = some o1 ∧ Below w.heap.size w w5 := by
 subst e
 have hp : ∀ i, w.heap.size ≤ (⟨g, i, none⟩ : Addr).block := fun i => by show w.heap.size ≤ g; omega
 refine ⟨?_, ?_, (((hb.setCell (hp 0) _).setCell (hp 1) _).setCell (hp 2) _).setCell (hp 3) _⟩
 ·exact blk_put (cs := #[v0, v1, v2, c3]) (blk_put (cs := #[v0, v1, c2, c3]) (blk_put (cs := #[v0, c1, c2, c3]) (blk_put (cs := #[c0, c1, c2, c3]) b1 0 _ rfl) 1 _ rfl) 2 _ rfl) 3 _ rfl
 ·have q : ∀ i, w.heap.size ≠ (⟨g, i, none⟩ : Addr).block := fun i => by show w.heap.size ≠ g; omega
  rw [Below.heap_setCell _ _ _ _ (q 3), Below.heap_setCell _ _ _ _ (q 2), Below.heap_setCell _ _ _ _ (q 1), Below.heap_setCell _ _ _ _ (q 0)]
  exact b0
theorem tm_call_ (w w5 w6 : World) (g : Nat) (o1 o2 : Obj) (b1 : w5.heap[g]? = some o2) (b0 : w5.heap[w.heap.size]? = some o1) (hb : Below w.heap.size w w5) (h : Below w5.heap.size w5 w6) :
  w6.heap[g]? = some o2 ∧ w6.heap[w.heap.size]? = some o1 ∧ Below w.heap.size w w6 := ⟨blk_below b1 h, blk_below b0 h, hb.trans (h.mono hb.size)⟩
theorem tm_end_ (w w7 : World) (t : TypeId) (z0 z1 z2 z3 z4 v0 v1 v2 v3 v4 : Value) (b0 : w7.heap[w.heap.size]? = some (.cells #[z0, z1, z2, z3, z4] t (0, 0))) (hb : Below w.heap.size w w7) :
  (((((w7.setCell ⟨w.heap.size, 0, none⟩ v0).setCell ⟨w.heap.size, 1, none⟩ v1).setCell ⟨w.heap.size, 2, none⟩ v2).setCell ⟨w.heap.size, 3, none⟩ v3).setCell ⟨w.heap.size, 4, none⟩ v4).heap[w.heap.size]? = some (.cells #[v0, v1, v2, v3, v4] t (0, 0)) ∧
  Below w.heap.size w (((((w7.setCell ⟨w.heap.size, 0, none⟩ v0).setCell ⟨w.heap.size, 1, none⟩ v1).setCell ⟨w.heap.size, 2, none⟩ v2).setCell ⟨w.heap.size, 3, none⟩ v3).setCell ⟨w.heap.size, 4, none⟩ v4) := by
 have hp : ∀ i, w.heap.size ≤ (⟨w.heap.size, i, none⟩ : Addr).block := fun i => Nat.le_refl _
 exact ⟨blk_put (cs := #[v0, v1, v2, v3, z4]) (blk_put (cs := #[v0, v1, v2, z3, z4]) (blk_put (cs := #[v0, v1, z2, z3, z4]) (blk_put (cs := #[v0, z1, z2, z3, z4]) (blk_put (cs := #[z0, z1, z2, z3, z4]) b0 0 _ rfl) 1 _ rfl) 2 _ rfl) 3 _ rfl) 4 _ rfl,
  ((((hb.setCell (hp 0) _).setCell (hp 1) _).setCell (hp 2) _).setCell (hp 3) _).setCell (hp 4) _⟩
theorem carouselref1_Times.ix0 (v0 v1 : Int) (w : World) : (Instr.index 78 (.agg #[.int .u64 v0, .int .u64 v1]) (.int .i64 0)).run Try.prog w = .ok (.int .u64 v0) w := by
 have hi : (Try.prog.info? 50).map (·.size) = some 1 := by kernel_rfl
 cases h : Try.prog.info? 50 with
 | none => rw [h] at hi; cases hi
 | some q =>
  rw [h] at hi
  have hs : q.size = 1 := by simpa using hi
  simp [Instr.index, run_underlying Try.underlying78, asIntOf, part, sizeOf, typeInfo, h, hs, go_sem]
theorem carouselref1_Times.ix1 (v0 v1 : Int) (w : World) : (Instr.index 78 (.agg #[.int .u64 v0, .int .u64 v1]) (.int .i64 1)).run Try.prog w = .ok (.int .u64 v1) w := by
 have hi : (Try.prog.info? 50).map (·.size) = some 1 := by kernel_rfl
 cases h : Try.prog.info? 50 with
 | none => rw [h] at hi; cases hi
 | some q =>
  rw [h] at hi
  have hs : q.size = 1 := by simpa using hi
  simp [Instr.index, run_underlying Try.underlying78, asIntOf, part, sizeOf, typeInfo, h, hs, go_sem]
def carouselref1_Times.f (a0 : Int) (a1 : Int) : Option (Bool × Int × Int × Int × Int) := (carouselref1_size.f a0).bind fun x => ((carouselref1_size.f a1).bind fun y => ((carouselref1_plus.f (IntKind.u64.wrap (Go.bits .and .u64 x 4294967295 * Go.bits .and .u64 y 4294967295)) (IntKind.u64.wrap (x / 4294967296 * (y / 4294967296))) 0 0 (IntKind.u64.wrap (IntKind.u64.wrap (Go.bits .and .u64 x 4294967295 * (y / 4294967296)) * 4294967296)) (IntKind.u64.wrap (Go.bits .and .u64 x 4294967295 * (y / 4294967296)) / 4294967296) 0 0).bind fun p => ((carouselref1_plus.f p.1 p.2.1 p.2.2.1 p.2.2.2 (IntKind.u64.wrap (IntKind.u64.wrap (x / 4294967296 * Go.bits .and .u64 y 4294967295) * 4294967296)) (IntKind.u64.wrap (x / 4294967296 * Go.bits .and .u64 y 4294967295) / 4294967296) 0 0).bind fun q => (some ((decide (a0 < 0)) != (decide (a1 < 0)), q.1, q.2.1, q.2.2.1, q.2.2.2)))))
set_option maxHeartbeats 8000000 in
set_option maxRecDepth 100000 in
theorem carouselref1_Times.calls (a0 : Int) (a1 : Int) (r1 : Bool) (r2 : Int) (r3 : Int) (r4 : Int) (r5 : Int) (w : World) (h : carouselref1_Times.f a0 a1 = some (r1, r2, r3, r4, r5)) :
  Calls Try.prog 36 #[.int .i64 a0, .int .i64 a1] w fun e w' => e = .returned (.agg #[.bool r1, .int .u64 r2, .int .u64 r3, .int .u64 r4, .int .u64 r5]) ∧ Below w.heap.size w w' := by
 unfold carouselref1_Times.f at h
 obtain ⟨x, hx, h⟩ := Option.bind_eq_some_iff.mp h
 obtain ⟨y, hy, h⟩ := Option.bind_eq_some_iff.mp h
 obtain ⟨⟨p0, p1, p2, p3⟩, hp, h⟩ := Option.bind_eq_some_iff.mp h
 obtain ⟨⟨q0, q1, q2, q3⟩, hq, h⟩ := Option.bind_eq_some_iff.mp h
 simp only [Option.some.injEq, Prod.mk.injEq] at h
 obtain ⟨rfl, rfl, rfl, rfl, rfl⟩ := h
 have sa := fun w => carouselref1_size.calls a0 x w hx
 have sb := fun w => carouselref1_size.calls a1 y w hy
 have s1 := fun w => carouselref1_plus.calls _ _ _ _ _ _ _ _ p0 p1 p2 p3 w hp
 have s2 := fun w => carouselref1_plus.calls _ _ _ _ _ _ _ _ q0 q1 q2 q3 w hq
 clear hx hy hp hq
 have hu59 := Try.underlying59
 have hu61 := Try.underlying61
 have hu78 := Try.underlying78
 have hix0 := carouselref1_Times.ix0
 have hix1 := carouselref1_Times.ix1
 have SA := Aside0.mk sa
 have SB := Aside0.mk sb
 have S1 := Aside0.mk s1
 have S2 := Aside0.mk s2
 clear sa sb s1 s2
 go_enter Try.func36, Try.ntmps36
 go_wp2_with (first | ((with_reducible refine gate_dst (N := 15) rfl ?_); refine zg_ (some 15) Try.func51 #[.int .i64 a0] (h := ?_); (with_reducible refine (SA.out _).mono ?_); rintro e w' ⟨rfl, ⟨nd, rfl⟩⟩; refine ⟨_, rfl, ?_⟩) | ((with_reducible refine gate_dst (N := 17) rfl ?_); refine zg_ (some 17) Try.func51 #[.int .i64 a1] (h := ?_); (with_reducible refine (SB.out _).mono ?_); rintro e w' ⟨rfl, ⟨nd, rfl⟩⟩; refine ⟨_, rfl, ?_⟩))
 refine wp_loop_rounds 3 ?_
 rw [rounds_succ]
 go_wp2_with (((with_reducible refine gate_dst (N := 49) rfl ?_); refine zg_ (some 49) Try.func48 #[.agg #[.int .u64 (IntKind.u64.wrap (Go.bits .and .u64 x 4294967295 * Go.bits .and .u64 y 4294967295)), .int .u64 (IntKind.u64.wrap (x / 4294967296 * (y / 4294967296))), .int .u64 0, .int .u64 0], .agg #[.int .u64 (IntKind.u64.wrap (IntKind.u64.wrap (Go.bits .and .u64 x 4294967295 * (y / 4294967296)) * 4294967296)), .int .u64 (IntKind.u64.wrap (Go.bits .and .u64 x 4294967295 * (y / 4294967296)) / 4294967296), .int .u64 0, .int .u64 0]] (h := ?_); (with_reducible refine (S1.out _).mono ?_); rintro e w4 ⟨rfl, hb⟩; refine ⟨_, rfl, ?_⟩; have F4 := Aside0.mk (tm_start_ w _ _ _ _ w4 hb); clear hb; have hc4_0 : w4.cell? ⟨w.heap.size + 1, 0, none⟩ = some (.int .u64 (IntKind.u64.wrap (Go.bits .and .u64 x 4294967295 * Go.bits .and .u64 y 4294967295))) := (blk_cell F4.out.1 0).trans rfl; have hf4_0 := blk_frozen F4.out.1 0; have hc4_1 : w4.cell? ⟨w.heap.size + 1, 1, none⟩ = some (.int .u64 (IntKind.u64.wrap (x / 4294967296 * (y / 4294967296)))) := (blk_cell F4.out.1 1).trans rfl; have hf4_1 := blk_frozen F4.out.1 1; have hc4_2 : w4.cell? ⟨w.heap.size + 1, 2, none⟩ = some (.int .u64 0) := (blk_cell F4.out.1 2).trans rfl; have hf4_2 := blk_frozen F4.out.1 2; have hc4_3 : w4.cell? ⟨w.heap.size + 1, 3, none⟩ = some (.int .u64 0) := (blk_cell F4.out.1 3).trans rfl; have hf4_3 := blk_frozen F4.out.1 3))
 generalize hW : ((((w4.setCell ⟨w.heap.size + 1, 0, none⟩ (.int .u64 p0)).setCell ⟨w.heap.size + 1, 1, none⟩ (.int .u64 p1)).setCell ⟨w.heap.size + 1, 2, none⟩ (.int .u64 p2)).setCell ⟨w.heap.size + 1, 3, none⟩ (.int .u64 p3)) = w5
 have F5 := Aside0.mk (tm_step_ w w4 (w.heap.size + 1) _ _ _ _ _ _ _ _ _ _ rfl F4.out.1 F4.out.2.1 F4.out.2.2 w5 hW)
 clear hW hc4_0 hc4_1 hc4_2 hc4_3 hf4_0 hf4_1 hf4_2 hf4_3
 have hc5_0 : w5.cell? ⟨w.heap.size + 1, 0, none⟩ = some (.int .u64 p0) := (blk_cell F5.out.1 0).trans rfl
 have hf5_0 := blk_frozen F5.out.1 0
 have hc5_1 : w5.cell? ⟨w.heap.size + 1, 1, none⟩ = some (.int .u64 p1) := (blk_cell F5.out.1 1).trans rfl
 have hf5_1 := blk_frozen F5.out.1 1
 have hc5_2 : w5.cell? ⟨w.heap.size + 1, 2, none⟩ = some (.int .u64 p2) := (blk_cell F5.out.1 2).trans rfl
 have hf5_2 := blk_frozen F5.out.1 2
 have hc5_3 : w5.cell? ⟨w.heap.size + 1, 3, none⟩ = some (.int .u64 p3) := (blk_cell F5.out.1 3).trans rfl
 have hf5_3 := blk_frozen F5.out.1 3
 rw [rounds_succ]
 go_wp2_with (((with_reducible refine gate_dst (N := 49) rfl ?_); refine zg_ (some 49) Try.func48 #[.agg #[.int .u64 p0, .int .u64 p1, .int .u64 p2, .int .u64 p3], .agg #[.int .u64 (IntKind.u64.wrap (IntKind.u64.wrap (x / 4294967296 * Go.bits .and .u64 y 4294967295) * 4294967296)), .int .u64 (IntKind.u64.wrap (x / 4294967296 * Go.bits .and .u64 y 4294967295) / 4294967296), .int .u64 0, .int .u64 0]] (h := ?_); (with_reducible refine (S2.out _).mono ?_); rintro e w6 ⟨rfl, hb⟩; refine ⟨_, rfl, ?_⟩; have F6 := Aside0.mk (tm_call_ w w5 w6 (w.heap.size + 1) _ _ F5.out.1 F5.out.2.1 F5.out.2.2 hb); clear hb; have hc6_0 : w6.cell? ⟨w.heap.size + 1, 0, none⟩ = some (.int .u64 p0) := (blk_cell F6.out.1 0).trans rfl; have hf6_0 := blk_frozen F6.out.1 0; have hc6_1 : w6.cell? ⟨w.heap.size + 1, 1, none⟩ = some (.int .u64 p1) := (blk_cell F6.out.1 1).trans rfl; have hf6_1 := blk_frozen F6.out.1 1; have hc6_2 : w6.cell? ⟨w.heap.size + 1, 2, none⟩ = some (.int .u64 p2) := (blk_cell F6.out.1 2).trans rfl; have hf6_2 := blk_frozen F6.out.1 2; have hc6_3 : w6.cell? ⟨w.heap.size + 1, 3, none⟩ = some (.int .u64 p3) := (blk_cell F6.out.1 3).trans rfl; have hf6_3 := blk_frozen F6.out.1 3))
 generalize hW : ((((w6.setCell ⟨w.heap.size + 1, 0, none⟩ (.int .u64 q0)).setCell ⟨w.heap.size + 1, 1, none⟩ (.int .u64 q1)).setCell ⟨w.heap.size + 1, 2, none⟩ (.int .u64 q2)).setCell ⟨w.heap.size + 1, 3, none⟩ (.int .u64 q3)) = w7
 have F7 := Aside0.mk (tm_step_ w w6 (w.heap.size + 1) _ _ _ _ _ _ _ _ _ _ rfl F6.out.1 F6.out.2.1 F6.out.2.2 w7 hW)
 clear hW
 have hc7_0 : w7.cell? ⟨w.heap.size + 1, 0, none⟩ = some (.int .u64 q0) := (blk_cell F7.out.1 0).trans rfl
 have hf7_0 := blk_frozen F7.out.1 0
 have hc7_1 : w7.cell? ⟨w.heap.size + 1, 1, none⟩ = some (.int .u64 q1) := (blk_cell F7.out.1 1).trans rfl
 have hf7_1 := blk_frozen F7.out.1 1
 have hc7_2 : w7.cell? ⟨w.heap.size + 1, 2, none⟩ = some (.int .u64 q2) := (blk_cell F7.out.1 2).trans rfl
 have hf7_2 := blk_frozen F7.out.1 2
 have hc7_3 : w7.cell? ⟨w.heap.size + 1, 3, none⟩ = some (.int .u64 q3) := (blk_cell F7.out.1 3).trans rfl
 have hf7_3 := blk_frozen F7.out.1 3
 have hr_0 : w7.cell? ⟨w.heap.size, 0, none⟩ = some (.bool false) := (blk_cell F7.out.2.1 0).trans rfl
 have hq_0 := blk_frozen F7.out.2.1 0
 have hr_1 : w7.cell? ⟨w.heap.size, 1, none⟩ = some (.int .u64 0) := (blk_cell F7.out.2.1 1).trans rfl
 have hq_1 := blk_frozen F7.out.2.1 1
 have hr_2 : w7.cell? ⟨w.heap.size, 2, none⟩ = some (.int .u64 0) := (blk_cell F7.out.2.1 2).trans rfl
 have hq_2 := blk_frozen F7.out.2.1 2
 have hr_3 : w7.cell? ⟨w.heap.size, 3, none⟩ = some (.int .u64 0) := (blk_cell F7.out.2.1 3).trans rfl
 have hq_3 := blk_frozen F7.out.2.1 3
 have hr_4 : w7.cell? ⟨w.heap.size, 4, none⟩ = some (.int .u64 0) := (blk_cell F7.out.2.1 4).trans rfl
 have hq_4 := blk_frozen F7.out.2.1 4
 rw [rounds_succ]
 go_wp2
 have E := tm_end_ w w7 61 _ _ _ _ _ (.bool (!(decide (a0 < 0) == decide (a1 < 0)))) (.int .u64 q0) (.int .u64 q1) (.int .u64 q2) (.int .u64 q3) F7.out.2.1 F7.out.2.2
 exact bodyPost_ret (results_cell_row rfl _ _ w.heap.size 61 #[.bool (!(decide (a0 < 0) == decide (a1 < 0))), .int .u64 q0, .int .u64 q1, .int .u64 q2, .int .u64 q3] (0, 0) _ rfl E.1 hu61 rfl (by kernel_rfl)) rfl ⟨rfl, E.2⟩

end Go.Proofs.Ytcipfhlcgnomaaa.PConvBacks
