/- The functions that the law FixReckons reaches, as Lean functions, and that each call of the Go function does what its Lean function says, wherever that one answers. Written by a program of mine over the print of the kit; Lean checks it. -/
import Derived.Test.YtjiloachlemlcaaDoorPFixReckonsx0
import Derived.Test.YtjiloachlemlcaaDoorPFixReckonsx5
namespace Go.Proofs.YtjiloachlemlcaaDoor.PFixReckons
open Go.RowKit Go.Proofs.YtjiloachlemlcaaDoorW.PrintWords Go.Proofs.YtjiloachlemlcaaDoorW.PrintLast Go.Proofs.YtjiloachlemlcaaDoorW.PrintMore
attribute [local go_sem] max2_int min2_int max_two min_two max_three min_three max_four min_four   -- for this text's walks alone
set_option linter.unusedVariables false
set_option linter.unusedSimpArgs false

/-! ### carouselref1_minus: function 58 -/
def carouselref1_minus.s (a b c : Int) : Int := IntKind.u64.wrap (IntKind.u64.wrap (a - b) - c)
def carouselref1_minus.c (a b c : Int) : Int := if a < b then 1 else if IntKind.u64.wrap (a - b) < c then 1 else 0
theorem carouselref1_minus.s_z (a b : Int) : IntKind.u64.wrap (IntKind.u64.wrap (a - b)) = carouselref1_minus.s a b 0 := by unfold carouselref1_minus.s; rw [Int.sub_zero]
theorem carouselref1_minus.c_pos (a b c : Int) (h : a < b) : 1 = carouselref1_minus.c a b c := by unfold carouselref1_minus.c; rw [if_pos h]
theorem carouselref1_minus.c_mid (a b c : Int) (h1 : ¬ a < b) (h : IntKind.u64.wrap (a - b) < c) : 1 = carouselref1_minus.c a b c := by
 unfold carouselref1_minus.c; rw [if_neg h1, if_pos h]
theorem carouselref1_minus.c_neg (a b c : Int) (h1 : ¬ a < b) (h2 : c ≤ IntKind.u64.wrap (a - b)) : 0 = carouselref1_minus.c a b c := by unfold carouselref1_minus.c; rw [if_neg h1, if_neg (by omega)]
theorem carouselref1_minus.c_posz (a b : Int) (h : a < b) : 1 = carouselref1_minus.c a b 0 := carouselref1_minus.c_pos a b 0 h
theorem carouselref1_minus.c_midz (a b : Int) (h1 : ¬ a < b) (h : IntKind.u64.wrap (a - b) < 0) : 1 = carouselref1_minus.c a b 0 := carouselref1_minus.c_mid a b 0 h1 h
theorem carouselref1_minus.c_negz (a b : Int) (h1 : ¬ a < b) (h2 : 0 ≤ IntKind.u64.wrap (a - b)) : 0 = carouselref1_minus.c a b 0 := carouselref1_minus.c_neg a b 0 h1 h2
def carouselref1_minus.f (a0_0 : Int) (a0_1 : Int) (a0_2 : Int) (a0_3 : Int) (a1_0 : Int) (a1_1 : Int) (a1_2 : Int) (a1_3 : Int) : Option (Int × Int × Int × Int) := some (carouselref1_minus.s a0_0 a1_0 0, carouselref1_minus.s a0_1 a1_1 (carouselref1_minus.c a0_0 a1_0 0), carouselref1_minus.s a0_2 a1_2 (carouselref1_minus.c a0_1 a1_1 (carouselref1_minus.c a0_0 a1_0 0)), carouselref1_minus.s a0_3 a1_3 (carouselref1_minus.c a0_2 a1_2 (carouselref1_minus.c a0_1 a1_1 (carouselref1_minus.c a0_0 a1_0 0))))
set_option maxHeartbeats 8000000 in
set_option maxRecDepth 100000 in
theorem carouselref1_minus.calls (a0_0 : Int) (a0_1 : Int) (a0_2 : Int) (a0_3 : Int) (a1_0 : Int) (a1_1 : Int) (a1_2 : Int) (a1_3 : Int) (r1 : Int) (r2 : Int) (r3 : Int) (r4 : Int) (w : World) (h : carouselref1_minus.f a0_0 a0_1 a0_2 a0_3 a1_0 a1_1 a1_2 a1_3 = some (r1, r2, r3, r4)) :
  Calls Tryd.prog 58 #[.agg #[.int .u64 a0_0, .int .u64 a0_1, .int .u64 a0_2, .int .u64 a0_3], .agg #[.int .u64 a1_0, .int .u64 a1_1, .int .u64 a1_2, .int .u64 a1_3]] w fun e w' => e = .returned (.agg #[.int .u64 r1, .int .u64 r2, .int .u64 r3, .int .u64 r4]) ∧ Below w.heap.size w w' := by
 unfold carouselref1_minus.f at h
 have H0 := Aside0.mk h
 clear h
 have hu39 := Tryd.underlying39
 go_enter Tryd.func58, Tryd.ntmps58
 go_wp2
 refine wp_loop_rounds 5 ?_
 rw [rounds_succ]
 go_upto_block 1 with (fail)
 go_cut [6] (fun v6 wc => ∃ (n : Nat) (k0 t0 : Int), v6 = .int .u64 k0 ∧ Aside0 (k0 = carouselref1_minus.c a0_0 a1_0 0) ∧ Aside0 (t0 = carouselref1_minus.s a0_0 a1_0 0) ∧ wc = (((((w.alloc (.cells #[.int .u64 a0_0, .int .u64 a0_1, .int .u64 a0_2, .int .u64 a0_3] 39)).alloc (.cells #[.int .u64 a1_0, .int .u64 a1_1, .int .u64 a1_2, .int .u64 a1_3] 39)).alloc (.cells #[.int .u64 0, .int .u64 0, .int .u64 0, .int .u64 0] 39)).alloc (.cells #[.int .u64 t0, .int .u64 0, .int .u64 0, .int .u64 0] 39))).drewN n)
 case first =>
  go_wp2
  go_quiet (fail)
  go_wp2
  by_cases cc : a0_0 < a1_0
  case pos =>
   go_quiet (fail)
   go_wp2
   go_meet
   exact ⟨_, _, _, rfl, ⟨carouselref1_minus.c_posz a0_0 a1_0 cc⟩, ⟨carouselref1_minus.s_z a0_0 a1_0⟩, set_last4_ _ _ _ _ _ _ _ _ _ _⟩
  case neg =>
   have dd : decide (a0_0 < a1_0) = false := decide_eq_false cc
   have CC := Aside0.mk cc
   clear cc
   go_quiet (fail)
   go_wp2
   all_goals go_meet
   all_goals first | exact ⟨_, _, _, rfl, ⟨carouselref1_minus.c_midz a0_0 a1_0 (by have := CC.out; omega) (by assumption)⟩, ⟨carouselref1_minus.s_z a0_0 a1_0⟩, set_last4_ _ _ _ _ _ _ _ _ _ _⟩ | exact ⟨_, _, _, rfl, ⟨carouselref1_minus.c_negz a0_0 a1_0 (by have := CC.out; omega) (by assumption)⟩, ⟨carouselref1_minus.s_z a0_0 a1_0⟩, set_last4_ _ _ _ _ _ _ _ _ _ _⟩
 case rest =>
  obtain ⟨n0, k0, t0, rfl, K0, T0, rfl⟩ := hcut
  go_wp2
  rw [rounds_succ]
  go_upto_block 1 with (fail)
  go_cut [6] (fun v6 wc => ∃ (n : Nat) (k1 t1 : Int), v6 = .int .u64 k1 ∧ Aside0 (k1 = carouselref1_minus.c a0_1 a1_1 k0) ∧ Aside0 (t1 = carouselref1_minus.s a0_1 a1_1 k0) ∧ wc = (((((w.alloc (.cells #[.int .u64 a0_0, .int .u64 a0_1, .int .u64 a0_2, .int .u64 a0_3] 39)).alloc (.cells #[.int .u64 a1_0, .int .u64 a1_1, .int .u64 a1_2, .int .u64 a1_3] 39)).alloc (.cells #[.int .u64 0, .int .u64 0, .int .u64 0, .int .u64 0] 39)).alloc (.cells #[.int .u64 t0, .int .u64 t1, .int .u64 0, .int .u64 0] 39))).drewN n)
  case first =>
   go_wp2
   go_quiet (fail)
   go_wp2
   by_cases cc : a0_1 < a1_1
   case pos =>
    go_quiet (fail)
    go_wp2
    go_meet
    exact ⟨_, _, _, rfl, ⟨carouselref1_minus.c_pos a0_1 a1_1 k0 cc⟩, ⟨rfl⟩, set_last4_ _ _ _ _ _ _ _ _ _ _⟩
   case neg =>
    have dd : decide (a0_1 < a1_1) = false := decide_eq_false cc
    have CC := Aside0.mk cc
    clear cc
    go_quiet (fail)
    go_wp2
    all_goals go_meet
    all_goals first | exact ⟨_, _, _, rfl, ⟨carouselref1_minus.c_mid a0_1 a1_1 k0 (by have := CC.out; omega) (by assumption)⟩, ⟨rfl⟩, set_last4_ _ _ _ _ _ _ _ _ _ _⟩ | exact ⟨_, _, _, rfl, ⟨carouselref1_minus.c_neg a0_1 a1_1 k0 (by have := CC.out; omega) (by assumption)⟩, ⟨rfl⟩, set_last4_ _ _ _ _ _ _ _ _ _ _⟩
  case rest =>
   obtain ⟨n1, k1, t1, rfl, K1, T1, rfl⟩ := hcut
   go_wp2
   rw [rounds_succ]
   go_upto_block 1 with (fail)
   go_cut [6] (fun v6 wc => ∃ (n : Nat) (k2 t2 : Int), v6 = .int .u64 k2 ∧ Aside0 (k2 = carouselref1_minus.c a0_2 a1_2 k1) ∧ Aside0 (t2 = carouselref1_minus.s a0_2 a1_2 k1) ∧ wc = (((((w.alloc (.cells #[.int .u64 a0_0, .int .u64 a0_1, .int .u64 a0_2, .int .u64 a0_3] 39)).alloc (.cells #[.int .u64 a1_0, .int .u64 a1_1, .int .u64 a1_2, .int .u64 a1_3] 39)).alloc (.cells #[.int .u64 0, .int .u64 0, .int .u64 0, .int .u64 0] 39)).alloc (.cells #[.int .u64 t0, .int .u64 t1, .int .u64 t2, .int .u64 0] 39))).drewN n)
   case first =>
    go_wp2
    go_quiet (fail)
    go_wp2
    by_cases cc : a0_2 < a1_2
    case pos =>
     go_quiet (fail)
     go_wp2
     go_meet
     exact ⟨_, _, _, rfl, ⟨carouselref1_minus.c_pos a0_2 a1_2 k1 cc⟩, ⟨rfl⟩, set_last4_ _ _ _ _ _ _ _ _ _ _⟩
    case neg =>
     have dd : decide (a0_2 < a1_2) = false := decide_eq_false cc
     have CC := Aside0.mk cc
     clear cc
     go_quiet (fail)
     go_wp2
     all_goals go_meet
     all_goals first | exact ⟨_, _, _, rfl, ⟨carouselref1_minus.c_mid a0_2 a1_2 k1 (by have := CC.out; omega) (by assumption)⟩, ⟨rfl⟩, set_last4_ _ _ _ _ _ _ _ _ _ _⟩ | exact ⟨_, _, _, rfl, ⟨carouselref1_minus.c_neg a0_2 a1_2 k1 (by have := CC.out; omega) (by assumption)⟩, ⟨rfl⟩, set_last4_ _ _ _ _ _ _ _ _ _ _⟩
   case rest =>
    obtain ⟨n2, k2, t2, rfl, K2, T2, rfl⟩ := hcut
    go_wp2
    rw [rounds_succ]
    go_upto_block 1 with (fail)
    go_cut [6] (fun v6 wc => ∃ (n : Nat) (k3 t3 : Int), v6 = .int .u64 k3 ∧ Aside0 (k3 = carouselref1_minus.c a0_3 a1_3 k2) ∧ Aside0 (t3 = carouselref1_minus.s a0_3 a1_3 k2) ∧ wc = (((((w.alloc (.cells #[.int .u64 a0_0, .int .u64 a0_1, .int .u64 a0_2, .int .u64 a0_3] 39)).alloc (.cells #[.int .u64 a1_0, .int .u64 a1_1, .int .u64 a1_2, .int .u64 a1_3] 39)).alloc (.cells #[.int .u64 0, .int .u64 0, .int .u64 0, .int .u64 0] 39)).alloc (.cells #[.int .u64 t0, .int .u64 t1, .int .u64 t2, .int .u64 t3] 39))).drewN n)
    case first =>
     go_wp2
     go_quiet (fail)
     go_wp2
     by_cases cc : a0_3 < a1_3
     case pos =>
      go_quiet (fail)
      go_wp2
      go_meet
      exact ⟨_, _, _, rfl, ⟨carouselref1_minus.c_pos a0_3 a1_3 k2 cc⟩, ⟨rfl⟩, set_last4_ _ _ _ _ _ _ _ _ _ _⟩
     case neg =>
      have dd : decide (a0_3 < a1_3) = false := decide_eq_false cc
      have CC := Aside0.mk cc
      clear cc
      go_quiet (fail)
      go_wp2
      all_goals go_meet
      all_goals first | exact ⟨_, _, _, rfl, ⟨carouselref1_minus.c_mid a0_3 a1_3 k2 (by have := CC.out; omega) (by assumption)⟩, ⟨rfl⟩, set_last4_ _ _ _ _ _ _ _ _ _ _⟩ | exact ⟨_, _, _, rfl, ⟨carouselref1_minus.c_neg a0_3 a1_3 k2 (by have := CC.out; omega) (by assumption)⟩, ⟨rfl⟩, set_last4_ _ _ _ _ _ _ _ _ _ _⟩
    case rest =>
     obtain ⟨n3, k3, t3, rfl, K3, T3, rfl⟩ := hcut
     go_wp2
     rw [rounds_succ]
     go_wp2
     have E := end4_ w (.cells #[.int .u64 a0_0, .int .u64 a0_1, .int .u64 a0_2, .int .u64 a0_3] 39) (.cells #[.int .u64 a1_0, .int .u64 a1_1, .int .u64 a1_2, .int .u64 a1_3] 39) (.cells #[.int .u64 t0, .int .u64 t1, .int .u64 t2, .int .u64 t3] 39) 39 n3 (.int .u64 0) (.int .u64 0) (.int .u64 0) (.int .u64 0) (.int .u64 t0) (.int .u64 t1) (.int .u64 t2) (.int .u64 t3)
     refine bodyPost_ret (results_cell_row rfl _ _ (w.heap.size + 1 + 1) 39 #[.int .u64 t0, .int .u64 t1, .int .u64 t2, .int .u64 t3] (0, 0) _ rfl E.1 hu39 rfl (by kernel_rfl)) rfl ⟨?_, E.2⟩
     have H := H0.out
     simp only [Option.some.injEq, Prod.mk.injEq] at H
     obtain ⟨rfl, rfl, rfl, rfl⟩ := H
     rw [T0.out, T1.out, T2.out, T3.out, K2.out, K1.out, K0.out]

/-! ### carouselref1_Plus: function 43 -/
def carouselref1_Plus.f (a0_0 : Bool) (a0_1 : Int) (a0_2 : Int) (a0_3 : Int) (a0_4 : Int) (a1_0 : Bool) (a1_1 : Int) (a1_2 : Int) (a1_3 : Int) (a1_4 : Int) : Option (Bool × Int × Int × Int × Int) := if (a0_0 == a1_0) = true then ((carouselref1_plus.f a0_1 a0_2 a0_3 a0_4 a1_1 a1_2 a1_3 a1_4).bind fun bt166 => (some (a0_0, bt166.1, bt166.2.1, bt166.2.2.1, bt166.2.2.2))) else ((carouselref1_less.f a0_1 a0_2 a0_3 a0_4 a1_1 a1_2 a1_3 a1_4).bind fun t170 => (if t170 = true then ((carouselref1_minus.f a1_1 a1_2 a1_3 a1_4 a0_1 a0_2 a0_3 a0_4).bind fun bt171 => (some (a1_0, bt171.1, bt171.2.1, bt171.2.2.1, bt171.2.2.2))) else ((carouselref1_minus.f a0_1 a0_2 a0_3 a0_4 a1_1 a1_2 a1_3 a1_4).bind fun bt175 => (some (a0_0, bt175.1, bt175.2.1, bt175.2.2.1, bt175.2.2.2)))))
def carouselref1_Plus.T2 : Bool × List (List Nat × List Nat) := (true, [([], []), ([0], [0]), ([], []), ([2], [2]), ([], []), ([4], [4]), ([3, 5], [3, 5]), ([1, 6], [1, 6]), ([7, 6, 0, 1, 2, 3, 4, 5, 6, 7], [7])])
def carouselref1_Plus.B2 : List Nat := [0, 1, 0, 4, 0, 16, 60, 127, 255]
theorem carouselref1_Plus.tab2 : rtab .any (opsOf Tryd.f43 2) = carouselref1_Plus.T2 := by kernel_rfl
theorem carouselref1_Plus.bits2 : waitsOk carouselref1_Plus.T2.2 carouselref1_Plus.B2 = true := by kernel_rfl
def carouselref1_Plus.T4 : Bool × List (List Nat × List Nat) := (true, [([], []), ([0], [0]), ([], []), ([2], [2]), ([], []), ([4], [4]), ([3, 5], [3, 5]), ([1, 6], [1, 6]), ([7, 6, 0, 1, 2, 3, 4, 5, 6, 7], [7])])
def carouselref1_Plus.B4 : List Nat := [0, 1, 0, 4, 0, 16, 60, 127, 255]
theorem carouselref1_Plus.tab4 : rtab .any (opsOf Tryd.f43 4) = carouselref1_Plus.T4 := by kernel_rfl
theorem carouselref1_Plus.bits4 : waitsOk carouselref1_Plus.T4.2 carouselref1_Plus.B4 = true := by kernel_rfl
def carouselref1_Plus.T5 : Bool × List (List Nat × List Nat) := (true, [([], []), ([0], [0]), ([], []), ([2], [2]), ([], []), ([4], [4]), ([3, 5], [3, 5]), ([1, 6], [1, 6]), ([7, 6, 0, 1, 2, 3, 4, 5, 6, 7], [7])])
def carouselref1_Plus.B5 : List Nat := [0, 1, 0, 4, 0, 16, 60, 127, 255]
theorem carouselref1_Plus.tab5 : rtab .any (opsOf Tryd.f43 5) = carouselref1_Plus.T5 := by kernel_rfl
theorem carouselref1_Plus.bits5 : waitsOk carouselref1_Plus.T5.2 carouselref1_Plus.B5 = true := by kernel_rfl
set_option maxHeartbeats 8000000 in
set_option maxRecDepth 100000 in
theorem carouselref1_Plus.calls (a0_0 : Bool) (a0_1 : Int) (a0_2 : Int) (a0_3 : Int) (a0_4 : Int) (a1_0 : Bool) (a1_1 : Int) (a1_2 : Int) (a1_3 : Int) (a1_4 : Int) (r1 : Bool) (r2 : Int) (r3 : Int) (r4 : Int) (r5 : Int) (w : World) (h : carouselref1_Plus.f a0_0 a0_1 a0_2 a0_3 a0_4 a1_0 a1_1 a1_2 a1_3 a1_4 = some (r1, r2, r3, r4, r5)) :
  Calls Tryd.prog 43 #[.agg #[.bool a0_0, .int .u64 a0_1, .int .u64 a0_2, .int .u64 a0_3, .int .u64 a0_4], .agg #[.bool a1_0, .int .u64 a1_1, .int .u64 a1_2, .int .u64 a1_3, .int .u64 a1_4]] w fun e w' => e = .returned (.agg #[.bool r1, .int .u64 r2, .int .u64 r3, .int .u64 r4, .int .u64 r5]) ∧ Below w.heap.size w w' := by
 have hu41 := Tryd.underlying41
 have hu39 := Tryd.underlying39
 have HB := Aside0.mk (Below.refl w.heap.size w)
 have H : (if (a0_0 == a1_0) = true then ((carouselref1_plus.f a0_1 a0_2 a0_3 a0_4 a1_1 a1_2 a1_3 a1_4).bind fun bt166 => (some (a0_0, bt166.1, bt166.2.1, bt166.2.2.1, bt166.2.2.2))) else ((carouselref1_less.f a0_1 a0_2 a0_3 a0_4 a1_1 a1_2 a1_3 a1_4).bind fun t170 => (if t170 = true then ((carouselref1_minus.f a1_1 a1_2 a1_3 a1_4 a0_1 a0_2 a0_3 a0_4).bind fun bt171 => (some (a1_0, bt171.1, bt171.2.1, bt171.2.2.1, bt171.2.2.2))) else ((carouselref1_minus.f a0_1 a0_2 a0_3 a0_4 a1_1 a1_2 a1_3 a1_4).bind fun bt175 => (some (a0_0, bt175.1, bt175.2.1, bt175.2.2.1, bt175.2.2.2)))))) = some (r1, r2, r3, r4, r5) := h
 clear h
 by_cases c3 : (a0_0 == a1_0) = true
 ·rw [if_pos c3] at H
  have c3b0 : (a0_0 == a1_0) = true := c3
  (try (have c3b1 : decide (a0_0 = a1_0) = true := by simpa using c3))
  (try (have c3b2 : (a0_0 == a1_0) = true := by simpa using c3))
  clear c3
  replace H := Option.bind_eq_some_iff.mp H
  obtain ⟨⟨t166, t167, t168, t169⟩, A40, H⟩ := H
  replace H : (some (a0_0, t166, t167, t168, t169)) = some (r1, r2, r3, r4, r5) := H
  have A4 := Aside0.mk A40
  clear A40
  simp only [Option.some.injEq, Prod.mk.injEq] at H
  obtain ⟨rfl, rfl, rfl, rfl, rfl⟩ := H
  go_enter Tryd.func43, Tryd.ntmps43
  try go_wp2_with (first | ((with_reducible refine gate_dst (N := 2) rfl ?_); refine box_event ?hg (N := 2) ?hd (cs := #[.bool a0_0, .int .u64 a0_1, .int .u64 a0_2, .int .u64 a0_3, .int .u64 a0_4]) (t := 41) ?hr ?_; (case hd => rfl); (case hg => rfl); (case hr => first | (go_simp; done) | (go_simp; rfl)); intro gb163 hg w5 hbox hb; have BK163 := Aside0.mk (hbox); have GW163 := Aside0.mk (zs_ hg (zw0_ HB)); have GE163 := Aside0.mk (zs_ hg (zw0_ HB)); replace HB := Aside0.mk (below_step (zw0_ HB) hb); clear hb hbox hg) | ((with_reducible refine gate_dst (N := 3) rfl ?_); refine box_event ?hg (N := 3) ?hd (cs := #[.bool a1_0, .int .u64 a1_1, .int .u64 a1_2, .int .u64 a1_3, .int .u64 a1_4]) (t := 41) ?hr ?_; (case hd => rfl); (case hg => rfl); (case hr => first | (go_simp; done) | (go_simp; rfl)); intro gb164 hg w6 hbox hb; have BK164 := Aside0.mk (hbox); have GW164 := Aside0.mk (zs_ hg (zw1_ HB GE163)); have GE164 := Aside0.mk (zs_ hg (zw1_ HB GE163)); replace HB := Aside0.mk (below_step (zw1_ HB GE163) hb); have NB163_164 := Aside0.mk (zn_ hg BK163); have NB164_163 := Aside0.mk (zm_ hg BK163); replace BK163 := Aside0.mk (zl_ BK163 hb); clear hb hbox hg) | ((with_reducible refine gate_dst (N := 4) rfl ?_); refine box_event ?hg (N := 4) ?hd (cs := #[.bool false, .int .u64 0, .int .u64 0, .int .u64 0, .int .u64 0]) (t := 41) ?hr ?_; (case hd => rfl); (case hg => rfl); (case hr => first | (go_simp; done) | (go_simp; rfl)); intro gb165 hg w7 hbox hb; have BK165 := Aside0.mk (hbox); have GW165 := Aside0.mk (zs_ hg (zw2_ HB GE163 GE164)); have GE165 := Aside0.mk (zs_ hg (zw2_ HB GE163 GE164)); replace HB := Aside0.mk (below_step (zw2_ HB GE163 GE164) hb); have NB163_165 := Aside0.mk (zn_ hg BK163); have NB165_163 := Aside0.mk (zm_ hg BK163); replace BK163 := Aside0.mk (zl_ BK163 hb); have NB164_165 := Aside0.mk (zn_ hg BK164); have NB165_164 := Aside0.mk (zm_ hg BK164); replace BK164 := Aside0.mk (zl_ BK164 hb); clear hb hbox hg; have hnb8 := NB163_164.out; have hnc8 := NB164_163.out; have hnb9 := NB163_165.out; have hnc9 := NB165_163.out; have hcz10_0 := zx_ (v := .bool a0_0) BK163 0; have hcz10_1 := zx_ (v := .int .u64 a0_1) BK163 1; have hcz10_2 := zx_ (v := .int .u64 a0_2) BK163 2; have hcz10_3 := zx_ (v := .int .u64 a0_3) BK163 3; have hcz10_4 := zx_ (v := .int .u64 a0_4) BK163 4; have hfz10_0 := blk_frozen BK163.out 0; have hfz10_1 := blk_frozen BK163.out 1; have hfz10_2 := blk_frozen BK163.out 2; have hfz10_3 := blk_frozen BK163.out 3; have hfz10_4 := blk_frozen BK163.out 4; have hnb11 := NB164_165.out; have hnc11 := NB165_164.out; have hcz12_0 := zx_ (v := .bool a1_0) BK164 0; have hcz12_1 := zx_ (v := .int .u64 a1_1) BK164 1; have hcz12_2 := zx_ (v := .int .u64 a1_2) BK164 2; have hcz12_3 := zx_ (v := .int .u64 a1_3) BK164 3; have hcz12_4 := zx_ (v := .int .u64 a1_4) BK164 4; have hfz12_0 := blk_frozen BK164.out 0; have hfz12_1 := blk_frozen BK164.out 1; have hfz12_2 := blk_frozen BK164.out 2; have hfz12_3 := blk_frozen BK164.out 3; have hfz12_4 := blk_frozen BK164.out 4))
  replace BK163 := Aside0.mk (blk_drew BK163.out)
  replace BK164 := Aside0.mk (blk_drew BK164.out)
  replace BK165 := Aside0.mk (blk_drew BK165.out)
  replace HB := Aside0.mk (below_drew1 HB.out)
  refine start_ (n := 9) (S := fun w' => w'.cell? ⟨gb163, 0, none⟩ = some (.bool a0_0) ∧ w'.cell? ⟨gb163, 1, none⟩ = some (.int .u64 a0_1) ∧ w'.cell? ⟨gb163, 2, none⟩ = some (.int .u64 a0_2) ∧ w'.cell? ⟨gb163, 3, none⟩ = some (.int .u64 a0_3) ∧ w'.cell? ⟨gb163, 4, none⟩ = some (.int .u64 a0_4) ∧ w'.cell? ⟨gb164, 0, none⟩ = some (.bool a1_0) ∧ w'.cell? ⟨gb164, 1, none⟩ = some (.int .u64 a1_1) ∧ w'.cell? ⟨gb164, 2, none⟩ = some (.int .u64 a1_2) ∧ w'.cell? ⟨gb164, 3, none⟩ = some (.int .u64 a1_3) ∧ w'.cell? ⟨gb164, 4, none⟩ = some (.int .u64 a1_4)) (ds := []) #[false, false, false, false, false, false, false, false, false] (by kernel_rfl) rfl rfl ⟨(blk_cell BK163.out 0).trans rfl, (blk_cell BK163.out 1).trans rfl, (blk_cell BK163.out 2).trans rfl, (blk_cell BK163.out 3).trans rfl, (blk_cell BK163.out 4).trans rfl, (blk_cell BK164.out 0).trans rfl, (blk_cell BK164.out 1).trans rfl, (blk_cell BK164.out 2).trans rfl, (blk_cell BK164.out 3).trans rfl, (blk_cell BK164.out 4).trans rfl⟩ (fun hHeld => ?_); refine with_tabW carouselref1_Plus.tab2 carouselref1_Plus.bits2 (fun HT_ HW_ => ?_)
  generalize w7.drew = w13 at BK163 BK164 BK165 HB hHeld ⊢
  refine zp_ 0 (some 10) (h := ?_)
  refine zp_ 2 (some 12) (h := ?_)
  refine zp_ 4 (some 14) (h := ?_)
  refine zt_ 1 (some 11) (hr := by rintro w' ⟨s0, s1, s2, s3, s4, s5, s6, s7, s8, s9⟩; go_simp; with_reducible rfl) (h := ?_)
  refine zt_ 3 (some 13) (hr := by rintro w' ⟨s0, s1, s2, s3, s4, s5, s6, s7, s8, s9⟩; go_simp; with_reducible rfl) (h := ?_)
  refine zt_ 5 (some 15) (hr := by rintro w' ⟨s0, s1, s2, s3, s4, s5, s6, s7, s8, s9⟩; go_simp; with_reducible rfl) (h := ?_)
  refine one_ (i := 6) (N := some 16) #[true, true, true, true, true, true, true, false, false] rfl rfl (one_of HT_.out (by kernel_rfl)) (by decide) (fun K hK => ?_)
  refine goes_ Tryd.func55 (by kernel_rfl) rfl #[.agg #[.int .u64 a0_1, .int .u64 a0_2, .int .u64 a0_3, .int .u64 a0_4], .agg #[.int .u64 a1_1, .int .u64 a1_2, .int .u64 a1_3, .int .u64 a1_4]] (by rfl) rfl rfl (by (try simp only [List.map_toArray, List.map_cons, List.map_nil]); first | done | rfl | (simp only [List.length_drop, List.length_take]; rfl)) ?_
  with_reducible refine (carouselref1_plus.calls a0_1 a0_2 a0_3 a0_4 a1_1 a1_2 a1_3 a1_4 t166 t167 t168 t169 _ A4.out).mono ?_
  rintro e w14 ⟨rfl, hb⟩
  refine ⟨_, rfl, ?_⟩
  replace BK163 := Aside0.mk (zl_ BK163 hb)
  replace BK164 := Aside0.mk (zl_ BK164 hb)
  replace BK165 := Aside0.mk (zl_ BK165 hb)
  replace HB := Aside0.mk (below_step (zw3_ HB GE163 GE164 GE165) hb)
  (try clear hb)
  (try clear hb2)
  (try clear hk)
  (try clear hi)
  refine hK.out _ _ ⟨(blk_cell BK163.out 0).trans rfl, (blk_cell BK163.out 1).trans rfl, (blk_cell BK163.out 2).trans rfl, (blk_cell BK163.out 3).trans rfl, (blk_cell BK163.out 4).trans rfl, (blk_cell BK164.out 0).trans rfl, (blk_cell BK164.out 1).trans rfl, (blk_cell BK164.out 2).trans rfl, (blk_cell BK164.out 3).trans rfl, (blk_cell BK164.out 4).trans rfl⟩ (fun hHeld => ?_)
  clear hK K
  refine zq_ (some 16) (h := ?_)
  refine zp_ 7 (some 17) (h := ?_)
  refine one_ (i := 8) (N := none) #[true, true, true, true, true, true, true, true, true] rfl rfl (one_of HT_.out (by kernel_rfl)) (by decide) (fun K hK => ?_)
  have hs15 := zx_ (v := .bool false) BK165 0
  have hfs15 := blk_frozen BK165.out 0
  have hns15_0 := NB163_165.out
  have hns15_1 := NB164_165.out
  have hms15_0 := NB165_163.out
  have hms15_1 := NB165_164.out
  have hs16 := zx_ (v := .int .u64 0) BK165 1
  have hfs16 := blk_frozen BK165.out 1
  have hns16_0 := NB163_165.out
  have hns16_1 := NB164_165.out
  have hms16_0 := NB165_163.out
  have hms16_1 := NB165_164.out
  have hs17 := zx_ (v := .int .u64 0) BK165 2
  have hfs17 := blk_frozen BK165.out 2
  have hns17_0 := NB163_165.out
  have hns17_1 := NB164_165.out
  have hms17_0 := NB165_163.out
  have hms17_1 := NB165_164.out
  have hs18 := zx_ (v := .int .u64 0) BK165 3
  have hfs18 := blk_frozen BK165.out 3
  have hns18_0 := NB163_165.out
  have hns18_1 := NB164_165.out
  have hms18_0 := NB165_163.out
  have hms18_1 := NB165_164.out
  have hs19 := zx_ (v := .int .u64 0) BK165 4
  have hfs19 := blk_frozen BK165.out 4
  have hns19_0 := NB163_165.out
  have hns19_1 := NB164_165.out
  have hms19_0 := NB165_163.out
  have hms19_1 := NB165_164.out
  refine skip_ (w1 := ?_) (by rfl) rfl ?_ ?_
  rotate_left
  ·go_simp
   rfl
  refine hK.out _ _ ⟨((cell_far (p := ⟨gb165, _, none⟩) NB163_165.out _).trans (((cell_far (p := ⟨gb165, _, none⟩) NB163_165.out _).trans (((cell_far (p := ⟨gb165, _, none⟩) NB163_165.out _).trans (((cell_far (p := ⟨gb165, _, none⟩) NB163_165.out _).trans (((cell_far (p := ⟨gb165, _, none⟩) NB163_165.out _).trans (hHeld.1)))))))))), ((cell_far (p := ⟨gb165, _, none⟩) NB163_165.out _).trans (((cell_far (p := ⟨gb165, _, none⟩) NB163_165.out _).trans (((cell_far (p := ⟨gb165, _, none⟩) NB163_165.out _).trans (((cell_far (p := ⟨gb165, _, none⟩) NB163_165.out _).trans (((cell_far (p := ⟨gb165, _, none⟩) NB163_165.out _).trans (hHeld.2.1)))))))))), ((cell_far (p := ⟨gb165, _, none⟩) NB163_165.out _).trans (((cell_far (p := ⟨gb165, _, none⟩) NB163_165.out _).trans (((cell_far (p := ⟨gb165, _, none⟩) NB163_165.out _).trans (((cell_far (p := ⟨gb165, _, none⟩) NB163_165.out _).trans (((cell_far (p := ⟨gb165, _, none⟩) NB163_165.out _).trans (hHeld.2.2.1)))))))))), ((cell_far (p := ⟨gb165, _, none⟩) NB163_165.out _).trans (((cell_far (p := ⟨gb165, _, none⟩) NB163_165.out _).trans (((cell_far (p := ⟨gb165, _, none⟩) NB163_165.out _).trans (((cell_far (p := ⟨gb165, _, none⟩) NB163_165.out _).trans (((cell_far (p := ⟨gb165, _, none⟩) NB163_165.out _).trans (hHeld.2.2.2.1)))))))))), ((cell_far (p := ⟨gb165, _, none⟩) NB163_165.out _).trans (((cell_far (p := ⟨gb165, _, none⟩) NB163_165.out _).trans (((cell_far (p := ⟨gb165, _, none⟩) NB163_165.out _).trans (((cell_far (p := ⟨gb165, _, none⟩) NB163_165.out _).trans (((cell_far (p := ⟨gb165, _, none⟩) NB163_165.out _).trans (hHeld.2.2.2.2.1)))))))))), ((cell_far (p := ⟨gb165, _, none⟩) NB164_165.out _).trans (((cell_far (p := ⟨gb165, _, none⟩) NB164_165.out _).trans (((cell_far (p := ⟨gb165, _, none⟩) NB164_165.out _).trans (((cell_far (p := ⟨gb165, _, none⟩) NB164_165.out _).trans (((cell_far (p := ⟨gb165, _, none⟩) NB164_165.out _).trans (hHeld.2.2.2.2.2.1)))))))))), ((cell_far (p := ⟨gb165, _, none⟩) NB164_165.out _).trans (((cell_far (p := ⟨gb165, _, none⟩) NB164_165.out _).trans (((cell_far (p := ⟨gb165, _, none⟩) NB164_165.out _).trans (((cell_far (p := ⟨gb165, _, none⟩) NB164_165.out _).trans (((cell_far (p := ⟨gb165, _, none⟩) NB164_165.out _).trans (hHeld.2.2.2.2.2.2.1)))))))))), ((cell_far (p := ⟨gb165, _, none⟩) NB164_165.out _).trans (((cell_far (p := ⟨gb165, _, none⟩) NB164_165.out _).trans (((cell_far (p := ⟨gb165, _, none⟩) NB164_165.out _).trans (((cell_far (p := ⟨gb165, _, none⟩) NB164_165.out _).trans (((cell_far (p := ⟨gb165, _, none⟩) NB164_165.out _).trans (hHeld.2.2.2.2.2.2.2.1)))))))))), ((cell_far (p := ⟨gb165, _, none⟩) NB164_165.out _).trans (((cell_far (p := ⟨gb165, _, none⟩) NB164_165.out _).trans (((cell_far (p := ⟨gb165, _, none⟩) NB164_165.out _).trans (((cell_far (p := ⟨gb165, _, none⟩) NB164_165.out _).trans (((cell_far (p := ⟨gb165, _, none⟩) NB164_165.out _).trans (hHeld.2.2.2.2.2.2.2.2.1)))))))))), ((cell_far (p := ⟨gb165, _, none⟩) NB164_165.out _).trans (((cell_far (p := ⟨gb165, _, none⟩) NB164_165.out _).trans (((cell_far (p := ⟨gb165, _, none⟩) NB164_165.out _).trans (((cell_far (p := ⟨gb165, _, none⟩) NB164_165.out _).trans (((cell_far (p := ⟨gb165, _, none⟩) NB164_165.out _).trans (hHeld.2.2.2.2.2.2.2.2.2))))))))))⟩ (fun hHeld => ?_)
  clear hK K
  refine done_ (done_of HT_.out (by kernel_rfl)) ?_
  try go_wp2
  refine bodyPost_ret (results_cell_row rfl _ _ gb165 41 #[.bool a0_0, .int .u64 t166, .int .u64 t167, .int .u64 t168, .int .u64 t169] (0, 0) _ rfl (by (with_reducible repeat (first | refine blk_drewN ?_ _ | refine blk_drew ?_ | refine blk_alloc ?_ _)); refine blk_put (cs := #[.bool a0_0, .int .u64 t166, .int .u64 t167, .int .u64 t168, .int .u64 0]) ?_ 4 _ rfl; (with_reducible repeat (first | refine blk_drewN ?_ _ | refine blk_drew ?_ | refine blk_alloc ?_ _)); refine blk_put (cs := #[.bool a0_0, .int .u64 t166, .int .u64 t167, .int .u64 0, .int .u64 0]) ?_ 3 _ rfl; (with_reducible repeat (first | refine blk_drewN ?_ _ | refine blk_drew ?_ | refine blk_alloc ?_ _)); refine blk_put (cs := #[.bool a0_0, .int .u64 t166, .int .u64 0, .int .u64 0, .int .u64 0]) ?_ 2 _ rfl; (with_reducible repeat (first | refine blk_drewN ?_ _ | refine blk_drew ?_ | refine blk_alloc ?_ _)); refine blk_put (cs := #[.bool a0_0, .int .u64 0, .int .u64 0, .int .u64 0, .int .u64 0]) ?_ 1 _ rfl; (with_reducible repeat (first | refine blk_drewN ?_ _ | refine blk_drew ?_ | refine blk_alloc ?_ _)); refine blk_put (cs := #[.bool false, .int .u64 0, .int .u64 0, .int .u64 0, .int .u64 0]) ?_ 0 _ rfl; (with_reducible repeat (first | refine blk_drewN ?_ _ | refine blk_drew ?_ | refine blk_alloc ?_ _)); exact BK165.out) Tryd.underlying41 rfl (by kernel_rfl)) rfl ?_
  exact ⟨by first | rfl | (simp [errW_none, errW_some] <;> rfl) | (simp [*, errW_none, errW_some] <;> rfl), zw3_ HB GE163 GE164 GE165⟩
 ·rw [if_neg c3] at H
  have c3b0 : (a0_0 == a1_0) = false := by simpa using c3
  (try (have c3b1 : decide (a0_0 = a1_0) = false := by simpa using c3))
  (try (have c3b2 : (a0_0 == a1_0) = false := by simpa using c3))
  (try (have c3b3 : ¬ (a0_0 = a1_0) := by simpa using c3))
  clear c3
  replace H := Option.bind_eq_some_iff.mp H
  obtain ⟨t170, A200, H⟩ := H
  (try dsimp only at H)
  have A20 := Aside0.mk A200
  clear A200
  by_cases c21 : t170 = true
  ·subst c21
   have H1 := H
   rw [if_pos rfl] at H1
   clear H
   have H := H1
   clear H1
   replace H := Option.bind_eq_some_iff.mp H
   obtain ⟨⟨t171, t172, t173, t174⟩, A220, H⟩ := H
   replace H : (some (a1_0, t171, t172, t173, t174)) = some (r1, r2, r3, r4, r5) := H
   have A22 := Aside0.mk A220
   clear A220
   simp only [Option.some.injEq, Prod.mk.injEq] at H
   obtain ⟨rfl, rfl, rfl, rfl, rfl⟩ := H
   go_enter Tryd.func43, Tryd.ntmps43
   try go_wp2_with (first | ((with_reducible refine gate_dst (N := 2) rfl ?_); refine box_event ?hg (N := 2) ?hd (cs := #[.bool a0_0, .int .u64 a0_1, .int .u64 a0_2, .int .u64 a0_3, .int .u64 a0_4]) (t := 41) ?hr ?_; (case hd => rfl); (case hg => rfl); (case hr => first | (go_simp; done) | (go_simp; rfl)); intro gb163 hg w23 hbox hb; have BK163 := Aside0.mk (hbox); have GW163 := Aside0.mk (zs_ hg (zw0_ HB)); have GE163 := Aside0.mk (zs_ hg (zw0_ HB)); replace HB := Aside0.mk (below_step (zw0_ HB) hb); clear hb hbox hg) | ((with_reducible refine gate_dst (N := 3) rfl ?_); refine box_event ?hg (N := 3) ?hd (cs := #[.bool a1_0, .int .u64 a1_1, .int .u64 a1_2, .int .u64 a1_3, .int .u64 a1_4]) (t := 41) ?hr ?_; (case hd => rfl); (case hg => rfl); (case hr => first | (go_simp; done) | (go_simp; rfl)); intro gb164 hg w24 hbox hb; have BK164 := Aside0.mk (hbox); have GW164 := Aside0.mk (zs_ hg (zw1_ HB GE163)); have GE164 := Aside0.mk (zs_ hg (zw1_ HB GE163)); replace HB := Aside0.mk (below_step (zw1_ HB GE163) hb); have NB163_164 := Aside0.mk (zn_ hg BK163); have NB164_163 := Aside0.mk (zm_ hg BK163); replace BK163 := Aside0.mk (zl_ BK163 hb); clear hb hbox hg) | ((with_reducible refine gate_dst (N := 4) rfl ?_); refine box_event ?hg (N := 4) ?hd (cs := #[.bool false, .int .u64 0, .int .u64 0, .int .u64 0, .int .u64 0]) (t := 41) ?hr ?_; (case hd => rfl); (case hg => rfl); (case hr => first | (go_simp; done) | (go_simp; rfl)); intro gb165 hg w25 hbox hb; have BK165 := Aside0.mk (hbox); have GW165 := Aside0.mk (zs_ hg (zw2_ HB GE163 GE164)); have GE165 := Aside0.mk (zs_ hg (zw2_ HB GE163 GE164)); replace HB := Aside0.mk (below_step (zw2_ HB GE163 GE164) hb); have NB163_165 := Aside0.mk (zn_ hg BK163); have NB165_163 := Aside0.mk (zm_ hg BK163); replace BK163 := Aside0.mk (zl_ BK163 hb); have NB164_165 := Aside0.mk (zn_ hg BK164); have NB165_164 := Aside0.mk (zm_ hg BK164); replace BK164 := Aside0.mk (zl_ BK164 hb); clear hb hbox hg; have hnb26 := NB163_164.out; have hnc26 := NB164_163.out; have hnb27 := NB163_165.out; have hnc27 := NB165_163.out; have hcz28_0 := zx_ (v := .bool a0_0) BK163 0; have hcz28_1 := zx_ (v := .int .u64 a0_1) BK163 1; have hcz28_2 := zx_ (v := .int .u64 a0_2) BK163 2; have hcz28_3 := zx_ (v := .int .u64 a0_3) BK163 3; have hcz28_4 := zx_ (v := .int .u64 a0_4) BK163 4; have hfz28_0 := blk_frozen BK163.out 0; have hfz28_1 := blk_frozen BK163.out 1; have hfz28_2 := blk_frozen BK163.out 2; have hfz28_3 := blk_frozen BK163.out 3; have hfz28_4 := blk_frozen BK163.out 4; have hnb29 := NB164_165.out; have hnc29 := NB165_164.out; have hcz30_0 := zx_ (v := .bool a1_0) BK164 0; have hcz30_1 := zx_ (v := .int .u64 a1_1) BK164 1; have hcz30_2 := zx_ (v := .int .u64 a1_2) BK164 2; have hcz30_3 := zx_ (v := .int .u64 a1_3) BK164 3; have hcz30_4 := zx_ (v := .int .u64 a1_4) BK164 4; have hfz30_0 := blk_frozen BK164.out 0; have hfz30_1 := blk_frozen BK164.out 1; have hfz30_2 := blk_frozen BK164.out 2; have hfz30_3 := blk_frozen BK164.out 3; have hfz30_4 := blk_frozen BK164.out 4) | ((with_reducible refine gate_callee (f := 57) rfl ?_); refine zg_ (some 22) Tryd.func57 #[.agg #[.int .u64 a0_1, .int .u64 a0_2, .int .u64 a0_3, .int .u64 a0_4], .agg #[.int .u64 a1_1, .int .u64 a1_2, .int .u64 a1_3, .int .u64 a1_4]] (h := ?_); (with_reducible refine (carouselref1_less.calls a0_1 a0_2 a0_3 a0_4 a1_1 a1_2 a1_3 a1_4 true _ A20.out).mono ?_); rintro e w31 ⟨rfl, hb⟩; refine ⟨_, rfl, ?_⟩; replace BK163 := Aside0.mk (zl_ BK163 hb); replace BK164 := Aside0.mk (zl_ BK164 hb); replace BK165 := Aside0.mk (zl_ BK165 hb); replace HB := Aside0.mk (below_step (zw3_ HB GE163 GE164 GE165) hb); (try clear hb)))
   replace BK163 := Aside0.mk (blk_drew BK163.out)
   replace BK164 := Aside0.mk (blk_drew BK164.out)
   replace BK165 := Aside0.mk (blk_drew BK165.out)
   replace HB := Aside0.mk (below_drew1 HB.out)
   refine start_ (n := 9) (S := fun w' => w'.cell? ⟨gb164, 0, none⟩ = some (.bool a1_0) ∧ w'.cell? ⟨gb164, 1, none⟩ = some (.int .u64 a1_1) ∧ w'.cell? ⟨gb164, 2, none⟩ = some (.int .u64 a1_2) ∧ w'.cell? ⟨gb164, 3, none⟩ = some (.int .u64 a1_3) ∧ w'.cell? ⟨gb164, 4, none⟩ = some (.int .u64 a1_4) ∧ w'.cell? ⟨gb163, 0, none⟩ = some (.bool a0_0) ∧ w'.cell? ⟨gb163, 1, none⟩ = some (.int .u64 a0_1) ∧ w'.cell? ⟨gb163, 2, none⟩ = some (.int .u64 a0_2) ∧ w'.cell? ⟨gb163, 3, none⟩ = some (.int .u64 a0_3) ∧ w'.cell? ⟨gb163, 4, none⟩ = some (.int .u64 a0_4)) (ds := []) #[false, false, false, false, false, false, false, false, false] (by kernel_rfl) rfl rfl ⟨(blk_cell BK164.out 0).trans rfl, (blk_cell BK164.out 1).trans rfl, (blk_cell BK164.out 2).trans rfl, (blk_cell BK164.out 3).trans rfl, (blk_cell BK164.out 4).trans rfl, (blk_cell BK163.out 0).trans rfl, (blk_cell BK163.out 1).trans rfl, (blk_cell BK163.out 2).trans rfl, (blk_cell BK163.out 3).trans rfl, (blk_cell BK163.out 4).trans rfl⟩ (fun hHeld => ?_); refine with_tabW carouselref1_Plus.tab4 carouselref1_Plus.bits4 (fun HT_ HW_ => ?_)
   generalize w31.drew = w32 at BK163 BK164 BK165 HB hHeld ⊢
   refine zp_ 0 (some 23) (h := ?_)
   refine zp_ 2 (some 25) (h := ?_)
   refine zp_ 4 (some 27) (h := ?_)
   refine zt_ 1 (some 24) (hr := by rintro w' ⟨s0, s1, s2, s3, s4, s5, s6, s7, s8, s9⟩; go_simp; with_reducible rfl) (h := ?_)
   refine zt_ 3 (some 26) (hr := by rintro w' ⟨s0, s1, s2, s3, s4, s5, s6, s7, s8, s9⟩; go_simp; with_reducible rfl) (h := ?_)
   refine zt_ 5 (some 28) (hr := by rintro w' ⟨s0, s1, s2, s3, s4, s5, s6, s7, s8, s9⟩; go_simp; with_reducible rfl) (h := ?_)
   refine one_ (i := 6) (N := some 29) #[true, true, true, true, true, true, true, false, false] rfl rfl (one_of HT_.out (by kernel_rfl)) (by decide) (fun K hK => ?_)
   refine goes_ Tryd.func58 (by kernel_rfl) rfl #[.agg #[.int .u64 a1_1, .int .u64 a1_2, .int .u64 a1_3, .int .u64 a1_4], .agg #[.int .u64 a0_1, .int .u64 a0_2, .int .u64 a0_3, .int .u64 a0_4]] (by rfl) rfl rfl (by (try simp only [List.map_toArray, List.map_cons, List.map_nil]); first | done | rfl | (simp only [List.length_drop, List.length_take]; rfl)) ?_
   with_reducible refine (carouselref1_minus.calls a1_1 a1_2 a1_3 a1_4 a0_1 a0_2 a0_3 a0_4 t171 t172 t173 t174 _ A22.out).mono ?_
   rintro e w33 ⟨rfl, hb⟩
   refine ⟨_, rfl, ?_⟩
   replace BK163 := Aside0.mk (zl_ BK163 hb)
   replace BK164 := Aside0.mk (zl_ BK164 hb)
   replace BK165 := Aside0.mk (zl_ BK165 hb)
   replace HB := Aside0.mk (below_step (zw3_ HB GE163 GE164 GE165) hb)
   (try clear hb)
   (try clear hb2)
   (try clear hk)
   (try clear hi)
   refine hK.out _ _ ⟨(blk_cell BK164.out 0).trans rfl, (blk_cell BK164.out 1).trans rfl, (blk_cell BK164.out 2).trans rfl, (blk_cell BK164.out 3).trans rfl, (blk_cell BK164.out 4).trans rfl, (blk_cell BK163.out 0).trans rfl, (blk_cell BK163.out 1).trans rfl, (blk_cell BK163.out 2).trans rfl, (blk_cell BK163.out 3).trans rfl, (blk_cell BK163.out 4).trans rfl⟩ (fun hHeld => ?_)
   clear hK K
   refine zq_ (some 29) (h := ?_)
   refine zp_ 7 (some 30) (h := ?_)
   refine one_ (i := 8) (N := none) #[true, true, true, true, true, true, true, true, true] rfl rfl (one_of HT_.out (by kernel_rfl)) (by decide) (fun K hK => ?_)
   have hs34 := zx_ (v := .bool false) BK165 0
   have hfs34 := blk_frozen BK165.out 0
   have hns34_0 := NB163_165.out
   have hns34_1 := NB164_165.out
   have hms34_0 := NB165_163.out
   have hms34_1 := NB165_164.out
   have hs35 := zx_ (v := .int .u64 0) BK165 1
   have hfs35 := blk_frozen BK165.out 1
   have hns35_0 := NB163_165.out
   have hns35_1 := NB164_165.out
   have hms35_0 := NB165_163.out
   have hms35_1 := NB165_164.out
   have hs36 := zx_ (v := .int .u64 0) BK165 2
   have hfs36 := blk_frozen BK165.out 2
   have hns36_0 := NB163_165.out
   have hns36_1 := NB164_165.out
   have hms36_0 := NB165_163.out
   have hms36_1 := NB165_164.out
   have hs37 := zx_ (v := .int .u64 0) BK165 3
   have hfs37 := blk_frozen BK165.out 3
   have hns37_0 := NB163_165.out
   have hns37_1 := NB164_165.out
   have hms37_0 := NB165_163.out
   have hms37_1 := NB165_164.out
   have hs38 := zx_ (v := .int .u64 0) BK165 4
   have hfs38 := blk_frozen BK165.out 4
   have hns38_0 := NB163_165.out
   have hns38_1 := NB164_165.out
   have hms38_0 := NB165_163.out
   have hms38_1 := NB165_164.out
   refine skip_ (w1 := ?_) (by rfl) rfl ?_ ?_
   rotate_left
   ·go_simp
    rfl
   refine hK.out _ _ ⟨((cell_far (p := ⟨gb165, _, none⟩) NB164_165.out _).trans (((cell_far (p := ⟨gb165, _, none⟩) NB164_165.out _).trans (((cell_far (p := ⟨gb165, _, none⟩) NB164_165.out _).trans (((cell_far (p := ⟨gb165, _, none⟩) NB164_165.out _).trans (((cell_far (p := ⟨gb165, _, none⟩) NB164_165.out _).trans (hHeld.1)))))))))), ((cell_far (p := ⟨gb165, _, none⟩) NB164_165.out _).trans (((cell_far (p := ⟨gb165, _, none⟩) NB164_165.out _).trans (((cell_far (p := ⟨gb165, _, none⟩) NB164_165.out _).trans (((cell_far (p := ⟨gb165, _, none⟩) NB164_165.out _).trans (((cell_far (p := ⟨gb165, _, none⟩) NB164_165.out _).trans (hHeld.2.1)))))))))), ((cell_far (p := ⟨gb165, _, none⟩) NB164_165.out _).trans (((cell_far (p := ⟨gb165, _, none⟩) NB164_165.out _).trans (((cell_far (p := ⟨gb165, _, none⟩) NB164_165.out _).trans (((cell_far (p := ⟨gb165, _, none⟩) NB164_165.out _).trans (((cell_far (p := ⟨gb165, _, none⟩) NB164_165.out _).trans (hHeld.2.2.1)))))))))), ((cell_far (p := ⟨gb165, _, none⟩) NB164_165.out _).trans (((cell_far (p := ⟨gb165, _, none⟩) NB164_165.out _).trans (((cell_far (p := ⟨gb165, _, none⟩) NB164_165.out _).trans (((cell_far (p := ⟨gb165, _, none⟩) NB164_165.out _).trans (((cell_far (p := ⟨gb165, _, none⟩) NB164_165.out _).trans (hHeld.2.2.2.1)))))))))), ((cell_far (p := ⟨gb165, _, none⟩) NB164_165.out _).trans (((cell_far (p := ⟨gb165, _, none⟩) NB164_165.out _).trans (((cell_far (p := ⟨gb165, _, none⟩) NB164_165.out _).trans (((cell_far (p := ⟨gb165, _, none⟩) NB164_165.out _).trans (((cell_far (p := ⟨gb165, _, none⟩) NB164_165.out _).trans (hHeld.2.2.2.2.1)))))))))), ((cell_far (p := ⟨gb165, _, none⟩) NB163_165.out _).trans (((cell_far (p := ⟨gb165, _, none⟩) NB163_165.out _).trans (((cell_far (p := ⟨gb165, _, none⟩) NB163_165.out _).trans (((cell_far (p := ⟨gb165, _, none⟩) NB163_165.out _).trans (((cell_far (p := ⟨gb165, _, none⟩) NB163_165.out _).trans (hHeld.2.2.2.2.2.1)))))))))), ((cell_far (p := ⟨gb165, _, none⟩) NB163_165.out _).trans (((cell_far (p := ⟨gb165, _, none⟩) NB163_165.out _).trans (((cell_far (p := ⟨gb165, _, none⟩) NB163_165.out _).trans (((cell_far (p := ⟨gb165, _, none⟩) NB163_165.out _).trans (((cell_far (p := ⟨gb165, _, none⟩) NB163_165.out _).trans (hHeld.2.2.2.2.2.2.1)))))))))), ((cell_far (p := ⟨gb165, _, none⟩) NB163_165.out _).trans (((cell_far (p := ⟨gb165, _, none⟩) NB163_165.out _).trans (((cell_far (p := ⟨gb165, _, none⟩) NB163_165.out _).trans (((cell_far (p := ⟨gb165, _, none⟩) NB163_165.out _).trans (((cell_far (p := ⟨gb165, _, none⟩) NB163_165.out _).trans (hHeld.2.2.2.2.2.2.2.1)))))))))), ((cell_far (p := ⟨gb165, _, none⟩) NB163_165.out _).trans (((cell_far (p := ⟨gb165, _, none⟩) NB163_165.out _).trans (((cell_far (p := ⟨gb165, _, none⟩) NB163_165.out _).trans (((cell_far (p := ⟨gb165, _, none⟩) NB163_165.out _).trans (((cell_far (p := ⟨gb165, _, none⟩) NB163_165.out _).trans (hHeld.2.2.2.2.2.2.2.2.1)))))))))), ((cell_far (p := ⟨gb165, _, none⟩) NB163_165.out _).trans (((cell_far (p := ⟨gb165, _, none⟩) NB163_165.out _).trans (((cell_far (p := ⟨gb165, _, none⟩) NB163_165.out _).trans (((cell_far (p := ⟨gb165, _, none⟩) NB163_165.out _).trans (((cell_far (p := ⟨gb165, _, none⟩) NB163_165.out _).trans (hHeld.2.2.2.2.2.2.2.2.2))))))))))⟩ (fun hHeld => ?_)
   clear hK K
   refine done_ (done_of HT_.out (by kernel_rfl)) ?_
   try go_wp2
   refine bodyPost_ret (results_cell_row rfl _ _ gb165 41 #[.bool a1_0, .int .u64 t171, .int .u64 t172, .int .u64 t173, .int .u64 t174] (0, 0) _ rfl (by (with_reducible repeat (first | refine blk_drewN ?_ _ | refine blk_drew ?_ | refine blk_alloc ?_ _)); refine blk_put (cs := #[.bool a1_0, .int .u64 t171, .int .u64 t172, .int .u64 t173, .int .u64 0]) ?_ 4 _ rfl; (with_reducible repeat (first | refine blk_drewN ?_ _ | refine blk_drew ?_ | refine blk_alloc ?_ _)); refine blk_put (cs := #[.bool a1_0, .int .u64 t171, .int .u64 t172, .int .u64 0, .int .u64 0]) ?_ 3 _ rfl; (with_reducible repeat (first | refine blk_drewN ?_ _ | refine blk_drew ?_ | refine blk_alloc ?_ _)); refine blk_put (cs := #[.bool a1_0, .int .u64 t171, .int .u64 0, .int .u64 0, .int .u64 0]) ?_ 2 _ rfl; (with_reducible repeat (first | refine blk_drewN ?_ _ | refine blk_drew ?_ | refine blk_alloc ?_ _)); refine blk_put (cs := #[.bool a1_0, .int .u64 0, .int .u64 0, .int .u64 0, .int .u64 0]) ?_ 1 _ rfl; (with_reducible repeat (first | refine blk_drewN ?_ _ | refine blk_drew ?_ | refine blk_alloc ?_ _)); refine blk_put (cs := #[.bool false, .int .u64 0, .int .u64 0, .int .u64 0, .int .u64 0]) ?_ 0 _ rfl; (with_reducible repeat (first | refine blk_drewN ?_ _ | refine blk_drew ?_ | refine blk_alloc ?_ _)); exact BK165.out) Tryd.underlying41 rfl (by kernel_rfl)) rfl ?_
   exact ⟨by first | rfl | (simp [errW_none, errW_some] <;> rfl) | (simp [*, errW_none, errW_some] <;> rfl), zw3_ HB GE163 GE164 GE165⟩
  ·replace c21 := Bool.eq_false_iff.mpr c21
   subst c21
   have H1 := H
   rw [if_neg (show ¬ (false = true) by decide)] at H1
   clear H
   have H := H1
   clear H1
   replace H := Option.bind_eq_some_iff.mp H
   obtain ⟨⟨t175, t176, t177, t178⟩, A390, H⟩ := H
   replace H : (some (a0_0, t175, t176, t177, t178)) = some (r1, r2, r3, r4, r5) := H
   have A39 := Aside0.mk A390
   clear A390
   simp only [Option.some.injEq, Prod.mk.injEq] at H
   obtain ⟨rfl, rfl, rfl, rfl, rfl⟩ := H
   go_enter Tryd.func43, Tryd.ntmps43
   try go_wp2_with (first | ((with_reducible refine gate_dst (N := 2) rfl ?_); refine box_event ?hg (N := 2) ?hd (cs := #[.bool a0_0, .int .u64 a0_1, .int .u64 a0_2, .int .u64 a0_3, .int .u64 a0_4]) (t := 41) ?hr ?_; (case hd => rfl); (case hg => rfl); (case hr => first | (go_simp; done) | (go_simp; rfl)); intro gb163 hg w40 hbox hb; have BK163 := Aside0.mk (hbox); have GW163 := Aside0.mk (zs_ hg (zw0_ HB)); have GE163 := Aside0.mk (zs_ hg (zw0_ HB)); replace HB := Aside0.mk (below_step (zw0_ HB) hb); clear hb hbox hg) | ((with_reducible refine gate_dst (N := 3) rfl ?_); refine box_event ?hg (N := 3) ?hd (cs := #[.bool a1_0, .int .u64 a1_1, .int .u64 a1_2, .int .u64 a1_3, .int .u64 a1_4]) (t := 41) ?hr ?_; (case hd => rfl); (case hg => rfl); (case hr => first | (go_simp; done) | (go_simp; rfl)); intro gb164 hg w41 hbox hb; have BK164 := Aside0.mk (hbox); have GW164 := Aside0.mk (zs_ hg (zw1_ HB GE163)); have GE164 := Aside0.mk (zs_ hg (zw1_ HB GE163)); replace HB := Aside0.mk (below_step (zw1_ HB GE163) hb); have NB163_164 := Aside0.mk (zn_ hg BK163); have NB164_163 := Aside0.mk (zm_ hg BK163); replace BK163 := Aside0.mk (zl_ BK163 hb); clear hb hbox hg) | ((with_reducible refine gate_dst (N := 4) rfl ?_); refine box_event ?hg (N := 4) ?hd (cs := #[.bool false, .int .u64 0, .int .u64 0, .int .u64 0, .int .u64 0]) (t := 41) ?hr ?_; (case hd => rfl); (case hg => rfl); (case hr => first | (go_simp; done) | (go_simp; rfl)); intro gb165 hg w42 hbox hb; have BK165 := Aside0.mk (hbox); have GW165 := Aside0.mk (zs_ hg (zw2_ HB GE163 GE164)); have GE165 := Aside0.mk (zs_ hg (zw2_ HB GE163 GE164)); replace HB := Aside0.mk (below_step (zw2_ HB GE163 GE164) hb); have NB163_165 := Aside0.mk (zn_ hg BK163); have NB165_163 := Aside0.mk (zm_ hg BK163); replace BK163 := Aside0.mk (zl_ BK163 hb); have NB164_165 := Aside0.mk (zn_ hg BK164); have NB165_164 := Aside0.mk (zm_ hg BK164); replace BK164 := Aside0.mk (zl_ BK164 hb); clear hb hbox hg; have hnb43 := NB163_164.out; have hnc43 := NB164_163.out; have hnb44 := NB163_165.out; have hnc44 := NB165_163.out; have hcz45_0 := zx_ (v := .bool a0_0) BK163 0; have hcz45_1 := zx_ (v := .int .u64 a0_1) BK163 1; have hcz45_2 := zx_ (v := .int .u64 a0_2) BK163 2; have hcz45_3 := zx_ (v := .int .u64 a0_3) BK163 3; have hcz45_4 := zx_ (v := .int .u64 a0_4) BK163 4; have hfz45_0 := blk_frozen BK163.out 0; have hfz45_1 := blk_frozen BK163.out 1; have hfz45_2 := blk_frozen BK163.out 2; have hfz45_3 := blk_frozen BK163.out 3; have hfz45_4 := blk_frozen BK163.out 4; have hnb46 := NB164_165.out; have hnc46 := NB165_164.out; have hcz47_0 := zx_ (v := .bool a1_0) BK164 0; have hcz47_1 := zx_ (v := .int .u64 a1_1) BK164 1; have hcz47_2 := zx_ (v := .int .u64 a1_2) BK164 2; have hcz47_3 := zx_ (v := .int .u64 a1_3) BK164 3; have hcz47_4 := zx_ (v := .int .u64 a1_4) BK164 4; have hfz47_0 := blk_frozen BK164.out 0; have hfz47_1 := blk_frozen BK164.out 1; have hfz47_2 := blk_frozen BK164.out 2; have hfz47_3 := blk_frozen BK164.out 3; have hfz47_4 := blk_frozen BK164.out 4) | ((with_reducible refine gate_callee (f := 57) rfl ?_); refine zg_ (some 22) Tryd.func57 #[.agg #[.int .u64 a0_1, .int .u64 a0_2, .int .u64 a0_3, .int .u64 a0_4], .agg #[.int .u64 a1_1, .int .u64 a1_2, .int .u64 a1_3, .int .u64 a1_4]] (h := ?_); (with_reducible refine (carouselref1_less.calls a0_1 a0_2 a0_3 a0_4 a1_1 a1_2 a1_3 a1_4 false _ A20.out).mono ?_); rintro e w48 ⟨rfl, hb⟩; refine ⟨_, rfl, ?_⟩; replace BK163 := Aside0.mk (zl_ BK163 hb); replace BK164 := Aside0.mk (zl_ BK164 hb); replace BK165 := Aside0.mk (zl_ BK165 hb); replace HB := Aside0.mk (below_step (zw3_ HB GE163 GE164 GE165) hb); (try clear hb)))
   replace BK163 := Aside0.mk (blk_drew BK163.out)
   replace BK164 := Aside0.mk (blk_drew BK164.out)
   replace BK165 := Aside0.mk (blk_drew BK165.out)
   replace HB := Aside0.mk (below_drew1 HB.out)
   refine start_ (n := 9) (S := fun w' => w'.cell? ⟨gb163, 0, none⟩ = some (.bool a0_0) ∧ w'.cell? ⟨gb163, 1, none⟩ = some (.int .u64 a0_1) ∧ w'.cell? ⟨gb163, 2, none⟩ = some (.int .u64 a0_2) ∧ w'.cell? ⟨gb163, 3, none⟩ = some (.int .u64 a0_3) ∧ w'.cell? ⟨gb163, 4, none⟩ = some (.int .u64 a0_4) ∧ w'.cell? ⟨gb164, 0, none⟩ = some (.bool a1_0) ∧ w'.cell? ⟨gb164, 1, none⟩ = some (.int .u64 a1_1) ∧ w'.cell? ⟨gb164, 2, none⟩ = some (.int .u64 a1_2) ∧ w'.cell? ⟨gb164, 3, none⟩ = some (.int .u64 a1_3) ∧ w'.cell? ⟨gb164, 4, none⟩ = some (.int .u64 a1_4)) (ds := []) #[false, false, false, false, false, false, false, false, false] (by kernel_rfl) rfl rfl ⟨(blk_cell BK163.out 0).trans rfl, (blk_cell BK163.out 1).trans rfl, (blk_cell BK163.out 2).trans rfl, (blk_cell BK163.out 3).trans rfl, (blk_cell BK163.out 4).trans rfl, (blk_cell BK164.out 0).trans rfl, (blk_cell BK164.out 1).trans rfl, (blk_cell BK164.out 2).trans rfl, (blk_cell BK164.out 3).trans rfl, (blk_cell BK164.out 4).trans rfl⟩ (fun hHeld => ?_); refine with_tabW carouselref1_Plus.tab5 carouselref1_Plus.bits5 (fun HT_ HW_ => ?_)
   generalize w48.drew = w49 at BK163 BK164 BK165 HB hHeld ⊢
   refine zp_ 0 (some 31) (h := ?_)
   refine zp_ 2 (some 33) (h := ?_)
   refine zp_ 4 (some 35) (h := ?_)
   refine zt_ 1 (some 32) (hr := by rintro w' ⟨s0, s1, s2, s3, s4, s5, s6, s7, s8, s9⟩; go_simp; with_reducible rfl) (h := ?_)
   refine zt_ 3 (some 34) (hr := by rintro w' ⟨s0, s1, s2, s3, s4, s5, s6, s7, s8, s9⟩; go_simp; with_reducible rfl) (h := ?_)
   refine zt_ 5 (some 36) (hr := by rintro w' ⟨s0, s1, s2, s3, s4, s5, s6, s7, s8, s9⟩; go_simp; with_reducible rfl) (h := ?_)
   refine one_ (i := 6) (N := some 37) #[true, true, true, true, true, true, true, false, false] rfl rfl (one_of HT_.out (by kernel_rfl)) (by decide) (fun K hK => ?_)
   refine goes_ Tryd.func58 (by kernel_rfl) rfl #[.agg #[.int .u64 a0_1, .int .u64 a0_2, .int .u64 a0_3, .int .u64 a0_4], .agg #[.int .u64 a1_1, .int .u64 a1_2, .int .u64 a1_3, .int .u64 a1_4]] (by rfl) rfl rfl (by (try simp only [List.map_toArray, List.map_cons, List.map_nil]); first | done | rfl | (simp only [List.length_drop, List.length_take]; rfl)) ?_
   with_reducible refine (carouselref1_minus.calls a0_1 a0_2 a0_3 a0_4 a1_1 a1_2 a1_3 a1_4 t175 t176 t177 t178 _ A39.out).mono ?_
   rintro e w50 ⟨rfl, hb⟩
   refine ⟨_, rfl, ?_⟩
   replace BK163 := Aside0.mk (zl_ BK163 hb)
   replace BK164 := Aside0.mk (zl_ BK164 hb)
   replace BK165 := Aside0.mk (zl_ BK165 hb)
   replace HB := Aside0.mk (below_step (zw3_ HB GE163 GE164 GE165) hb)
   (try clear hb)
   (try clear hb2)
   (try clear hk)
   (try clear hi)
   refine hK.out _ _ ⟨(blk_cell BK163.out 0).trans rfl, (blk_cell BK163.out 1).trans rfl, (blk_cell BK163.out 2).trans rfl, (blk_cell BK163.out 3).trans rfl, (blk_cell BK163.out 4).trans rfl, (blk_cell BK164.out 0).trans rfl, (blk_cell BK164.out 1).trans rfl, (blk_cell BK164.out 2).trans rfl, (blk_cell BK164.out 3).trans rfl, (blk_cell BK164.out 4).trans rfl⟩ (fun hHeld => ?_)
   clear hK K
   refine zq_ (some 37) (h := ?_)
   refine zp_ 7 (some 38) (h := ?_)
   refine one_ (i := 8) (N := none) #[true, true, true, true, true, true, true, true, true] rfl rfl (one_of HT_.out (by kernel_rfl)) (by decide) (fun K hK => ?_)
   have hs51 := zx_ (v := .bool false) BK165 0
   have hfs51 := blk_frozen BK165.out 0
   have hns51_0 := NB163_165.out
   have hns51_1 := NB164_165.out
   have hms51_0 := NB165_163.out
   have hms51_1 := NB165_164.out
   have hs52 := zx_ (v := .int .u64 0) BK165 1
   have hfs52 := blk_frozen BK165.out 1
   have hns52_0 := NB163_165.out
   have hns52_1 := NB164_165.out
   have hms52_0 := NB165_163.out
   have hms52_1 := NB165_164.out
   have hs53 := zx_ (v := .int .u64 0) BK165 2
   have hfs53 := blk_frozen BK165.out 2
   have hns53_0 := NB163_165.out
   have hns53_1 := NB164_165.out
   have hms53_0 := NB165_163.out
   have hms53_1 := NB165_164.out
   have hs54 := zx_ (v := .int .u64 0) BK165 3
   have hfs54 := blk_frozen BK165.out 3
   have hns54_0 := NB163_165.out
   have hns54_1 := NB164_165.out
   have hms54_0 := NB165_163.out
   have hms54_1 := NB165_164.out
   have hs55 := zx_ (v := .int .u64 0) BK165 4
   have hfs55 := blk_frozen BK165.out 4
   have hns55_0 := NB163_165.out
   have hns55_1 := NB164_165.out
   have hms55_0 := NB165_163.out
   have hms55_1 := NB165_164.out
   refine skip_ (w1 := ?_) (by rfl) rfl ?_ ?_
   rotate_left
   ·go_simp
    rfl
   refine hK.out _ _ ⟨((cell_far (p := ⟨gb165, _, none⟩) NB163_165.out _).trans (((cell_far (p := ⟨gb165, _, none⟩) NB163_165.out _).trans (((cell_far (p := ⟨gb165, _, none⟩) NB163_165.out _).trans (((cell_far (p := ⟨gb165, _, none⟩) NB163_165.out _).trans (((cell_far (p := ⟨gb165, _, none⟩) NB163_165.out _).trans (hHeld.1)))))))))), ((cell_far (p := ⟨gb165, _, none⟩) NB163_165.out _).trans (((cell_far (p := ⟨gb165, _, none⟩) NB163_165.out _).trans (((cell_far (p := ⟨gb165, _, none⟩) NB163_165.out _).trans (((cell_far (p := ⟨gb165, _, none⟩) NB163_165.out _).trans (((cell_far (p := ⟨gb165, _, none⟩) NB163_165.out _).trans (hHeld.2.1)))))))))), ((cell_far (p := ⟨gb165, _, none⟩) NB163_165.out _).trans (((cell_far (p := ⟨gb165, _, none⟩) NB163_165.out _).trans (((cell_far (p := ⟨gb165, _, none⟩) NB163_165.out _).trans (((cell_far (p := ⟨gb165, _, none⟩) NB163_165.out _).trans (((cell_far (p := ⟨gb165, _, none⟩) NB163_165.out _).trans (hHeld.2.2.1)))))))))), ((cell_far (p := ⟨gb165, _, none⟩) NB163_165.out _).trans (((cell_far (p := ⟨gb165, _, none⟩) NB163_165.out _).trans (((cell_far (p := ⟨gb165, _, none⟩) NB163_165.out _).trans (((cell_far (p := ⟨gb165, _, none⟩) NB163_165.out _).trans (((cell_far (p := ⟨gb165, _, none⟩) NB163_165.out _).trans (hHeld.2.2.2.1)))))))))), ((cell_far (p := ⟨gb165, _, none⟩) NB163_165.out _).trans (((cell_far (p := ⟨gb165, _, none⟩) NB163_165.out _).trans (((cell_far (p := ⟨gb165, _, none⟩) NB163_165.out _).trans (((cell_far (p := ⟨gb165, _, none⟩) NB163_165.out _).trans (((cell_far (p := ⟨gb165, _, none⟩) NB163_165.out _).trans (hHeld.2.2.2.2.1)))))))))), ((cell_far (p := ⟨gb165, _, none⟩) NB164_165.out _).trans (((cell_far (p := ⟨gb165, _, none⟩) NB164_165.out _).trans (((cell_far (p := ⟨gb165, _, none⟩) NB164_165.out _).trans (((cell_far (p := ⟨gb165, _, none⟩) NB164_165.out _).trans (((cell_far (p := ⟨gb165, _, none⟩) NB164_165.out _).trans (hHeld.2.2.2.2.2.1)))))))))), ((cell_far (p := ⟨gb165, _, none⟩) NB164_165.out _).trans (((cell_far (p := ⟨gb165, _, none⟩) NB164_165.out _).trans (((cell_far (p := ⟨gb165, _, none⟩) NB164_165.out _).trans (((cell_far (p := ⟨gb165, _, none⟩) NB164_165.out _).trans (((cell_far (p := ⟨gb165, _, none⟩) NB164_165.out _).trans (hHeld.2.2.2.2.2.2.1)))))))))), ((cell_far (p := ⟨gb165, _, none⟩) NB164_165.out _).trans (((cell_far (p := ⟨gb165, _, none⟩) NB164_165.out _).trans (((cell_far (p := ⟨gb165, _, none⟩) NB164_165.out _).trans (((cell_far (p := ⟨gb165, _, none⟩) NB164_165.out _).trans (((cell_far (p := ⟨gb165, _, none⟩) NB164_165.out _).trans (hHeld.2.2.2.2.2.2.2.1)))))))))), ((cell_far (p := ⟨gb165, _, none⟩) NB164_165.out _).trans (((cell_far (p := ⟨gb165, _, none⟩) NB164_165.out _).trans (((cell_far (p := ⟨gb165, _, none⟩) NB164_165.out _).trans (((cell_far (p := ⟨gb165, _, none⟩) NB164_165.out _).trans (((cell_far (p := ⟨gb165, _, none⟩) NB164_165.out _).trans (hHeld.2.2.2.2.2.2.2.2.1)))))))))), ((cell_far (p := ⟨gb165, _, none⟩) NB164_165.out _).trans (((cell_far (p := ⟨gb165, _, none⟩) NB164_165.out _).trans (((cell_far (p := ⟨gb165, _, none⟩) NB164_165.out _).trans (((cell_far (p := ⟨gb165, _, none⟩) NB164_165.out _).trans (((cell_far (p := ⟨gb165, _, none⟩) NB164_165.out _).trans (hHeld.2.2.2.2.2.2.2.2.2))))))))))⟩ (fun hHeld => ?_)
   clear hK K
   refine done_ (done_of HT_.out (by kernel_rfl)) ?_
   try go_wp2
   refine bodyPost_ret (results_cell_row rfl _ _ gb165 41 #[.bool a0_0, .int .u64 t175, .int .u64 t176, .int .u64 t177, .int .u64 t178] (0, 0) _ rfl (by (with_reducible repeat (first | refine blk_drewN ?_ _ | refine blk_drew ?_ | refine blk_alloc ?_ _)); refine blk_put (cs := #[.bool a0_0, .int .u64 t175, .int .u64 t176, .int .u64 t177, .int .u64 0]) ?_ 4 _ rfl; (with_reducible repeat (first | refine blk_drewN ?_ _ | refine blk_drew ?_ | refine blk_alloc ?_ _)); refine blk_put (cs := #[.bool a0_0, .int .u64 t175, .int .u64 t176, .int .u64 0, .int .u64 0]) ?_ 3 _ rfl; (with_reducible repeat (first | refine blk_drewN ?_ _ | refine blk_drew ?_ | refine blk_alloc ?_ _)); refine blk_put (cs := #[.bool a0_0, .int .u64 t175, .int .u64 0, .int .u64 0, .int .u64 0]) ?_ 2 _ rfl; (with_reducible repeat (first | refine blk_drewN ?_ _ | refine blk_drew ?_ | refine blk_alloc ?_ _)); refine blk_put (cs := #[.bool a0_0, .int .u64 0, .int .u64 0, .int .u64 0, .int .u64 0]) ?_ 1 _ rfl; (with_reducible repeat (first | refine blk_drewN ?_ _ | refine blk_drew ?_ | refine blk_alloc ?_ _)); refine blk_put (cs := #[.bool false, .int .u64 0, .int .u64 0, .int .u64 0, .int .u64 0]) ?_ 0 _ rfl; (with_reducible repeat (first | refine blk_drewN ?_ _ | refine blk_drew ?_ | refine blk_alloc ?_ _)); exact BK165.out) Tryd.underlying41 rfl (by kernel_rfl)) rfl ?_
   exact ⟨by first | rfl | (simp [errW_none, errW_some] <;> rfl) | (simp [*, errW_none, errW_some] <;> rfl), zw3_ HB GE163 GE164 GE165⟩

/-! ### carouselref1_Add: function 23 -/
def carouselref1_Add.f (k : Nat) (a0 : Int) (a1 : Int) : Option (Int) := (carouselref1_From.f a0).bind fun bt179 => ((carouselref1_From.f a1).bind fun bt184 => ((carouselref1_Plus.f bt179.1 bt179.2.1 bt179.2.2.1 bt179.2.2.2.1 bt179.2.2.2.2 bt184.1 bt184.2.1 bt184.2.2.1 bt184.2.2.2.1 bt184.2.2.2.2).bind fun bt189 => ((carouselref1_Held.f k bt189.1 bt189.2.1 bt189.2.2.1 bt189.2.2.2.1 bt189.2.2.2.2).bind fun t194 => (some t194))))
theorem carouselref1_Add.mono : ∀ a0 a1 k, LeO (carouselref1_Add.f k a0 a1) (carouselref1_Add.f (k + 1) a0 a1) := by
 intro a0 a1 k
 unfold carouselref1_Add.f
 repeat' first
   | (with_reducible exact carouselref1_Held.mono _ _ _ _ _ _)
   | (with_reducible exact LeO.refl _)
   | (with_reducible exact LeO.none _)
   | (with_reducible refine LeO.ite ?_ ?_)
   | (with_reducible refine LeO.bind ?_ (fun _ => ?_))
   | exact carouselref1_Held.mono _ _ _ _ _ _
   | exact LeO.none _
   | refine LeO.ite ?_ ?_
   | refine LeO.bind ?_ (fun _ => ?_)
set_option maxHeartbeats 8000000 in
set_option maxRecDepth 100000 in
theorem carouselref1_Add.calls (k : Nat) (a0 : Int) (a1 : Int) (r : Int) (w : World) (h : carouselref1_Add.f k a0 a1 = some r) :
  Calls Tryd.prog 23 #[.int .i64 a0, .int .i64 a1] w fun e w' => e = .returned (.int .i64 r) ∧ Below w.heap.size w w' := by
 have HB := Aside0.mk (Below.refl w.heap.size w)
 have H : ((carouselref1_From.f a0).bind fun bt179 => ((carouselref1_From.f a1).bind fun bt184 => ((carouselref1_Plus.f bt179.1 bt179.2.1 bt179.2.2.1 bt179.2.2.2.1 bt179.2.2.2.2 bt184.1 bt184.2.1 bt184.2.2.1 bt184.2.2.2.1 bt184.2.2.2.2).bind fun bt189 => ((carouselref1_Held.f k bt189.1 bt189.2.1 bt189.2.2.1 bt189.2.2.2.1 bt189.2.2.2.2).bind fun t194 => (some t194))))) = some r := h
 clear h
 replace H := Option.bind_eq_some_iff.mp H
 obtain ⟨⟨t179, t180, t181, t182, t183⟩, A30, H⟩ := H
 (try dsimp only at H)
 have A3 := Aside0.mk A30
 clear A30
 replace H := Option.bind_eq_some_iff.mp H
 obtain ⟨⟨t184, t185, t186, t187, t188⟩, A40, H⟩ := H
 (try dsimp only at H)
 have A4 := Aside0.mk A40
 clear A40
 replace H := Option.bind_eq_some_iff.mp H
 obtain ⟨⟨t189, t190, t191, t192, t193⟩, A50, H⟩ := H
 replace H : ((carouselref1_Held.f k t189 t190 t191 t192 t193).bind fun t194 => (some t194)) = some r := H
 have A5 := Aside0.mk A50
 clear A50
 replace H := Option.bind_eq_some_iff.mp H
 obtain ⟨t194, A60, H⟩ := H
 replace H : (some t194) = some r := H
 have A6 := Aside0.mk A60
 clear A60
 obtain rfl := Option.some.inj H
 go_enter Tryd.func23, Tryd.ntmps23
 go_wp2_with (first | ((with_reducible refine gate_callee (f := 31) rfl ?_); refine zg_ (some 6) Tryd.func31 #[.int .i64 a0] (h := ?_); (with_reducible refine (carouselref1_From.calls a0 t179 t180 t181 t182 t183 _ A3.out).mono ?_); rintro e w7 ⟨rfl, hb⟩; refine ⟨_, rfl, ?_⟩; replace HB := Aside0.mk (below_step (zw0_ HB) hb); (try clear hb)) | ((with_reducible refine gate_callee (f := 31) rfl ?_); refine zg_ (some 8) Tryd.func31 #[.int .i64 a1] (h := ?_); (with_reducible refine (carouselref1_From.calls a1 t184 t185 t186 t187 t188 _ A4.out).mono ?_); rintro e w8 ⟨rfl, hb⟩; refine ⟨_, rfl, ?_⟩; replace HB := Aside0.mk (below_step (zw0_ HB) hb); (try clear hb)) | ((with_reducible refine gate_callee (f := 43) rfl ?_); refine zg_ (some 9) Tryd.func43 #[.agg #[.bool t179, .int .u64 t180, .int .u64 t181, .int .u64 t182, .int .u64 t183], .agg #[.bool t184, .int .u64 t185, .int .u64 t186, .int .u64 t187, .int .u64 t188]] (h := ?_); (with_reducible refine (carouselref1_Plus.calls t179 t180 t181 t182 t183 t184 t185 t186 t187 t188 t189 t190 t191 t192 t193 _ A5.out).mono ?_); rintro e w9 ⟨rfl, hb⟩; refine ⟨_, rfl, ?_⟩; replace HB := Aside0.mk (below_step (zw0_ HB) hb); (try clear hb)) | ((with_reducible refine gate_callee (f := 29) rfl ?_); refine zg_ (some 10) Tryd.func29 #[.agg #[.bool t189, .int .u64 t190, .int .u64 t191, .int .u64 t192, .int .u64 t193]] (h := ?_); (with_reducible refine (carouselref1_Held.calls k t189 t190 t191 t192 t193 t194 _ A6.out).mono ?_); rintro e w10 ⟨rfl, hb⟩; refine ⟨_, rfl, ?_⟩; replace HB := Aside0.mk (below_step (zw0_ HB) hb); (try clear hb)))
 go_ret
 exact ⟨by first | rfl | (simp [errW_none, errW_some] <;> rfl) | (simp [*, errW_none, errW_some] <;> rfl), zw0_ HB⟩

/-! ### carouselref1_Turned: function 44 -/
def carouselref1_Turned.f (a0_0 : Bool) (a0_1 : Int) (a0_2 : Int) (a0_3 : Int) (a0_4 : Int) : Option (Bool × Int × Int × Int × Int) := some (!a0_0, a0_1, a0_2, a0_3, a0_4)
set_option maxHeartbeats 8000000 in
set_option maxRecDepth 100000 in
theorem carouselref1_Turned.calls (a0_0 : Bool) (a0_1 : Int) (a0_2 : Int) (a0_3 : Int) (a0_4 : Int) (r1 : Bool) (r2 : Int) (r3 : Int) (r4 : Int) (r5 : Int) (w : World) (h : carouselref1_Turned.f a0_0 a0_1 a0_2 a0_3 a0_4 = some (r1, r2, r3, r4, r5)) :
  Calls Tryd.prog 44 #[.agg #[.bool a0_0, .int .u64 a0_1, .int .u64 a0_2, .int .u64 a0_3, .int .u64 a0_4]] w fun e w' => e = .returned (.agg #[.bool r1, .int .u64 r2, .int .u64 r3, .int .u64 r4, .int .u64 r5]) ∧ Below w.heap.size w w' := by
 have hu41 := Tryd.underlying41
 have hu39 := Tryd.underlying39
 have HB := Aside0.mk (Below.refl w.heap.size w)
 have H : (some (!a0_0, a0_1, a0_2, a0_3, a0_4)) = some (r1, r2, r3, r4, r5) := h
 clear h
 simp only [Option.some.injEq, Prod.mk.injEq] at H
 obtain ⟨rfl, rfl, rfl, rfl, rfl⟩ := H
 go_enter Tryd.func44, Tryd.ntmps44
 go_wp2_with (first | ((with_reducible refine gate_dst (N := 1) rfl ?_); refine box_event ?hg (N := 1) ?hd (cs := #[.bool a0_0, .int .u64 a0_1, .int .u64 a0_2, .int .u64 a0_3, .int .u64 a0_4]) (t := 41) ?hr ?_; (case hd => rfl); (case hg => rfl); (case hr => first | (go_simp; done) | (go_simp; rfl)); intro gb195 hg w2 hbox hb; have BK195 := Aside0.mk (hbox); have GW195 := Aside0.mk (zs_ hg (zw0_ HB)); have GE195 := Aside0.mk (zs_ hg (zw0_ HB)); replace HB := Aside0.mk (below_step (zw0_ HB) hb); clear hb hbox hg) | ((with_reducible refine gate_dst (N := 2) rfl ?_); refine box_event ?hg (N := 2) ?hd (cs := #[.bool false, .int .u64 0, .int .u64 0, .int .u64 0, .int .u64 0]) (t := 41) ?hr ?_; (case hd => rfl); (case hg => rfl); (case hr => first | (go_simp; done) | (go_simp; rfl)); intro gb196 hg w3 hbox hb; have BK196 := Aside0.mk (hbox); have GW196 := Aside0.mk (zs_ hg (zw1_ HB GE195)); have GE196 := Aside0.mk (zs_ hg (zw1_ HB GE195)); replace HB := Aside0.mk (below_step (zw1_ HB GE195) hb); have NB195_196 := Aside0.mk (zn_ hg BK195); have NB196_195 := Aside0.mk (zm_ hg BK195); replace BK195 := Aside0.mk (zl_ BK195 hb); clear hb hbox hg; have hnb4 := NB195_196.out; have hnc4 := NB196_195.out; have hcz5_0 := zx_ (v := .bool a0_0) BK195 0; have hcz5_1 := zx_ (v := .int .u64 a0_1) BK195 1; have hcz5_2 := zx_ (v := .int .u64 a0_2) BK195 2; have hcz5_3 := zx_ (v := .int .u64 a0_3) BK195 3; have hcz5_4 := zx_ (v := .int .u64 a0_4) BK195 4; have hfz5_0 := blk_frozen BK195.out 0; have hfz5_1 := blk_frozen BK195.out 1; have hfz5_2 := blk_frozen BK195.out 2; have hfz5_3 := blk_frozen BK195.out 3; have hfz5_4 := blk_frozen BK195.out 4; have hcz6_0 := zx_ (v := .bool false) BK196 0; have hcz6_1 := zx_ (v := .int .u64 0) BK196 1; have hcz6_2 := zx_ (v := .int .u64 0) BK196 2; have hcz6_3 := zx_ (v := .int .u64 0) BK196 3; have hcz6_4 := zx_ (v := .int .u64 0) BK196 4; have hfz6_0 := blk_frozen BK196.out 0; have hfz6_1 := blk_frozen BK196.out 1; have hfz6_2 := blk_frozen BK196.out 2; have hfz6_3 := blk_frozen BK196.out 3; have hfz6_4 := blk_frozen BK196.out 4))
 refine bodyPost_ret (results_cell_row rfl _ _ gb196 41 #[.bool (!a0_0), .int .u64 a0_1, .int .u64 a0_2, .int .u64 a0_3, .int .u64 a0_4] (0, 0) _ rfl (by (with_reducible repeat (first | refine blk_drewN ?_ _ | refine blk_drew ?_ | refine blk_alloc ?_ _)); refine blk_put (cs := #[.bool (!a0_0), .int .u64 a0_1, .int .u64 a0_2, .int .u64 a0_3, .int .u64 0]) ?_ 4 _ rfl; (with_reducible repeat (first | refine blk_drewN ?_ _ | refine blk_drew ?_ | refine blk_alloc ?_ _)); refine blk_put (cs := #[.bool (!a0_0), .int .u64 a0_1, .int .u64 a0_2, .int .u64 0, .int .u64 0]) ?_ 3 _ rfl; (with_reducible repeat (first | refine blk_drewN ?_ _ | refine blk_drew ?_ | refine blk_alloc ?_ _)); refine blk_put (cs := #[.bool (!a0_0), .int .u64 a0_1, .int .u64 0, .int .u64 0, .int .u64 0]) ?_ 2 _ rfl; (with_reducible repeat (first | refine blk_drewN ?_ _ | refine blk_drew ?_ | refine blk_alloc ?_ _)); refine blk_put (cs := #[.bool (!a0_0), .int .u64 0, .int .u64 0, .int .u64 0, .int .u64 0]) ?_ 1 _ rfl; (with_reducible repeat (first | refine blk_drewN ?_ _ | refine blk_drew ?_ | refine blk_alloc ?_ _)); refine blk_put (cs := #[.bool false, .int .u64 0, .int .u64 0, .int .u64 0, .int .u64 0]) ?_ 0 _ rfl; (with_reducible repeat (first | refine blk_drewN ?_ _ | refine blk_drew ?_ | refine blk_alloc ?_ _)); exact BK196.out) Tryd.underlying41 rfl (by kernel_rfl)) rfl ?_
 exact ⟨by first | rfl | (simp [errW_none, errW_some] <;> rfl) | (simp [*, errW_none, errW_some] <;> rfl), zw2_ HB GE195 GE196⟩

/-! ### carouselref1_Sub: function 24 -/
def carouselref1_Sub.f (k : Nat) (a0 : Int) (a1 : Int) : Option (Int) := (carouselref1_From.f a0).bind fun bt197 => ((carouselref1_From.f a1).bind fun bt202 => ((carouselref1_Turned.f bt202.1 bt202.2.1 bt202.2.2.1 bt202.2.2.2.1 bt202.2.2.2.2).bind fun bt207 => ((carouselref1_Plus.f bt197.1 bt197.2.1 bt197.2.2.1 bt197.2.2.2.1 bt197.2.2.2.2 bt207.1 bt207.2.1 bt207.2.2.1 bt207.2.2.2.1 bt207.2.2.2.2).bind fun bt212 => ((carouselref1_Held.f k bt212.1 bt212.2.1 bt212.2.2.1 bt212.2.2.2.1 bt212.2.2.2.2).bind fun t217 => (some t217)))))
theorem carouselref1_Sub.mono : ∀ a0 a1 k, LeO (carouselref1_Sub.f k a0 a1) (carouselref1_Sub.f (k + 1) a0 a1) := by
 intro a0 a1 k
 unfold carouselref1_Sub.f
 repeat' first
   | (with_reducible exact carouselref1_Held.mono _ _ _ _ _ _)
   | (with_reducible exact LeO.refl _)
   | (with_reducible exact LeO.none _)
   | (with_reducible refine LeO.ite ?_ ?_)
   | (with_reducible refine LeO.bind ?_ (fun _ => ?_))
   | exact carouselref1_Held.mono _ _ _ _ _ _
   | exact LeO.none _
   | refine LeO.ite ?_ ?_
   | refine LeO.bind ?_ (fun _ => ?_)
set_option maxHeartbeats 8000000 in
set_option maxRecDepth 100000 in
theorem carouselref1_Sub.calls (k : Nat) (a0 : Int) (a1 : Int) (r : Int) (w : World) (h : carouselref1_Sub.f k a0 a1 = some r) :
  Calls Tryd.prog 24 #[.int .i64 a0, .int .i64 a1] w fun e w' => e = .returned (.int .i64 r) ∧ Below w.heap.size w w' := by
 have HB := Aside0.mk (Below.refl w.heap.size w)
 have H : ((carouselref1_From.f a0).bind fun bt197 => ((carouselref1_From.f a1).bind fun bt202 => ((carouselref1_Turned.f bt202.1 bt202.2.1 bt202.2.2.1 bt202.2.2.2.1 bt202.2.2.2.2).bind fun bt207 => ((carouselref1_Plus.f bt197.1 bt197.2.1 bt197.2.2.1 bt197.2.2.2.1 bt197.2.2.2.2 bt207.1 bt207.2.1 bt207.2.2.1 bt207.2.2.2.1 bt207.2.2.2.2).bind fun bt212 => ((carouselref1_Held.f k bt212.1 bt212.2.1 bt212.2.2.1 bt212.2.2.2.1 bt212.2.2.2.2).bind fun t217 => (some t217)))))) = some r := h
 clear h
 replace H := Option.bind_eq_some_iff.mp H
 obtain ⟨⟨t197, t198, t199, t200, t201⟩, A30, H⟩ := H
 (try dsimp only at H)
 have A3 := Aside0.mk A30
 clear A30
 replace H := Option.bind_eq_some_iff.mp H
 obtain ⟨⟨t202, t203, t204, t205, t206⟩, A40, H⟩ := H
 (try dsimp only at H)
 have A4 := Aside0.mk A40
 clear A40
 replace H := Option.bind_eq_some_iff.mp H
 obtain ⟨⟨t207, t208, t209, t210, t211⟩, A50, H⟩ := H
 (try dsimp only at H)
 have A5 := Aside0.mk A50
 clear A50
 replace H := Option.bind_eq_some_iff.mp H
 obtain ⟨⟨t212, t213, t214, t215, t216⟩, A60, H⟩ := H
 replace H : ((carouselref1_Held.f k t212 t213 t214 t215 t216).bind fun t217 => (some t217)) = some r := H
 have A6 := Aside0.mk A60
 clear A60
 replace H := Option.bind_eq_some_iff.mp H
 obtain ⟨t217, A70, H⟩ := H
 replace H : (some t217) = some r := H
 have A7 := Aside0.mk A70
 clear A70
 obtain rfl := Option.some.inj H
 go_enter Tryd.func24, Tryd.ntmps24
 go_wp2_with (first | ((with_reducible refine gate_callee (f := 31) rfl ?_); refine zg_ (some 6) Tryd.func31 #[.int .i64 a0] (h := ?_); (with_reducible refine (carouselref1_From.calls a0 t197 t198 t199 t200 t201 _ A3.out).mono ?_); rintro e w8 ⟨rfl, hb⟩; refine ⟨_, rfl, ?_⟩; replace HB := Aside0.mk (below_step (zw0_ HB) hb); (try clear hb)) | ((with_reducible refine gate_callee (f := 31) rfl ?_); refine zg_ (some 8) Tryd.func31 #[.int .i64 a1] (h := ?_); (with_reducible refine (carouselref1_From.calls a1 t202 t203 t204 t205 t206 _ A4.out).mono ?_); rintro e w9 ⟨rfl, hb⟩; refine ⟨_, rfl, ?_⟩; replace HB := Aside0.mk (below_step (zw0_ HB) hb); (try clear hb)) | ((with_reducible refine gate_callee (f := 44) rfl ?_); refine zg_ (some 9) Tryd.func44 #[.agg #[.bool t202, .int .u64 t203, .int .u64 t204, .int .u64 t205, .int .u64 t206]] (h := ?_); (with_reducible refine (carouselref1_Turned.calls t202 t203 t204 t205 t206 t207 t208 t209 t210 t211 _ A5.out).mono ?_); rintro e w10 ⟨rfl, hb⟩; refine ⟨_, rfl, ?_⟩; replace HB := Aside0.mk (below_step (zw0_ HB) hb); (try clear hb)) | ((with_reducible refine gate_callee (f := 43) rfl ?_); refine zg_ (some 10) Tryd.func43 #[.agg #[.bool t197, .int .u64 t198, .int .u64 t199, .int .u64 t200, .int .u64 t201], .agg #[.bool t207, .int .u64 t208, .int .u64 t209, .int .u64 t210, .int .u64 t211]] (h := ?_); (with_reducible refine (carouselref1_Plus.calls t197 t198 t199 t200 t201 t207 t208 t209 t210 t211 t212 t213 t214 t215 t216 _ A6.out).mono ?_); rintro e w11 ⟨rfl, hb⟩; refine ⟨_, rfl, ?_⟩; replace HB := Aside0.mk (below_step (zw0_ HB) hb); (try clear hb)) | ((with_reducible refine gate_callee (f := 29) rfl ?_); refine zg_ (some 11) Tryd.func29 #[.agg #[.bool t212, .int .u64 t213, .int .u64 t214, .int .u64 t215, .int .u64 t216]] (h := ?_); (with_reducible refine (carouselref1_Held.calls k t212 t213 t214 t215 t216 t217 _ A7.out).mono ?_); rintro e w12 ⟨rfl, hb⟩; refine ⟨_, rfl, ?_⟩; replace HB := Aside0.mk (below_step (zw0_ HB) hb); (try clear hb)))
 go_ret
 exact ⟨by first | rfl | (simp [errW_none, errW_some] <;> rfl) | (simp [*, errW_none, errW_some] <;> rfl), zw0_ HB⟩

/-! ### carouselref1_Times: function 38 -/
theorem tm_start_ (w : World) (o1 : Obj) (n : Nat) (cs : Array Value) (t : TypeId) (w4 : World) (hb : Below (((w.alloc o1).drewN n).alloc (.cells cs t)).heap.size (((w.alloc o1).drewN n).alloc (.cells cs t)) w4) :
  w4.heap[w.heap.size + 1]? = some (.cells cs t (0, 0)) ∧ w4.heap[w.heap.size]? = some o1 ∧ Below w.heap.size w w4 := by
 have s1 : ((w.alloc o1).drewN n).heap.size = w.heap.size + 1 := by simp only [World.alloc, World.drewN, Array.size_push]
 have b1 := blk_new ((w.alloc o1).drewN n) (.cells cs t (0, 0))
 rw [s1] at b1
 have b0 : (((w.alloc o1).drewN n).alloc (.cells cs t (0, 0))).heap[w.heap.size]? = some o1 := blk_alloc (blk_drewN (blk_new w o1) n) _
 have h1 : Below w.heap.size w ((w.alloc o1).drewN n) := by
  have h := (Below.refl w.heap.size w).alloc (Nat.le_refl _) o1
  exact ⟨h.os, h.tape, h.output, h.size, h.block⟩
 have h2 := h1.alloc (by rw [s1]; omega) (.cells cs t (0, 0))
 exact ⟨blk_below b1 hb, blk_below b0 hb, h2.trans (hb.mono h2.size)⟩
theorem tm_step_ (w w4 : World) (g : Nat) (o1 : Obj) (t : TypeId) (c0 c1 c2 c3 v0 v1 v2 v3 : Value) (hg : g = w.heap.size + 1) (b1 : w4.heap[g]? = some (.cells #[c0, c1, c2, c3] t (0, 0))) (b0 : w4.heap[w.heap.size]? = some o1) (hb : Below w.heap.size w w4) (w5 : World)
  (e : ((((w4.setCell ⟨g, 0, none⟩ v0).setCell ⟨g, 1, none⟩ v1).setCell ⟨g, 2, none⟩ v2).setCell ⟨g, 3, none⟩ v3) = w5) :
  w5.heap[g]? = some (.cells #[v0, v1, v2, v3] t (0, 0)) ∧ w5.heap[w.heap.size]? = some o1 ∧ Below w.heap.size w w5 := by
 subst e
 have hp : ∀ i, w.heap.size ≤ (⟨g, i, none⟩ : Addr).block := fun i => by show w.heap.size ≤ g; omega
 refine ⟨?_, ?_, (((hb.setCell (hp 0) _).setCell (hp 1) _).setCell (hp 2) _).setCell (hp 3) _⟩
 ·exact blk_put (cs := #[v0, v1, v2, c3]) (blk_put (cs := #[v0, v1, c2, c3]) (blk_put (cs := #[v0, c1, c2, c3]) (blk_put (cs := #[c0, c1, c2, c3]) b1 0 _ rfl) 1 _ rfl) 2 _ rfl) 3 _ rfl
 ·have q : ∀ i, w.heap.size ≠ (⟨g, i, none⟩ : Addr).block := fun i => by show w.heap.size ≠ g; omega
  rw [Below.heap_setCell _ _ _ _ (q 3), Below.heap_setCell _ _ _ _ (q 2), Below.heap_setCell _ _ _ _ (q 1), Below.heap_setCell _ _ _ _ (q 0)]
  exact b0
theorem tm_call_ (w w5 w6 : World) (g : Nat) (o1 o2 : Obj) (b1 : w5.heap[g]? = some o2) (b0 : w5.heap[w.heap.size]? = some o1) (hb : Below w.heap.size w w5) (h : Below w5.heap.size w5 w6) :
  w6.heap[g]? = some o2 ∧ w6.heap[w.heap.size]? = some o1 ∧ Below w.heap.size w w6 := ⟨blk_below b1 h, blk_below b0 h, hb.trans (h.mono hb.size)⟩
theorem tm_end_ (w w7 : World) (t : TypeId) (z0 z1 z2 z3 z4 v0 v1 v2 v3 v4 : Value) (b0 : w7.heap[w.heap.size]? = some (.cells #[z0, z1, z2, z3, z4] t (0, 0))) (hb : Below w.heap.size w w7) :
  (((((w7.setCell ⟨w.heap.size, 0, none⟩ v0).setCell ⟨w.heap.size, 1, none⟩ v1).setCell ⟨w.heap.size, 2, none⟩ v2).setCell ⟨w.heap.size, 3, none⟩ v3).setCell ⟨w.heap.size, 4, none⟩ v4).heap[w.heap.size]? = some (.cells #[v0, v1, v2, v3, v4] t (0, 0)) ∧
  Below w.heap.size w (((((w7.setCell ⟨w.heap.size, 0, none⟩ v0).setCell ⟨w.heap.size, 1, none⟩ v1).setCell ⟨w.heap.size, 2, none⟩ v2).setCell ⟨w.heap.size, 3, none⟩ v3).setCell ⟨w.heap.size, 4, none⟩ v4) := by
 have hp : ∀ i, w.heap.size ≤ (⟨w.heap.size, i, none⟩ : Addr).block := fun i => Nat.le_refl _
 exact ⟨blk_put (cs := #[v0, v1, v2, v3, z4]) (blk_put (cs := #[v0, v1, v2, z3, z4]) (blk_put (cs := #[v0, v1, z2, z3, z4]) (blk_put (cs := #[v0, z1, z2, z3, z4]) (blk_put (cs := #[z0, z1, z2, z3, z4]) b0 0 _ rfl) 1 _ rfl) 2 _ rfl) 3 _ rfl) 4 _ rfl,
  ((((hb.setCell (hp 0) _).setCell (hp 1) _).setCell (hp 2) _).setCell (hp 3) _).setCell (hp 4) _⟩
theorem carouselref1_Times.ix0 (v0 v1 : Int) (w : World) : (Instr.index 73 (.agg #[.int .u64 v0, .int .u64 v1]) (.int .i64 0)).run Tryd.prog w = .ok (.int .u64 v0) w := by
 have hi : (Tryd.prog.info? 38).map (·.size) = some 1 := by kernel_rfl
 cases h : Tryd.prog.info? 38 with
 | none => rw [h] at hi; cases hi
 | some q =>
  rw [h] at hi
  have hs : q.size = 1 := by simpa using hi
  simp [Instr.index, run_underlying Tryd.underlying73, asIntOf, part, sizeOf, typeInfo, h, hs, go_sem]
theorem carouselref1_Times.ix1 (v0 v1 : Int) (w : World) : (Instr.index 73 (.agg #[.int .u64 v0, .int .u64 v1]) (.int .i64 1)).run Tryd.prog w = .ok (.int .u64 v1) w := by
 have hi : (Tryd.prog.info? 38).map (·.size) = some 1 := by kernel_rfl
 cases h : Tryd.prog.info? 38 with
 | none => rw [h] at hi; cases hi
 | some q =>
  rw [h] at hi
  have hs : q.size = 1 := by simpa using hi
  simp [Instr.index, run_underlying Tryd.underlying73, asIntOf, part, sizeOf, typeInfo, h, hs, go_sem]
def carouselref1_Times.f (a0 : Int) (a1 : Int) : Option (Bool × Int × Int × Int × Int) := (carouselref1_size.f a0).bind fun x => ((carouselref1_size.f a1).bind fun y => ((carouselref1_plus.f (IntKind.u64.wrap (Go.bits .and .u64 x 4294967295 * Go.bits .and .u64 y 4294967295)) (IntKind.u64.wrap (x / 4294967296 * (y / 4294967296))) 0 0 (IntKind.u64.wrap (IntKind.u64.wrap (Go.bits .and .u64 x 4294967295 * (y / 4294967296)) * 4294967296)) (IntKind.u64.wrap (Go.bits .and .u64 x 4294967295 * (y / 4294967296)) / 4294967296) 0 0).bind fun p => ((carouselref1_plus.f p.1 p.2.1 p.2.2.1 p.2.2.2 (IntKind.u64.wrap (IntKind.u64.wrap (x / 4294967296 * Go.bits .and .u64 y 4294967295) * 4294967296)) (IntKind.u64.wrap (x / 4294967296 * Go.bits .and .u64 y 4294967295) / 4294967296) 0 0).bind fun q => (some ((decide (a0 < 0)) != (decide (a1 < 0)), q.1, q.2.1, q.2.2.1, q.2.2.2)))))
set_option maxHeartbeats 8000000 in
set_option maxRecDepth 100000 in
theorem carouselref1_Times.calls (a0 : Int) (a1 : Int) (r1 : Bool) (r2 : Int) (r3 : Int) (r4 : Int) (r5 : Int) (w : World) (h : carouselref1_Times.f a0 a1 = some (r1, r2, r3, r4, r5)) :
  Calls Tryd.prog 38 #[.int .i64 a0, .int .i64 a1] w fun e w' => e = .returned (.agg #[.bool r1, .int .u64 r2, .int .u64 r3, .int .u64 r4, .int .u64 r5]) ∧ Below w.heap.size w w' := by
 unfold carouselref1_Times.f at h
 obtain ⟨x, hx, h⟩ := Option.bind_eq_some_iff.mp h
 obtain ⟨y, hy, h⟩ := Option.bind_eq_some_iff.mp h
 obtain ⟨⟨p0, p1, p2, p3⟩, hp, h⟩ := Option.bind_eq_some_iff.mp h
 obtain ⟨⟨q0, q1, q2, q3⟩, hq, h⟩ := Option.bind_eq_some_iff.mp h
 simp only [Option.some.injEq, Prod.mk.injEq] at h
 obtain ⟨rfl, rfl, rfl, rfl, rfl⟩ := h
 have sa := fun w => carouselref1_size.calls a0 x w hx
 have sb := fun w => carouselref1_size.calls a1 y w hy
 have s1 := fun w => carouselref1_plus.calls _ _ _ _ _ _ _ _ p0 p1 p2 p3 w hp
 have s2 := fun w => carouselref1_plus.calls _ _ _ _ _ _ _ _ q0 q1 q2 q3 w hq
 clear hx hy hp hq
 have hu39 := Tryd.underlying39
 have hu41 := Tryd.underlying41
 have hu73 := Tryd.underlying73
 have hix0 := carouselref1_Times.ix0
 have hix1 := carouselref1_Times.ix1
 have SA := Aside0.mk sa
 have SB := Aside0.mk sb
 have S1 := Aside0.mk s1
 have S2 := Aside0.mk s2
 clear sa sb s1 s2
 go_enter Tryd.func38, Tryd.ntmps38
 go_wp2_with (first | ((with_reducible refine gate_dst (N := 15) rfl ?_); refine zg_ (some 15) Tryd.func36 #[.int .i64 a0] (h := ?_); (with_reducible refine (SA.out _).mono ?_); rintro e w' ⟨rfl, ⟨nd, rfl⟩⟩; refine ⟨_, rfl, ?_⟩) | ((with_reducible refine gate_dst (N := 17) rfl ?_); refine zg_ (some 17) Tryd.func36 #[.int .i64 a1] (h := ?_); (with_reducible refine (SB.out _).mono ?_); rintro e w' ⟨rfl, ⟨nd, rfl⟩⟩; refine ⟨_, rfl, ?_⟩))
 refine wp_loop_rounds 3 ?_
 rw [rounds_succ]
 go_wp2_with (((with_reducible refine gate_dst (N := 49) rfl ?_); refine zg_ (some 49) Tryd.func55 #[.agg #[.int .u64 (IntKind.u64.wrap (Go.bits .and .u64 x 4294967295 * Go.bits .and .u64 y 4294967295)), .int .u64 (IntKind.u64.wrap (x / 4294967296 * (y / 4294967296))), .int .u64 0, .int .u64 0], .agg #[.int .u64 (IntKind.u64.wrap (IntKind.u64.wrap (Go.bits .and .u64 x 4294967295 * (y / 4294967296)) * 4294967296)), .int .u64 (IntKind.u64.wrap (Go.bits .and .u64 x 4294967295 * (y / 4294967296)) / 4294967296), .int .u64 0, .int .u64 0]] (h := ?_); (with_reducible refine (S1.out _).mono ?_); rintro e w4 ⟨rfl, hb⟩; refine ⟨_, rfl, ?_⟩; have F4 := Aside0.mk (tm_start_ w _ _ _ _ w4 hb); clear hb; have hc4_0 : w4.cell? ⟨w.heap.size + 1, 0, none⟩ = some (.int .u64 (IntKind.u64.wrap (Go.bits .and .u64 x 4294967295 * Go.bits .and .u64 y 4294967295))) := (blk_cell F4.out.1 0).trans rfl; have hf4_0 := blk_frozen F4.out.1 0; have hc4_1 : w4.cell? ⟨w.heap.size + 1, 1, none⟩ = some (.int .u64 (IntKind.u64.wrap (x / 4294967296 * (y / 4294967296)))) := (blk_cell F4.out.1 1).trans rfl; have hf4_1 := blk_frozen F4.out.1 1; have hc4_2 : w4.cell? ⟨w.heap.size + 1, 2, none⟩ = some (.int .u64 0) := (blk_cell F4.out.1 2).trans rfl; have hf4_2 := blk_frozen F4.out.1 2; have hc4_3 : w4.cell? ⟨w.heap.size + 1, 3, none⟩ = some (.int .u64 0) := (blk_cell F4.out.1 3).trans rfl; have hf4_3 := blk_frozen F4.out.1 3))
 generalize hW : ((((w4.setCell ⟨w.heap.size + 1, 0, none⟩ (.int .u64 p0)).setCell ⟨w.heap.size + 1, 1, none⟩ (.int .u64 p1)).setCell ⟨w.heap.size + 1, 2, none⟩ (.int .u64 p2)).setCell ⟨w.heap.size + 1, 3, none⟩ (.int .u64 p3)) = w5
 have F5 := Aside0.mk (tm_step_ w w4 (w.heap.size + 1) _ _ _ _ _ _ _ _ _ _ rfl F4.out.1 F4.out.2.1 F4.out.2.2 w5 hW)
 clear hW hc4_0 hc4_1 hc4_2 hc4_3 hf4_0 hf4_1 hf4_2 hf4_3
 have hc5_0 : w5.cell? ⟨w.heap.size + 1, 0, none⟩ = some (.int .u64 p0) := (blk_cell F5.out.1 0).trans rfl
 have hf5_0 := blk_frozen F5.out.1 0
 have hc5_1 : w5.cell? ⟨w.heap.size + 1, 1, none⟩ = some (.int .u64 p1) := (blk_cell F5.out.1 1).trans rfl
 have hf5_1 := blk_frozen F5.out.1 1
 have hc5_2 : w5.cell? ⟨w.heap.size + 1, 2, none⟩ = some (.int .u64 p2) := (blk_cell F5.out.1 2).trans rfl
 have hf5_2 := blk_frozen F5.out.1 2
 have hc5_3 : w5.cell? ⟨w.heap.size + 1, 3, none⟩ = some (.int .u64 p3) := (blk_cell F5.out.1 3).trans rfl
 have hf5_3 := blk_frozen F5.out.1 3
 rw [rounds_succ]
 go_wp2_with (((with_reducible refine gate_dst (N := 49) rfl ?_); refine zg_ (some 49) Tryd.func55 #[.agg #[.int .u64 p0, .int .u64 p1, .int .u64 p2, .int .u64 p3], .agg #[.int .u64 (IntKind.u64.wrap (IntKind.u64.wrap (x / 4294967296 * Go.bits .and .u64 y 4294967295) * 4294967296)), .int .u64 (IntKind.u64.wrap (x / 4294967296 * Go.bits .and .u64 y 4294967295) / 4294967296), .int .u64 0, .int .u64 0]] (h := ?_); (with_reducible refine (S2.out _).mono ?_); rintro e w6 ⟨rfl, hb⟩; refine ⟨_, rfl, ?_⟩; have F6 := Aside0.mk (tm_call_ w w5 w6 (w.heap.size + 1) _ _ F5.out.1 F5.out.2.1 F5.out.2.2 hb); clear hb; have hc6_0 : w6.cell? ⟨w.heap.size + 1, 0, none⟩ = some (.int .u64 p0) := (blk_cell F6.out.1 0).trans rfl; have hf6_0 := blk_frozen F6.out.1 0; have hc6_1 : w6.cell? ⟨w.heap.size + 1, 1, none⟩ = some (.int .u64 p1) := (blk_cell F6.out.1 1).trans rfl; have hf6_1 := blk_frozen F6.out.1 1; have hc6_2 : w6.cell? ⟨w.heap.size + 1, 2, none⟩ = some (.int .u64 p2) := (blk_cell F6.out.1 2).trans rfl; have hf6_2 := blk_frozen F6.out.1 2; have hc6_3 : w6.cell? ⟨w.heap.size + 1, 3, none⟩ = some (.int .u64 p3) := (blk_cell F6.out.1 3).trans rfl; have hf6_3 := blk_frozen F6.out.1 3))
 generalize hW : ((((w6.setCell ⟨w.heap.size + 1, 0, none⟩ (.int .u64 q0)).setCell ⟨w.heap.size + 1, 1, none⟩ (.int .u64 q1)).setCell ⟨w.heap.size + 1, 2, none⟩ (.int .u64 q2)).setCell ⟨w.heap.size + 1, 3, none⟩ (.int .u64 q3)) = w7
 have F7 := Aside0.mk (tm_step_ w w6 (w.heap.size + 1) _ _ _ _ _ _ _ _ _ _ rfl F6.out.1 F6.out.2.1 F6.out.2.2 w7 hW)
 clear hW
 have hc7_0 : w7.cell? ⟨w.heap.size + 1, 0, none⟩ = some (.int .u64 q0) := (blk_cell F7.out.1 0).trans rfl
 have hf7_0 := blk_frozen F7.out.1 0
 have hc7_1 : w7.cell? ⟨w.heap.size + 1, 1, none⟩ = some (.int .u64 q1) := (blk_cell F7.out.1 1).trans rfl
 have hf7_1 := blk_frozen F7.out.1 1
 have hc7_2 : w7.cell? ⟨w.heap.size + 1, 2, none⟩ = some (.int .u64 q2) := (blk_cell F7.out.1 2).trans rfl
 have hf7_2 := blk_frozen F7.out.1 2
 have hc7_3 : w7.cell? ⟨w.heap.size + 1, 3, none⟩ = some (.int .u64 q3) := (blk_cell F7.out.1 3).trans rfl
 have hf7_3 := blk_frozen F7.out.1 3
 have hr_0 : w7.cell? ⟨w.heap.size, 0, none⟩ = some (.bool false) := (blk_cell F7.out.2.1 0).trans rfl
 have hq_0 := blk_frozen F7.out.2.1 0
 have hr_1 : w7.cell? ⟨w.heap.size, 1, none⟩ = some (.int .u64 0) := (blk_cell F7.out.2.1 1).trans rfl
 have hq_1 := blk_frozen F7.out.2.1 1
 have hr_2 : w7.cell? ⟨w.heap.size, 2, none⟩ = some (.int .u64 0) := (blk_cell F7.out.2.1 2).trans rfl
 have hq_2 := blk_frozen F7.out.2.1 2
 have hr_3 : w7.cell? ⟨w.heap.size, 3, none⟩ = some (.int .u64 0) := (blk_cell F7.out.2.1 3).trans rfl
 have hq_3 := blk_frozen F7.out.2.1 3
 have hr_4 : w7.cell? ⟨w.heap.size, 4, none⟩ = some (.int .u64 0) := (blk_cell F7.out.2.1 4).trans rfl
 have hq_4 := blk_frozen F7.out.2.1 4
 rw [rounds_succ]
 go_wp2
 have E := tm_end_ w w7 41 _ _ _ _ _ (.bool (!(decide (a0 < 0) == decide (a1 < 0)))) (.int .u64 q0) (.int .u64 q1) (.int .u64 q2) (.int .u64 q3) F7.out.2.1 F7.out.2.2
 exact bodyPost_ret (results_cell_row rfl _ _ w.heap.size 41 #[.bool (!(decide (a0 < 0) == decide (a1 < 0))), .int .u64 q0, .int .u64 q1, .int .u64 q2, .int .u64 q3] (0, 0) _ rfl E.1 hu41 rfl (by kernel_rfl)) rfl ⟨rfl, E.2⟩

end Go.Proofs.YtjiloachlemlcaaDoor.PFixReckons
