/- The functions that the law TensEach reaches, as Lean functions, and that each call of the Go function does what its Lean function says, wherever that one answers. Written by a program of mine over the print of the kit; Lean checks it. -/
import Derived.Test.YtbdhabpplidgfaaPTensEachx0
namespace Go.Proofs.Ytbdhabpplidgfaa.PTensEach
open Go.RowKit Go.Proofs.YtbdhabpplidgfaaW.PrintWords Go.Proofs.YtbdhabpplidgfaaW.PrintLast Go.Proofs.YtbdhabpplidgfaaW.PrintMore
attribute [local go_sem] max2_int min2_int max_two min_two max_three min_three max_four min_four   -- for this text's walks alone
set_option linter.unusedVariables false
set_option linter.unusedSimpArgs false

/-! ### carouselref1_plus: function 76 -/
/-! ### words for arrays of four cells that lie in memory -/
theorem set_last_ (W : World) (cs : Array Value) (t : TypeId) (n off B : Nat) (v : Value) (hB : B = W.heap.size) : ((W.alloc (.cells cs t)).drewN n).setCell ⟨B, off, none⟩ v = (W.alloc (.cells (cs.setIfInBounds off v) t)).drewN n := by
 subst hB
 unfold World.alloc World.drewN World.setCell
 simp only [World.mk.injEq, and_true]
 apply Array.ext
 ·simp
 ·intro i h1 h2
  simp at h1 h2
  by_cases c : i = W.heap.size
  ·subst c
   simp [Array.getElem_modify, Array.getElem_push]
  ·have h3 : i < W.heap.size := by omega
   simp [Array.getElem_modify, Array.getElem_push, Ne.symm c, h3]
theorem set_last3_ (w : World) (o1 o2 o3 : Obj) (cs : Array Value) (t : TypeId) (n off : Nat) (v : Value) : (((((w.alloc o1).alloc o2).alloc o3).alloc (.cells cs t)).drewN n).setCell ⟨w.heap.size + 1 + 1 + 1, off, none⟩ v = ((((w.alloc o1).alloc o2).alloc o3).alloc (.cells (cs.setIfInBounds off v) t)).drewN n :=
 set_last_ _ cs t n off _ v (by simp only [World.alloc, Array.size_push])
theorem set_last4_ (w : World) (o1 o2 o3 : Obj) (cs : Array Value) (t : TypeId) (n m off : Nat) (v : Value) : ((((((w.alloc o1).alloc o2).alloc o3).alloc (.cells cs t)).drewN n).setCell ⟨w.heap.size + 1 + 1 + 1, off, none⟩ v).drewN m = ((((w.alloc o1).alloc o2).alloc o3).alloc (.cells (cs.setIfInBounds off v) t)).drewN (n + m) := by
 rw [set_last3_]
 simp only [World.drewN, Nat.add_assoc]
theorem end4_ (w : World) (o1 o2 o4 : Obj) (t : TypeId) (n : Nat) (z0 z1 z2 z3 v0 v1 v2 v3 : Value) :
  ((((((((((w.alloc o1).alloc o2).alloc (.cells #[z0, z1, z2, z3] t)).alloc o4).drewN n).setCell ⟨w.heap.size + 1 + 1, 0, none⟩ v0).setCell ⟨w.heap.size + 1 + 1, 1, none⟩ v1).setCell ⟨w.heap.size + 1 + 1, 2, none⟩ v2).setCell ⟨w.heap.size + 1 + 1, 3, none⟩ v3).heap[w.heap.size + 1 + 1]? = some (.cells #[v0, v1, v2, v3] t (0, 0))) ∧
  Below w.heap.size w (((((((((w.alloc o1).alloc o2).alloc (.cells #[z0, z1, z2, z3] t)).alloc o4).drewN n).setCell ⟨w.heap.size + 1 + 1, 0, none⟩ v0).setCell ⟨w.heap.size + 1 + 1, 1, none⟩ v1).setCell ⟨w.heap.size + 1 + 1, 2, none⟩ v2).setCell ⟨w.heap.size + 1 + 1, 3, none⟩ v3) := by
 have s2 : ((w.alloc o1).alloc o2).heap.size = w.heap.size + 1 + 1 := by simp only [World.alloc, Array.size_push]
 have s3 : (((w.alloc o1).alloc o2).alloc (.cells #[z0, z1, z2, z3] t)).heap.size = w.heap.size + 1 + 1 + 1 := by simp only [World.alloc, Array.size_push]
 have b := blk_new ((w.alloc o1).alloc o2) (.cells #[z0, z1, z2, z3] t (0, 0))
 rw [s2] at b
 constructor
 ·exact blk_put (cs := #[v0, v1, v2, z3]) (blk_put (cs := #[v0, v1, z2, z3]) (blk_put (cs := #[v0, z1, z2, z3]) (blk_put (cs := #[z0, z1, z2, z3]) (blk_drewN (blk_alloc b _) _) 0 _ rfl) 1 _ rfl) 2 _ rfl) 3 _ rfl
 ·have h1 := (Below.refl w.heap.size w).alloc (Nat.le_refl _) o1
  have h2 := h1.alloc (by simp only [World.alloc, Array.size_push]; omega) o2
  have h3 := h2.alloc (by rw [s2]; omega) (.cells #[z0, z1, z2, z3] t (0, 0))
  have h4 := h3.alloc (by rw [s3]; omega) o4
  have h5 : Below w.heap.size w (((((w.alloc o1).alloc o2).alloc (.cells #[z0, z1, z2, z3] t (0, 0))).alloc o4).drewN n) := ⟨h4.os, h4.tape, h4.output, h4.size, h4.block⟩
  exact (((h5.setCell (by show w.heap.size ≤ w.heap.size + 1 + 1; omega) _).setCell (by show w.heap.size ≤ w.heap.size + 1 + 1; omega) _).setCell (by show w.heap.size ≤ w.heap.size + 1 + 1; omega) _).setCell (by show w.heap.size ≤ w.heap.size + 1 + 1; omega) _
def carouselref1_plus.s (a b c : Int) : Int := IntKind.u64.wrap (IntKind.u64.wrap (a + b) + c)
def carouselref1_plus.c (a b c : Int) : Int := if IntKind.u64.wrap (a + b) < a then 1 else if carouselref1_plus.s a b c < IntKind.u64.wrap (a + b) then 1 else 0
theorem carouselref1_plus.s_z (a b : Int) : IntKind.u64.wrap (IntKind.u64.wrap (a + b)) = carouselref1_plus.s a b 0 := by unfold carouselref1_plus.s; rw [Int.add_zero]
theorem carouselref1_plus.c_pos (a b c : Int) (h : IntKind.u64.wrap (a + b) < a) : 1 = carouselref1_plus.c a b c := by unfold carouselref1_plus.c; rw [if_pos h]
theorem carouselref1_plus.c_mid (a b c : Int) (h1 : a ≤ IntKind.u64.wrap (a + b)) (h : IntKind.u64.wrap (a + b) < a ∨ IntKind.u64.wrap (IntKind.u64.wrap (a + b) + c) < IntKind.u64.wrap (a + b)) : 1 = carouselref1_plus.c a b c := by
 unfold carouselref1_plus.c carouselref1_plus.s; rw [if_neg (by omega), if_pos (by omega)]
theorem carouselref1_plus.c_neg (a b c : Int) (h1 : a ≤ IntKind.u64.wrap (a + b)) (h2 : a ≤ IntKind.u64.wrap (a + b) ∧ IntKind.u64.wrap (a + b) ≤ IntKind.u64.wrap (IntKind.u64.wrap (a + b) + c)) : 0 = carouselref1_plus.c a b c := by unfold carouselref1_plus.c carouselref1_plus.s; rw [if_neg (by omega), if_neg (by omega)]
theorem carouselref1_plus.c_posz (a b : Int) (h : IntKind.u64.wrap (a + b) < a) : 1 = carouselref1_plus.c a b 0 := carouselref1_plus.c_pos a b 0 h
theorem carouselref1_plus.c_midz (a b : Int) (h1 : a ≤ IntKind.u64.wrap (a + b)) (h : IntKind.u64.wrap (a + b) < a ∨ IntKind.u64.wrap (IntKind.u64.wrap (a + b)) < IntKind.u64.wrap (a + b)) : 1 = carouselref1_plus.c a b 0 := carouselref1_plus.c_mid a b 0 h1 (by rw [Int.add_zero]; exact h)
theorem carouselref1_plus.c_negz (a b : Int) (h1 : a ≤ IntKind.u64.wrap (a + b)) (h2 : a ≤ IntKind.u64.wrap (a + b) ∧ IntKind.u64.wrap (a + b) ≤ IntKind.u64.wrap (IntKind.u64.wrap (a + b))) : 0 = carouselref1_plus.c a b 0 := carouselref1_plus.c_neg a b 0 h1 (by rw [Int.add_zero]; exact h2)
def carouselref1_plus.f (a0_0 : Int) (a0_1 : Int) (a0_2 : Int) (a0_3 : Int) (a1_0 : Int) (a1_1 : Int) (a1_2 : Int) (a1_3 : Int) : Option (Int × Int × Int × Int) := some (carouselref1_plus.s a0_0 a1_0 0, carouselref1_plus.s a0_1 a1_1 (carouselref1_plus.c a0_0 a1_0 0), carouselref1_plus.s a0_2 a1_2 (carouselref1_plus.c a0_1 a1_1 (carouselref1_plus.c a0_0 a1_0 0)), carouselref1_plus.s a0_3 a1_3 (carouselref1_plus.c a0_2 a1_2 (carouselref1_plus.c a0_1 a1_1 (carouselref1_plus.c a0_0 a1_0 0))))
set_option maxHeartbeats 8000000 in
set_option maxRecDepth 100000 in
theorem carouselref1_plus.calls (a0_0 : Int) (a0_1 : Int) (a0_2 : Int) (a0_3 : Int) (a1_0 : Int) (a1_1 : Int) (a1_2 : Int) (a1_3 : Int) (r1 : Int) (r2 : Int) (r3 : Int) (r4 : Int) (w : World) (h : carouselref1_plus.f a0_0 a0_1 a0_2 a0_3 a1_0 a1_1 a1_2 a1_3 = some (r1, r2, r3, r4)) :
  Calls Try.prog 76 #[.agg #[.int .u64 a0_0, .int .u64 a0_1, .int .u64 a0_2, .int .u64 a0_3], .agg #[.int .u64 a1_0, .int .u64 a1_1, .int .u64 a1_2, .int .u64 a1_3]] w fun e w' => e = .returned (.agg #[.int .u64 r1, .int .u64 r2, .int .u64 r3, .int .u64 r4]) ∧ Below w.heap.size w w' := by
 unfold carouselref1_plus.f at h
 have H0 := Aside0.mk h
 clear h
 have hu72 := Try.underlying72
 go_enter Try.func76, Try.ntmps76
 go_wp2
 refine wp_loop_rounds 5 ?_
 rw [rounds_succ]
 go_upto_block 1 with (fail)
 go_cut [6] (fun v6 wc => ∃ (n : Nat) (k0 t0 : Int), v6 = .int .u64 k0 ∧ Aside0 (k0 = carouselref1_plus.c a0_0 a1_0 0) ∧ Aside0 (t0 = carouselref1_plus.s a0_0 a1_0 0) ∧ wc = (((((w.alloc (.cells #[.int .u64 a0_0, .int .u64 a0_1, .int .u64 a0_2, .int .u64 a0_3] 72)).alloc (.cells #[.int .u64 a1_0, .int .u64 a1_1, .int .u64 a1_2, .int .u64 a1_3] 72)).alloc (.cells #[.int .u64 0, .int .u64 0, .int .u64 0, .int .u64 0] 72)).alloc (.cells #[.int .u64 t0, .int .u64 0, .int .u64 0, .int .u64 0] 72))).drewN n)
 case first =>
  go_wp2
  go_quiet (fail)
  go_wp2
  all_goals go_meet
  all_goals first | exact ⟨_, _, _, rfl, ⟨carouselref1_plus.c_posz a0_0 a1_0 (by assumption)⟩, ⟨carouselref1_plus.s_z a0_0 a1_0⟩, set_last3_ _ _ _ _ _ _ _ _ _⟩ | exact ⟨_, _, _, rfl, ⟨carouselref1_plus.c_midz a0_0 a1_0 (by assumption) (by assumption)⟩, ⟨carouselref1_plus.s_z a0_0 a1_0⟩, set_last3_ _ _ _ _ _ _ _ _ _⟩ | exact ⟨_, _, _, rfl, ⟨carouselref1_plus.c_negz a0_0 a1_0 (by assumption) (by assumption)⟩, ⟨carouselref1_plus.s_z a0_0 a1_0⟩, set_last3_ _ _ _ _ _ _ _ _ _⟩
 case rest =>
  obtain ⟨n0, k0, t0, rfl, K0, T0, rfl⟩ := hcut
  go_wp2
  rw [rounds_succ]
  go_upto_block 1 with (fail)
  go_cut [6] (fun v6 wc => ∃ (n : Nat) (k1 t1 : Int), v6 = .int .u64 k1 ∧ Aside0 (k1 = carouselref1_plus.c a0_1 a1_1 k0) ∧ Aside0 (t1 = carouselref1_plus.s a0_1 a1_1 k0) ∧ wc = (((((w.alloc (.cells #[.int .u64 a0_0, .int .u64 a0_1, .int .u64 a0_2, .int .u64 a0_3] 72)).alloc (.cells #[.int .u64 a1_0, .int .u64 a1_1, .int .u64 a1_2, .int .u64 a1_3] 72)).alloc (.cells #[.int .u64 0, .int .u64 0, .int .u64 0, .int .u64 0] 72)).alloc (.cells #[.int .u64 t0, .int .u64 t1, .int .u64 0, .int .u64 0] 72))).drewN n)
  case first =>
   go_wp2
   go_quiet (fail)
   go_wp2
   all_goals go_meet
   all_goals first | exact ⟨_, _, _, rfl, ⟨carouselref1_plus.c_pos a0_1 a1_1 k0 (by assumption)⟩, ⟨rfl⟩, set_last3_ _ _ _ _ _ _ _ _ _⟩ | exact ⟨_, _, _, rfl, ⟨carouselref1_plus.c_mid a0_1 a1_1 k0 (by assumption) (by assumption)⟩, ⟨rfl⟩, set_last3_ _ _ _ _ _ _ _ _ _⟩ | exact ⟨_, _, _, rfl, ⟨carouselref1_plus.c_neg a0_1 a1_1 k0 (by assumption) (by assumption)⟩, ⟨rfl⟩, set_last3_ _ _ _ _ _ _ _ _ _⟩
  case rest =>
   obtain ⟨n1, k1, t1, rfl, K1, T1, rfl⟩ := hcut
   go_wp2
   rw [rounds_succ]
   go_upto_block 1 with (fail)
   go_cut [6] (fun v6 wc => ∃ (n : Nat) (k2 t2 : Int), v6 = .int .u64 k2 ∧ Aside0 (k2 = carouselref1_plus.c a0_2 a1_2 k1) ∧ Aside0 (t2 = carouselref1_plus.s a0_2 a1_2 k1) ∧ wc = (((((w.alloc (.cells #[.int .u64 a0_0, .int .u64 a0_1, .int .u64 a0_2, .int .u64 a0_3] 72)).alloc (.cells #[.int .u64 a1_0, .int .u64 a1_1, .int .u64 a1_2, .int .u64 a1_3] 72)).alloc (.cells #[.int .u64 0, .int .u64 0, .int .u64 0, .int .u64 0] 72)).alloc (.cells #[.int .u64 t0, .int .u64 t1, .int .u64 t2, .int .u64 0] 72))).drewN n)
   case first =>
    go_wp2
    go_quiet (fail)
    go_wp2
    all_goals go_meet
    all_goals first | exact ⟨_, _, _, rfl, ⟨carouselref1_plus.c_pos a0_2 a1_2 k1 (by assumption)⟩, ⟨rfl⟩, set_last3_ _ _ _ _ _ _ _ _ _⟩ | exact ⟨_, _, _, rfl, ⟨carouselref1_plus.c_mid a0_2 a1_2 k1 (by assumption) (by assumption)⟩, ⟨rfl⟩, set_last3_ _ _ _ _ _ _ _ _ _⟩ | exact ⟨_, _, _, rfl, ⟨carouselref1_plus.c_neg a0_2 a1_2 k1 (by assumption) (by assumption)⟩, ⟨rfl⟩, set_last3_ _ _ _ _ _ _ _ _ _⟩
   case rest =>
    obtain ⟨n2, k2, t2, rfl, K2, T2, rfl⟩ := hcut
    go_wp2
    rw [rounds_succ]
    go_upto_block 1 with (fail)
    go_cut [6] (fun v6 wc => ∃ (n : Nat) (k3 t3 : Int), v6 = .int .u64 k3 ∧ Aside0 (k3 = carouselref1_plus.c a0_3 a1_3 k2) ∧ Aside0 (t3 = carouselref1_plus.s a0_3 a1_3 k2) ∧ wc = (((((w.alloc (.cells #[.int .u64 a0_0, .int .u64 a0_1, .int .u64 a0_2, .int .u64 a0_3] 72)).alloc (.cells #[.int .u64 a1_0, .int .u64 a1_1, .int .u64 a1_2, .int .u64 a1_3] 72)).alloc (.cells #[.int .u64 0, .int .u64 0, .int .u64 0, .int .u64 0] 72)).alloc (.cells #[.int .u64 t0, .int .u64 t1, .int .u64 t2, .int .u64 t3] 72))).drewN n)
    case first =>
     go_wp2
     go_quiet (fail)
     go_wp2
     all_goals go_meet
     all_goals first | exact ⟨_, _, _, rfl, ⟨carouselref1_plus.c_pos a0_3 a1_3 k2 (by assumption)⟩, ⟨rfl⟩, set_last3_ _ _ _ _ _ _ _ _ _⟩ | exact ⟨_, _, _, rfl, ⟨carouselref1_plus.c_mid a0_3 a1_3 k2 (by assumption) (by assumption)⟩, ⟨rfl⟩, set_last3_ _ _ _ _ _ _ _ _ _⟩ | exact ⟨_, _, _, rfl, ⟨carouselref1_plus.c_neg a0_3 a1_3 k2 (by assumption) (by assumption)⟩, ⟨rfl⟩, set_last3_ _ _ _ _ _ _ _ _ _⟩
    case rest =>
     obtain ⟨n3, k3, t3, rfl, K3, T3, rfl⟩ := hcut
     go_wp2
     rw [rounds_succ]
     go_wp2
     have E := end4_ w (.cells #[.int .u64 a0_0, .int .u64 a0_1, .int .u64 a0_2, .int .u64 a0_3] 72) (.cells #[.int .u64 a1_0, .int .u64 a1_1, .int .u64 a1_2, .int .u64 a1_3] 72) (.cells #[.int .u64 t0, .int .u64 t1, .int .u64 t2, .int .u64 t3] 72) 72 n3 (.int .u64 0) (.int .u64 0) (.int .u64 0) (.int .u64 0) (.int .u64 t0) (.int .u64 t1) (.int .u64 t2) (.int .u64 t3)
     refine bodyPost_ret (results_cell_row rfl _ _ (w.heap.size + 1 + 1) 72 #[.int .u64 t0, .int .u64 t1, .int .u64 t2, .int .u64 t3] (0, 0) _ rfl E.1 hu72 rfl (by kernel_rfl)) rfl ⟨?_, E.2⟩
     have H := H0.out
     simp only [Option.some.injEq, Prod.mk.injEq] at H
     obtain ⟨rfl, rfl, rfl, rfl⟩ := H
     rw [T0.out, T1.out, T2.out, T3.out, K2.out, K1.out, K0.out]

/-! ### carouselref1_less: function 77 -/
def carouselref1_less.s (a0 a1 a2 a3 b0 b1 b2 b3 : Int) : Bool := if a3 = b3 then (if a2 = b2 then (if a1 = b1 then (if a0 = b0 then false else decide (a0 < b0)) else decide (a1 < b1)) else decide (a2 < b2)) else decide (a3 < b3)
def carouselref1_less.f (a0_0 : Int) (a0_1 : Int) (a0_2 : Int) (a0_3 : Int) (a1_0 : Int) (a1_1 : Int) (a1_2 : Int) (a1_3 : Int) : Option (Bool) := some (carouselref1_less.s a0_0 a0_1 a0_2 a0_3 a1_0 a1_1 a1_2 a1_3)
set_option maxHeartbeats 8000000 in
set_option maxRecDepth 100000 in
theorem carouselref1_less.calls (a0_0 : Int) (a0_1 : Int) (a0_2 : Int) (a0_3 : Int) (a1_0 : Int) (a1_1 : Int) (a1_2 : Int) (a1_3 : Int) (r : Bool) (w : World) (h : carouselref1_less.f a0_0 a0_1 a0_2 a0_3 a1_0 a1_1 a1_2 a1_3 = some r) :
  Calls Try.prog 77 #[.agg #[.int .u64 a0_0, .int .u64 a0_1, .int .u64 a0_2, .int .u64 a0_3], .agg #[.int .u64 a1_0, .int .u64 a1_1, .int .u64 a1_2, .int .u64 a1_3]] w fun e w' => e = .returned (.bool r) ∧ Below w.heap.size w w' := by
 have H0 := Aside0.mk (Option.some.inj h)
 clear h
 have HB := Aside0.mk (Below.refl w.heap.size w)
 have hu72 := Try.underlying72
 go_enter Try.func77, Try.ntmps77
 go_wp2
 refine wp_loop_rounds 5 ?_
 rw [rounds_succ]
 by_cases c3 : a0_3 = a1_3
 case neg =>
  have d3 : (a0_3 == a1_3) = false := by simp [c3]
  have C3 := Aside0.mk c3
  clear c3
  go_wp2
  go_quiet (fail)
  go_wp2
  go_quiet (fail)
  go_wp2
  go_ret
  refine ⟨?_, zw0_ HB⟩
  have H := H0.out
  unfold carouselref1_less.s at H
  rw [if_neg C3.out] at H
  rw [← H]
  rfl
 case pos =>
  have d3 : (a0_3 == a1_3) = true := by simp [c3]
  have C3 := Aside0.mk c3
  clear c3
  go_wp2
  go_quiet (fail)
  go_wp2
  rw [rounds_succ]
  by_cases c2 : a0_2 = a1_2
  case neg =>
   have d2 : (a0_2 == a1_2) = false := by simp [c2]
   have C2 := Aside0.mk c2
   clear c2
   go_wp2
   go_quiet (fail)
   go_wp2
   go_quiet (fail)
   go_wp2
   go_ret
   refine ⟨?_, zw0_ HB⟩
   have H := H0.out
   unfold carouselref1_less.s at H
   rw [if_pos C3.out, if_neg C2.out] at H
   rw [← H]
   rfl
  case pos =>
   have d2 : (a0_2 == a1_2) = true := by simp [c2]
   have C2 := Aside0.mk c2
   clear c2
   go_wp2
   go_quiet (fail)
   go_wp2
   rw [rounds_succ]
   by_cases c1 : a0_1 = a1_1
   case neg =>
    have d1 : (a0_1 == a1_1) = false := by simp [c1]
    have C1 := Aside0.mk c1
    clear c1
    go_wp2
    go_quiet (fail)
    go_wp2
    go_quiet (fail)
    go_wp2
    go_ret
    refine ⟨?_, zw0_ HB⟩
    have H := H0.out
    unfold carouselref1_less.s at H
    rw [if_pos C3.out, if_pos C2.out, if_neg C1.out] at H
    rw [← H]
    rfl
   case pos =>
    have d1 : (a0_1 == a1_1) = true := by simp [c1]
    have C1 := Aside0.mk c1
    clear c1
    go_wp2
    go_quiet (fail)
    go_wp2
    rw [rounds_succ]
    by_cases c0 : a0_0 = a1_0
    case neg =>
     have d0 : (a0_0 == a1_0) = false := by simp [c0]
     have C0 := Aside0.mk c0
     clear c0
     go_wp2
     go_quiet (fail)
     go_wp2
     go_quiet (fail)
     go_wp2
     go_ret
     refine ⟨?_, zw0_ HB⟩
     have H := H0.out
     unfold carouselref1_less.s at H
     rw [if_pos C3.out, if_pos C2.out, if_pos C1.out, if_neg C0.out] at H
     rw [← H]
     rfl
    case pos =>
     have d0 : (a0_0 == a1_0) = true := by simp [c0]
     have C0 := Aside0.mk c0
     clear c0
     go_wp2
     go_quiet (fail)
     go_wp2
     rw [rounds_succ]
     go_wp2
     go_ret
     refine ⟨?_, zw0_ HB⟩
     have H := H0.out
     unfold carouselref1_less.s at H
     rw [if_pos C3.out, if_pos C2.out, if_pos C1.out, if_pos C0.out] at H
     rw [← H]
     rfl

/-! ### carouselref1_minus: function 78 -/
def carouselref1_minus.s (a b c : Int) : Int := IntKind.u64.wrap (IntKind.u64.wrap (a - b) - c)
def carouselref1_minus.c (a b c : Int) : Int := if a < b then 1 else if IntKind.u64.wrap (a - b) < c then 1 else 0
theorem carouselref1_minus.s_z (a b : Int) : IntKind.u64.wrap (IntKind.u64.wrap (a - b)) = carouselref1_minus.s a b 0 := by unfold carouselref1_minus.s; rw [Int.sub_zero]
theorem carouselref1_minus.c_pos (a b c : Int) (h : a < b) : 1 = carouselref1_minus.c a b c := by unfold carouselref1_minus.c; rw [if_pos h]
theorem carouselref1_minus.c_mid (a b c : Int) (h1 : ¬ a < b) (h : IntKind.u64.wrap (a - b) < c) : 1 = carouselref1_minus.c a b c := by
 unfold carouselref1_minus.c; rw [if_neg h1, if_pos h]
theorem carouselref1_minus.c_neg (a b c : Int) (h1 : ¬ a < b) (h2 : c ≤ IntKind.u64.wrap (a - b)) : 0 = carouselref1_minus.c a b c := by unfold carouselref1_minus.c; rw [if_neg h1, if_neg (by omega)]
theorem carouselref1_minus.c_posz (a b : Int) (h : a < b) : 1 = carouselref1_minus.c a b 0 := carouselref1_minus.c_pos a b 0 h
theorem carouselref1_minus.c_midz (a b : Int) (h1 : ¬ a < b) (h : IntKind.u64.wrap (a - b) < 0) : 1 = carouselref1_minus.c a b 0 := carouselref1_minus.c_mid a b 0 h1 h
theorem carouselref1_minus.c_negz (a b : Int) (h1 : ¬ a < b) (h2 : 0 ≤ IntKind.u64.wrap (a - b)) : 0 = carouselref1_minus.c a b 0 := carouselref1_minus.c_neg a b 0 h1 h2
def carouselref1_minus.f (a0_0 : Int) (a0_1 : Int) (a0_2 : Int) (a0_3 : Int) (a1_0 : Int) (a1_1 : Int) (a1_2 : Int) (a1_3 : Int) : Option (Int × Int × Int × Int) := some (carouselref1_minus.s a0_0 a1_0 0, carouselref1_minus.s a0_1 a1_1 (carouselref1_minus.c a0_0 a1_0 0), carouselref1_minus.s a0_2 a1_2 (carouselref1_minus.c a0_1 a1_1 (carouselref1_minus.c a0_0 a1_0 0)), carouselref1_minus.s a0_3 a1_3 (carouselref1_minus.c a0_2 a1_2 (carouselref1_minus.c a0_1 a1_1 (carouselref1_minus.c a0_0 a1_0 0))))
set_option maxHeartbeats 8000000 in
set_option maxRecDepth 100000 in
theorem carouselref1_minus.calls (a0_0 : Int) (a0_1 : Int) (a0_2 : Int) (a0_3 : Int) (a1_0 : Int) (a1_1 : Int) (a1_2 : Int) (a1_3 : Int) (r1 : Int) (r2 : Int) (r3 : Int) (r4 : Int) (w : World) (h : carouselref1_minus.f a0_0 a0_1 a0_2 a0_3 a1_0 a1_1 a1_2 a1_3 = some (r1, r2, r3, r4)) :
  Calls Try.prog 78 #[.agg #[.int .u64 a0_0, .int .u64 a0_1, .int .u64 a0_2, .int .u64 a0_3], .agg #[.int .u64 a1_0, .int .u64 a1_1, .int .u64 a1_2, .int .u64 a1_3]] w fun e w' => e = .returned (.agg #[.int .u64 r1, .int .u64 r2, .int .u64 r3, .int .u64 r4]) ∧ Below w.heap.size w w' := by
 unfold carouselref1_minus.f at h
 have H0 := Aside0.mk h
 clear h
 have hu72 := Try.underlying72
 go_enter Try.func78, Try.ntmps78
 go_wp2
 refine wp_loop_rounds 5 ?_
 rw [rounds_succ]
 go_upto_block 1 with (fail)
 go_cut [6] (fun v6 wc => ∃ (n : Nat) (k0 t0 : Int), v6 = .int .u64 k0 ∧ Aside0 (k0 = carouselref1_minus.c a0_0 a1_0 0) ∧ Aside0 (t0 = carouselref1_minus.s a0_0 a1_0 0) ∧ wc = (((((w.alloc (.cells #[.int .u64 a0_0, .int .u64 a0_1, .int .u64 a0_2, .int .u64 a0_3] 72)).alloc (.cells #[.int .u64 a1_0, .int .u64 a1_1, .int .u64 a1_2, .int .u64 a1_3] 72)).alloc (.cells #[.int .u64 0, .int .u64 0, .int .u64 0, .int .u64 0] 72)).alloc (.cells #[.int .u64 t0, .int .u64 0, .int .u64 0, .int .u64 0] 72))).drewN n)
 case first =>
  go_wp2
  go_quiet (fail)
  go_wp2
  by_cases cc : a0_0 < a1_0
  case pos =>
   go_quiet (fail)
   go_wp2
   go_meet
   exact ⟨_, _, _, rfl, ⟨carouselref1_minus.c_posz a0_0 a1_0 cc⟩, ⟨carouselref1_minus.s_z a0_0 a1_0⟩, set_last4_ _ _ _ _ _ _ _ _ _ _⟩
  case neg =>
   have dd : decide (a0_0 < a1_0) = false := decide_eq_false cc
   have CC := Aside0.mk cc
   clear cc
   go_quiet (fail)
   go_wp2
   all_goals go_meet
   all_goals first | exact ⟨_, _, _, rfl, ⟨carouselref1_minus.c_midz a0_0 a1_0 (by have := CC.out; omega) (by assumption)⟩, ⟨carouselref1_minus.s_z a0_0 a1_0⟩, set_last4_ _ _ _ _ _ _ _ _ _ _⟩ | exact ⟨_, _, _, rfl, ⟨carouselref1_minus.c_negz a0_0 a1_0 (by have := CC.out; omega) (by assumption)⟩, ⟨carouselref1_minus.s_z a0_0 a1_0⟩, set_last4_ _ _ _ _ _ _ _ _ _ _⟩
 case rest =>
  obtain ⟨n0, k0, t0, rfl, K0, T0, rfl⟩ := hcut
  go_wp2
  rw [rounds_succ]
  go_upto_block 1 with (fail)
  go_cut [6] (fun v6 wc => ∃ (n : Nat) (k1 t1 : Int), v6 = .int .u64 k1 ∧ Aside0 (k1 = carouselref1_minus.c a0_1 a1_1 k0) ∧ Aside0 (t1 = carouselref1_minus.s a0_1 a1_1 k0) ∧ wc = (((((w.alloc (.cells #[.int .u64 a0_0, .int .u64 a0_1, .int .u64 a0_2, .int .u64 a0_3] 72)).alloc (.cells #[.int .u64 a1_0, .int .u64 a1_1, .int .u64 a1_2, .int .u64 a1_3] 72)).alloc (.cells #[.int .u64 0, .int .u64 0, .int .u64 0, .int .u64 0] 72)).alloc (.cells #[.int .u64 t0, .int .u64 t1, .int .u64 0, .int .u64 0] 72))).drewN n)
  case first =>
   go_wp2
   go_quiet (fail)
   go_wp2
   by_cases cc : a0_1 < a1_1
   case pos =>
    go_quiet (fail)
    go_wp2
    go_meet
    exact ⟨_, _, _, rfl, ⟨carouselref1_minus.c_pos a0_1 a1_1 k0 cc⟩, ⟨rfl⟩, set_last4_ _ _ _ _ _ _ _ _ _ _⟩
   case neg =>
    have dd : decide (a0_1 < a1_1) = false := decide_eq_false cc
    have CC := Aside0.mk cc
    clear cc
    go_quiet (fail)
    go_wp2
    all_goals go_meet
    all_goals first | exact ⟨_, _, _, rfl, ⟨carouselref1_minus.c_mid a0_1 a1_1 k0 (by have := CC.out; omega) (by assumption)⟩, ⟨rfl⟩, set_last4_ _ _ _ _ _ _ _ _ _ _⟩ | exact ⟨_, _, _, rfl, ⟨carouselref1_minus.c_neg a0_1 a1_1 k0 (by have := CC.out; omega) (by assumption)⟩, ⟨rfl⟩, set_last4_ _ _ _ _ _ _ _ _ _ _⟩
  case rest =>
   obtain ⟨n1, k1, t1, rfl, K1, T1, rfl⟩ := hcut
   go_wp2
   rw [rounds_succ]
   go_upto_block 1 with (fail)
   go_cut [6] (fun v6 wc => ∃ (n : Nat) (k2 t2 : Int), v6 = .int .u64 k2 ∧ Aside0 (k2 = carouselref1_minus.c a0_2 a1_2 k1) ∧ Aside0 (t2 = carouselref1_minus.s a0_2 a1_2 k1) ∧ wc = (((((w.alloc (.cells #[.int .u64 a0_0, .int .u64 a0_1, .int .u64 a0_2, .int .u64 a0_3] 72)).alloc (.cells #[.int .u64 a1_0, .int .u64 a1_1, .int .u64 a1_2, .int .u64 a1_3] 72)).alloc (.cells #[.int .u64 0, .int .u64 0, .int .u64 0, .int .u64 0] 72)).alloc (.cells #[.int .u64 t0, .int .u64 t1, .int .u64 t2, .int .u64 0] 72))).drewN n)
   case first =>
    go_wp2
    go_quiet (fail)
    go_wp2
    by_cases cc : a0_2 < a1_2
    case pos =>
     go_quiet (fail)
     go_wp2
     go_meet
     exact ⟨_, _, _, rfl, ⟨carouselref1_minus.c_pos a0_2 a1_2 k1 cc⟩, ⟨rfl⟩, set_last4_ _ _ _ _ _ _ _ _ _ _⟩
    case neg =>
     have dd : decide (a0_2 < a1_2) = false := decide_eq_false cc
     have CC := Aside0.mk cc
     clear cc
     go_quiet (fail)
     go_wp2
     all_goals go_meet
     all_goals first | exact ⟨_, _, _, rfl, ⟨carouselref1_minus.c_mid a0_2 a1_2 k1 (by have := CC.out; omega) (by assumption)⟩, ⟨rfl⟩, set_last4_ _ _ _ _ _ _ _ _ _ _⟩ | exact ⟨_, _, _, rfl, ⟨carouselref1_minus.c_neg a0_2 a1_2 k1 (by have := CC.out; omega) (by assumption)⟩, ⟨rfl⟩, set_last4_ _ _ _ _ _ _ _ _ _ _⟩
   case rest =>
    obtain ⟨n2, k2, t2, rfl, K2, T2, rfl⟩ := hcut
    go_wp2
    rw [rounds_succ]
    go_upto_block 1 with (fail)
    go_cut [6] (fun v6 wc => ∃ (n : Nat) (k3 t3 : Int), v6 = .int .u64 k3 ∧ Aside0 (k3 = carouselref1_minus.c a0_3 a1_3 k2) ∧ Aside0 (t3 = carouselref1_minus.s a0_3 a1_3 k2) ∧ wc = (((((w.alloc (.cells #[.int .u64 a0_0, .int .u64 a0_1, .int .u64 a0_2, .int .u64 a0_3] 72)).alloc (.cells #[.int .u64 a1_0, .int .u64 a1_1, .int .u64 a1_2, .int .u64 a1_3] 72)).alloc (.cells #[.int .u64 0, .int .u64 0, .int .u64 0, .int .u64 0] 72)).alloc (.cells #[.int .u64 t0, .int .u64 t1, .int .u64 t2, .int .u64 t3] 72))).drewN n)
    case first =>
     go_wp2
     go_quiet (fail)
     go_wp2
     by_cases cc : a0_3 < a1_3
     case pos =>
      go_quiet (fail)
      go_wp2
      go_meet
      exact ⟨_, _, _, rfl, ⟨carouselref1_minus.c_pos a0_3 a1_3 k2 cc⟩, ⟨rfl⟩, set_last4_ _ _ _ _ _ _ _ _ _ _⟩
     case neg =>
      have dd : decide (a0_3 < a1_3) = false := decide_eq_false cc
      have CC := Aside0.mk cc
      clear cc
      go_quiet (fail)
      go_wp2
      all_goals go_meet
      all_goals first | exact ⟨_, _, _, rfl, ⟨carouselref1_minus.c_mid a0_3 a1_3 k2 (by have := CC.out; omega) (by assumption)⟩, ⟨rfl⟩, set_last4_ _ _ _ _ _ _ _ _ _ _⟩ | exact ⟨_, _, _, rfl, ⟨carouselref1_minus.c_neg a0_3 a1_3 k2 (by have := CC.out; omega) (by assumption)⟩, ⟨rfl⟩, set_last4_ _ _ _ _ _ _ _ _ _ _⟩
    case rest =>
     obtain ⟨n3, k3, t3, rfl, K3, T3, rfl⟩ := hcut
     go_wp2
     rw [rounds_succ]
     go_wp2
     have E := end4_ w (.cells #[.int .u64 a0_0, .int .u64 a0_1, .int .u64 a0_2, .int .u64 a0_3] 72) (.cells #[.int .u64 a1_0, .int .u64 a1_1, .int .u64 a1_2, .int .u64 a1_3] 72) (.cells #[.int .u64 t0, .int .u64 t1, .int .u64 t2, .int .u64 t3] 72) 72 n3 (.int .u64 0) (.int .u64 0) (.int .u64 0) (.int .u64 0) (.int .u64 t0) (.int .u64 t1) (.int .u64 t2) (.int .u64 t3)
     refine bodyPost_ret (results_cell_row rfl _ _ (w.heap.size + 1 + 1) 72 #[.int .u64 t0, .int .u64 t1, .int .u64 t2, .int .u64 t3] (0, 0) _ rfl E.1 hu72 rfl (by kernel_rfl)) rfl ⟨?_, E.2⟩
     have H := H0.out
     simp only [Option.some.injEq, Prod.mk.injEq] at H
     obtain ⟨rfl, rfl, rfl, rfl⟩ := H
     rw [T0.out, T1.out, T2.out, T3.out, K2.out, K1.out, K0.out]

/-! ### carouselref1_Plus: function 67 -/
def carouselref1_Plus.f (a0_0 : Bool) (a0_1 : Int) (a0_2 : Int) (a0_3 : Int) (a0_4 : Int) (a1_0 : Bool) (a1_1 : Int) (a1_2 : Int) (a1_3 : Int) (a1_4 : Int) : Option (Bool × Int × Int × Int × Int) := if (a0_0 == a1_0) = true then ((carouselref1_plus.f a0_1 a0_2 a0_3 a0_4 a1_1 a1_2 a1_3 a1_4).bind fun bt414 => (some (a0_0, bt414.1, bt414.2.1, bt414.2.2.1, bt414.2.2.2))) else ((carouselref1_less.f a0_1 a0_2 a0_3 a0_4 a1_1 a1_2 a1_3 a1_4).bind fun t418 => (if t418 = true then ((carouselref1_minus.f a1_1 a1_2 a1_3 a1_4 a0_1 a0_2 a0_3 a0_4).bind fun bt419 => (some (a1_0, bt419.1, bt419.2.1, bt419.2.2.1, bt419.2.2.2))) else ((carouselref1_minus.f a0_1 a0_2 a0_3 a0_4 a1_1 a1_2 a1_3 a1_4).bind fun bt423 => (some (a0_0, bt423.1, bt423.2.1, bt423.2.2.1, bt423.2.2.2)))))
def carouselref1_Plus.T2 : Bool × List (List Nat × List Nat) := (true, [([], []), ([0], [0]), ([], []), ([2], [2]), ([], []), ([4], [4]), ([3, 5], [3, 5]), ([1, 6], [1, 6]), ([7, 6, 0, 1, 2, 3, 4, 5, 6, 7], [7])])
def carouselref1_Plus.B2 : List Nat := [0, 1, 0, 4, 0, 16, 60, 127, 255]
theorem carouselref1_Plus.tab2 : rtab .any (opsOf Try.f67 2) = carouselref1_Plus.T2 := by kernel_rfl
theorem carouselref1_Plus.bits2 : waitsOk carouselref1_Plus.T2.2 carouselref1_Plus.B2 = true := by kernel_rfl
def carouselref1_Plus.T4 : Bool × List (List Nat × List Nat) := (true, [([], []), ([0], [0]), ([], []), ([2], [2]), ([], []), ([4], [4]), ([3, 5], [3, 5]), ([1, 6], [1, 6]), ([7, 6, 0, 1, 2, 3, 4, 5, 6, 7], [7])])
def carouselref1_Plus.B4 : List Nat := [0, 1, 0, 4, 0, 16, 60, 127, 255]
theorem carouselref1_Plus.tab4 : rtab .any (opsOf Try.f67 4) = carouselref1_Plus.T4 := by kernel_rfl
theorem carouselref1_Plus.bits4 : waitsOk carouselref1_Plus.T4.2 carouselref1_Plus.B4 = true := by kernel_rfl
def carouselref1_Plus.T5 : Bool × List (List Nat × List Nat) := (true, [([], []), ([0], [0]), ([], []), ([2], [2]), ([], []), ([4], [4]), ([3, 5], [3, 5]), ([1, 6], [1, 6]), ([7, 6, 0, 1, 2, 3, 4, 5, 6, 7], [7])])
def carouselref1_Plus.B5 : List Nat := [0, 1, 0, 4, 0, 16, 60, 127, 255]
theorem carouselref1_Plus.tab5 : rtab .any (opsOf Try.f67 5) = carouselref1_Plus.T5 := by kernel_rfl
theorem carouselref1_Plus.bits5 : waitsOk carouselref1_Plus.T5.2 carouselref1_Plus.B5 = true := by kernel_rfl
set_option maxHeartbeats 8000000 in
set_option maxRecDepth 100000 in
theorem carouselref1_Plus.calls (a0_0 : Bool) (a0_1 : Int) (a0_2 : Int) (a0_3 : Int) (a0_4 : Int) (a1_0 : Bool) (a1_1 : Int) (a1_2 : Int) (a1_3 : Int) (a1_4 : Int) (r1 : Bool) (r2 : Int) (r3 : Int) (r4 : Int) (r5 : Int) (w : World) (h : carouselref1_Plus.f a0_0 a0_1 a0_2 a0_3 a0_4 a1_0 a1_1 a1_2 a1_3 a1_4 = some (r1, r2, r3, r4, r5)) :
  Calls Try.prog 67 #[.agg #[.bool a0_0, .int .u64 a0_1, .int .u64 a0_2, .int .u64 a0_3, .int .u64 a0_4], .agg #[.bool a1_0, .int .u64 a1_1, .int .u64 a1_2, .int .u64 a1_3, .int .u64 a1_4]] w fun e w' => e = .returned (.agg #[.bool r1, .int .u64 r2, .int .u64 r3, .int .u64 r4, .int .u64 r5]) ∧ Below w.heap.size w w' := by
 have hu74 := Try.underlying74
 have hu72 := Try.underlying72
 have HB := Aside0.mk (Below.refl w.heap.size w)
 have H : (if (a0_0 == a1_0) = true then ((carouselref1_plus.f a0_1 a0_2 a0_3 a0_4 a1_1 a1_2 a1_3 a1_4).bind fun bt414 => (some (a0_0, bt414.1, bt414.2.1, bt414.2.2.1, bt414.2.2.2))) else ((carouselref1_less.f a0_1 a0_2 a0_3 a0_4 a1_1 a1_2 a1_3 a1_4).bind fun t418 => (if t418 = true then ((carouselref1_minus.f a1_1 a1_2 a1_3 a1_4 a0_1 a0_2 a0_3 a0_4).bind fun bt419 => (some (a1_0, bt419.1, bt419.2.1, bt419.2.2.1, bt419.2.2.2))) else ((carouselref1_minus.f a0_1 a0_2 a0_3 a0_4 a1_1 a1_2 a1_3 a1_4).bind fun bt423 => (some (a0_0, bt423.1, bt423.2.1, bt423.2.2.1, bt423.2.2.2)))))) = some (r1, r2, r3, r4, r5) := h
 clear h
 by_cases c3 : (a0_0 == a1_0) = true
 ·rw [if_pos c3] at H
  have c3b0 : (a0_0 == a1_0) = true := c3
  (try (have c3b1 : decide (a0_0 = a1_0) = true := by simpa using c3))
  (try (have c3b2 : (a0_0 == a1_0) = true := by simpa using c3))
  clear c3
  replace H := Option.bind_eq_some_iff.mp H
  obtain ⟨⟨t414, t415, t416, t417⟩, A40, H⟩ := H
  replace H : (some (a0_0, t414, t415, t416, t417)) = some (r1, r2, r3, r4, r5) := H
  have A4 := Aside0.mk A40
  clear A40
  simp only [Option.some.injEq, Prod.mk.injEq] at H
  obtain ⟨rfl, rfl, rfl, rfl, rfl⟩ := H
  go_enter Try.func67, Try.ntmps67
  try go_wp2_with (first | ((with_reducible refine gate_dst (N := 2) rfl ?_); refine box_event ?hg (N := 2) ?hd (cs := #[.bool a0_0, .int .u64 a0_1, .int .u64 a0_2, .int .u64 a0_3, .int .u64 a0_4]) (t := 74) ?hr ?_; (case hd => rfl); (case hg => rfl); (case hr => first | (go_simp; done) | (go_simp; rfl)); intro gb411 hg w5 hbox hb; have n0_ := Aside0.mk (below_step (zw0_ HB) hb); have n1_ := Aside0.mk (hbox); have n2_ := Aside0.mk (zs_ hg (zw0_ HB)); have n3_ := Aside0.mk (zs_ hg (zw0_ HB)); clear HB; have HB := n0_; have BK411 := n1_; have GW411 := n2_; have GE411 := n3_; clear n0_ n1_ n2_ n3_; clear hb hbox hg) | ((with_reducible refine gate_dst (N := 3) rfl ?_); refine box_event ?hg (N := 3) ?hd (cs := #[.bool a1_0, .int .u64 a1_1, .int .u64 a1_2, .int .u64 a1_3, .int .u64 a1_4]) (t := 74) ?hr ?_; (case hd => rfl); (case hg => rfl); (case hr => first | (go_simp; done) | (go_simp; rfl)); intro gb412 hg w6 hbox hb; have n0_ := Aside0.mk (zl_ BK411 hb); have n1_ := Aside0.mk (below_step (zw1_ HB GE411) hb); have n2_ := Aside0.mk (hbox); have n3_ := Aside0.mk (zs_ hg (zw1_ HB GE411)); have n4_ := Aside0.mk (zs_ hg (zw1_ HB GE411)); have n5_ := Aside0.mk (zn_ hg BK411); have n6_ := Aside0.mk (zm_ hg BK411); clear BK411 HB; have BK411 := n0_; have HB := n1_; have BK412 := n2_; have GW412 := n3_; have GE412 := n4_; have NB411_412 := n5_; have NB412_411 := n6_; clear n0_ n1_ n2_ n3_ n4_ n5_ n6_; clear hb hbox hg) | ((with_reducible refine gate_dst (N := 4) rfl ?_); refine box_event ?hg (N := 4) ?hd (cs := #[.bool false, .int .u64 0, .int .u64 0, .int .u64 0, .int .u64 0]) (t := 74) ?hr ?_; (case hd => rfl); (case hg => rfl); (case hr => first | (go_simp; done) | (go_simp; rfl)); intro gb413 hg w7 hbox hb; have n0_ := Aside0.mk (zl_ BK411 hb); have n1_ := Aside0.mk (zl_ BK412 hb); have n2_ := Aside0.mk (below_step (zw2_ HB GE411 GE412) hb); have n3_ := Aside0.mk (hbox); have n4_ := Aside0.mk (zs_ hg (zw2_ HB GE411 GE412)); have n5_ := Aside0.mk (zs_ hg (zw2_ HB GE411 GE412)); have n6_ := Aside0.mk (zn_ hg BK411); have n7_ := Aside0.mk (zm_ hg BK411); have n8_ := Aside0.mk (zn_ hg BK412); have n9_ := Aside0.mk (zm_ hg BK412); clear BK411 BK412 HB; have BK411 := n0_; have BK412 := n1_; have HB := n2_; have BK413 := n3_; have GW413 := n4_; have GE413 := n5_; have NB411_413 := n6_; have NB413_411 := n7_; have NB412_413 := n8_; have NB413_412 := n9_; clear n0_ n1_ n2_ n3_ n4_ n5_ n6_ n7_ n8_ n9_; clear hb hbox hg; have hnb8 := NB411_412.out; have hnc8 := NB412_411.out; have hnb9 := NB411_413.out; have hnc9 := NB413_411.out; have hcz10_0 := zx_ (v := .bool a0_0) BK411 0; have hcz10_1 := zx_ (v := .int .u64 a0_1) BK411 1; have hcz10_2 := zx_ (v := .int .u64 a0_2) BK411 2; have hcz10_3 := zx_ (v := .int .u64 a0_3) BK411 3; have hcz10_4 := zx_ (v := .int .u64 a0_4) BK411 4; have hfz10_0 := blk_frozen BK411.out 0; have hfz10_1 := blk_frozen BK411.out 1; have hfz10_2 := blk_frozen BK411.out 2; have hfz10_3 := blk_frozen BK411.out 3; have hfz10_4 := blk_frozen BK411.out 4; have hnb11 := NB412_413.out; have hnc11 := NB413_412.out; have hcz12_0 := zx_ (v := .bool a1_0) BK412 0; have hcz12_1 := zx_ (v := .int .u64 a1_1) BK412 1; have hcz12_2 := zx_ (v := .int .u64 a1_2) BK412 2; have hcz12_3 := zx_ (v := .int .u64 a1_3) BK412 3; have hcz12_4 := zx_ (v := .int .u64 a1_4) BK412 4; have hfz12_0 := blk_frozen BK412.out 0; have hfz12_1 := blk_frozen BK412.out 1; have hfz12_2 := blk_frozen BK412.out 2; have hfz12_3 := blk_frozen BK412.out 3; have hfz12_4 := blk_frozen BK412.out 4))
  have n0_ := Aside0.mk (blk_drew BK411.out)
  have n1_ := Aside0.mk (blk_drew BK412.out)
  have n2_ := Aside0.mk (blk_drew BK413.out)
  have n3_ := Aside0.mk (below_drew1 HB.out)
  clear BK411
  clear BK412
  clear BK413
  clear HB
  have BK411 := n0_
  have BK412 := n1_
  have BK413 := n2_
  have HB := n3_
  clear n0_ n1_ n2_ n3_
  refine start_ (n := 9) (S := fun w' => w'.cell? ⟨gb411, 0, none⟩ = some (.bool a0_0) ∧ w'.cell? ⟨gb411, 1, none⟩ = some (.int .u64 a0_1) ∧ w'.cell? ⟨gb411, 2, none⟩ = some (.int .u64 a0_2) ∧ w'.cell? ⟨gb411, 3, none⟩ = some (.int .u64 a0_3) ∧ w'.cell? ⟨gb411, 4, none⟩ = some (.int .u64 a0_4) ∧ w'.cell? ⟨gb412, 0, none⟩ = some (.bool a1_0) ∧ w'.cell? ⟨gb412, 1, none⟩ = some (.int .u64 a1_1) ∧ w'.cell? ⟨gb412, 2, none⟩ = some (.int .u64 a1_2) ∧ w'.cell? ⟨gb412, 3, none⟩ = some (.int .u64 a1_3) ∧ w'.cell? ⟨gb412, 4, none⟩ = some (.int .u64 a1_4)) (ds := []) #[false, false, false, false, false, false, false, false, false] (by kernel_rfl) rfl rfl ⟨(blk_cell BK411.out 0).trans rfl, (blk_cell BK411.out 1).trans rfl, (blk_cell BK411.out 2).trans rfl, (blk_cell BK411.out 3).trans rfl, (blk_cell BK411.out 4).trans rfl, (blk_cell BK412.out 0).trans rfl, (blk_cell BK412.out 1).trans rfl, (blk_cell BK412.out 2).trans rfl, (blk_cell BK412.out 3).trans rfl, (blk_cell BK412.out 4).trans rfl⟩ (fun hHeld => ?_); refine with_tabW carouselref1_Plus.tab2 carouselref1_Plus.bits2 (fun HT_ HW_ => ?_)
  generalize w7.drew = w13 at BK411 BK412 BK413 HB hHeld ⊢
  refine zp_ 0 (some 10) (h := ?_)
  refine zp_ 2 (some 12) (h := ?_)
  refine zp_ 4 (some 14) (h := ?_)
  refine zt_ 1 (some 11) (hr := by rintro w' ⟨s0, s1, s2, s3, s4, s5, s6, s7, s8, s9⟩; go_simp; with_reducible rfl) (h := ?_)
  refine zt_ 3 (some 13) (hr := by rintro w' ⟨s0, s1, s2, s3, s4, s5, s6, s7, s8, s9⟩; go_simp; with_reducible rfl) (h := ?_)
  refine zt_ 5 (some 15) (hr := by rintro w' ⟨s0, s1, s2, s3, s4, s5, s6, s7, s8, s9⟩; go_simp; with_reducible rfl) (h := ?_)
  refine one_ (i := 6) (N := some 16) #[true, true, true, true, true, true, true, false, false] rfl rfl (one_of HT_.out (by kernel_rfl)) (by decide) (fun K hK => ?_)
  refine goes_ Try.func76 (by kernel_rfl) rfl #[.agg #[.int .u64 a0_1, .int .u64 a0_2, .int .u64 a0_3, .int .u64 a0_4], .agg #[.int .u64 a1_1, .int .u64 a1_2, .int .u64 a1_3, .int .u64 a1_4]] (by rfl) rfl rfl (by (try simp only [List.map_toArray, List.map_cons, List.map_nil]); first | done | rfl | (simp only [List.length_drop, List.length_take]; rfl)) ?_
  with_reducible refine (carouselref1_plus.calls a0_1 a0_2 a0_3 a0_4 a1_1 a1_2 a1_3 a1_4 t414 t415 t416 t417 _ A4.out).mono ?_
  rintro e w14 ⟨rfl, hb⟩
  refine ⟨_, rfl, ?_⟩
  have n0_ := Aside0.mk (zl_ BK411 hb)
  have n1_ := Aside0.mk (zl_ BK412 hb)
  have n2_ := Aside0.mk (zl_ BK413 hb)
  have n3_ := Aside0.mk (below_step (zw3_ HB GE411 GE412 GE413) hb)
  clear BK411
  clear BK412
  clear BK413
  clear HB
  have BK411 := n0_
  have BK412 := n1_
  have BK413 := n2_
  have HB := n3_
  clear n0_ n1_ n2_ n3_
  (try clear hb)
  (try clear hb2)
  (try clear hk)
  (try clear hi)
  refine hK.out _ _ ⟨(blk_cell BK411.out 0).trans rfl, (blk_cell BK411.out 1).trans rfl, (blk_cell BK411.out 2).trans rfl, (blk_cell BK411.out 3).trans rfl, (blk_cell BK411.out 4).trans rfl, (blk_cell BK412.out 0).trans rfl, (blk_cell BK412.out 1).trans rfl, (blk_cell BK412.out 2).trans rfl, (blk_cell BK412.out 3).trans rfl, (blk_cell BK412.out 4).trans rfl⟩ (fun hHeld => ?_)
  clear hK K
  refine norm_ (a' := ?_) ?_ ?_
  rotate_left
  ·show Act.put _ (some 16) _ = _
   simp only [Act.put, List.setIfInBounds_toArray, List.set_cons_zero, List.set_cons_succ, i64_w, i32_w]
   rfl
  refine zp_ 7 (some 17) (h := ?_)
  refine one_ (i := 8) (N := none) #[true, true, true, true, true, true, true, true, true] rfl rfl (one_of HT_.out (by kernel_rfl)) (by decide) (fun K hK => ?_)
  have hs15 := zx_ (v := .bool false) BK413 0
  have hfs15 := blk_frozen BK413.out 0
  have hns15_0 := NB411_413.out
  have hns15_1 := NB412_413.out
  have hms15_0 := NB413_411.out
  have hms15_1 := NB413_412.out
  have hs16 := zx_ (v := .int .u64 0) BK413 1
  have hfs16 := blk_frozen BK413.out 1
  have hns16_0 := NB411_413.out
  have hns16_1 := NB412_413.out
  have hms16_0 := NB413_411.out
  have hms16_1 := NB413_412.out
  have hs17 := zx_ (v := .int .u64 0) BK413 2
  have hfs17 := blk_frozen BK413.out 2
  have hns17_0 := NB411_413.out
  have hns17_1 := NB412_413.out
  have hms17_0 := NB413_411.out
  have hms17_1 := NB413_412.out
  have hs18 := zx_ (v := .int .u64 0) BK413 3
  have hfs18 := blk_frozen BK413.out 3
  have hns18_0 := NB411_413.out
  have hns18_1 := NB412_413.out
  have hms18_0 := NB413_411.out
  have hms18_1 := NB413_412.out
  have hs19 := zx_ (v := .int .u64 0) BK413 4
  have hfs19 := blk_frozen BK413.out 4
  have hns19_0 := NB411_413.out
  have hns19_1 := NB412_413.out
  have hms19_0 := NB413_411.out
  have hms19_1 := NB413_412.out
  refine skip_ (w1 := ?_) (by rfl) rfl ?_ ?_
  rotate_left
  ·go_simp
   rfl
  refine hK.out _ _ ⟨((cell_far (p := ⟨gb413, _, none⟩) NB411_413.out _).trans (((cell_far (p := ⟨gb413, _, none⟩) NB411_413.out _).trans (((cell_far (p := ⟨gb413, _, none⟩) NB411_413.out _).trans (((cell_far (p := ⟨gb413, _, none⟩) NB411_413.out _).trans (((cell_far (p := ⟨gb413, _, none⟩) NB411_413.out _).trans (hHeld.1)))))))))), ((cell_far (p := ⟨gb413, _, none⟩) NB411_413.out _).trans (((cell_far (p := ⟨gb413, _, none⟩) NB411_413.out _).trans (((cell_far (p := ⟨gb413, _, none⟩) NB411_413.out _).trans (((cell_far (p := ⟨gb413, _, none⟩) NB411_413.out _).trans (((cell_far (p := ⟨gb413, _, none⟩) NB411_413.out _).trans (hHeld.2.1)))))))))), ((cell_far (p := ⟨gb413, _, none⟩) NB411_413.out _).trans (((cell_far (p := ⟨gb413, _, none⟩) NB411_413.out _).trans (((cell_far (p := ⟨gb413, _, none⟩) NB411_413.out _).trans (((cell_far (p := ⟨gb413, _, none⟩) NB411_413.out _).trans (((cell_far (p := ⟨gb413, _, none⟩) NB411_413.out _).trans (hHeld.2.2.1)))))))))), ((cell_far (p := ⟨gb413, _, none⟩) NB411_413.out _).trans (((cell_far (p := ⟨gb413, _, none⟩) NB411_413.out _).trans (((cell_far (p := ⟨gb413, _, none⟩) NB411_413.out _).trans (((cell_far (p := ⟨gb413, _, none⟩) NB411_413.out _).trans (((cell_far (p := ⟨gb413, _, none⟩) NB411_413.out _).trans (hHeld.2.2.2.1)))))))))), ((cell_far (p := ⟨gb413, _, none⟩) NB411_413.out _).trans (((cell_far (p := ⟨gb413, _, none⟩) NB411_413.out _).trans (((cell_far (p := ⟨gb413, _, none⟩) NB411_413.out _).trans (((cell_far (p := ⟨gb413, _, none⟩) NB411_413.out _).trans (((cell_far (p := ⟨gb413, _, none⟩) NB411_413.out _).trans (hHeld.2.2.2.2.1)))))))))), ((cell_far (p := ⟨gb413, _, none⟩) NB412_413.out _).trans (((cell_far (p := ⟨gb413, _, none⟩) NB412_413.out _).trans (((cell_far (p := ⟨gb413, _, none⟩) NB412_413.out _).trans (((cell_far (p := ⟨gb413, _, none⟩) NB412_413.out _).trans (((cell_far (p := ⟨gb413, _, none⟩) NB412_413.out _).trans (hHeld.2.2.2.2.2.1)))))))))), ((cell_far (p := ⟨gb413, _, none⟩) NB412_413.out _).trans (((cell_far (p := ⟨gb413, _, none⟩) NB412_413.out _).trans (((cell_far (p := ⟨gb413, _, none⟩) NB412_413.out _).trans (((cell_far (p := ⟨gb413, _, none⟩) NB412_413.out _).trans (((cell_far (p := ⟨gb413, _, none⟩) NB412_413.out _).trans (hHeld.2.2.2.2.2.2.1)))))))))), ((cell_far (p := ⟨gb413, _, none⟩) NB412_413.out _).trans (((cell_far (p := ⟨gb413, _, none⟩) NB412_413.out _).trans (((cell_far (p := ⟨gb413, _, none⟩) NB412_413.out _).trans (((cell_far (p := ⟨gb413, _, none⟩) NB412_413.out _).trans (((cell_far (p := ⟨gb413, _, none⟩) NB412_413.out _).trans (hHeld.2.2.2.2.2.2.2.1)))))))))), ((cell_far (p := ⟨gb413, _, none⟩) NB412_413.out _).trans (((cell_far (p := ⟨gb413, _, none⟩) NB412_413.out _).trans (((cell_far (p := ⟨gb413, _, none⟩) NB412_413.out _).trans (((cell_far (p := ⟨gb413, _, none⟩) NB412_413.out _).trans (((cell_far (p := ⟨gb413, _, none⟩) NB412_413.out _).trans (hHeld.2.2.2.2.2.2.2.2.1)))))))))), ((cell_far (p := ⟨gb413, _, none⟩) NB412_413.out _).trans (((cell_far (p := ⟨gb413, _, none⟩) NB412_413.out _).trans (((cell_far (p := ⟨gb413, _, none⟩) NB412_413.out _).trans (((cell_far (p := ⟨gb413, _, none⟩) NB412_413.out _).trans (((cell_far (p := ⟨gb413, _, none⟩) NB412_413.out _).trans (hHeld.2.2.2.2.2.2.2.2.2))))))))))⟩ (fun hHeld => ?_)
  clear hK K
  refine done_ (done_of HT_.out (by kernel_rfl)) ?_
  try go_wp2
  refine bodyPost_ret (results_cell_row rfl _ _ gb413 74 #[.bool a0_0, .int .u64 t414, .int .u64 t415, .int .u64 t416, .int .u64 t417] (0, 0) _ rfl (by (with_reducible repeat (first | refine blk_drewN ?_ _ | refine blk_drew ?_ | refine blk_alloc ?_ _)); refine blk_put (cs := #[.bool a0_0, .int .u64 t414, .int .u64 t415, .int .u64 t416, .int .u64 0]) ?_ 4 _ rfl; (with_reducible repeat (first | refine blk_drewN ?_ _ | refine blk_drew ?_ | refine blk_alloc ?_ _)); refine blk_put (cs := #[.bool a0_0, .int .u64 t414, .int .u64 t415, .int .u64 0, .int .u64 0]) ?_ 3 _ rfl; (with_reducible repeat (first | refine blk_drewN ?_ _ | refine blk_drew ?_ | refine blk_alloc ?_ _)); refine blk_put (cs := #[.bool a0_0, .int .u64 t414, .int .u64 0, .int .u64 0, .int .u64 0]) ?_ 2 _ rfl; (with_reducible repeat (first | refine blk_drewN ?_ _ | refine blk_drew ?_ | refine blk_alloc ?_ _)); refine blk_put (cs := #[.bool a0_0, .int .u64 0, .int .u64 0, .int .u64 0, .int .u64 0]) ?_ 1 _ rfl; (with_reducible repeat (first | refine blk_drewN ?_ _ | refine blk_drew ?_ | refine blk_alloc ?_ _)); refine blk_put (cs := #[.bool false, .int .u64 0, .int .u64 0, .int .u64 0, .int .u64 0]) ?_ 0 _ rfl; (with_reducible repeat (first | refine blk_drewN ?_ _ | refine blk_drew ?_ | refine blk_alloc ?_ _)); exact BK413.out) Try.underlying74 rfl (by kernel_rfl)) rfl ?_
  exact ⟨by first | rfl | (simp [errW_none, errW_some] <;> rfl) | (simp [*, errW_none, errW_some] <;> rfl), zw3_ HB GE411 GE412 GE413⟩
 ·rw [if_neg c3] at H
  have c3b0 : (a0_0 == a1_0) = false := by simpa using c3
  (try (have c3b1 : decide (a0_0 = a1_0) = false := by simpa using c3))
  (try (have c3b2 : (a0_0 == a1_0) = false := by simpa using c3))
  (try (have c3b3 : ¬ (a0_0 = a1_0) := by simpa using c3))
  clear c3
  replace H := Option.bind_eq_some_iff.mp H
  obtain ⟨t418, A200, H⟩ := H
  (try dsimp only at H)
  have A20 := Aside0.mk A200
  clear A200
  by_cases c21 : t418 = true
  ·subst c21
   have H1 := H
   rw [if_pos rfl] at H1
   clear H
   have H := H1
   clear H1
   replace H := Option.bind_eq_some_iff.mp H
   obtain ⟨⟨t419, t420, t421, t422⟩, A220, H⟩ := H
   replace H : (some (a1_0, t419, t420, t421, t422)) = some (r1, r2, r3, r4, r5) := H
   have A22 := Aside0.mk A220
   clear A220
   simp only [Option.some.injEq, Prod.mk.injEq] at H
   obtain ⟨rfl, rfl, rfl, rfl, rfl⟩ := H
   go_enter Try.func67, Try.ntmps67
   try go_wp2_with (first | ((with_reducible refine gate_dst (N := 2) rfl ?_); refine box_event ?hg (N := 2) ?hd (cs := #[.bool a0_0, .int .u64 a0_1, .int .u64 a0_2, .int .u64 a0_3, .int .u64 a0_4]) (t := 74) ?hr ?_; (case hd => rfl); (case hg => rfl); (case hr => first | (go_simp; done) | (go_simp; rfl)); intro gb411 hg w23 hbox hb; have n0_ := Aside0.mk (below_step (zw0_ HB) hb); have n1_ := Aside0.mk (hbox); have n2_ := Aside0.mk (zs_ hg (zw0_ HB)); have n3_ := Aside0.mk (zs_ hg (zw0_ HB)); clear HB; have HB := n0_; have BK411 := n1_; have GW411 := n2_; have GE411 := n3_; clear n0_ n1_ n2_ n3_; clear hb hbox hg) | ((with_reducible refine gate_dst (N := 3) rfl ?_); refine box_event ?hg (N := 3) ?hd (cs := #[.bool a1_0, .int .u64 a1_1, .int .u64 a1_2, .int .u64 a1_3, .int .u64 a1_4]) (t := 74) ?hr ?_; (case hd => rfl); (case hg => rfl); (case hr => first | (go_simp; done) | (go_simp; rfl)); intro gb412 hg w24 hbox hb; have n0_ := Aside0.mk (zl_ BK411 hb); have n1_ := Aside0.mk (below_step (zw1_ HB GE411) hb); have n2_ := Aside0.mk (hbox); have n3_ := Aside0.mk (zs_ hg (zw1_ HB GE411)); have n4_ := Aside0.mk (zs_ hg (zw1_ HB GE411)); have n5_ := Aside0.mk (zn_ hg BK411); have n6_ := Aside0.mk (zm_ hg BK411); clear BK411 HB; have BK411 := n0_; have HB := n1_; have BK412 := n2_; have GW412 := n3_; have GE412 := n4_; have NB411_412 := n5_; have NB412_411 := n6_; clear n0_ n1_ n2_ n3_ n4_ n5_ n6_; clear hb hbox hg) | ((with_reducible refine gate_dst (N := 4) rfl ?_); refine box_event ?hg (N := 4) ?hd (cs := #[.bool false, .int .u64 0, .int .u64 0, .int .u64 0, .int .u64 0]) (t := 74) ?hr ?_; (case hd => rfl); (case hg => rfl); (case hr => first | (go_simp; done) | (go_simp; rfl)); intro gb413 hg w25 hbox hb; have n0_ := Aside0.mk (zl_ BK411 hb); have n1_ := Aside0.mk (zl_ BK412 hb); have n2_ := Aside0.mk (below_step (zw2_ HB GE411 GE412) hb); have n3_ := Aside0.mk (hbox); have n4_ := Aside0.mk (zs_ hg (zw2_ HB GE411 GE412)); have n5_ := Aside0.mk (zs_ hg (zw2_ HB GE411 GE412)); have n6_ := Aside0.mk (zn_ hg BK411); have n7_ := Aside0.mk (zm_ hg BK411); have n8_ := Aside0.mk (zn_ hg BK412); have n9_ := Aside0.mk (zm_ hg BK412); clear BK411 BK412 HB; have BK411 := n0_; have BK412 := n1_; have HB := n2_; have BK413 := n3_; have GW413 := n4_; have GE413 := n5_; have NB411_413 := n6_; have NB413_411 := n7_; have NB412_413 := n8_; have NB413_412 := n9_; clear n0_ n1_ n2_ n3_ n4_ n5_ n6_ n7_ n8_ n9_; clear hb hbox hg; have hnb26 := NB411_412.out; have hnc26 := NB412_411.out; have hnb27 := NB411_413.out; have hnc27 := NB413_411.out; have hcz28_0 := zx_ (v := .bool a0_0) BK411 0; have hcz28_1 := zx_ (v := .int .u64 a0_1) BK411 1; have hcz28_2 := zx_ (v := .int .u64 a0_2) BK411 2; have hcz28_3 := zx_ (v := .int .u64 a0_3) BK411 3; have hcz28_4 := zx_ (v := .int .u64 a0_4) BK411 4; have hfz28_0 := blk_frozen BK411.out 0; have hfz28_1 := blk_frozen BK411.out 1; have hfz28_2 := blk_frozen BK411.out 2; have hfz28_3 := blk_frozen BK411.out 3; have hfz28_4 := blk_frozen BK411.out 4; have hnb29 := NB412_413.out; have hnc29 := NB413_412.out; have hcz30_0 := zx_ (v := .bool a1_0) BK412 0; have hcz30_1 := zx_ (v := .int .u64 a1_1) BK412 1; have hcz30_2 := zx_ (v := .int .u64 a1_2) BK412 2; have hcz30_3 := zx_ (v := .int .u64 a1_3) BK412 3; have hcz30_4 := zx_ (v := .int .u64 a1_4) BK412 4; have hfz30_0 := blk_frozen BK412.out 0; have hfz30_1 := blk_frozen BK412.out 1; have hfz30_2 := blk_frozen BK412.out 2; have hfz30_3 := blk_frozen BK412.out 3; have hfz30_4 := blk_frozen BK412.out 4) | ((with_reducible refine gate_callee (f := 77) rfl ?_); refine zg_ (some 22) Try.func77 #[.agg #[.int .u64 a0_1, .int .u64 a0_2, .int .u64 a0_3, .int .u64 a0_4], .agg #[.int .u64 a1_1, .int .u64 a1_2, .int .u64 a1_3, .int .u64 a1_4]] (h := ?_); (with_reducible refine (carouselref1_less.calls a0_1 a0_2 a0_3 a0_4 a1_1 a1_2 a1_3 a1_4 true _ A20.out).mono ?_); rintro e w31 ⟨rfl, hb⟩; refine ⟨_, rfl, ?_⟩; have n0_ := Aside0.mk (zl_ BK411 hb); have n1_ := Aside0.mk (zl_ BK412 hb); have n2_ := Aside0.mk (zl_ BK413 hb); have n3_ := Aside0.mk (below_step (zw3_ HB GE411 GE412 GE413) hb); clear BK411 BK412 BK413 HB; have BK411 := n0_; have BK412 := n1_; have BK413 := n2_; have HB := n3_; clear n0_ n1_ n2_ n3_; (try clear hb); (try clear hb2); (try clear hk); (try clear hi)))
   have n0_ := Aside0.mk (blk_drew BK411.out)
   have n1_ := Aside0.mk (blk_drew BK412.out)
   have n2_ := Aside0.mk (blk_drew BK413.out)
   have n3_ := Aside0.mk (below_drew1 HB.out)
   clear BK411
   clear BK412
   clear BK413
   clear HB
   have BK411 := n0_
   have BK412 := n1_
   have BK413 := n2_
   have HB := n3_
   clear n0_ n1_ n2_ n3_
   refine start_ (n := 9) (S := fun w' => w'.cell? ⟨gb412, 0, none⟩ = some (.bool a1_0) ∧ w'.cell? ⟨gb412, 1, none⟩ = some (.int .u64 a1_1) ∧ w'.cell? ⟨gb412, 2, none⟩ = some (.int .u64 a1_2) ∧ w'.cell? ⟨gb412, 3, none⟩ = some (.int .u64 a1_3) ∧ w'.cell? ⟨gb412, 4, none⟩ = some (.int .u64 a1_4) ∧ w'.cell? ⟨gb411, 0, none⟩ = some (.bool a0_0) ∧ w'.cell? ⟨gb411, 1, none⟩ = some (.int .u64 a0_1) ∧ w'.cell? ⟨gb411, 2, none⟩ = some (.int .u64 a0_2) ∧ w'.cell? ⟨gb411, 3, none⟩ = some (.int .u64 a0_3) ∧ w'.cell? ⟨gb411, 4, none⟩ = some (.int .u64 a0_4)) (ds := []) #[false, false, false, false, false, false, false, false, false] (by kernel_rfl) rfl rfl ⟨(blk_cell BK412.out 0).trans rfl, (blk_cell BK412.out 1).trans rfl, (blk_cell BK412.out 2).trans rfl, (blk_cell BK412.out 3).trans rfl, (blk_cell BK412.out 4).trans rfl, (blk_cell BK411.out 0).trans rfl, (blk_cell BK411.out 1).trans rfl, (blk_cell BK411.out 2).trans rfl, (blk_cell BK411.out 3).trans rfl, (blk_cell BK411.out 4).trans rfl⟩ (fun hHeld => ?_); refine with_tabW carouselref1_Plus.tab4 carouselref1_Plus.bits4 (fun HT_ HW_ => ?_)
   generalize w31.drew = w32 at BK411 BK412 BK413 HB hHeld ⊢
   refine zp_ 0 (some 23) (h := ?_)
   refine zp_ 2 (some 25) (h := ?_)
   refine zp_ 4 (some 27) (h := ?_)
   refine zt_ 1 (some 24) (hr := by rintro w' ⟨s0, s1, s2, s3, s4, s5, s6, s7, s8, s9⟩; go_simp; with_reducible rfl) (h := ?_)
   refine zt_ 3 (some 26) (hr := by rintro w' ⟨s0, s1, s2, s3, s4, s5, s6, s7, s8, s9⟩; go_simp; with_reducible rfl) (h := ?_)
   refine zt_ 5 (some 28) (hr := by rintro w' ⟨s0, s1, s2, s3, s4, s5, s6, s7, s8, s9⟩; go_simp; with_reducible rfl) (h := ?_)
   refine one_ (i := 6) (N := some 29) #[true, true, true, true, true, true, true, false, false] rfl rfl (one_of HT_.out (by kernel_rfl)) (by decide) (fun K hK => ?_)
   refine goes_ Try.func78 (by kernel_rfl) rfl #[.agg #[.int .u64 a1_1, .int .u64 a1_2, .int .u64 a1_3, .int .u64 a1_4], .agg #[.int .u64 a0_1, .int .u64 a0_2, .int .u64 a0_3, .int .u64 a0_4]] (by rfl) rfl rfl (by (try simp only [List.map_toArray, List.map_cons, List.map_nil]); first | done | rfl | (simp only [List.length_drop, List.length_take]; rfl)) ?_
   with_reducible refine (carouselref1_minus.calls a1_1 a1_2 a1_3 a1_4 a0_1 a0_2 a0_3 a0_4 t419 t420 t421 t422 _ A22.out).mono ?_
   rintro e w33 ⟨rfl, hb⟩
   refine ⟨_, rfl, ?_⟩
   have n0_ := Aside0.mk (zl_ BK411 hb)
   have n1_ := Aside0.mk (zl_ BK412 hb)
   have n2_ := Aside0.mk (zl_ BK413 hb)
   have n3_ := Aside0.mk (below_step (zw3_ HB GE411 GE412 GE413) hb)
   clear BK411
   clear BK412
   clear BK413
   clear HB
   have BK411 := n0_
   have BK412 := n1_
   have BK413 := n2_
   have HB := n3_
   clear n0_ n1_ n2_ n3_
   (try clear hb)
   (try clear hb2)
   (try clear hk)
   (try clear hi)
   refine hK.out _ _ ⟨(blk_cell BK412.out 0).trans rfl, (blk_cell BK412.out 1).trans rfl, (blk_cell BK412.out 2).trans rfl, (blk_cell BK412.out 3).trans rfl, (blk_cell BK412.out 4).trans rfl, (blk_cell BK411.out 0).trans rfl, (blk_cell BK411.out 1).trans rfl, (blk_cell BK411.out 2).trans rfl, (blk_cell BK411.out 3).trans rfl, (blk_cell BK411.out 4).trans rfl⟩ (fun hHeld => ?_)
   clear hK K
   refine norm_ (a' := ?_) ?_ ?_
   rotate_left
   ·show Act.put _ (some 29) _ = _
    simp only [Act.put, List.setIfInBounds_toArray, List.set_cons_zero, List.set_cons_succ, i64_w, i32_w]
    rfl
   refine zp_ 7 (some 30) (h := ?_)
   refine one_ (i := 8) (N := none) #[true, true, true, true, true, true, true, true, true] rfl rfl (one_of HT_.out (by kernel_rfl)) (by decide) (fun K hK => ?_)
   have hs34 := zx_ (v := .bool false) BK413 0
   have hfs34 := blk_frozen BK413.out 0
   have hns34_0 := NB411_413.out
   have hns34_1 := NB412_413.out
   have hms34_0 := NB413_411.out
   have hms34_1 := NB413_412.out
   have hs35 := zx_ (v := .int .u64 0) BK413 1
   have hfs35 := blk_frozen BK413.out 1
   have hns35_0 := NB411_413.out
   have hns35_1 := NB412_413.out
   have hms35_0 := NB413_411.out
   have hms35_1 := NB413_412.out
   have hs36 := zx_ (v := .int .u64 0) BK413 2
   have hfs36 := blk_frozen BK413.out 2
   have hns36_0 := NB411_413.out
   have hns36_1 := NB412_413.out
   have hms36_0 := NB413_411.out
   have hms36_1 := NB413_412.out
   have hs37 := zx_ (v := .int .u64 0) BK413 3
   have hfs37 := blk_frozen BK413.out 3
   have hns37_0 := NB411_413.out
   have hns37_1 := NB412_413.out
   have hms37_0 := NB413_411.out
   have hms37_1 := NB413_412.out
   have hs38 := zx_ (v := .int .u64 0) BK413 4
   have hfs38 := blk_frozen BK413.out 4
   have hns38_0 := NB411_413.out
   have hns38_1 := NB412_413.out
   have hms38_0 := NB413_411.out
   have hms38_1 := NB413_412.out
   refine skip_ (w1 := ?_) (by rfl) rfl ?_ ?_
   rotate_left
   ·go_simp
    rfl
   refine hK.out _ _ ⟨((cell_far (p := ⟨gb413, _, none⟩) NB412_413.out _).trans (((cell_far (p := ⟨gb413, _, none⟩) NB412_413.out _).trans (((cell_far (p := ⟨gb413, _, none⟩) NB412_413.out _).trans (((cell_far (p := ⟨gb413, _, none⟩) NB412_413.out _).trans (((cell_far (p := ⟨gb413, _, none⟩) NB412_413.out _).trans (hHeld.1)))))))))), ((cell_far (p := ⟨gb413, _, none⟩) NB412_413.out _).trans (((cell_far (p := ⟨gb413, _, none⟩) NB412_413.out _).trans (((cell_far (p := ⟨gb413, _, none⟩) NB412_413.out _).trans (((cell_far (p := ⟨gb413, _, none⟩) NB412_413.out _).trans (((cell_far (p := ⟨gb413, _, none⟩) NB412_413.out _).trans (hHeld.2.1)))))))))), ((cell_far (p := ⟨gb413, _, none⟩) NB412_413.out _).trans (((cell_far (p := ⟨gb413, _, none⟩) NB412_413.out _).trans (((cell_far (p := ⟨gb413, _, none⟩) NB412_413.out _).trans (((cell_far (p := ⟨gb413, _, none⟩) NB412_413.out _).trans (((cell_far (p := ⟨gb413, _, none⟩) NB412_413.out _).trans (hHeld.2.2.1)))))))))), ((cell_far (p := ⟨gb413, _, none⟩) NB412_413.out _).trans (((cell_far (p := ⟨gb413, _, none⟩) NB412_413.out _).trans (((cell_far (p := ⟨gb413, _, none⟩) NB412_413.out _).trans (((cell_far (p := ⟨gb413, _, none⟩) NB412_413.out _).trans (((cell_far (p := ⟨gb413, _, none⟩) NB412_413.out _).trans (hHeld.2.2.2.1)))))))))), ((cell_far (p := ⟨gb413, _, none⟩) NB412_413.out _).trans (((cell_far (p := ⟨gb413, _, none⟩) NB412_413.out _).trans (((cell_far (p := ⟨gb413, _, none⟩) NB412_413.out _).trans (((cell_far (p := ⟨gb413, _, none⟩) NB412_413.out _).trans (((cell_far (p := ⟨gb413, _, none⟩) NB412_413.out _).trans (hHeld.2.2.2.2.1)))))))))), ((cell_far (p := ⟨gb413, _, none⟩) NB411_413.out _).trans (((cell_far (p := ⟨gb413, _, none⟩) NB411_413.out _).trans (((cell_far (p := ⟨gb413, _, none⟩) NB411_413.out _).trans (((cell_far (p := ⟨gb413, _, none⟩) NB411_413.out _).trans (((cell_far (p := ⟨gb413, _, none⟩) NB411_413.out _).trans (hHeld.2.2.2.2.2.1)))))))))), ((cell_far (p := ⟨gb413, _, none⟩) NB411_413.out _).trans (((cell_far (p := ⟨gb413, _, none⟩) NB411_413.out _).trans (((cell_far (p := ⟨gb413, _, none⟩) NB411_413.out _).trans (((cell_far (p := ⟨gb413, _, none⟩) NB411_413.out _).trans (((cell_far (p := ⟨gb413, _, none⟩) NB411_413.out _).trans (hHeld.2.2.2.2.2.2.1)))))))))), ((cell_far (p := ⟨gb413, _, none⟩) NB411_413.out _).trans (((cell_far (p := ⟨gb413, _, none⟩) NB411_413.out _).trans (((cell_far (p := ⟨gb413, _, none⟩) NB411_413.out _).trans (((cell_far (p := ⟨gb413, _, none⟩) NB411_413.out _).trans (((cell_far (p := ⟨gb413, _, none⟩) NB411_413.out _).trans (hHeld.2.2.2.2.2.2.2.1)))))))))), ((cell_far (p := ⟨gb413, _, none⟩) NB411_413.out _).trans (((cell_far (p := ⟨gb413, _, none⟩) NB411_413.out _).trans (((cell_far (p := ⟨gb413, _, none⟩) NB411_413.out _).trans (((cell_far (p := ⟨gb413, _, none⟩) NB411_413.out _).trans (((cell_far (p := ⟨gb413, _, none⟩) NB411_413.out _).trans (hHeld.2.2.2.2.2.2.2.2.1)))))))))), ((cell_far (p := ⟨gb413, _, none⟩) NB411_413.out _).trans (((cell_far (p := ⟨gb413, _, none⟩) NB411_413.out _).trans (((cell_far (p := ⟨gb413, _, none⟩) NB411_413.out _).trans (((cell_far (p := ⟨gb413, _, none⟩) NB411_413.out _).trans (((cell_far (p := ⟨gb413, _, none⟩) NB411_413.out _).trans (hHeld.2.2.2.2.2.2.2.2.2))))))))))⟩ (fun hHeld => ?_)
   clear hK K
   refine done_ (done_of HT_.out (by kernel_rfl)) ?_
   try go_wp2
   refine bodyPost_ret (results_cell_row rfl _ _ gb413 74 #[.bool a1_0, .int .u64 t419, .int .u64 t420, .int .u64 t421, .int .u64 t422] (0, 0) _ rfl (by (with_reducible repeat (first | refine blk_drewN ?_ _ | refine blk_drew ?_ | refine blk_alloc ?_ _)); refine blk_put (cs := #[.bool a1_0, .int .u64 t419, .int .u64 t420, .int .u64 t421, .int .u64 0]) ?_ 4 _ rfl; (with_reducible repeat (first | refine blk_drewN ?_ _ | refine blk_drew ?_ | refine blk_alloc ?_ _)); refine blk_put (cs := #[.bool a1_0, .int .u64 t419, .int .u64 t420, .int .u64 0, .int .u64 0]) ?_ 3 _ rfl; (with_reducible repeat (first | refine blk_drewN ?_ _ | refine blk_drew ?_ | refine blk_alloc ?_ _)); refine blk_put (cs := #[.bool a1_0, .int .u64 t419, .int .u64 0, .int .u64 0, .int .u64 0]) ?_ 2 _ rfl; (with_reducible repeat (first | refine blk_drewN ?_ _ | refine blk_drew ?_ | refine blk_alloc ?_ _)); refine blk_put (cs := #[.bool a1_0, .int .u64 0, .int .u64 0, .int .u64 0, .int .u64 0]) ?_ 1 _ rfl; (with_reducible repeat (first | refine blk_drewN ?_ _ | refine blk_drew ?_ | refine blk_alloc ?_ _)); refine blk_put (cs := #[.bool false, .int .u64 0, .int .u64 0, .int .u64 0, .int .u64 0]) ?_ 0 _ rfl; (with_reducible repeat (first | refine blk_drewN ?_ _ | refine blk_drew ?_ | refine blk_alloc ?_ _)); exact BK413.out) Try.underlying74 rfl (by kernel_rfl)) rfl ?_
   exact ⟨by first | rfl | (simp [errW_none, errW_some] <;> rfl) | (simp [*, errW_none, errW_some] <;> rfl), zw3_ HB GE411 GE412 GE413⟩
  ·replace c21 := Bool.eq_false_iff.mpr c21
   subst c21
   have H1 := H
   rw [if_neg (show ¬ (false = true) by decide)] at H1
   clear H
   have H := H1
   clear H1
   replace H := Option.bind_eq_some_iff.mp H
   obtain ⟨⟨t423, t424, t425, t426⟩, A390, H⟩ := H
   replace H : (some (a0_0, t423, t424, t425, t426)) = some (r1, r2, r3, r4, r5) := H
   have A39 := Aside0.mk A390
   clear A390
   simp only [Option.some.injEq, Prod.mk.injEq] at H
   obtain ⟨rfl, rfl, rfl, rfl, rfl⟩ := H
   go_enter Try.func67, Try.ntmps67
   try go_wp2_with (first | ((with_reducible refine gate_dst (N := 2) rfl ?_); refine box_event ?hg (N := 2) ?hd (cs := #[.bool a0_0, .int .u64 a0_1, .int .u64 a0_2, .int .u64 a0_3, .int .u64 a0_4]) (t := 74) ?hr ?_; (case hd => rfl); (case hg => rfl); (case hr => first | (go_simp; done) | (go_simp; rfl)); intro gb411 hg w40 hbox hb; have n0_ := Aside0.mk (below_step (zw0_ HB) hb); have n1_ := Aside0.mk (hbox); have n2_ := Aside0.mk (zs_ hg (zw0_ HB)); have n3_ := Aside0.mk (zs_ hg (zw0_ HB)); clear HB; have HB := n0_; have BK411 := n1_; have GW411 := n2_; have GE411 := n3_; clear n0_ n1_ n2_ n3_; clear hb hbox hg) | ((with_reducible refine gate_dst (N := 3) rfl ?_); refine box_event ?hg (N := 3) ?hd (cs := #[.bool a1_0, .int .u64 a1_1, .int .u64 a1_2, .int .u64 a1_3, .int .u64 a1_4]) (t := 74) ?hr ?_; (case hd => rfl); (case hg => rfl); (case hr => first | (go_simp; done) | (go_simp; rfl)); intro gb412 hg w41 hbox hb; have n0_ := Aside0.mk (zl_ BK411 hb); have n1_ := Aside0.mk (below_step (zw1_ HB GE411) hb); have n2_ := Aside0.mk (hbox); have n3_ := Aside0.mk (zs_ hg (zw1_ HB GE411)); have n4_ := Aside0.mk (zs_ hg (zw1_ HB GE411)); have n5_ := Aside0.mk (zn_ hg BK411); have n6_ := Aside0.mk (zm_ hg BK411); clear BK411 HB; have BK411 := n0_; have HB := n1_; have BK412 := n2_; have GW412 := n3_; have GE412 := n4_; have NB411_412 := n5_; have NB412_411 := n6_; clear n0_ n1_ n2_ n3_ n4_ n5_ n6_; clear hb hbox hg) | ((with_reducible refine gate_dst (N := 4) rfl ?_); refine box_event ?hg (N := 4) ?hd (cs := #[.bool false, .int .u64 0, .int .u64 0, .int .u64 0, .int .u64 0]) (t := 74) ?hr ?_; (case hd => rfl); (case hg => rfl); (case hr => first | (go_simp; done) | (go_simp; rfl)); intro gb413 hg w42 hbox hb; have n0_ := Aside0.mk (zl_ BK411 hb); have n1_ := Aside0.mk (zl_ BK412 hb); have n2_ := Aside0.mk (below_step (zw2_ HB GE411 GE412) hb); have n3_ := Aside0.mk (hbox); have n4_ := Aside0.mk (zs_ hg (zw2_ HB GE411 GE412)); have n5_ := Aside0.mk (zs_ hg (zw2_ HB GE411 GE412)); have n6_ := Aside0.mk (zn_ hg BK411); have n7_ := Aside0.mk (zm_ hg BK411); have n8_ := Aside0.mk (zn_ hg BK412); have n9_ := Aside0.mk (zm_ hg BK412); clear BK411 BK412 HB; have BK411 := n0_; have BK412 := n1_; have HB := n2_; have BK413 := n3_; have GW413 := n4_; have GE413 := n5_; have NB411_413 := n6_; have NB413_411 := n7_; have NB412_413 := n8_; have NB413_412 := n9_; clear n0_ n1_ n2_ n3_ n4_ n5_ n6_ n7_ n8_ n9_; clear hb hbox hg; have hnb43 := NB411_412.out; have hnc43 := NB412_411.out; have hnb44 := NB411_413.out; have hnc44 := NB413_411.out; have hcz45_0 := zx_ (v := .bool a0_0) BK411 0; have hcz45_1 := zx_ (v := .int .u64 a0_1) BK411 1; have hcz45_2 := zx_ (v := .int .u64 a0_2) BK411 2; have hcz45_3 := zx_ (v := .int .u64 a0_3) BK411 3; have hcz45_4 := zx_ (v := .int .u64 a0_4) BK411 4; have hfz45_0 := blk_frozen BK411.out 0; have hfz45_1 := blk_frozen BK411.out 1; have hfz45_2 := blk_frozen BK411.out 2; have hfz45_3 := blk_frozen BK411.out 3; have hfz45_4 := blk_frozen BK411.out 4; have hnb46 := NB412_413.out; have hnc46 := NB413_412.out; have hcz47_0 := zx_ (v := .bool a1_0) BK412 0; have hcz47_1 := zx_ (v := .int .u64 a1_1) BK412 1; have hcz47_2 := zx_ (v := .int .u64 a1_2) BK412 2; have hcz47_3 := zx_ (v := .int .u64 a1_3) BK412 3; have hcz47_4 := zx_ (v := .int .u64 a1_4) BK412 4; have hfz47_0 := blk_frozen BK412.out 0; have hfz47_1 := blk_frozen BK412.out 1; have hfz47_2 := blk_frozen BK412.out 2; have hfz47_3 := blk_frozen BK412.out 3; have hfz47_4 := blk_frozen BK412.out 4) | ((with_reducible refine gate_callee (f := 77) rfl ?_); refine zg_ (some 22) Try.func77 #[.agg #[.int .u64 a0_1, .int .u64 a0_2, .int .u64 a0_3, .int .u64 a0_4], .agg #[.int .u64 a1_1, .int .u64 a1_2, .int .u64 a1_3, .int .u64 a1_4]] (h := ?_); (with_reducible refine (carouselref1_less.calls a0_1 a0_2 a0_3 a0_4 a1_1 a1_2 a1_3 a1_4 false _ A20.out).mono ?_); rintro e w48 ⟨rfl, hb⟩; refine ⟨_, rfl, ?_⟩; have n0_ := Aside0.mk (zl_ BK411 hb); have n1_ := Aside0.mk (zl_ BK412 hb); have n2_ := Aside0.mk (zl_ BK413 hb); have n3_ := Aside0.mk (below_step (zw3_ HB GE411 GE412 GE413) hb); clear BK411 BK412 BK413 HB; have BK411 := n0_; have BK412 := n1_; have BK413 := n2_; have HB := n3_; clear n0_ n1_ n2_ n3_; (try clear hb); (try clear hb2); (try clear hk); (try clear hi)))
   have n0_ := Aside0.mk (blk_drew BK411.out)
   have n1_ := Aside0.mk (blk_drew BK412.out)
   have n2_ := Aside0.mk (blk_drew BK413.out)
   have n3_ := Aside0.mk (below_drew1 HB.out)
   clear BK411
   clear BK412
   clear BK413
   clear HB
   have BK411 := n0_
   have BK412 := n1_
   have BK413 := n2_
   have HB := n3_
   clear n0_ n1_ n2_ n3_
   refine start_ (n := 9) (S := fun w' => w'.cell? ⟨gb411, 0, none⟩ = some (.bool a0_0) ∧ w'.cell? ⟨gb411, 1, none⟩ = some (.int .u64 a0_1) ∧ w'.cell? ⟨gb411, 2, none⟩ = some (.int .u64 a0_2) ∧ w'.cell? ⟨gb411, 3, none⟩ = some (.int .u64 a0_3) ∧ w'.cell? ⟨gb411, 4, none⟩ = some (.int .u64 a0_4) ∧ w'.cell? ⟨gb412, 0, none⟩ = some (.bool a1_0) ∧ w'.cell? ⟨gb412, 1, none⟩ = some (.int .u64 a1_1) ∧ w'.cell? ⟨gb412, 2, none⟩ = some (.int .u64 a1_2) ∧ w'.cell? ⟨gb412, 3, none⟩ = some (.int .u64 a1_3) ∧ w'.cell? ⟨gb412, 4, none⟩ = some (.int .u64 a1_4)) (ds := []) #[false, false, false, false, false, false, false, false, false] (by kernel_rfl) rfl rfl ⟨(blk_cell BK411.out 0).trans rfl, (blk_cell BK411.out 1).trans rfl, (blk_cell BK411.out 2).trans rfl, (blk_cell BK411.out 3).trans rfl, (blk_cell BK411.out 4).trans rfl, (blk_cell BK412.out 0).trans rfl, (blk_cell BK412.out 1).trans rfl, (blk_cell BK412.out 2).trans rfl, (blk_cell BK412.out 3).trans rfl, (blk_cell BK412.out 4).trans rfl⟩ (fun hHeld => ?_); refine with_tabW carouselref1_Plus.tab5 carouselref1_Plus.bits5 (fun HT_ HW_ => ?_)
   generalize w48.drew = w49 at BK411 BK412 BK413 HB hHeld ⊢
   refine zp_ 0 (some 31) (h := ?_)
   refine zp_ 2 (some 33) (h := ?_)
   refine zp_ 4 (some 35) (h := ?_)
   refine zt_ 1 (some 32) (hr := by rintro w' ⟨s0, s1, s2, s3, s4, s5, s6, s7, s8, s9⟩; go_simp; with_reducible rfl) (h := ?_)
   refine zt_ 3 (some 34) (hr := by rintro w' ⟨s0, s1, s2, s3, s4, s5, s6, s7, s8, s9⟩; go_simp; with_reducible rfl) (h := ?_)
   refine zt_ 5 (some 36) (hr := by rintro w' ⟨s0, s1, s2, s3, s4, s5, s6, s7, s8, s9⟩; go_simp; with_reducible rfl) (h := ?_)
   refine one_ (i := 6) (N := some 37) #[true, true, true, true, true, true, true, false, false] rfl rfl (one_of HT_.out (by kernel_rfl)) (by decide) (fun K hK => ?_)
   refine goes_ Try.func78 (by kernel_rfl) rfl #[.agg #[.int .u64 a0_1, .int .u64 a0_2, .int .u64 a0_3, .int .u64 a0_4], .agg #[.int .u64 a1_1, .int .u64 a1_2, .int .u64 a1_3, .int .u64 a1_4]] (by rfl) rfl rfl (by (try simp only [List.map_toArray, List.map_cons, List.map_nil]); first | done | rfl | (simp only [List.length_drop, List.length_take]; rfl)) ?_
   with_reducible refine (carouselref1_minus.calls a0_1 a0_2 a0_3 a0_4 a1_1 a1_2 a1_3 a1_4 t423 t424 t425 t426 _ A39.out).mono ?_
   rintro e w50 ⟨rfl, hb⟩
   refine ⟨_, rfl, ?_⟩
   have n0_ := Aside0.mk (zl_ BK411 hb)
   have n1_ := Aside0.mk (zl_ BK412 hb)
   have n2_ := Aside0.mk (zl_ BK413 hb)
   have n3_ := Aside0.mk (below_step (zw3_ HB GE411 GE412 GE413) hb)
   clear BK411
   clear BK412
   clear BK413
   clear HB
   have BK411 := n0_
   have BK412 := n1_
   have BK413 := n2_
   have HB := n3_
   clear n0_ n1_ n2_ n3_
   (try clear hb)
   (try clear hb2)
   (try clear hk)
   (try clear hi)
   refine hK.out _ _ ⟨(blk_cell BK411.out 0).trans rfl, (blk_cell BK411.out 1).trans rfl, (blk_cell BK411.out 2).trans rfl, (blk_cell BK411.out 3).trans rfl, (blk_cell BK411.out 4).trans rfl, (blk_cell BK412.out 0).trans rfl, (blk_cell BK412.out 1).trans rfl, (blk_cell BK412.out 2).trans rfl, (blk_cell BK412.out 3).trans rfl, (blk_cell BK412.out 4).trans rfl⟩ (fun hHeld => ?_)
   clear hK K
   refine norm_ (a' := ?_) ?_ ?_
   rotate_left
   ·show Act.put _ (some 37) _ = _
    simp only [Act.put, List.setIfInBounds_toArray, List.set_cons_zero, List.set_cons_succ, i64_w, i32_w]
    rfl
   refine zp_ 7 (some 38) (h := ?_)
   refine one_ (i := 8) (N := none) #[true, true, true, true, true, true, true, true, true] rfl rfl (one_of HT_.out (by kernel_rfl)) (by decide) (fun K hK => ?_)
   have hs51 := zx_ (v := .bool false) BK413 0
   have hfs51 := blk_frozen BK413.out 0
   have hns51_0 := NB411_413.out
   have hns51_1 := NB412_413.out
   have hms51_0 := NB413_411.out
   have hms51_1 := NB413_412.out
   have hs52 := zx_ (v := .int .u64 0) BK413 1
   have hfs52 := blk_frozen BK413.out 1
   have hns52_0 := NB411_413.out
   have hns52_1 := NB412_413.out
   have hms52_0 := NB413_411.out
   have hms52_1 := NB413_412.out
   have hs53 := zx_ (v := .int .u64 0) BK413 2
   have hfs53 := blk_frozen BK413.out 2
   have hns53_0 := NB411_413.out
   have hns53_1 := NB412_413.out
   have hms53_0 := NB413_411.out
   have hms53_1 := NB413_412.out
   have hs54 := zx_ (v := .int .u64 0) BK413 3
   have hfs54 := blk_frozen BK413.out 3
   have hns54_0 := NB411_413.out
   have hns54_1 := NB412_413.out
   have hms54_0 := NB413_411.out
   have hms54_1 := NB413_412.out
   have hs55 := zx_ (v := .int .u64 0) BK413 4
   have hfs55 := blk_frozen BK413.out 4
   have hns55_0 := NB411_413.out
   have hns55_1 := NB412_413.out
   have hms55_0 := NB413_411.out
   have hms55_1 := NB413_412.out
   refine skip_ (w1 := ?_) (by rfl) rfl ?_ ?_
   rotate_left
   ·go_simp
    rfl
   refine hK.out _ _ ⟨((cell_far (p := ⟨gb413, _, none⟩) NB411_413.out _).trans (((cell_far (p := ⟨gb413, _, none⟩) NB411_413.out _).trans (((cell_far (p := ⟨gb413, _, none⟩) NB411_413.out _).trans (((cell_far (p := ⟨gb413, _, none⟩) NB411_413.out _).trans (((cell_far (p := ⟨gb413, _, none⟩) NB411_413.out _).trans (hHeld.1)))))))))), ((cell_far (p := ⟨gb413, _, none⟩) NB411_413.out _).trans (((cell_far (p := ⟨gb413, _, none⟩) NB411_413.out _).trans (((cell_far (p := ⟨gb413, _, none⟩) NB411_413.out _).trans (((cell_far (p := ⟨gb413, _, none⟩) NB411_413.out _).trans (((cell_far (p := ⟨gb413, _, none⟩) NB411_413.out _).trans (hHeld.2.1)))))))))), ((cell_far (p := ⟨gb413, _, none⟩) NB411_413.out _).trans (((cell_far (p := ⟨gb413, _, none⟩) NB411_413.out _).trans (((cell_far (p := ⟨gb413, _, none⟩) NB411_413.out _).trans (((cell_far (p := ⟨gb413, _, none⟩) NB411_413.out _).trans (((cell_far (p := ⟨gb413, _, none⟩) NB411_413.out _).trans (hHeld.2.2.1)))))))))), ((cell_far (p := ⟨gb413, _, none⟩) NB411_413.out _).trans (((cell_far (p := ⟨gb413, _, none⟩) NB411_413.out _).trans (((cell_far (p := ⟨gb413, _, none⟩) NB411_413.out _).trans (((cell_far (p := ⟨gb413, _, none⟩) NB411_413.out _).trans (((cell_far (p := ⟨gb413, _, none⟩) NB411_413.out _).trans (hHeld.2.2.2.1)))))))))), ((cell_far (p := ⟨gb413, _, none⟩) NB411_413.out _).trans (((cell_far (p := ⟨gb413, _, none⟩) NB411_413.out _).trans (((cell_far (p := ⟨gb413, _, none⟩) NB411_413.out _).trans (((cell_far (p := ⟨gb413, _, none⟩) NB411_413.out _).trans (((cell_far (p := ⟨gb413, _, none⟩) NB411_413.out _).trans (hHeld.2.2.2.2.1)))))))))), ((cell_far (p := ⟨gb413, _, none⟩) NB412_413.out _).trans (((cell_far (p := ⟨gb413, _, none⟩) NB412_413.out _).trans (((cell_far (p := ⟨gb413, _, none⟩) NB412_413.out _).trans (((cell_far (p := ⟨gb413, _, none⟩) NB412_413.out _).trans (((cell_far (p := ⟨gb413, _, none⟩) NB412_413.out _).trans (hHeld.2.2.2.2.2.1)))))))))), ((cell_far (p := ⟨gb413, _, none⟩) NB412_413.out _).trans (((cell_far (p := ⟨gb413, _, none⟩) NB412_413.out _).trans (((cell_far (p := ⟨gb413, _, none⟩) NB412_413.out _).trans (((cell_far (p := ⟨gb413, _, none⟩) NB412_413.out _).trans (((cell_far (p := ⟨gb413, _, none⟩) NB412_413.out _).trans (hHeld.2.2.2.2.2.2.1)))))))))), ((cell_far (p := ⟨gb413, _, none⟩) NB412_413.out _).trans (((cell_far (p := ⟨gb413, _, none⟩) NB412_413.out _).trans (((cell_far (p := ⟨gb413, _, none⟩) NB412_413.out _).trans (((cell_far (p := ⟨gb413, _, none⟩) NB412_413.out _).trans (((cell_far (p := ⟨gb413, _, none⟩) NB412_413.out _).trans (hHeld.2.2.2.2.2.2.2.1)))))))))), ((cell_far (p := ⟨gb413, _, none⟩) NB412_413.out _).trans (((cell_far (p := ⟨gb413, _, none⟩) NB412_413.out _).trans (((cell_far (p := ⟨gb413, _, none⟩) NB412_413.out _).trans (((cell_far (p := ⟨gb413, _, none⟩) NB412_413.out _).trans (((cell_far (p := ⟨gb413, _, none⟩) NB412_413.out _).trans (hHeld.2.2.2.2.2.2.2.2.1)))))))))), ((cell_far (p := ⟨gb413, _, none⟩) NB412_413.out _).trans (((cell_far (p := ⟨gb413, _, none⟩) NB412_413.out _).trans (((cell_far (p := ⟨gb413, _, none⟩) NB412_413.out _).trans (((cell_far (p := ⟨gb413, _, none⟩) NB412_413.out _).trans (((cell_far (p := ⟨gb413, _, none⟩) NB412_413.out _).trans (hHeld.2.2.2.2.2.2.2.2.2))))))))))⟩ (fun hHeld => ?_)
   clear hK K
   refine done_ (done_of HT_.out (by kernel_rfl)) ?_
   try go_wp2
   refine bodyPost_ret (results_cell_row rfl _ _ gb413 74 #[.bool a0_0, .int .u64 t423, .int .u64 t424, .int .u64 t425, .int .u64 t426] (0, 0) _ rfl (by (with_reducible repeat (first | refine blk_drewN ?_ _ | refine blk_drew ?_ | refine blk_alloc ?_ _)); refine blk_put (cs := #[.bool a0_0, .int .u64 t423, .int .u64 t424, .int .u64 t425, .int .u64 0]) ?_ 4 _ rfl; (with_reducible repeat (first | refine blk_drewN ?_ _ | refine blk_drew ?_ | refine blk_alloc ?_ _)); refine blk_put (cs := #[.bool a0_0, .int .u64 t423, .int .u64 t424, .int .u64 0, .int .u64 0]) ?_ 3 _ rfl; (with_reducible repeat (first | refine blk_drewN ?_ _ | refine blk_drew ?_ | refine blk_alloc ?_ _)); refine blk_put (cs := #[.bool a0_0, .int .u64 t423, .int .u64 0, .int .u64 0, .int .u64 0]) ?_ 2 _ rfl; (with_reducible repeat (first | refine blk_drewN ?_ _ | refine blk_drew ?_ | refine blk_alloc ?_ _)); refine blk_put (cs := #[.bool a0_0, .int .u64 0, .int .u64 0, .int .u64 0, .int .u64 0]) ?_ 1 _ rfl; (with_reducible repeat (first | refine blk_drewN ?_ _ | refine blk_drew ?_ | refine blk_alloc ?_ _)); refine blk_put (cs := #[.bool false, .int .u64 0, .int .u64 0, .int .u64 0, .int .u64 0]) ?_ 0 _ rfl; (with_reducible repeat (first | refine blk_drewN ?_ _ | refine blk_drew ?_ | refine blk_alloc ?_ _)); exact BK413.out) Try.underlying74 rfl (by kernel_rfl)) rfl ?_
   exact ⟨by first | rfl | (simp [errW_none, errW_some] <;> rfl) | (simp [*, errW_none, errW_some] <;> rfl), zw3_ HB GE411 GE412 GE413⟩

/-! ### carouselref1_size: function 79 -/
def carouselref1_size.f (a0 : Int) : Option (Int) := if a0 < 0 then (some (IntKind.u64.wrap ((IntKind.u64.wrap (wrap64 (-(wrap64 (a0 + 1))))) + 1))) else (some (IntKind.u64.wrap (a0)))
set_option maxHeartbeats 8000000 in
set_option maxRecDepth 100000 in
theorem carouselref1_size.calls (a0 : Int) (r : Int) (w : World) (h : carouselref1_size.f a0 = some r) :
  Calls Try.prog 79 #[.int .i64 a0] w fun e w' => e = .returned (.int .u64 r) ∧ Drawn0 w w' := by
 have H : (if a0 < 0 then (some (IntKind.u64.wrap ((IntKind.u64.wrap (wrap64 (-(wrap64 (a0 + 1))))) + 1))) else (some (IntKind.u64.wrap (a0)))) = some r := h
 clear h
 by_cases c2 : a0 < 0
 ·rw [if_pos c2] at H
  have c2b0 : decide (a0 < 0) = true := decide_eq_true c2
  clear c2
  obtain rfl := Option.some.inj H
  go_enter Try.func79, Try.ntmps79
  go_wp2
  go_ret
  exact ⟨by first | rfl | (simp; done) | (simp [*]; done), by repeat (first | exact Drawn0.refl _ | apply Drawn0.step)⟩
 ·rw [if_neg c2] at H
  have c2b0 : decide (a0 < 0) = false := decide_eq_false c2
  clear c2
  obtain rfl := Option.some.inj H
  go_enter Try.func79, Try.ntmps79
  go_wp2
  go_ret
  exact ⟨by first | rfl | (simp; done) | (simp [*]; done), by repeat (first | exact Drawn0.refl _ | apply Drawn0.step)⟩

end Go.Proofs.Ytbdhabpplidgfaa.PTensEach
