/- The functions that the law FixKnown reaches, as Lean functions, and that each call of the Go function does what its Lean function says, wherever that one answers. Written by a program of mine over the print of the kit; Lean checks it. -/
import Derived.Test.YtjiloachlemlcaaDoorPFixKnownx0
import Derived.Test.YtjiloachlemlcaaDoorPFixKnownx3
namespace Go.Proofs.YtjiloachlemlcaaDoor.PFixKnown
open Go.RowKit Go.Proofs.YtjiloachlemlcaaDoorW.PrintWords Go.Proofs.YtjiloachlemlcaaDoorW.PrintLast Go.Proofs.YtjiloachlemlcaaDoorW.PrintMore
attribute [local go_sem] max2_int min2_int max_two min_two max_three min_three max_four min_four   -- for this text's walks alone
set_option linter.unusedVariables false
set_option linter.unusedSimpArgs false

/-! ### strings_Repeat: function 35 -/
mutual
def strings_Repeat.j0 : Nat → ByteArray → Int → Bool → Option (ByteArray)
 | 0, _, _, _ => none
 | k + 1, x0, x6, x34 => if x34 = true then (none) else (if (x0.size : Int) = 0 then (some (⟨#[]⟩ : ByteArray)) else (if 0 < (x0.size : Int) then (if (bt x0 0) = 32 then (strings_Repeat.j1 k x0 (wrap64 (x6)) ((bt x0 0) == 32)) else (if (bt x0 0) = 45 then (strings_Repeat.j1 k x0 (wrap64 (x6)) ((bt x0 0) == 45)) else (if (bt x0 0) = 48 then (strings_Repeat.j1 k x0 (wrap64 (x6)) ((bt x0 0) == 48)) else (if (bt x0 0) = 61 then (strings_Repeat.j1 k x0 (wrap64 (x6)) ((bt x0 0) == 61)) else (strings_Repeat.j1 k x0 (wrap64 (x6)) ((bt x0 0) == 9)))))) else (none)))
def strings_Repeat.j6 : Nat → Option (ByteArray)
 | 0 => none
 | k + 1 => none
def strings_Repeat.j1 : Nat → ByteArray → Int → Bool → Option (ByteArray)
 | 0, _, _, _ => none
 | k + 1, x0, x7, x43 => if x43 = true then (if x7 ≤ 128 then ((strings_HasPrefix.f (⟨#[32, 32, 32, 32, 32, 32, 32, 32, 32, 32, 32, 32, 32, 32, 32, 32, 32, 32, 32, 32, 32, 32, 32, 32, 32, 32, 32, 32, 32, 32, 32, 32, 32, 32, 32, 32, 32, 32, 32, 32, 32, 32, 32, 32, 32, 32, 32, 32, 32, 32, 32, 32, 32, 32, 32, 32, 32, 32, 32, 32, 32, 32, 32, 32, 32, 32, 32, 32, 32, 32, 32, 32, 32, 32, 32, 32, 32, 32, 32, 32, 32, 32, 32, 32, 32, 32, 32, 32, 32, 32, 32, 32, 32, 32, 32, 32, 32, 32, 32, 32, 32, 32, 32, 32, 32, 32, 32, 32, 32, 32, 32, 32, 32, 32, 32, 32, 32, 32, 32, 32, 32, 32, 32, 32, 32, 32, 32, 32]⟩ : ByteArray) x0).bind fun t125 => (strings_Repeat.j2 k x0 x7 t125)) else (strings_Repeat.j2 k x0 x7 false)) else (strings_Repeat.j6 k)
def strings_Repeat.j2 : Nat → ByteArray → Int → Bool → Option (ByteArray)
 | 0, _, _, _ => none
 | k + 1, x0, x7, x49 => if x49 = true then (none) else (if x7 ≤ 128 then ((strings_HasPrefix.f (⟨#[45, 45, 45, 45, 45, 45, 45, 45, 45, 45, 45, 45, 45, 45, 45, 45, 45, 45, 45, 45, 45, 45, 45, 45, 45, 45, 45, 45, 45, 45, 45, 45, 45, 45, 45, 45, 45, 45, 45, 45, 45, 45, 45, 45, 45, 45, 45, 45, 45, 45, 45, 45, 45, 45, 45, 45, 45, 45, 45, 45, 45, 45, 45, 45, 45, 45, 45, 45, 45, 45, 45, 45, 45, 45, 45, 45, 45, 45, 45, 45, 45, 45, 45, 45, 45, 45, 45, 45, 45, 45, 45, 45, 45, 45, 45, 45, 45, 45, 45, 45, 45, 45, 45, 45, 45, 45, 45, 45, 45, 45, 45, 45, 45, 45, 45, 45, 45, 45, 45, 45, 45, 45, 45, 45, 45, 45, 45, 45]⟩ : ByteArray) x0).bind fun t126 => (strings_Repeat.j3 k x0 x7 t126)) else (strings_Repeat.j3 k x0 x7 false))
def strings_Repeat.j3 : Nat → ByteArray → Int → Bool → Option (ByteArray)
 | 0, _, _, _ => none
 | k + 1, x0, x7, x58 => if x58 = true then (none) else (if x7 ≤ 64 then ((strings_HasPrefix.f (⟨#[48, 48, 48, 48, 48, 48, 48, 48, 48, 48, 48, 48, 48, 48, 48, 48, 48, 48, 48, 48, 48, 48, 48, 48, 48, 48, 48, 48, 48, 48, 48, 48, 48, 48, 48, 48, 48, 48, 48, 48, 48, 48, 48, 48, 48, 48, 48, 48, 48, 48, 48, 48, 48, 48, 48, 48, 48, 48, 48, 48, 48, 48, 48, 48]⟩ : ByteArray) x0).bind fun t127 => (strings_Repeat.j4 k x0 x7 t127)) else (strings_Repeat.j4 k x0 x7 false))
def strings_Repeat.j4 : Nat → ByteArray → Int → Bool → Option (ByteArray)
 | 0, _, _, _ => none
 | k + 1, x0, x7, x67 => if x67 = true then (if 0 ≤ x7 then (if x7 ≤ 64 then (some ((⟨#[48, 48, 48, 48, 48, 48, 48, 48, 48, 48, 48, 48, 48, 48, 48, 48, 48, 48, 48, 48, 48, 48, 48, 48, 48, 48, 48, 48, 48, 48, 48, 48, 48, 48, 48, 48, 48, 48, 48, 48, 48, 48, 48, 48, 48, 48, 48, 48, 48, 48, 48, 48, 48, 48, 48, 48, 48, 48, 48, 48, 48, 48, 48, 48]⟩ : ByteArray).extract 0 (x7 : Int).toNat)) else (none)) else (none)) else (if x7 ≤ 128 then ((strings_HasPrefix.f (⟨#[61, 61, 61, 61, 61, 61, 61, 61, 61, 61, 61, 61, 61, 61, 61, 61, 61, 61, 61, 61, 61, 61, 61, 61, 61, 61, 61, 61, 61, 61, 61, 61, 61, 61, 61, 61, 61, 61, 61, 61, 61, 61, 61, 61, 61, 61, 61, 61, 61, 61, 61, 61, 61, 61, 61, 61, 61, 61, 61, 61, 61, 61, 61, 61, 61, 61, 61, 61, 61, 61, 61, 61, 61, 61, 61, 61, 61, 61, 61, 61, 61, 61, 61, 61, 61, 61, 61, 61, 61, 61, 61, 61, 61, 61, 61, 61, 61, 61, 61, 61, 61, 61, 61, 61, 61, 61, 61, 61, 61, 61, 61, 61, 61, 61, 61, 61, 61, 61, 61, 61, 61, 61, 61, 61, 61, 61, 61, 61]⟩ : ByteArray) x0).bind fun t128 => (strings_Repeat.j5 k x0 x7 t128)) else (strings_Repeat.j5 k x0 x7 false))
def strings_Repeat.j5 : Nat → ByteArray → Int → Bool → Option (ByteArray)
 | 0, _, _, _ => none
 | k + 1, x0, x7, x76 => if x76 = true then (none) else (if x7 ≤ 64 then ((strings_HasPrefix.f (⟨#[9, 9, 9, 9, 9, 9, 9, 9, 9, 9, 9, 9, 9, 9, 9, 9, 9, 9, 9, 9, 9, 9, 9, 9, 9, 9, 9, 9, 9, 9, 9, 9, 9, 9, 9, 9, 9, 9, 9, 9, 9, 9, 9, 9, 9, 9, 9, 9, 9, 9, 9, 9, 9, 9, 9, 9, 9, 9, 9, 9, 9, 9, 9, 9]⟩ : ByteArray) x0).bind fun t129 => (if t129 = true then (none) else (strings_Repeat.j6 k))) else (strings_Repeat.j6 k))
end
def strings_Repeat.f (k : Nat) (a0 : ByteArray) (a1 : Int) : Option (ByteArray) := if a1 = 0 then (some (⟨#[]⟩ : ByteArray)) else (if a1 = 1 then (some a0) else (if a1 < 0 then (none) else ((bits_Mul.f (IntKind.u64.wrap ((a0.size : Int))) (IntKind.u64.wrap (a1))).bind fun bt123 => (if bt123.1 > 0 then (strings_Repeat.j0 k a0 bt123.2 true) else (strings_Repeat.j0 k a0 bt123.2 (decide (bt123.2 > 9223372036854775807)))))))
theorem strings_Repeat.mono_l : ∀ k, (∀ y0 y1 y2, LeO (strings_Repeat.j0 k y0 y1 y2) (strings_Repeat.j0 (k + 1) y0 y1 y2)) ∧ (LeO (strings_Repeat.j6 k ) (strings_Repeat.j6 (k + 1) )) ∧ (∀ y0 y1 y2, LeO (strings_Repeat.j1 k y0 y1 y2) (strings_Repeat.j1 (k + 1) y0 y1 y2)) ∧ (∀ y0 y1 y2, LeO (strings_Repeat.j2 k y0 y1 y2) (strings_Repeat.j2 (k + 1) y0 y1 y2)) ∧ (∀ y0 y1 y2, LeO (strings_Repeat.j3 k y0 y1 y2) (strings_Repeat.j3 (k + 1) y0 y1 y2)) ∧ (∀ y0 y1 y2, LeO (strings_Repeat.j4 k y0 y1 y2) (strings_Repeat.j4 (k + 1) y0 y1 y2)) ∧ (∀ y0 y1 y2, LeO (strings_Repeat.j5 k y0 y1 y2) (strings_Repeat.j5 (k + 1) y0 y1 y2))
 | 0 => ⟨fun _ _ _ r h => by simp [strings_Repeat.j0] at h, fun r h => by simp [strings_Repeat.j6] at h, fun _ _ _ r h => by simp [strings_Repeat.j1] at h, fun _ _ _ r h => by simp [strings_Repeat.j2] at h, fun _ _ _ r h => by simp [strings_Repeat.j3] at h, fun _ _ _ r h => by simp [strings_Repeat.j4] at h, fun _ _ _ r h => by simp [strings_Repeat.j5] at h⟩
 | k + 1 => by
  obtain ⟨ih0, ih1, ih2, ih3, ih4, ih5, ih6⟩ := strings_Repeat.mono_l k
  refine ⟨?_, ?_, ?_, ?_, ?_, ?_, ?_⟩
  ·intro y0 y1 y2
   unfold strings_Repeat.j0
   repeat' first
   | (with_reducible exact ih0 _ _ _)
   | (with_reducible exact ih1)
   | (with_reducible exact ih2 _ _ _)
   | (with_reducible exact ih3 _ _ _)
   | (with_reducible exact ih4 _ _ _)
   | (with_reducible exact ih5 _ _ _)
   | (with_reducible exact ih6 _ _ _)
   | (with_reducible exact LeO.refl _)
   | (with_reducible exact LeO.none _)
   | (with_reducible refine LeO.ite ?_ ?_)
   | (with_reducible refine LeO.bind ?_ (fun _ => ?_))
   | exact ih0 _ _ _
   | exact ih1
   | exact ih2 _ _ _
   | exact ih3 _ _ _
   | exact ih4 _ _ _
   | exact ih5 _ _ _
   | exact ih6 _ _ _
   | exact LeO.none _
   | refine LeO.ite ?_ ?_
   | refine LeO.bind ?_ (fun _ => ?_)
  ·skip
   unfold strings_Repeat.j6
   repeat' first
   | (with_reducible exact ih0 _ _ _)
   | (with_reducible exact ih1)
   | (with_reducible exact ih2 _ _ _)
   | (with_reducible exact ih3 _ _ _)
   | (with_reducible exact ih4 _ _ _)
   | (with_reducible exact ih5 _ _ _)
   | (with_reducible exact ih6 _ _ _)
   | (with_reducible exact LeO.refl _)
   | (with_reducible exact LeO.none _)
   | (with_reducible refine LeO.ite ?_ ?_)
   | (with_reducible refine LeO.bind ?_ (fun _ => ?_))
   | exact ih0 _ _ _
   | exact ih1
   | exact ih2 _ _ _
   | exact ih3 _ _ _
   | exact ih4 _ _ _
   | exact ih5 _ _ _
   | exact ih6 _ _ _
   | exact LeO.none _
   | refine LeO.ite ?_ ?_
   | refine LeO.bind ?_ (fun _ => ?_)
  ·intro y0 y1 y2
   unfold strings_Repeat.j1
   repeat' first
   | (with_reducible exact ih0 _ _ _)
   | (with_reducible exact ih1)
   | (with_reducible exact ih2 _ _ _)
   | (with_reducible exact ih3 _ _ _)
   | (with_reducible exact ih4 _ _ _)
   | (with_reducible exact ih5 _ _ _)
   | (with_reducible exact ih6 _ _ _)
   | (with_reducible exact LeO.refl _)
   | (with_reducible exact LeO.none _)
   | (with_reducible refine LeO.ite ?_ ?_)
   | (with_reducible refine LeO.bind ?_ (fun _ => ?_))
   | exact ih0 _ _ _
   | exact ih1
   | exact ih2 _ _ _
   | exact ih3 _ _ _
   | exact ih4 _ _ _
   | exact ih5 _ _ _
   | exact ih6 _ _ _
   | exact LeO.none _
   | refine LeO.ite ?_ ?_
   | refine LeO.bind ?_ (fun _ => ?_)
  ·intro y0 y1 y2
   unfold strings_Repeat.j2
   repeat' first
   | (with_reducible exact ih0 _ _ _)
   | (with_reducible exact ih1)
   | (with_reducible exact ih2 _ _ _)
   | (with_reducible exact ih3 _ _ _)
   | (with_reducible exact ih4 _ _ _)
   | (with_reducible exact ih5 _ _ _)
   | (with_reducible exact ih6 _ _ _)
   | (with_reducible exact LeO.refl _)
   | (with_reducible exact LeO.none _)
   | (with_reducible refine LeO.ite ?_ ?_)
   | (with_reducible refine LeO.bind ?_ (fun _ => ?_))
   | exact ih0 _ _ _
   | exact ih1
   | exact ih2 _ _ _
   | exact ih3 _ _ _
   | exact ih4 _ _ _
   | exact ih5 _ _ _
   | exact ih6 _ _ _
   | exact LeO.none _
   | refine LeO.ite ?_ ?_
   | refine LeO.bind ?_ (fun _ => ?_)
  ·intro y0 y1 y2
   unfold strings_Repeat.j3
   repeat' first
   | (with_reducible exact ih0 _ _ _)
   | (with_reducible exact ih1)
   | (with_reducible exact ih2 _ _ _)
   | (with_reducible exact ih3 _ _ _)
   | (with_reducible exact ih4 _ _ _)
   | (with_reducible exact ih5 _ _ _)
   | (with_reducible exact ih6 _ _ _)
   | (with_reducible exact LeO.refl _)
   | (with_reducible exact LeO.none _)
   | (with_reducible refine LeO.ite ?_ ?_)
   | (with_reducible refine LeO.bind ?_ (fun _ => ?_))
   | exact ih0 _ _ _
   | exact ih1
   | exact ih2 _ _ _
   | exact ih3 _ _ _
   | exact ih4 _ _ _
   | exact ih5 _ _ _
   | exact ih6 _ _ _
   | exact LeO.none _
   | refine LeO.ite ?_ ?_
   | refine LeO.bind ?_ (fun _ => ?_)
  ·intro y0 y1 y2
   unfold strings_Repeat.j4
   repeat' first
   | (with_reducible exact ih0 _ _ _)
   | (with_reducible exact ih1)
   | (with_reducible exact ih2 _ _ _)
   | (with_reducible exact ih3 _ _ _)
   | (with_reducible exact ih4 _ _ _)
   | (with_reducible exact ih5 _ _ _)
   | (with_reducible exact ih6 _ _ _)
   | (with_reducible exact LeO.refl _)
   | (with_reducible exact LeO.none _)
   | (with_reducible refine LeO.ite ?_ ?_)
   | (with_reducible refine LeO.bind ?_ (fun _ => ?_))
   | exact ih0 _ _ _
   | exact ih1
   | exact ih2 _ _ _
   | exact ih3 _ _ _
   | exact ih4 _ _ _
   | exact ih5 _ _ _
   | exact ih6 _ _ _
   | exact LeO.none _
   | refine LeO.ite ?_ ?_
   | refine LeO.bind ?_ (fun _ => ?_)
  ·intro y0 y1 y2
   unfold strings_Repeat.j5
   repeat' first
   | (with_reducible exact ih0 _ _ _)
   | (with_reducible exact ih1)
   | (with_reducible exact ih2 _ _ _)
   | (with_reducible exact ih3 _ _ _)
   | (with_reducible exact ih4 _ _ _)
   | (with_reducible exact ih5 _ _ _)
   | (with_reducible exact ih6 _ _ _)
   | (with_reducible exact LeO.refl _)
   | (with_reducible exact LeO.none _)
   | (with_reducible refine LeO.ite ?_ ?_)
   | (with_reducible refine LeO.bind ?_ (fun _ => ?_))
   | exact ih0 _ _ _
   | exact ih1
   | exact ih2 _ _ _
   | exact ih3 _ _ _
   | exact ih4 _ _ _
   | exact ih5 _ _ _
   | exact ih6 _ _ _
   | exact LeO.none _
   | refine LeO.ite ?_ ?_
   | refine LeO.bind ?_ (fun _ => ?_)
theorem strings_Repeat.mono : ∀ a0 a1 k, LeO (strings_Repeat.f k a0 a1) (strings_Repeat.f (k + 1) a0 a1) := by
 intro a0 a1 k
 obtain ⟨ih0, ih1, ih2, ih3, ih4, ih5, ih6⟩ := strings_Repeat.mono_l k
 unfold strings_Repeat.f
 repeat' first
   | (with_reducible exact ih0 _ _ _)
   | (with_reducible exact ih1)
   | (with_reducible exact ih2 _ _ _)
   | (with_reducible exact ih3 _ _ _)
   | (with_reducible exact ih4 _ _ _)
   | (with_reducible exact ih5 _ _ _)
   | (with_reducible exact ih6 _ _ _)
   | (with_reducible exact LeO.refl _)
   | (with_reducible exact LeO.none _)
   | (with_reducible refine LeO.ite ?_ ?_)
   | (with_reducible refine LeO.bind ?_ (fun _ => ?_))
   | exact ih0 _ _ _
   | exact ih1
   | exact ih2 _ _ _
   | exact ih3 _ _ _
   | exact ih4 _ _ _
   | exact ih5 _ _ _
   | exact ih6 _ _ _
   | exact LeO.none _
   | refine LeO.ite ?_ ?_
   | refine LeO.bind ?_ (fun _ => ?_)
set_option maxHeartbeats 8000000 in
set_option maxRecDepth 100000 in
theorem strings_Repeat.calls (k : Nat) (a0 : ByteArray) (a1 : Int) (r : ByteArray) (w : World) (h : strings_Repeat.f k a0 a1 = some r) :
  Calls Tryd.prog 35 #[.string a0, .int .i64 a1] w fun e w' => e = .returned (.string r) ∧ Below w.heap.size w w' := by
 have HB := Aside0.mk (Below.refl w.heap.size w)
 have H : (if a1 = 0 then (some (⟨#[]⟩ : ByteArray)) else (if a1 = 1 then (some a0) else (if a1 < 0 then (none) else ((bits_Mul.f (IntKind.u64.wrap ((a0.size : Int))) (IntKind.u64.wrap (a1))).bind fun bt123 => (if bt123.1 > 0 then (strings_Repeat.j0 k a0 bt123.2 true) else (strings_Repeat.j0 k a0 bt123.2 (decide (bt123.2 > 9223372036854775807)))))))) = some r := h
 clear h
 by_cases c3 : a1 = 0
 ·rw [if_pos c3] at H
  have c3b0 : (a1 == 0) = true := beq_iff_eq.mpr c3
  have c3b1 : (a1 != 0) = false := bne_eq_false_iff_eq.mpr c3
  clear c3
  obtain rfl := Option.some.inj H
  go_enter Tryd.func35, Tryd.ntmps35
  go_wp2
  go_ret
  exact ⟨z0_, zw0_ HB⟩
 rw [if_neg c3] at H
 have c3b0 : (a1 == 0) = false := beq_eq_false_iff_ne.mpr c3
 have c3b1 : (a1 != 0) = true := bne_iff_ne.mpr c3
 by_cases c4 : a1 = 1
 ·rw [if_pos c4] at H
  have c4b0 : (a1 == 1) = true := beq_iff_eq.mpr c4
  have c4b1 : (a1 != 1) = false := bne_eq_false_iff_eq.mpr c4
  clear c4
  obtain rfl := Option.some.inj H
  go_enter Tryd.func35, Tryd.ntmps35
  go_wp2
  go_ret
  exact ⟨z0_, zw0_ HB⟩
 rw [if_neg c4] at H
 have c4b0 : (a1 == 1) = false := beq_eq_false_iff_ne.mpr c4
 have c4b1 : (a1 != 1) = true := bne_iff_ne.mpr c4
 by_cases c5 : a1 < 0
 ·rw [if_pos c5] at H
  exact absurd H (by simp)
 rw [if_neg c5] at H
 have c5b0 : decide (a1 < 0) = false := decide_eq_false c5
 clear c5
 replace H := Option.bind_eq_some_iff.mp H
 obtain ⟨⟨t123, t124⟩, A60, H⟩ := H
 replace H : (if t123 > 0 then (strings_Repeat.j0 k a0 t124 true) else (strings_Repeat.j0 k a0 t124 (decide (t124 > 9223372036854775807)))) = some r := H
 have A6 := Aside0.mk A60
 clear A60
 have HC7 := Aside0.mk H
 clear H
 go_enter Tryd.func35, Tryd.ntmps35
 go_upto_region 9 with (first | ((with_reducible refine gate_callee (f := 49) rfl ?_); refine zg_ (some 26) Tryd.func49 #[.int .u64 (IntKind.u64.wrap ((a0.size : Int))), .int .u64 (IntKind.u64.wrap (a1))] (h := ?_); (with_reducible refine (bits_Mul.calls (IntKind.u64.wrap ((a0.size : Int))) (IntKind.u64.wrap (a1)) t123 t124 _ A6.out).mono ?_); rintro e w' ⟨rfl, ⟨nd, rfl⟩⟩; refine ⟨_, rfl, ?_⟩))
 (try simp only [Act.put, List.setIfInBounds_toArray, List.set_cons_zero, List.set_cons_succ])
 go_cut [34] (fun v34 wc => ∃ (kq : Nat) (x34_6 : Bool), v34 = .bool x34_6 ∧ Aside0 (strings_Repeat.j0 kq a0 t124 x34_6 = some r) ∧ Aside0 (kq ≤ k) ∧ Aside0 (Below w.heap.size w wc))
 case first =>
  have H := HC7.out
  clear HC7
  by_cases c8 : t123 > 0
  ·rw [if_pos c8] at H
   have c8b0 : decide (0 < t123) = true := decide_eq_true c8
   clear c8
   (first | rw [c8b0] | (simp only [i64_w, i32_w]; rw [c8b0]) | skip)
   have H' := Aside0.mk H
   clear H
   go_wp2
   go_meet
   case rel => exact ⟨_, (true), z1_, H', ⟨by first | omega | exact Nat.le_refl _⟩, ⟨zw0_ HB⟩⟩
  rw [if_neg c8] at H
  have c8b0 : decide (0 < t123) = false := decide_eq_false c8
  clear c8
  (first | rw [c8b0] | (simp only [i64_w, i32_w]; rw [c8b0]) | skip)
  have H' := Aside0.mk H
  clear H
  go_wp2
  go_meet
  case rel => exact ⟨_, (decide (t124 > 9223372036854775807)), z1_, H', ⟨by first | omega | exact Nat.le_refl _⟩, ⟨zw0_ HB⟩⟩
 case rest =>
  clear HC7
  try clear p2
  try clear c3
  try clear c3b0
  try clear c3b1
  try clear c4
  try clear c4b0
  try clear c4b1
  try clear c5
  try clear c5b0
  try clear c8
  try clear c8b0
  obtain ⟨kq, x34_6, rfl, HA, HJ6, HB⟩ := hcut
  cases kq with
  | zero => exact absurd HA.out (by simp [strings_Repeat.j0])
  | succ kj6 =>
   have H := HA.out
   clear HA
   simp only [strings_Repeat.j0] at H
   by_cases c9 : x34_6 = true
   ·subst c9
    have H1 : (none) = some r := by rw [if_pos rfl] at H; exact H
    clear H
    have H := H1
    clear H1
    exact absurd H (by simp)
   replace c9 := Bool.eq_false_iff.mpr c9
   subst c9
   have H1 := H
   rw [if_neg (show ¬ (false = true) by decide)] at H1
   clear H
   have H := H1
   clear H1
   by_cases c10 : (a0.size : Int) = 0
   ·rw [if_pos c10] at H
    have c10b0 : ((a0.size : Int) == 0) = true := beq_iff_eq.mpr c10
    have c10b1 : ((a0.size : Int) != 0) = false := bne_eq_false_iff_eq.mpr c10
    clear c10
    obtain rfl := Option.some.inj H
    go_wp2
    go_ret
    exact ⟨z0_, zw0_ HB⟩
   rw [if_neg c10] at H
   have c10b0 : ((a0.size : Int) == 0) = false := beq_eq_false_iff_ne.mpr c10
   have c10b1 : ((a0.size : Int) != 0) = true := bne_iff_ne.mpr c10
   by_cases c11 : 0 < (a0.size : Int)
   rotate_left
   ·rw [if_neg c11] at H
    exact absurd H (by simp)
   rw [if_pos c11] at H
   have c11b0 : decide (0 < (a0.size : Int)) = true := decide_eq_true c11
   have c11b1 : decide (0 < a0.size) = true := decide_eq_true (by omega)
   clear c11
   have HC13 := Aside0.mk H
   clear H
   have p12 : 0 ≤ (0 : Int) := (by omega)
   have q12 : 0 < a0.size := (by have : (0 : Int) < (a0.size : Int) := of_decide_eq_true (by first | (with_reducible assumption) | assumption); omega)
   have hx12 : ∀ h : 0 < a0.size, ((a0[0]'h).toNat : Int) = bt a0 0 := bt_at a0 0
   clear p12
   have qi12 : (0 < (a0.size : Int)) = True := eq_true (of_decide_eq_true (by first | (with_reducible assumption) | assumption))
   replace q12 := eq_true q12
   go_upto_block 1 with (fail)
   go_cut [] (fun wc => ∃ (kq : Nat), Aside0 (strings_Repeat.j6 kq  = some r) ∧ Aside0 (kq ≤ kj6) ∧ Aside0 (Below w.heap.size w wc))
   case first =>
    have H := HC13.out
    clear HC13
    have HC14 := Aside0.mk H
    clear H
    go_upto_if 43 with (fail)
    go_cut [43] (fun v43 wc => ∃ (kq : Nat) (x43_13 : Bool), v43 = .bool x43_13 ∧ Aside0 (strings_Repeat.j1 kq a0 (wrap64 (t124)) x43_13 = some r) ∧ Aside0 (kq ≤ kj6) ∧ Aside0 (Below w.heap.size w wc))
    case first =>
     have H := HC14.out
     clear HC14
     by_cases c15 : (bt a0 0) = 32
     ·rw [if_pos c15] at H
      have c15b0 : ((bt a0 0) == 32) = true := beq_iff_eq.mpr c15
      have c15b1 : ((bt a0 0) != 32) = false := bne_eq_false_iff_eq.mpr c15
      clear c15
      (first | rw [c15b0] | (simp only [i64_w, i32_w]; rw [c15b0]) | skip)
      have H' := Aside0.mk H
      clear H
      go_wp2
      go_meet
      case rel => exact ⟨_, (((bt a0 0) == 32)), z1_, H', ⟨by have := HJ6.out; first | omega | exact Nat.le_refl _⟩, ⟨zw0_ HB⟩⟩
     rw [if_neg c15] at H
     have c15b0 : ((bt a0 0) == 32) = false := beq_eq_false_iff_ne.mpr c15
     have c15b1 : ((bt a0 0) != 32) = true := bne_iff_ne.mpr c15
     (first | rw [c15b0] | (simp only [i64_w, i32_w]; rw [c15b0]) | skip)
     by_cases c16 : (bt a0 0) = 45
     ·rw [if_pos c16] at H
      have c16b0 : ((bt a0 0) == 45) = true := beq_iff_eq.mpr c16
      have c16b1 : ((bt a0 0) != 45) = false := bne_eq_false_iff_eq.mpr c16
      clear c16
      have H' := Aside0.mk H
      clear H
      go_wp2
      go_meet
      case rel => exact ⟨_, (((bt a0 0) == 45)), z1_, H', ⟨by have := HJ6.out; first | omega | exact Nat.le_refl _⟩, ⟨zw0_ HB⟩⟩
     rw [if_neg c16] at H
     have c16b0 : ((bt a0 0) == 45) = false := beq_eq_false_iff_ne.mpr c16
     have c16b1 : ((bt a0 0) != 45) = true := bne_iff_ne.mpr c16
     by_cases c17 : (bt a0 0) = 48
     ·rw [if_pos c17] at H
      have c17b0 : ((bt a0 0) == 48) = true := beq_iff_eq.mpr c17
      have c17b1 : ((bt a0 0) != 48) = false := bne_eq_false_iff_eq.mpr c17
      clear c17
      have H' := Aside0.mk H
      clear H
      go_wp2
      go_meet
      case rel => exact ⟨_, (((bt a0 0) == 48)), z1_, H', ⟨by have := HJ6.out; first | omega | exact Nat.le_refl _⟩, ⟨zw0_ HB⟩⟩
     rw [if_neg c17] at H
     have c17b0 : ((bt a0 0) == 48) = false := beq_eq_false_iff_ne.mpr c17
     have c17b1 : ((bt a0 0) != 48) = true := bne_iff_ne.mpr c17
     by_cases c18 : (bt a0 0) = 61
     rotate_left
     ·rw [if_neg c18] at H
      have c18b0 : ((bt a0 0) == 61) = false := beq_eq_false_iff_ne.mpr c18
      have c18b1 : ((bt a0 0) != 61) = true := bne_iff_ne.mpr c18
      have H' := Aside0.mk H
      clear H
      go_wp2
      go_meet
      case rel => exact ⟨_, (((bt a0 0) == 9)), z1_, H', ⟨by have := HJ6.out; first | omega | exact Nat.le_refl _⟩, ⟨zw0_ HB⟩⟩
     rw [if_pos c18] at H
     have c18b0 : ((bt a0 0) == 61) = true := beq_iff_eq.mpr c18
     have c18b1 : ((bt a0 0) != 61) = false := bne_eq_false_iff_eq.mpr c18
     clear c18
     have H' := Aside0.mk H
     clear H
     go_wp2
     go_meet
     case rel => exact ⟨_, (((bt a0 0) == 61)), z1_, H', ⟨by have := HJ6.out; first | omega | exact Nat.le_refl _⟩, ⟨zw0_ HB⟩⟩
    case rest =>
     clear HC14
     try clear c1
     try clear p1
     try clear q1
     try clear hx1
     try clear qi1
     try clear p2
     try clear c3
     try clear c3b0
     try clear c3b1
     try clear c4
     try clear c4b0
     try clear c4b1
     try clear c5
     try clear c5b0
     try clear p6
     try clear c8
     try clear c8b0
     try clear c9
     try clear c10
     try clear c10b0
     try clear c10b1
     try clear c11
     try clear c11b0
     try clear c11b1
     try clear p12
     try clear q12
     try clear hx12
     try clear qi12
     try clear c15
     try clear c15b0
     try clear c15b1
     try clear c16
     try clear c16b0
     try clear c16b1
     try clear c17
     try clear c17b0
     try clear c17b1
     try clear c18
     try clear c18b0
     try clear c18b1
     try clear p12
     try clear p2
     try clear q12
     obtain ⟨kq, x43_13, rfl, HA, HJ13, HB⟩ := hcut
     cases kq with
     | zero => exact absurd HA.out (by simp [strings_Repeat.j1])
     | succ kj13 =>
      have H := HA.out
      clear HA
      simp only [strings_Repeat.j1] at H
      by_cases c19 : x43_13 = true
      rotate_left
      ·replace c19 := Bool.eq_false_iff.mpr c19
       subst c19
       have H1 : (strings_Repeat.j6 kj13) = some r := by rw [if_neg (show ¬ (false = true) by decide)] at H; exact H
       clear H
       have H := H1
       clear H1
       have H' := Aside0.mk H
       clear H
       go_wp2
       go_meet
       case rel => exact ⟨_, H', ⟨by have := HJ6.out; have := HJ13.out; first | omega | exact Nat.le_refl _⟩, ⟨zw0_ HB⟩⟩
      subst c19
      have H1 := H
      rw [if_pos rfl] at H1
      clear H
      have H := H1
      clear H1
      have HC20 := Aside0.mk H
      clear H
      go_upto_region 20 with (fail)
      go_cut [49] (fun v49 wc => ∃ (kq : Nat) (x49_19 : Bool), v49 = .bool x49_19 ∧ Aside0 (strings_Repeat.j2 kq a0 (wrap64 (t124)) x49_19 = some r) ∧ Aside0 (kq ≤ kj13) ∧ Aside0 (Below w.heap.size w wc))
      case first =>
       have H := HC20.out
       clear HC20
       by_cases c21 : (wrap64 (t124)) ≤ 128
       rotate_left
       ·rw [if_neg c21] at H
        have c21b0 : decide ((wrap64 (t124)) ≤ 128) = false := decide_eq_false c21
        clear c21
        (first | rw [c21b0] | (simp only [i64_w, i32_w]; rw [c21b0]) | skip)
        have H' := Aside0.mk H
        clear H
        go_wp2
        go_meet
        case rel => exact ⟨_, (false), z1_, H', ⟨by have := HJ6.out; have := HJ13.out; first | omega | exact Nat.le_refl _⟩, ⟨zw0_ HB⟩⟩
       rw [if_pos c21] at H
       have c21b0 : decide ((wrap64 (t124)) ≤ 128) = true := decide_eq_true c21
       clear c21
       (first | rw [c21b0] | (simp only [i64_w, i32_w]; rw [c21b0]) | skip)
       replace H := Option.bind_eq_some_iff.mp H
       obtain ⟨t125, A220, H⟩ := H
       replace H : (strings_Repeat.j2 kj13 a0 (wrap64 (t124)) t125) = some r := H
       have A22 := Aside0.mk A220
       clear A220
       have H' := Aside0.mk H
       clear H
       go_wp2_with (first | (go_at_call 50; (with_reducible refine (strings_HasPrefix.calls (⟨#[32, 32, 32, 32, 32, 32, 32, 32, 32, 32, 32, 32, 32, 32, 32, 32, 32, 32, 32, 32, 32, 32, 32, 32, 32, 32, 32, 32, 32, 32, 32, 32, 32, 32, 32, 32, 32, 32, 32, 32, 32, 32, 32, 32, 32, 32, 32, 32, 32, 32, 32, 32, 32, 32, 32, 32, 32, 32, 32, 32, 32, 32, 32, 32, 32, 32, 32, 32, 32, 32, 32, 32, 32, 32, 32, 32, 32, 32, 32, 32, 32, 32, 32, 32, 32, 32, 32, 32, 32, 32, 32, 32, 32, 32, 32, 32, 32, 32, 32, 32, 32, 32, 32, 32, 32, 32, 32, 32, 32, 32, 32, 32, 32, 32, 32, 32, 32, 32, 32, 32, 32, 32, 32, 32, 32, 32, 32, 32]⟩ : ByteArray) a0 t125 _ A22.out).mono ?_); rintro e w' ⟨rfl, ⟨nd, rfl⟩⟩))
       go_meet
       case rel => exact ⟨_, (t125), z1_, H', ⟨by have := HJ6.out; have := HJ13.out; first | omega | exact Nat.le_refl _⟩, ⟨zw0_ HB⟩⟩
      case rest =>
       clear HC20
       try clear c1
       try clear p1
       try clear q1
       try clear hx1
       try clear qi1
       try clear c2
       try clear p2
       try clear c3
       try clear c3b0
       try clear c3b1
       try clear c4
       try clear c4b0
       try clear c4b1
       try clear c5
       try clear c5b0
       try clear p6
       try clear c8
       try clear c8b0
       try clear c9
       try clear c10
       try clear c10b0
       try clear c10b1
       try clear c11
       try clear c11b0
       try clear c11b1
       try clear p12
       try clear q12
       try clear hx12
       try clear qi12
       try clear c15
       try clear c15b0
       try clear c15b1
       try clear c16
       try clear c16b0
       try clear c16b1
       try clear c17
       try clear c17b0
       try clear c17b1
       try clear c18
       try clear c18b0
       try clear c18b1
       try clear c19
       try clear c21
       try clear c21b0
       try clear p1
       try clear p12
       try clear p2
       try clear p6
       try clear q1
       try clear q12
       obtain ⟨kq, x49_19, rfl, HA, HJ19, HB⟩ := hcut
       cases kq with
       | zero => exact absurd HA.out (by simp [strings_Repeat.j2])
       | succ kj19 =>
        have H := HA.out
        clear HA
        simp only [strings_Repeat.j2] at H
        by_cases c23 : x49_19 = true
        ·subst c23
         have H1 : (none) = some r := by rw [if_pos rfl] at H; exact H
         clear H
         have H := H1
         clear H1
         exact absurd H (by simp)
        replace c23 := Bool.eq_false_iff.mpr c23
        subst c23
        have H1 := H
        rw [if_neg (show ¬ (false = true) by decide)] at H1
        clear H
        have H := H1
        clear H1
        have HC24 := Aside0.mk H
        clear H
        go_upto_region 22 with (fail)
        go_cut [58] (fun v58 wc => ∃ (kq : Nat) (x58_23 : Bool), v58 = .bool x58_23 ∧ Aside0 (strings_Repeat.j3 kq a0 (wrap64 (t124)) x58_23 = some r) ∧ Aside0 (kq ≤ kj19) ∧ Aside0 (Below w.heap.size w wc))
        case first =>
         have H := HC24.out
         clear HC24
         by_cases c25 : (wrap64 (t124)) ≤ 128
         rotate_left
         ·rw [if_neg c25] at H
          have c25b0 : decide ((wrap64 (t124)) ≤ 128) = false := decide_eq_false c25
          clear c25
          (first | rw [c25b0] | (simp only [i64_w, i32_w]; rw [c25b0]) | skip)
          have H' := Aside0.mk H
          clear H
          go_wp2
          go_meet
          case rel => exact ⟨_, (false), z1_, H', ⟨by have := HJ6.out; have := HJ13.out; have := HJ19.out; first | omega | exact Nat.le_refl _⟩, ⟨zw0_ HB⟩⟩
         rw [if_pos c25] at H
         have c25b0 : decide ((wrap64 (t124)) ≤ 128) = true := decide_eq_true c25
         clear c25
         (first | rw [c25b0] | (simp only [i64_w, i32_w]; rw [c25b0]) | skip)
         replace H := Option.bind_eq_some_iff.mp H
         obtain ⟨t126, A260, H⟩ := H
         replace H : (strings_Repeat.j3 kj19 a0 (wrap64 (t124)) t126) = some r := H
         have A26 := Aside0.mk A260
         clear A260
         have H' := Aside0.mk H
         clear H
         go_wp2_with (first | (go_at_call 50; (with_reducible refine (strings_HasPrefix.calls (⟨#[45, 45, 45, 45, 45, 45, 45, 45, 45, 45, 45, 45, 45, 45, 45, 45, 45, 45, 45, 45, 45, 45, 45, 45, 45, 45, 45, 45, 45, 45, 45, 45, 45, 45, 45, 45, 45, 45, 45, 45, 45, 45, 45, 45, 45, 45, 45, 45, 45, 45, 45, 45, 45, 45, 45, 45, 45, 45, 45, 45, 45, 45, 45, 45, 45, 45, 45, 45, 45, 45, 45, 45, 45, 45, 45, 45, 45, 45, 45, 45, 45, 45, 45, 45, 45, 45, 45, 45, 45, 45, 45, 45, 45, 45, 45, 45, 45, 45, 45, 45, 45, 45, 45, 45, 45, 45, 45, 45, 45, 45, 45, 45, 45, 45, 45, 45, 45, 45, 45, 45, 45, 45, 45, 45, 45, 45, 45, 45]⟩ : ByteArray) a0 t126 _ A26.out).mono ?_); rintro e w' ⟨rfl, ⟨nd, rfl⟩⟩))
         go_meet
         case rel => exact ⟨_, (t126), z1_, H', ⟨by have := HJ6.out; have := HJ13.out; have := HJ19.out; first | omega | exact Nat.le_refl _⟩, ⟨zw0_ HB⟩⟩
        case rest =>
         clear HC24
         try clear c1
         try clear p1
         try clear q1
         try clear hx1
         try clear qi1
         try clear c2
         try clear p2
         try clear c3
         try clear c3b0
         try clear c3b1
         try clear c4
         try clear c4b0
         try clear c4b1
         try clear c5
         try clear c5b0
         try clear p6
         try clear c8
         try clear c8b0
         try clear c9
         try clear c10
         try clear c10b0
         try clear c10b1
         try clear c11
         try clear c11b0
         try clear c11b1
         try clear p12
         try clear q12
         try clear hx12
         try clear qi12
         try clear c15
         try clear c15b0
         try clear c15b1
         try clear c16
         try clear c16b0
         try clear c16b1
         try clear c17
         try clear c17b0
         try clear c17b1
         try clear c18
         try clear c18b0
         try clear c18b1
         try clear c19
         try clear c21
         try clear c21b0
         try clear c23
         try clear c25
         try clear c25b0
         try clear p1
         try clear p12
         try clear p2
         try clear p6
         try clear q1
         try clear q12
         obtain ⟨kq, x58_23, rfl, HA, HJ23, HB⟩ := hcut
         cases kq with
         | zero => exact absurd HA.out (by simp [strings_Repeat.j3])
         | succ kj23 =>
          have H := HA.out
          clear HA
          simp only [strings_Repeat.j3] at H
          by_cases c27 : x58_23 = true
          ·subst c27
           have H1 : (none) = some r := by rw [if_pos rfl] at H; exact H
           clear H
           have H := H1
           clear H1
           exact absurd H (by simp)
          replace c27 := Bool.eq_false_iff.mpr c27
          subst c27
          have H1 := H
          rw [if_neg (show ¬ (false = true) by decide)] at H1
          clear H
          have H := H1
          clear H1
          have HC28 := Aside0.mk H
          clear H
          go_upto_region 24 with (fail)
          go_cut [67] (fun v67 wc => ∃ (kq : Nat) (x67_27 : Bool), v67 = .bool x67_27 ∧ Aside0 (strings_Repeat.j4 kq a0 (wrap64 (t124)) x67_27 = some r) ∧ Aside0 (kq ≤ kj23) ∧ Aside0 (Below w.heap.size w wc))
          case first =>
           have H := HC28.out
           clear HC28
           by_cases c29 : (wrap64 (t124)) ≤ 64
           rotate_left
           ·rw [if_neg c29] at H
            have c29b0 : decide ((wrap64 (t124)) ≤ 64) = false := decide_eq_false c29
            clear c29
            (first | rw [c29b0] | (simp only [i64_w, i32_w]; rw [c29b0]) | skip)
            have H' := Aside0.mk H
            clear H
            go_wp2
            go_meet
            case rel => exact ⟨_, (false), z1_, H', ⟨by have := HJ6.out; have := HJ13.out; have := HJ19.out; have := HJ23.out; first | omega | exact Nat.le_refl _⟩, ⟨zw0_ HB⟩⟩
           rw [if_pos c29] at H
           have c29b0 : decide ((wrap64 (t124)) ≤ 64) = true := decide_eq_true c29
           clear c29
           (first | rw [c29b0] | (simp only [i64_w, i32_w]; rw [c29b0]) | skip)
           replace H := Option.bind_eq_some_iff.mp H
           obtain ⟨t127, A300, H⟩ := H
           replace H : (strings_Repeat.j4 kj23 a0 (wrap64 (t124)) t127) = some r := H
           have A30 := Aside0.mk A300
           clear A300
           have H' := Aside0.mk H
           clear H
           go_wp2_with (first | (go_at_call 50; (with_reducible refine (strings_HasPrefix.calls (⟨#[48, 48, 48, 48, 48, 48, 48, 48, 48, 48, 48, 48, 48, 48, 48, 48, 48, 48, 48, 48, 48, 48, 48, 48, 48, 48, 48, 48, 48, 48, 48, 48, 48, 48, 48, 48, 48, 48, 48, 48, 48, 48, 48, 48, 48, 48, 48, 48, 48, 48, 48, 48, 48, 48, 48, 48, 48, 48, 48, 48, 48, 48, 48, 48]⟩ : ByteArray) a0 t127 _ A30.out).mono ?_); rintro e w' ⟨rfl, ⟨nd, rfl⟩⟩))
           go_meet
           case rel => exact ⟨_, (t127), z1_, H', ⟨by have := HJ6.out; have := HJ13.out; have := HJ19.out; have := HJ23.out; first | omega | exact Nat.le_refl _⟩, ⟨zw0_ HB⟩⟩
          case rest =>
           clear HC28
           try clear c1
           try clear p1
           try clear q1
           try clear hx1
           try clear qi1
           try clear c2
           try clear p2
           try clear c3
           try clear c3b0
           try clear c3b1
           try clear c4
           try clear c4b0
           try clear c4b1
           try clear c5
           try clear c5b0
           try clear p6
           try clear c8
           try clear c8b0
           try clear c9
           try clear c10
           try clear c10b0
           try clear c10b1
           try clear c11
           try clear c11b0
           try clear c11b1
           try clear p12
           try clear q12
           try clear hx12
           try clear qi12
           try clear c15
           try clear c15b0
           try clear c15b1
           try clear c16
           try clear c16b0
           try clear c16b1
           try clear c17
           try clear c17b0
           try clear c17b1
           try clear c18
           try clear c18b0
           try clear c18b1
           try clear c19
           try clear c21
           try clear c21b0
           try clear c23
           try clear c25
           try clear c25b0
           try clear c27
           try clear c29
           try clear c29b0
           try clear p1
           try clear p12
           try clear p2
           try clear p6
           try clear q1
           try clear q12
           obtain ⟨kq, x67_27, rfl, HA, HJ27, HB⟩ := hcut
           cases kq with
           | zero => exact absurd HA.out (by simp [strings_Repeat.j4])
           | succ kj27 =>
            have H := HA.out
            clear HA
            simp only [strings_Repeat.j4] at H
            by_cases c31 : x67_27 = true
            ·subst c31
             have H1 := H
             rw [if_pos rfl] at H1
             clear H
             have H := H1
             clear H1
             obtain ⟨ji32, hji32⟩ : ∃ j_ : Int, (wrap64 (t124)) = j_ := ⟨_, rfl⟩
             replace H : (if 0 ≤ (ji32) then (if (ji32) ≤ 64 then (some ((⟨#[48, 48, 48, 48, 48, 48, 48, 48, 48, 48, 48, 48, 48, 48, 48, 48, 48, 48, 48, 48, 48, 48, 48, 48, 48, 48, 48, 48, 48, 48, 48, 48, 48, 48, 48, 48, 48, 48, 48, 48, 48, 48, 48, 48, 48, 48, 48, 48, 48, 48, 48, 48, 48, 48, 48, 48, 48, 48, 48, 48, 48, 48, 48, 48]⟩ : ByteArray).extract 0 ((ji32) : Int).toNat)) else (none)) else (none)) = some r := by first | (rw [hji32] at H; exact H) | (simp only [hji32] at H ⊢; exact H)
             have hji32w : (IntKind.i64.wrap (t124)) = ji32 := (i64_w _).trans hji32
             by_cases c33 : 0 ≤ (ji32)
             rotate_left
             ·rw [if_neg c33] at H
              exact absurd H (by simp)
             rw [if_pos c33] at H
             have c33b0 := eq_true c33
             have c33b1 : decide (0 ≤ (ji32)) = true := decide_eq_true c33
             clear c33
             by_cases c34 : (ji32) ≤ 64
             rotate_left
             ·rw [if_neg c34] at H
              exact absurd H (by simp)
             rw [if_pos c34] at H
             have c34b0 := eq_true c34
             have c34b1 : decide ((ji32) ≤ 64) = true := decide_eq_true c34
             clear c34
             obtain rfl := Option.some.inj H
             go_wp2
             go_ret
             exact ⟨by first | rfl | (simp [errW_none, errW_some] <;> rfl) | (simp only [← hji32]; first | rfl | (simp [errW_none, errW_some] <;> rfl)) | (simp [*, errW_none, errW_some] <;> rfl), zw0_ HB⟩
            replace c31 := Bool.eq_false_iff.mpr c31
            subst c31
            have H1 := H
            rw [if_neg (show ¬ (false = true) by decide)] at H1
            clear H
            have H := H1
            clear H1
            have HC35 := Aside0.mk H
            clear H
            go_upto_region 26 with (fail)
            go_cut [76] (fun v76 wc => ∃ (kq : Nat) (x76_34 : Bool), v76 = .bool x76_34 ∧ Aside0 (strings_Repeat.j5 kq a0 (wrap64 (t124)) x76_34 = some r) ∧ Aside0 (kq ≤ kj27) ∧ Aside0 (Below w.heap.size w wc))
            case first =>
             have H := HC35.out
             clear HC35
             by_cases c36 : (wrap64 (t124)) ≤ 128
             rotate_left
             ·rw [if_neg c36] at H
              have c36b0 : decide ((wrap64 (t124)) ≤ 128) = false := decide_eq_false c36
              clear c36
              (first | rw [c36b0] | (simp only [i64_w, i32_w]; rw [c36b0]) | skip)
              have H' := Aside0.mk H
              clear H
              go_wp2
              go_meet
              case rel => exact ⟨_, (false), z1_, H', ⟨by have := HJ6.out; have := HJ13.out; have := HJ19.out; have := HJ23.out; have := HJ27.out; first | omega | exact Nat.le_refl _⟩, ⟨zw0_ HB⟩⟩
             rw [if_pos c36] at H
             have c36b0 : decide ((wrap64 (t124)) ≤ 128) = true := decide_eq_true c36
             clear c36
             (first | rw [c36b0] | (simp only [i64_w, i32_w]; rw [c36b0]) | skip)
             replace H := Option.bind_eq_some_iff.mp H
             obtain ⟨t128, A370, H⟩ := H
             replace H : (strings_Repeat.j5 kj27 a0 (wrap64 (t124)) t128) = some r := H
             have A37 := Aside0.mk A370
             clear A370
             have H' := Aside0.mk H
             clear H
             go_wp2_with (first | (go_at_call 50; (with_reducible refine (strings_HasPrefix.calls (⟨#[61, 61, 61, 61, 61, 61, 61, 61, 61, 61, 61, 61, 61, 61, 61, 61, 61, 61, 61, 61, 61, 61, 61, 61, 61, 61, 61, 61, 61, 61, 61, 61, 61, 61, 61, 61, 61, 61, 61, 61, 61, 61, 61, 61, 61, 61, 61, 61, 61, 61, 61, 61, 61, 61, 61, 61, 61, 61, 61, 61, 61, 61, 61, 61, 61, 61, 61, 61, 61, 61, 61, 61, 61, 61, 61, 61, 61, 61, 61, 61, 61, 61, 61, 61, 61, 61, 61, 61, 61, 61, 61, 61, 61, 61, 61, 61, 61, 61, 61, 61, 61, 61, 61, 61, 61, 61, 61, 61, 61, 61, 61, 61, 61, 61, 61, 61, 61, 61, 61, 61, 61, 61, 61, 61, 61, 61, 61, 61]⟩ : ByteArray) a0 t128 _ A37.out).mono ?_); rintro e w' ⟨rfl, ⟨nd, rfl⟩⟩))
             go_meet
             case rel => exact ⟨_, (t128), z1_, H', ⟨by have := HJ6.out; have := HJ13.out; have := HJ19.out; have := HJ23.out; have := HJ27.out; first | omega | exact Nat.le_refl _⟩, ⟨zw0_ HB⟩⟩
            case rest =>
             clear HC35
             try clear c1
             try clear p1
             try clear q1
             try clear hx1
             try clear qi1
             try clear c2
             try clear p2
             try clear c3
             try clear c3b0
             try clear c3b1
             try clear c4
             try clear c4b0
             try clear c4b1
             try clear c5
             try clear c5b0
             try clear p6
             try clear c8
             try clear c8b0
             try clear c9
             try clear c10
             try clear c10b0
             try clear c10b1
             try clear c11
             try clear c11b0
             try clear c11b1
             try clear p12
             try clear q12
             try clear hx12
             try clear qi12
             try clear c15
             try clear c15b0
             try clear c15b1
             try clear c16
             try clear c16b0
             try clear c16b1
             try clear c17
             try clear c17b0
             try clear c17b1
             try clear c18
             try clear c18b0
             try clear c18b1
             try clear c19
             try clear c21
             try clear c21b0
             try clear c23
             try clear c25
             try clear c25b0
             try clear c27
             try clear c29
             try clear c29b0
             try clear c31
             try clear c33
             try clear c33b0
             try clear c33b1
             try clear c34
             try clear c34b0
             try clear c34b1
             try clear c35
             try clear c36
             try clear c36b0
             try clear p1
             try clear p12
             try clear p2
             try clear p6
             try clear q1
             try clear q12
             obtain ⟨kq, x76_34, rfl, HA, HJ34, HB⟩ := hcut
             cases kq with
             | zero => exact absurd HA.out (by simp [strings_Repeat.j5])
             | succ kj34 =>
              have H := HA.out
              clear HA
              simp only [strings_Repeat.j5] at H
              by_cases c38 : x76_34 = true
              ·subst c38
               have H1 : (none) = some r := by rw [if_pos rfl] at H; exact H
               clear H
               have H := H1
               clear H1
               exact absurd H (by simp)
              replace c38 := Bool.eq_false_iff.mpr c38
              subst c38
              have H1 := H
              rw [if_neg (show ¬ (false = true) by decide)] at H1
              clear H
              have H := H1
              clear H1
              by_cases c39 : (wrap64 (t124)) ≤ 64
              rotate_left
              ·rw [if_neg c39] at H
               have c39b0 : decide ((wrap64 (t124)) ≤ 64) = false := decide_eq_false c39
               clear c39
               have H' := Aside0.mk H
               clear H
               go_wp2
               go_meet
               case rel => exact ⟨_, H', ⟨by have := HJ6.out; have := HJ13.out; have := HJ19.out; have := HJ23.out; have := HJ27.out; have := HJ34.out; first | omega | exact Nat.le_refl _⟩, ⟨zw0_ HB⟩⟩
              rw [if_pos c39] at H
              have c39b0 : decide ((wrap64 (t124)) ≤ 64) = true := decide_eq_true c39
              clear c39
              replace H := Option.bind_eq_some_iff.mp H
              obtain ⟨t129, A400, H⟩ := H
              replace H : (if t129 = true then (none) else (strings_Repeat.j6 kj34)) = some r := H
              have A40 := Aside0.mk A400
              clear A400
              by_cases c41 : t129 = true
              ·subst c41
               have H1 : (none) = some r := by rw [if_pos rfl] at H; exact H
               clear H
               have H := H1
               clear H1
               exact absurd H (by simp)
              replace c41 := Bool.eq_false_iff.mpr c41
              subst c41
              have H1 := H
              rw [if_neg (show ¬ (false = true) by decide)] at H1
              clear H
              have H := H1
              clear H1
              have H' := Aside0.mk H
              clear H
              go_wp2_with (first | (go_at_call 50; (with_reducible refine (strings_HasPrefix.calls (⟨#[9, 9, 9, 9, 9, 9, 9, 9, 9, 9, 9, 9, 9, 9, 9, 9, 9, 9, 9, 9, 9, 9, 9, 9, 9, 9, 9, 9, 9, 9, 9, 9, 9, 9, 9, 9, 9, 9, 9, 9, 9, 9, 9, 9, 9, 9, 9, 9, 9, 9, 9, 9, 9, 9, 9, 9, 9, 9, 9, 9, 9, 9, 9, 9]⟩ : ByteArray) a0 false _ A40.out).mono ?_); rintro e w' ⟨rfl, ⟨nd, rfl⟩⟩))
              go_meet
              case rel => exact ⟨_, H', ⟨by have := HJ6.out; have := HJ13.out; have := HJ19.out; have := HJ23.out; have := HJ27.out; have := HJ34.out; first | omega | exact Nat.le_refl _⟩, ⟨zw0_ HB⟩⟩
   case rest =>
    clear HC13
    try clear c1
    try clear p1
    try clear q1
    try clear hx1
    try clear qi1
    try clear c2
    try clear p2
    try clear c3
    try clear c3b0
    try clear c3b1
    try clear c4
    try clear c4b0
    try clear c4b1
    try clear c5
    try clear c5b0
    try clear p6
    try clear c8
    try clear c8b0
    try clear c9
    try clear c10
    try clear c10b0
    try clear c10b1
    try clear c11
    try clear c11b0
    try clear c11b1
    try clear p12
    try clear q12
    try clear hx12
    try clear qi12
    try clear c15
    try clear c15b0
    try clear c15b1
    try clear c16
    try clear c16b0
    try clear c16b1
    try clear c17
    try clear c17b0
    try clear c17b1
    try clear c18
    try clear c18b0
    try clear c18b1
    try clear c19
    try clear c21
    try clear c21b0
    try clear c23
    try clear c25
    try clear c25b0
    try clear c27
    try clear c29
    try clear c29b0
    try clear c31
    try clear c33
    try clear c33b0
    try clear c33b1
    try clear c34
    try clear c34b0
    try clear c34b1
    try clear c35
    try clear c36
    try clear c36b0
    try clear c38
    try clear c39
    try clear c39b0
    try clear c41
    try clear p1
    try clear p12
    try clear p2
    try clear p6
    try clear q1
    try clear q12
    obtain ⟨kq, HA, HJ12, HB⟩ := hcut
    cases kq with
    | zero => exact absurd HA.out (by simp [strings_Repeat.j6])
    | succ kj12 =>
     have H := HA.out
     clear HA
     simp only [strings_Repeat.j6] at H
     exact absurd H (by simp)

end Go.Proofs.YtjiloachlemlcaaDoor.PFixKnown
