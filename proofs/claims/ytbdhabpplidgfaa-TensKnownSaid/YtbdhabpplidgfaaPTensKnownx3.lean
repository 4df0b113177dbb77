/- The functions that the law TensKnown reaches, as Lean functions, and that each call of the Go function does what its Lean function says, wherever that one answers. Written by a program of mine over the print of the kit; Lean checks it. -/
import Derived.Test.YtbdhabpplidgfaaPTensKnownx0
import Derived.Test.YtbdhabpplidgfaaPTensKnownx1
namespace Go.Proofs.Ytbdhabpplidgfaa.PTensKnown
open Go.RowKit Go.Proofs.YtbdhabpplidgfaaW.PrintWords Go.Proofs.YtbdhabpplidgfaaW.PrintLast Go.Proofs.YtbdhabpplidgfaaW.PrintMore
attribute [local go_sem] max2_int min2_int max_two min_two max_three min_three max_four min_four   -- for this text's walks alone
set_option linter.unusedVariables false
set_option linter.unusedSimpArgs false

/-! ### shape_Strides: function 74 -/
def shape_Strides.l0 : Nat → List Int → List Int → Int → Int → Option (List Int)
 | 0, _, _, _, _ => none
 | k + 1, x0, x3, x4, x5 => if x5 ≥ 0 then (if 0 ≤ x5 then (if x5 < (x3.length : Int) then (if x5 < (x0.length : Int) then (shape_Strides.l0 k x0 (x3.set (x5 : Int).toNat x4) (wrap64 (x4 * (rd x0 x5))) (wrap64 (x5 - 1))) else (none)) else (none)) else (none)) else (some x3)
def shape_Strides.f (k : Nat) (l0 : List Int) : Option (List Int) := (shape_Good.f k l0).bind fun t142 => (if t142 = true then (if 0 ≤ (l0.length : Int) then (if ((l0.length : Int) : Int).toNat ≤ 35184372088832 then (shape_Strides.l0 k l0 (List.replicate ((l0.length : Int) : Int).toNat 0) 1 (wrap64 ((l0.length : Int) - 1))) else (none)) else (none)) else (some ([] : List Int)))
theorem shape_Strides.mono_l : ∀ k, (∀ y0 y1 y2 y3, LeO (shape_Strides.l0 k y0 y1 y2 y3) (shape_Strides.l0 (k + 1) y0 y1 y2 y3))
 | 0 => fun _ _ _ _ r h => by simp [shape_Strides.l0] at h
 | k + 1 => by
  have ih0 := shape_Strides.mono_l k
  ·intro y0 y1 y2 y3
   unfold shape_Strides.l0
   repeat' first
   | (with_reducible exact ih0 _ _ _ _)
   | (with_reducible exact LeO.refl _)
   | (with_reducible exact LeO.none _)
   | (with_reducible refine LeO.ite ?_ ?_)
   | (with_reducible refine LeO.bind ?_ (fun _ => ?_))
   | exact ih0 _ _ _ _
   | exact LeO.none _
   | refine LeO.ite ?_ ?_
   | refine LeO.bind ?_ (fun _ => ?_)
theorem shape_Strides.mono : ∀ a0 k, LeO (shape_Strides.f k a0) (shape_Strides.f (k + 1) a0) := by
 intro a0 k
 have ih0 := shape_Strides.mono_l k
 unfold shape_Strides.f
 repeat' first
   | (with_reducible exact ih0 _ _ _ _)
   | (with_reducible exact shape_Good.mono _ _)
   | (with_reducible exact LeO.refl _)
   | (with_reducible exact LeO.none _)
   | (with_reducible refine LeO.ite ?_ ?_)
   | (with_reducible refine LeO.bind ?_ (fun _ => ?_))
   | exact ih0 _ _ _ _
   | exact shape_Good.mono _ _
   | exact LeO.none _
   | refine LeO.ite ?_ ?_
   | refine LeO.bind ?_ (fun _ => ?_)
set_option maxHeartbeats 8000000 in
set_option maxRecDepth 100000 in
theorem shape_Strides.calls (k : Nat) (A0 : Option Addr) (c0 : Nat) (l0 : List Int) (r : List Int) (w : World) (hr0 : Kd.C (Kd.int .i64) w A0 l0.length l0) (hc0 : l0.length ≤ c0) (h : shape_Strides.f k l0 = some r) :
  Calls Try.prog 74 #[.slice A0 l0.length c0] w fun e w' => ∃ v0_ : Value, e = .returned (v0_) ∧ Kd.R (Kd.int .i64) 3 w' w.heap.size (fun _ => True) v0_ r ∧ Below w.heap.size w w' := by
 have HR0 := Aside0.mk hr0
 have HC0 := Aside0.mk hc0
 clear hr0 hc0
 have HB := Aside0.mk (Below.refl w.heap.size w)
 have H : ((shape_Good.f k l0).bind fun t142 => (if t142 = true then (if 0 ≤ (l0.length : Int) then (if ((l0.length : Int) : Int).toNat ≤ 35184372088832 then (shape_Strides.l0 k l0 (List.replicate ((l0.length : Int) : Int).toNat 0) 1 (wrap64 ((l0.length : Int) - 1))) else (none)) else (none)) else (some ([] : List Int)))) = some r := h
 clear h
 replace H := Option.bind_eq_some_iff.mp H
 obtain ⟨t142, A20, H⟩ := H
 (try dsimp only at H)
 have A2 := Aside0.mk A20
 clear A20
 by_cases c3 : t142 = true
 rotate_left
 ·replace c3 := Bool.eq_false_iff.mpr c3
  subst c3
  have H1 : (some ([] : List Int)) = some r := by rw [if_neg (show ¬ (false = true) by decide)] at H; exact H
  clear H
  have H := H1
  clear H1
  obtain rfl := Option.some.inj H
  go_enter Try.func74, Try.ntmps74
  go_wp2_with (first | ((with_reducible refine gate_callee (f := 33) rfl ?_); refine zg_ (some 7) Try.func33 #[.slice A0 l0.length c0] (h := ?_); (with_reducible refine (shape_Good.calls k _ _ l0 false _ ?side1 ?side2 A2.out).mono ?_); (case side1 => repeat (first | exact HR0.out | (with_reducible refine Kd.C_alloc ?_ _) | (with_reducible refine Kd.C_drewN ?_ _) | (with_reducible refine Kd.C_drew ?_))); (case side2 => exact HC0.out); rintro e w' ⟨rfl, ⟨nd, rfl⟩⟩; refine ⟨_, rfl, ?_⟩))
  go_ret
  exact ⟨_, z0_, z2_, zw0_ HB⟩
 subst c3
 have H1 := H
 rw [if_pos rfl] at H1
 clear H
 have H := H1
 clear H1
 by_cases c4 : 0 ≤ (l0.length : Int)
 rotate_left
 ·rw [if_neg c4] at H
  exact absurd H (by simp)
 rw [if_pos c4] at H
 have c4b0 := eq_true c4
 have c4b1 : decide (0 ≤ (l0.length : Int)) = true := decide_eq_true c4
 clear c4
 by_cases c5 : ((l0.length : Int) : Int).toNat ≤ 35184372088832
 rotate_left
 ·rw [if_neg c5] at H
  exact absurd H (by simp)
 rw [if_pos c5] at H
 have c5b0 := eq_true c5
 have c5b1 : decide (((l0.length : Int) : Int).toNat ≤ 35184372088832) = true := decide_eq_true c5
 clear c5
 obtain ⟨y143, hy143⟩ : ∃ y_ : List Int, y_ = (List.replicate ((l0.length : Int) : Int).toNat 0) := ⟨_, rfl⟩
 replace H : (shape_Strides.l0 k l0 y143 1 (wrap64 ((l0.length : Int) - 1))) = some r := by first | (rw [hy143]; with_reducible exact H) | (have H2_ := (Option.bind_some _ _).symm.trans H; rw [hy143]; with_reducible exact H2_) | (have H2_ := (Option.bind_some _ _).symm.trans H; with_reducible exact H2_) | with_reducible exact H | (rw [hy143]; exact H) | exact H
 have Ny143 := Aside0.mk hy143
 clear hy143
 have H' := Aside0.mk H
 clear H
 go_enter Try.func74, Try.ntmps74
 go_wp2_with (first | ((with_reducible refine gate_callee (f := 33) rfl ?_); refine zg_ (some 7) Try.func33 #[.slice A0 l0.length c0] (h := ?_); (with_reducible refine (shape_Good.calls k _ _ l0 true _ ?side1 ?side2 A2.out).mono ?_); (case side1 => repeat (first | exact HR0.out | (with_reducible refine Kd.C_alloc ?_ _) | (with_reducible refine Kd.C_drewN ?_ _) | (with_reducible refine Kd.C_drew ?_))); (case side2 => exact HC0.out); rintro e w' ⟨rfl, ⟨nd, rfl⟩⟩; refine ⟨_, rfl, ?_⟩) | ((with_reducible refine gate_dst (N := 11) rfl ?_); refine Kd.R_make (Kd.int .i64) _ 3 rfl (N := 11) rfl 22 _ _ rfl (l0.length : Int) rfl rfl Try.underlying22 (.int .i64 0) 8 info3 rfl (by decide) (by omega) 0 (ok := fun _ => True) (okp := fun _ => True) rfl (fun _ hk => hk) trivial (of_decide_eq_true (by first | (with_reducible assumption) | assumption)) (Nat.le_trans (Nat.mul_le_mul_right _ (of_decide_eq_true (by first | (with_reducible assumption) | assumption) : (l0.length : Int).toNat ≤ 35184372088832)) (by omega)) (Below.refl _ _) (Nat.le_refl _) ?_; intro v144 w6 ho7 hb hg_ hnew_; clear hg_ hnew_; (first | rw [← Ny143.out] at ho7 | (simp only [Int.reduceToNat] at ho7; rw [← Ny143.out] at ho7)); have HO145 := Aside0.mk (Kd.R_lower ho7 (below_size (zw0_ HB))); replace HB := Aside0.mk (below_step (zw0_ HB) hb); clear hb ho7))
 go_loopg [4, 5] k (fun kq v4 v5 w' => ∃ (x3_1 : List Int) (x4_1 : Int) (x5_1 : Int), v4 = .int .i64 x4_1 ∧ v5 = .int .i64 x5_1 ∧ Aside0 (shape_Strides.l0 kq l0 x3_1 x4_1 x5_1 = some r) ∧ Aside0 (kq ≤ k) ∧ Aside0 (Kd.R (Kd.int .i64) 3 w' w.heap.size (fun _ => True) v144 x3_1) ∧ Aside0 (Below w.heap.size w w'))
 case atStart => exact ⟨(y143), (1), (wrap64 ((l0.length : Int) - 1)), z1_, z1_, H', ⟨Nat.le_refl _⟩, ⟨zr_ HO145.out⟩, ⟨zw0_ HB⟩⟩
 case round =>
  clear H'
  try clear p2
  try clear c3
  try clear c4
  try clear c4b0
  try clear c4b1
  try clear c5
  try clear c5b0
  try clear c5b1
  try clear p6
  try clear c7
  obtain ⟨x3_1, x4_1, x5_1, rfl, rfl, HA, HK1, HO_3, HB⟩ := hrel
  cases gk with
  | zero => exact absurd HA.out (by simp [shape_Strides.l0])
  | succ k1 =>
   have H := HA.out
   clear HA
   simp only [shape_Strides.l0] at H
   by_cases c8 : x5_1 ≥ 0
   rotate_left
   ·rw [if_neg c8] at H
    have c8b0 : decide (0 ≤ x5_1) = false := decide_eq_false c8
    clear c8
    obtain rfl := Option.some.inj H
    go_wp2
    go_ret
    exact ⟨_, z0_, zr_ HO_3.out, zw0_ HB⟩
   rw [if_pos c8] at H
   have c8b0 : decide (0 ≤ x5_1) = true := decide_eq_true c8
   clear c8
   by_cases c9 : 0 ≤ x5_1
   rotate_left
   ·rw [if_neg c9] at H
    exact absurd H (by simp)
   rw [if_pos c9] at H
   have c9b0 : decide (0 ≤ x5_1) = true := decide_eq_true c9
   clear c9
   by_cases c10 : x5_1 < (x3_1.length : Int)
   rotate_left
   ·rw [if_neg c10] at H
    exact absurd H (by simp)
   rw [if_pos c10] at H
   have c10b0 : decide (x5_1 < (x3_1.length : Int)) = true := decide_eq_true c10
   clear c10
   obtain ⟨y146, hy146⟩ : ∃ y_ : List Int, y_ = (x3_1.set (x5_1 : Int).toNat x4_1) := ⟨_, rfl⟩
   replace H : (if x5_1 < (l0.length : Int) then (shape_Strides.l0 k1 l0 y146 (wrap64 (x4_1 * (rd l0 x5_1))) (wrap64 (x5_1 - 1))) else (none)) = some r := by first | (rw [hy146]; with_reducible exact H) | (have H2_ := (Option.bind_some _ _).symm.trans H; rw [hy146]; with_reducible exact H2_) | (have H2_ := (Option.bind_some _ _).symm.trans H; with_reducible exact H2_) | with_reducible exact H | (rw [hy146]; exact H) | exact H
   have Ny146 := Aside0.mk hy146
   clear hy146
   by_cases c12 : x5_1 < (l0.length : Int)
   rotate_left
   ·rw [if_neg c12] at H
    exact absurd H (by simp)
   rw [if_pos c12] at H
   have c12b0 : decide (x5_1 < (l0.length : Int)) = true := decide_eq_true c12
   clear c12
   have H' := Aside0.mk H
   clear H
   have p11 : 0 ≤ (x5_1 : Int) := of_decide_eq_true (by first | (with_reducible assumption) | assumption)
   have q11 : (x5_1 : Int) < ((x3_1.length : Int) : Int) := of_decide_eq_true (by first | (with_reducible assumption) | assumption)
   obtain ⟨go11, co11, eo11, gb11, gl11, cl11, HG11⟩ := Kd.R_form HO_3.out (by omega)
   (first | cases eo11 | (injection eo11 with ea_ en_ ec_; (first | subst ea_ | (injection ea_ with ea_; subst ea_)); subst ec_; clear en_))
   have GB11 := Aside0.mk gb11
   have GG11 := Aside0.mk HG11
   clear gb11 gl11 HG11
   obtain ⟨hx11_0, hf11_0⟩ := Kd.R_celln 0 HO_3.out (x5_1 : Int) p11 q11
   replace p11 := eq_true p11
   replace q11 := eq_true q11
   have HP13 := Kd.R_putg HO_3.out (x5_1 : Int) x4_1
   go_wp2_with (first | ((with_reducible refine gate_store (t := 3) (p := 22) rfl ?_); refine store_event (t := 3) (p := 22) (v := ?vo_w14) (w1 := (wr.setCell ⟨go11, (x5_1 : Int).toNat, none⟩ (.int .i64 x4_1))) ?hg ?ho ?hn ?hr ?_; (case ho => rfl); (case hg => rfl); (case hn => rfl); (case hr => first | (go_simp; done) | (go_simp; rfl)); intro w14 hw; have hg : wr.grownBy w14 (some go11) := (by rw [hw]; exact HP13.2); have hp_ : Kd.R (Kd.int .i64) 3 w14 w.heap.size (fun _ => True) (.slice (some ⟨go11, 0, none⟩) x3_1.length co11) y146 := (by rw [hw, Ny146.out]; exact HP13.1); clear HP13; replace HO_3 := Aside0.mk (hp_); replace HB := Aside0.mk ((by rw [hw]; exact below_set (HB.out) GB11.out : Below w.heap.size w w14)); clear hg hw hp_; have p147 : 0 ≤ (x5_1 : Int) := of_decide_eq_true (by first | (with_reducible assumption) | assumption); have q147 : x5_1 < (l0.length : Int) := of_decide_eq_true (by first | (with_reducible assumption) | assumption); obtain ⟨ad147, e147, hx147_0⟩ := Kd.at_int HR0.out x5_1 p147 q147; cases e147; replace hx147_0 := (HB.out.cell (World.block_lt_of_cell? w _ hx147_0)).trans hx147_0; replace p147 := eq_true p147; replace q147 := eq_true q147))
   go_roundg k1
   case measure => have := HK1.out; omega
   case rel => exact ⟨(y146), (wrap64 (x4_1 * (rd l0 x5_1))), (wrap64 (x5_1 - 1)), z1_, z1_, H', ⟨by have := HK1.out; omega⟩, ⟨zr_ HO_3.out⟩, ⟨zw0_ HB⟩⟩

/-! ### shape_Spread: function 55 -/
mutual
def shape_Spread.l0 : Nat → List Int → List Int → List Int → Int → List Int → Int → Int → Option (List Int)
 | 0, _, _, _, _, _, _, _ => none
 | k + 1, x0, x1, x5, x6, x7, x22, x23 => if x23 < x22 then (shape_Spread.l1 k x0 x1 x5 x6 x7 x23 x23 (wrap64 ((x1.length : Int) - 1)) x22 x23) else (some x7)
def shape_Spread.l1 : Nat → List Int → List Int → List Int → Int → List Int → Int → Int → Int → Int → Int → Option (List Int)
 | 0, _, _, _, _, _, _, _, _, _, _ => none
 | k + 1, x0, x1, x5, x6, x7, x8, x9, x10, x22, x23 => if x10 ≥ x6 then (if 0 ≤ (wrap64 (x10 - x6)) then (if (wrap64 (x10 - x6)) < (x0.length : Int) then (if (rd x0 (wrap64 (x10 - x6))) > 1 then (if 0 ≤ x8 then (if x8 < (x7.length : Int) then (if 0 ≤ x10 then (if x10 < (x1.length : Int) then (if (rd x1 x10) = 0 then (none) else (if (wrap64 (x10 - x6)) < (x5.length : Int) then (shape_Spread.l1 k x0 x1 x5 x6 (x7.set (x8 : Int).toNat (wrap64 ((rd x7 x8) + (wrap64 ((Int.tmod x9 (rd x1 x10)) * (rd x5 (wrap64 (x10 - x6)))))))) x8 (wrap64 (Int.tdiv x9 (rd x1 x10))) (wrap64 (x10 - 1)) x22 x23) else (none))) else (none)) else (none)) else (none)) else (none)) else (if 0 ≤ x10 then (if x10 < (x1.length : Int) then (if (rd x1 x10) = 0 then (none) else (shape_Spread.l1 k x0 x1 x5 x6 x7 x8 (wrap64 (Int.tdiv x9 (rd x1 x10))) (wrap64 (x10 - 1)) x22 x23)) else (none)) else (none))) else (none)) else (none)) else (shape_Spread.l0 k x0 x1 x5 x6 x7 x22 (wrap64 (x23 + 1)))
end
def shape_Spread.f (k : Nat) (l0 : List Int) (l1 : List Int) : Option (List Int) := (shape_Strides.f k l0).bind fun t148 => ((shape_Size.f k l1).bind fun t151 => (if 0 ≤ t151 then (if (t151 : Int).toNat ≤ 35184372088832 then ((some (List.replicate (t151 : Int).toNat 0 : List Int)).bind fun y152 => (shape_Spread.l0 k l0 l1 t148 (wrap64 ((l1.length : Int) - (l0.length : Int))) y152 (y152.length : Int) 0)) else (none)) else (none)))
theorem shape_Spread.mono_l : ∀ k, (∀ y0 y1 y2 y3 y4 y5 y6, LeO (shape_Spread.l0 k y0 y1 y2 y3 y4 y5 y6) (shape_Spread.l0 (k + 1) y0 y1 y2 y3 y4 y5 y6)) ∧ (∀ y0 y1 y2 y3 y4 y5 y6 y7 y8 y9, LeO (shape_Spread.l1 k y0 y1 y2 y3 y4 y5 y6 y7 y8 y9) (shape_Spread.l1 (k + 1) y0 y1 y2 y3 y4 y5 y6 y7 y8 y9))
 | 0 => ⟨fun _ _ _ _ _ _ _ r h => by simp [shape_Spread.l0] at h, fun _ _ _ _ _ _ _ _ _ _ r h => by simp [shape_Spread.l1] at h⟩
 | k + 1 => by
  obtain ⟨ih0, ih1⟩ := shape_Spread.mono_l k
  refine ⟨?_, ?_⟩
  ·intro y0 y1 y2 y3 y4 y5 y6
   unfold shape_Spread.l0
   repeat' first
   | (with_reducible exact ih0 _ _ _ _ _ _ _)
   | (with_reducible exact ih1 _ _ _ _ _ _ _ _ _ _)
   | (with_reducible exact LeO.refl _)
   | (with_reducible exact LeO.none _)
   | (with_reducible refine LeO.ite ?_ ?_)
   | (with_reducible refine LeO.bind ?_ (fun _ => ?_))
   | exact ih0 _ _ _ _ _ _ _
   | exact ih1 _ _ _ _ _ _ _ _ _ _
   | exact LeO.none _
   | refine LeO.ite ?_ ?_
   | refine LeO.bind ?_ (fun _ => ?_)
  ·intro y0 y1 y2 y3 y4 y5 y6 y7 y8 y9
   unfold shape_Spread.l1
   repeat' first
   | (with_reducible exact ih0 _ _ _ _ _ _ _)
   | (with_reducible exact ih1 _ _ _ _ _ _ _ _ _ _)
   | (with_reducible exact LeO.refl _)
   | (with_reducible exact LeO.none _)
   | (with_reducible refine LeO.ite ?_ ?_)
   | (with_reducible refine LeO.bind ?_ (fun _ => ?_))
   | exact ih0 _ _ _ _ _ _ _
   | exact ih1 _ _ _ _ _ _ _ _ _ _
   | exact LeO.none _
   | refine LeO.ite ?_ ?_
   | refine LeO.bind ?_ (fun _ => ?_)
theorem shape_Spread.mono : ∀ a0 a1 k, LeO (shape_Spread.f k a0 a1) (shape_Spread.f (k + 1) a0 a1) := by
 intro a0 a1 k
 obtain ⟨ih0, ih1⟩ := shape_Spread.mono_l k
 unfold shape_Spread.f
 repeat' first
   | (with_reducible exact ih0 _ _ _ _ _ _ _)
   | (with_reducible exact ih1 _ _ _ _ _ _ _ _ _ _)
   | (with_reducible exact shape_Size.mono _ _)
   | (with_reducible exact shape_Strides.mono _ _)
   | (with_reducible exact LeO.refl _)
   | (with_reducible exact LeO.none _)
   | (with_reducible refine LeO.ite ?_ ?_)
   | (with_reducible refine LeO.bind ?_ (fun _ => ?_))
   | exact ih0 _ _ _ _ _ _ _
   | exact ih1 _ _ _ _ _ _ _ _ _ _
   | exact shape_Size.mono _ _
   | exact shape_Strides.mono _ _
   | exact LeO.none _
   | refine LeO.ite ?_ ?_
   | refine LeO.bind ?_ (fun _ => ?_)
def shape_Spread.T11 : Bool × List (List Nat × List Nat) := (true, [([], []), ([], []), ([0, 1], [0, 1]), ([2], [2]), ([], []), ([], []), ([], []), ([5, 6], [5, 6]), ([7], [7]), ([4, 8], [4, 8]), ([], []), ([], []), ([], []), ([11, 12], [11, 12]), ([10, 13], [10, 13]), ([14], [14]), ([9, 15], [9, 15]), ([3, 16], [3, 16]), ([0, 1, 0, 1, 2, 3, 4, 5, 6, 7, 8, 9, 10, 11, 12, 13, 14, 15, 16, 17], [0, 1]), ([18, 17, 0, 1, 2, 3, 4, 5, 6, 7, 8, 9, 10, 11, 12, 13, 14, 15, 16, 17], [17, 18])])
def shape_Spread.B11 : List Nat := [0, 0, 3, 7, 0, 0, 0, 96, 224, 496, 0, 0, 0, 6144, 15360, 31744, 65520, 131071, 262143, 524287]
theorem shape_Spread.tab11 : rtab .any (opsOf Try.f55 11) = shape_Spread.T11 := by kernel_rfl
theorem shape_Spread.bits11 : waitsOk shape_Spread.T11.2 shape_Spread.B11 = true := by kernel_rfl
set_option maxHeartbeats 8000000 in
set_option maxRecDepth 100000 in
theorem shape_Spread.calls (k : Nat) (A0 : Option Addr) (c0 : Nat) (l0 : List Int) (A1 : Option Addr) (c1 : Nat) (l1 : List Int) (r : List Int) (w : World) (hr0 : Kd.C (Kd.int .i64) w A0 l0.length l0) (hc0 : l0.length ≤ c0) (hr1 : Kd.C (Kd.int .i64) w A1 l1.length l1) (hc1 : l1.length ≤ c1) (h : shape_Spread.f k l0 l1 = some r) :
  Calls Try.prog 55 #[.slice A0 l0.length c0, .slice A1 l1.length c1] w fun e w' => ∃ v0_ : Value, e = .returned (v0_) ∧ Kd.R (Kd.int .i64) 3 w' w.heap.size (fun _ => True) v0_ r ∧ Below w.heap.size w w' := by
 have HR0 := Aside0.mk hr0
 have HC0 := Aside0.mk hc0
 clear hr0 hc0
 have HR1 := Aside0.mk hr1
 have HC1 := Aside0.mk hc1
 clear hr1 hc1
 have HB := Aside0.mk (Below.refl w.heap.size w)
 have H : ((shape_Strides.f k l0).bind fun t148 => ((shape_Size.f k l1).bind fun t151 => (if 0 ≤ t151 then (if (t151 : Int).toNat ≤ 35184372088832 then ((some (List.replicate (t151 : Int).toNat 0 : List Int)).bind fun y152 => (shape_Spread.l0 k l0 l1 t148 (wrap64 ((l1.length : Int) - (l0.length : Int))) y152 (y152.length : Int) 0)) else (none)) else (none)))) = some r := h
 clear h
 replace H := Option.bind_eq_some_iff.mp H
 obtain ⟨t148, A30, H⟩ := H
 (try dsimp only at H)
 have A3 := Aside0.mk A30
 clear A30
 replace H := Option.bind_eq_some_iff.mp H
 obtain ⟨t151, A40, H⟩ := H
 (try dsimp only at H)
 have A4 := Aside0.mk A40
 clear A40
 by_cases c5 : 0 ≤ t151
 rotate_left
 ·rw [if_neg c5] at H
  exact absurd H (by simp)
 rw [if_pos c5] at H
 have c5b0 := eq_true c5
 have c5b1 : decide (0 ≤ t151) = true := decide_eq_true c5
 clear c5
 by_cases c6 : (t151 : Int).toNat ≤ 35184372088832
 rotate_left
 ·rw [if_neg c6] at H
  exact absurd H (by simp)
 rw [if_pos c6] at H
 have c6b0 := eq_true c6
 have c6b1 : decide ((t151 : Int).toNat ≤ 35184372088832) = true := decide_eq_true c6
 clear c6
 obtain ⟨y152, hy152⟩ : ∃ y_ : List Int, y_ = (List.replicate (t151 : Int).toNat 0) := ⟨_, rfl⟩
 replace H : (shape_Spread.l0 k l0 l1 t148 (wrap64 ((l1.length : Int) - (l0.length : Int))) y152 (y152.length : Int) 0) = some r := by first | (rw [hy152]; with_reducible exact H) | (have H2_ := (Option.bind_some _ _).symm.trans H; rw [hy152]; with_reducible exact H2_) | (have H2_ := (Option.bind_some _ _).symm.trans H; with_reducible exact H2_) | with_reducible exact H | (rw [hy152]; exact H) | exact H
 have Ny152 := Aside0.mk hy152
 clear hy152
 have H' := Aside0.mk H
 clear H
 go_enter Try.func55, Try.ntmps55
 go_wp2_with (first | ((with_reducible refine gate_callee (f := 74) rfl ?_); refine zg_ (some 12) Try.func74 #[.slice A0 l0.length c0] (h := ?_); (with_reducible refine (shape_Strides.calls k _ _ l0 t148 _ ?side1 ?side2 A3.out).mono ?_); (case side1 => repeat (first | exact HR0.out | (with_reducible refine Kd.C_alloc ?_ _) | (with_reducible refine Kd.C_drewN ?_ _) | (with_reducible refine Kd.C_drew ?_))); (case side2 => exact HC0.out); rintro e w7 ⟨v149, rfl, ho0, hb⟩; refine ⟨_, rfl, ?_⟩; have HO150 := Aside0.mk (Kd.R_lower ho0 (below_size (zw0_ HB))); replace HB := Aside0.mk (below_step (zw0_ HB) hb); (try clear hb); (try clear ho0)) | ((with_reducible refine gate_callee (f := 36) rfl ?_); refine zg_ (some 19) Try.func36 #[.slice A1 l1.length c1] (h := ?_); (with_reducible refine (shape_Size.calls k _ _ l1 t151 _ ?side1 ?side2 A4.out).mono ?_); (case side1 => exact zk_ (Kd.C_below HR1.out HB.out)); (case side2 => exact HC1.out); rintro e w' ⟨rfl, ⟨nd, rfl⟩⟩; refine ⟨_, rfl, ?_⟩) | ((with_reducible refine gate_dst (N := 20) rfl ?_); refine Kd.R_make (Kd.int .i64) _ 3 rfl (N := 20) rfl 22 _ _ rfl t151 rfl rfl Try.underlying22 (.int .i64 0) 8 info3 rfl (by decide) (by omega) 0 (ok := fun _ => True) (okp := fun _ => True) rfl (fun _ hk => hk) trivial (of_decide_eq_true (by first | (with_reducible assumption) | assumption)) (Nat.le_trans (Nat.mul_le_mul_right _ (of_decide_eq_true (by first | (with_reducible assumption) | assumption) : t151.toNat ≤ 35184372088832)) (by omega)) (Below.refl _ _) (Nat.le_refl _) ?_; intro v153 w8 ho9 hb hg_ hnew_; clear hg_ hnew_; (first | rw [← Ny152.out] at ho9 | (simp only [Int.reduceToNat] at ho9; rw [← Ny152.out] at ho9)); have HO154 := Aside0.mk (Kd.R_lower (Kd.R_new' ho9 (Kd.R_lt (zr_ HO150.out))) (below_size (zw0_ HB))); replace HO150 := ze_ HO150 ho9 hb; replace HB := Aside0.mk (below_step (zw0_ HB) hb); clear hb ho9; obtain ⟨Ao10, co10, eo10⟩ := Kd.R_slice HO154.out; subst eo10))
 go_loopg [23] k (fun kq v23 w' => ∃ (x7_1 : List Int) (x23_1 : Int), v23 = .int .i64 x23_1 ∧ Aside0 (shape_Spread.l0 kq l0 l1 t148 (wrap64 ((l1.length : Int) - (l0.length : Int))) x7_1 (y152.length : Int) x23_1 = some r) ∧ Aside0 (kq ≤ k) ∧ Aside0 (Kd.R (Kd.int .i64) 3 w' w.heap.size (fun k_ => some k_ ≠ ((.slice Ao10 y152.length co10) : Value).ownBlock) v149 t148) ∧ Aside0 (Kd.R (Kd.int .i64) 3 w' w.heap.size (fun k_ => some k_ ≠ (v149 : Value).ownBlock) (.slice Ao10 y152.length co10) x7_1) ∧ Aside0 (Below w.heap.size w w'))
 case atStart => exact ⟨(y152), (0), z1_, H', ⟨Nat.le_refl _⟩, ⟨zr_ (Kd.R_mono HO150.out (fun _ hk => hk.2))⟩, ⟨zr_ (Kd.R_mono HO154.out (fun _ hk => hk.2))⟩, ⟨zw0_ HB⟩⟩
 case round =>
  clear H'
  try clear c1
  try clear p2
  try clear c3
  try clear c5
  try clear c5b0
  try clear c5b1
  try clear c6
  try clear c6b0
  try clear c6b1
  try clear p6
  try clear c7
  obtain ⟨x7_1, x23_1, rfl, HA, HK1, HO_5, HO_7, HB⟩ := hrel
  have hl7_1 := (Kd.R_reads' HO_7.out).1
  rw [hl7_1] at HO_7
  (try simp only [hl7_1])
  (try simp only [hl7_1] at HO_5)
  cases gk with
  | zero => exact absurd HA.out (by simp [shape_Spread.l0])
  | succ k1 =>
   have H := HA.out
   clear HA
   simp only [shape_Spread.l0] at H
   by_cases c11 : x23_1 < (y152.length : Int)
   rotate_left
   ·rw [if_neg c11] at H
    have c11b0 : decide (x23_1 < (y152.length : Int)) = false := decide_eq_false c11
    (try rw [hl7_1] at c11b0)
    clear c11
    obtain rfl := Option.some.inj H
    go_wp2
    go_ret
    exact ⟨_, z0_, zr_ (Kd.R_mono HO_7.out (fun _ hk => trivial)), zw0_ HB⟩
   rw [if_pos c11] at H
   have c11b0 : decide (x23_1 < (y152.length : Int)) = true := decide_eq_true c11
   (try rw [hl7_1] at c11b0)
   clear c11
   have H' := Aside0.mk H
   clear H
   go_wp2
   go_loopg [9, 10] k1 (fun kq v9 v10 w' => ∃ (x7_2 : List Int) (x9_2 : Int) (x10_2 : Int), v9 = .int .i64 x9_2 ∧ v10 = .int .i64 x10_2 ∧ Aside0 (shape_Spread.l1 kq l0 l1 t148 (wrap64 ((l1.length : Int) - (l0.length : Int))) x7_2 x23_1 x9_2 x10_2 (y152.length : Int) x23_1 = some r) ∧ Aside0 (kq ≤ k1) ∧ Aside0 (Kd.R (Kd.int .i64) 3 w' w.heap.size (fun k_ => some k_ ≠ ((.slice Ao10 x7_1.length co10) : Value).ownBlock) v149 t148) ∧ Aside0 (Kd.R (Kd.int .i64) 3 w' w.heap.size (fun k_ => some k_ ≠ (v149 : Value).ownBlock) (.slice Ao10 x7_1.length co10) x7_2) ∧ Aside0 (Below w.heap.size w w'))
   case atStart => exact ⟨(x7_1), (x23_1), (wrap64 ((l1.length : Int) - 1)), z1_, z1_, H', ⟨Nat.le_refl _⟩, ⟨by (try simp only [hl7_1]); (with_reducible repeat (first | apply Kd.R_alloc | apply Kd.R_drewN | apply Kd.R_drew)); exact HO_5.out⟩, ⟨by (try simp only [hl7_1]); (with_reducible repeat (first | apply Kd.R_alloc | apply Kd.R_drewN | apply Kd.R_drew)); exact HO_7.out⟩, ⟨zw0_ HB⟩⟩
   case round =>
    clear H'
    try clear c1
    try clear p2
    try clear c3
    try clear c5
    try clear c5b0
    try clear c5b1
    try clear c6
    try clear c6b0
    try clear c6b1
    try clear p6
    try clear c7
    try clear c11
    try clear c11b0
    try clear p2
    try clear p6
    obtain ⟨x7_2, x9_2, x10_2, rfl, rfl, HA, HK2, HO_5, HO_7, HB⟩ := hrel
    have hl7_2 := (Kd.R_reads' HO_7.out).1
    rw [hl7_2] at HO_7
    (try simp only [hl7_2])
    (try simp only [hl7_2] at HO_5)
    cases gk with
    | zero => exact absurd HA.out (by simp [shape_Spread.l1])
    | succ k2 =>
     have H := HA.out
     clear HA
     simp only [shape_Spread.l1] at H
     by_cases c12 : x10_2 ≥ (wrap64 ((l1.length : Int) - (l0.length : Int)))
     rotate_left
     ·rw [if_neg c12] at H
      have c12b0 : decide ((wrap64 ((l1.length : Int) - (l0.length : Int))) ≤ x10_2) = false := decide_eq_false c12
      clear c12
      have H' := Aside0.mk H
      clear H
      go_wp2
      (try simp only [← hl7_1, ← hl7_2])
      go_roundg k2
      case measure => have := HK1.out; have := HK2.out; omega
      case rel => exact ⟨(x7_2), (wrap64 (x23_1 + 1)), z1_, H', ⟨by have := HK1.out; have := HK2.out; omega⟩, ⟨by (try simp only [hl7_1]); (try simp only [hl7_2]); (with_reducible repeat (first | apply Kd.R_alloc | apply Kd.R_drewN | apply Kd.R_drew)); exact HO_5.out⟩, ⟨by (try simp only [hl7_1]); (try simp only [hl7_2]); (with_reducible repeat (first | apply Kd.R_alloc | apply Kd.R_drewN | apply Kd.R_drew)); exact HO_7.out⟩, ⟨zw0_ HB⟩⟩
     rw [if_pos c12] at H
     have c12b0 : decide ((wrap64 ((l1.length : Int) - (l0.length : Int))) ≤ x10_2) = true := decide_eq_true c12
     clear c12
     obtain ⟨ji13, hji13⟩ : ∃ j_ : Int, (wrap64 (x10_2 - (wrap64 ((l1.length : Int) - (l0.length : Int))))) = j_ := ⟨_, rfl⟩
     replace H : (if 0 ≤ (ji13) then (if (ji13) < (l0.length : Int) then (if (rd l0 (ji13)) > 1 then (if 0 ≤ x23_1 then (if x23_1 < (x7_2.length : Int) then (if 0 ≤ x10_2 then (if x10_2 < (l1.length : Int) then (if (rd l1 x10_2) = 0 then (none) else (if (ji13) < (t148.length : Int) then (shape_Spread.l1 k2 l0 l1 t148 (wrap64 ((l1.length : Int) - (l0.length : Int))) (x7_2.set (x23_1 : Int).toNat (wrap64 ((rd x7_2 x23_1) + (wrap64 ((Int.tmod x9_2 (rd l1 x10_2)) * (rd t148 (ji13))))))) x23_1 (wrap64 (Int.tdiv x9_2 (rd l1 x10_2))) (wrap64 (x10_2 - 1)) (y152.length : Int) x23_1) else (none))) else (none)) else (none)) else (none)) else (none)) else (if 0 ≤ x10_2 then (if x10_2 < (l1.length : Int) then (if (rd l1 x10_2) = 0 then (none) else (shape_Spread.l1 k2 l0 l1 t148 (wrap64 ((l1.length : Int) - (l0.length : Int))) x7_2 x23_1 (wrap64 (Int.tdiv x9_2 (rd l1 x10_2))) (wrap64 (x10_2 - 1)) (y152.length : Int) x23_1)) else (none)) else (none))) else (none)) else (none)) = some r := by first | (rw [hji13] at H; exact H) | (simp only [hji13] at H ⊢; exact H)
     have hji13w : (IntKind.i64.wrap (x10_2 - (wrap64 ((l1.length : Int) - (l0.length : Int))))) = ji13 := (i64_w _).trans hji13
     by_cases c14 : 0 ≤ (ji13)
     rotate_left
     ·rw [if_neg c14] at H
      exact absurd H (by simp)
     rw [if_pos c14] at H
     have c14b0 : decide (0 ≤ (ji13)) = true := decide_eq_true c14
     clear c14
     by_cases c15 : (ji13) < (l0.length : Int)
     rotate_left
     ·rw [if_neg c15] at H
      exact absurd H (by simp)
     rw [if_pos c15] at H
     have c15b0 : decide ((ji13) < (l0.length : Int)) = true := decide_eq_true c15
     clear c15
     by_cases c16 : (rd l0 (ji13)) > 1
     rotate_left
     ·rw [if_neg c16] at H
      have c16b0 : decide (1 < (rd l0 (ji13))) = false := decide_eq_false c16
      clear c16
      by_cases c27 : 0 ≤ x10_2
      rotate_left
      ·rw [if_neg c27] at H
       exact absurd H (by simp)
      rw [if_pos c27] at H
      have c27b0 : decide (0 ≤ x10_2) = true := decide_eq_true c27
      clear c27
      by_cases c28 : x10_2 < (l1.length : Int)
      rotate_left
      ·rw [if_neg c28] at H
       exact absurd H (by simp)
      rw [if_pos c28] at H
      have c28b0 : decide (x10_2 < (l1.length : Int)) = true := decide_eq_true c28
      clear c28
      by_cases c29 : (rd l1 x10_2) = 0
      ·rw [if_pos c29] at H
       exact absurd H (by simp)
      rw [if_neg c29] at H
      have c29b0 : ((rd l1 x10_2) == 0) = false := beq_eq_false_iff_ne.mpr c29
      have c29b1 : ((rd l1 x10_2) != 0) = true := bne_iff_ne.mpr c29
      have H' := Aside0.mk H
      clear H
      have p155 : 0 ≤ ((ji13) : Int) := of_decide_eq_true (by first | (with_reducible assumption) | assumption)
      have q155 : (ji13) < (l0.length : Int) := of_decide_eq_true (by first | (with_reducible assumption) | assumption)
      obtain ⟨ad155, e155, hx155_0⟩ := Kd.at_int HR0.out (ji13) p155 q155
      cases e155
      replace hx155_0 := (HB.out.cell (World.block_lt_of_cell? w _ hx155_0)).trans hx155_0
      replace p155 := eq_true p155
      replace q155 := eq_true q155
      have p161 : 0 ≤ (x10_2 : Int) := of_decide_eq_true (by first | (with_reducible assumption) | assumption)
      have q161 : x10_2 < (l1.length : Int) := of_decide_eq_true (by first | (with_reducible assumption) | assumption)
      obtain ⟨ad161, e161, hx161_0⟩ := Kd.at_int HR1.out x10_2 p161 q161
      cases e161
      replace hx161_0 := (HB.out.cell (World.block_lt_of_cell? w _ hx161_0)).trans hx161_0
      replace p161 := eq_true p161
      replace q161 := eq_true q161
      go_wp2
      (try simp only [← hl7_2])
      go_roundg k2
      case measure => have := HK1.out; have := HK2.out; omega
      case rel => exact ⟨(x7_2), (wrap64 (Int.tdiv x9_2 (rd l1 x10_2))), (wrap64 (x10_2 - 1)), z1_, z1_, H', ⟨by have := HK1.out; have := HK2.out; omega⟩, ⟨by (try simp only [hl7_1]); (try simp only [hl7_2]); (with_reducible repeat (first | apply Kd.R_alloc | apply Kd.R_drewN | apply Kd.R_drew)); exact HO_5.out⟩, ⟨by (try simp only [hl7_1]); (try simp only [hl7_2]); (with_reducible repeat (first | apply Kd.R_alloc | apply Kd.R_drewN | apply Kd.R_drew)); exact HO_7.out⟩, ⟨zw0_ HB⟩⟩
     rw [if_pos c16] at H
     have c16b0 : decide (1 < (rd l0 (ji13))) = true := decide_eq_true c16
     clear c16
     by_cases c17 : 0 ≤ x23_1
     rotate_left
     ·rw [if_neg c17] at H
      exact absurd H (by simp)
     rw [if_pos c17] at H
     have c17b0 : decide (0 ≤ x23_1) = true := decide_eq_true c17
     clear c17
     by_cases c18 : x23_1 < (x7_2.length : Int)
     rotate_left
     ·rw [if_neg c18] at H
      exact absurd H (by simp)
     rw [if_pos c18] at H
     have c18b0 : decide (x23_1 < (x7_2.length : Int)) = true := decide_eq_true c18
     clear c18
     by_cases c19 : 0 ≤ x10_2
     rotate_left
     ·rw [if_neg c19] at H
      exact absurd H (by simp)
     rw [if_pos c19] at H
     have c19b0 : decide (0 ≤ x10_2) = true := decide_eq_true c19
     clear c19
     by_cases c20 : x10_2 < (l1.length : Int)
     rotate_left
     ·rw [if_neg c20] at H
      exact absurd H (by simp)
     rw [if_pos c20] at H
     have c20b0 : decide (x10_2 < (l1.length : Int)) = true := decide_eq_true c20
     clear c20
     by_cases c21 : (rd l1 x10_2) = 0
     ·rw [if_pos c21] at H
      exact absurd H (by simp)
     rw [if_neg c21] at H
     have c21b0 : ((rd l1 x10_2) == 0) = false := beq_eq_false_iff_ne.mpr c21
     have c21b1 : ((rd l1 x10_2) != 0) = true := bne_iff_ne.mpr c21
     by_cases c22 : (ji13) < (t148.length : Int)
     rotate_left
     ·rw [if_neg c22] at H
      exact absurd H (by simp)
     rw [if_pos c22] at H
     have c22b0 : decide ((ji13) < (t148.length : Int)) = true := decide_eq_true c22
     clear c22
     obtain ⟨y159, hy159⟩ : ∃ y_ : List Int, y_ = (x7_2.set (x23_1 : Int).toNat (wrap64 ((rd x7_2 x23_1) + (wrap64 ((Int.tmod x9_2 (rd l1 x10_2)) * (rd t148 (ji13))))))) := ⟨_, rfl⟩
     replace H : (shape_Spread.l1 k2 l0 l1 t148 (wrap64 ((l1.length : Int) - (l0.length : Int))) y159 x23_1 (wrap64 (Int.tdiv x9_2 (rd l1 x10_2))) (wrap64 (x10_2 - 1)) (y152.length : Int) x23_1) = some r := by first | (rw [hy159]; with_reducible exact H) | (have H2_ := (Option.bind_some _ _).symm.trans H; rw [hy159]; with_reducible exact H2_) | (have H2_ := (Option.bind_some _ _).symm.trans H; with_reducible exact H2_) | with_reducible exact H | (rw [hy159]; exact H) | exact H
     have Ny159 := Aside0.mk hy159
     clear hy159
     have H' := Aside0.mk H
     clear H
     have p155 : 0 ≤ ((ji13) : Int) := of_decide_eq_true (by first | (with_reducible assumption) | assumption)
     have q155 : (ji13) < (l0.length : Int) := of_decide_eq_true (by first | (with_reducible assumption) | assumption)
     obtain ⟨ad155, e155, hx155_0⟩ := Kd.at_int HR0.out (ji13) p155 q155
     cases e155
     replace hx155_0 := (HB.out.cell (World.block_lt_of_cell? w _ hx155_0)).trans hx155_0
     replace p155 := eq_true p155
     replace q155 := eq_true q155
     try go_wp2
     replace HO_5 := Aside0.mk (Kd.R_drew HO_5.out)
     replace HO_7 := Aside0.mk (Kd.R_drew HO_7.out)
     replace HB := Aside0.mk (below_drew1 HB.out)
     have p156 : 0 ≤ (x23_1 : Int) := of_decide_eq_true (by first | (with_reducible assumption) | assumption)
     have q156 : x23_1 < (x7_2.length : Int) := of_decide_eq_true (by first | (with_reducible assumption) | assumption)
     obtain ⟨ad156, e156, hx156_0⟩ := Kd.at_int (Kd.R_reads' HO_7.out).2.2 x23_1 p156 q156
     cases e156
     replace p156 := eq_true p156
     replace q156 := eq_true q156
     have p157 : 0 ≤ (x10_2 : Int) := of_decide_eq_true (by first | (with_reducible assumption) | assumption)
     have q157 : x10_2 < (l1.length : Int) := of_decide_eq_true (by first | (with_reducible assumption) | assumption)
     obtain ⟨ad157, e157, hx157_0⟩ := Kd.at_int HR1.out x10_2 p157 q157
     have hw157_0 := hx157_0
     cases e157
     replace hx157_0 := (HB.out.cell (World.block_lt_of_cell? w _ hx157_0)).trans hx157_0
     replace p157 := eq_true p157
     replace q157 := eq_true q157
     obtain ⟨Ao25, co25, eo25⟩ := Kd.R_slice HO_5.out
     (first | subst eo25 | (injection eo25 with f1_ f2_ f3_; have f4_ := f1_.symm; have f5_ := f3_.symm; clear f1_ f2_ f3_; subst f4_; subst f5_))
     have p158 : 0 ≤ ((ji13) : Int) := of_decide_eq_true (by first | (with_reducible assumption) | assumption)
     have q158 : (ji13) < (t148.length : Int) := of_decide_eq_true (by first | (with_reducible assumption) | assumption)
     obtain ⟨ad158, e158, hx158_0⟩ := Kd.at_int (Kd.R_reads' HO_5.out).2.2 (ji13) p158 q158
     cases e158
     replace p158 := eq_true p158
     replace q158 := eq_true q158
     have p23 : 0 ≤ (x23_1 : Int) := of_decide_eq_true (by first | (with_reducible assumption) | assumption)
     have q23 : (x23_1 : Int) < ((x7_2.length : Int) : Int) := of_decide_eq_true (by first | (with_reducible assumption) | assumption)
     obtain ⟨go23, co23, eo23, gb23, gl23, cl23, HG23⟩ := Kd.R_form HO_7.out (by omega)
     (first | cases eo23 | (injection eo23 with ea_ en_ ec_; (first | subst ea_ | (injection ea_ with ea_; subst ea_)); subst ec_; clear en_))
     have GB23 := Aside0.mk gb23
     have GG23 := Aside0.mk HG23
     clear gb23 gl23 HG23
     (first | simp only [add_plain] at hx156_0 | skip)
     obtain ⟨hx23_0, hf23_0⟩ := Kd.R_celln 0 HO_7.out (x23_1 : Int) p23 q23
     replace p23 := eq_true p23
     replace q23 := eq_true q23
     have HP26 := Kd.R_putn HO_7.out (x23_1 : Int) (wrap64 ((rd x7_2 x23_1) + (wrap64 ((Int.tmod x9_2 (rd l1 x10_2)) * (rd t148 (ji13))))))
     rw [← Ny159.out] at HP26
     have HQ26 := Aside0.mk HP26
     clear HP26
     refine start_ (n := 20) (S := fun w' => w'.cell? ⟨go23, (x23_1).toNat, none⟩ = some (.int .i64 (rd x7_2 x23_1)) ∧ w'.cell? (ad157.add (x10_2).toNat) = some (.int .i64 (rd l1 x10_2)) ∧ w'.cell? (ad158.add ((ji13)).toNat) = some (.int .i64 (rd t148 (ji13)))) (ds := [19]) #[false, false, false, false, false, false, false, false, false, false, false, false, false, false, false, false, false, false, false, false] (by kernel_rfl) rfl rfl ⟨hx156_0, ((HB.out.cell (World.block_lt_of_cell? w _ hw157_0)).trans hw157_0), hx158_0⟩ (fun hHeld => ?_); refine with_tabW shape_Spread.tab11 shape_Spread.bits11 (fun HT_ HW_ => ?_)
     generalize wr.drew = w24 at HO_5 HO_7 HB GG23 HQ26 hf23_0 hx156_0 hx157_0 hx158_0 hx23_0 hHeld ⊢
     refine yp_ ?_ 0 42
     refine yp_ ?_ 1 43
     refine yp_ ?_ 2 44
     refine yp_ ?_ 4 46
     refine yp_ ?_ 5 47
     refine yp_ ?_ 6 48
     refine yp_ ?_ 7 49
     refine yp_ ?_ 10 52
     refine yp_ ?_ 11 53
     refine yp_ ?_ 12 54
     refine yp_ ?_ 13 55
     refine yp_ ?_ 14 56
     refine yt3_ ?_ 3 45
     refine yt3_ ?_ 8 50
     refine yp_ ?_ 9 51
     refine yt3_ ?_ 15 57
     refine yp_ ?_ 16 58
     refine yp_ ?_ 17 59
     refine yp_ ?_ 18 60
     refine yl_ 19 none (fun K hK => ?_)
     refine skip_ (w1 := ?_) (by rfl) rfl ?_ ?_
     rotate_left
     ·go_simp
      rfl
     refine hK.out _ _ ?_
     clear hK K
     refine done_ (done_of HT_.out (by kernel_rfl)) ?_
     have p160 : 0 ≤ (x10_2 : Int) := of_decide_eq_true (by first | (with_reducible assumption) | assumption)
     have q160 : x10_2 < (l1.length : Int) := of_decide_eq_true (by first | (with_reducible assumption) | assumption)
     obtain ⟨ad160, e160, hx160_0⟩ := Kd.at_int HR1.out x10_2 p160 q160
     obtain rfl : ad157 = ad160 := (by injection e160)
     have hn160_0 : ad157.block ≠ go23 := Nat.ne_of_lt (Nat.lt_of_lt_of_le (by have := World.block_lt_of_cell? _ _ hx160_0; first | rwa [add_block] at this | exact this) GB23.out)
     replace hx160_0 := (HB.out.cell (World.block_lt_of_cell? w _ hx160_0)).trans hx160_0
     replace hx160_0 := (cell_far (p := ⟨go23, (x23_1 : Int).toNat, none⟩) (by first | (rw [add_block]; exact hn160_0) | (show (Addr.add _ _).block ≠ _; rw [add_block]; exact hn160_0) | exact hn160_0) (.int .i64 (wrap64 ((rd x7_2 x23_1) + (wrap64 ((Int.tmod x9_2 (rd l1 x10_2)) * (rd t148 (ji13)))))))).trans hx160_0
     clear hn160_0
     replace p160 := eq_true p160
     replace q160 := eq_true q160
     try go_wp2
     (try simp only [← hl7_2])
     go_roundg k2
     case measure => have := HK1.out; have := HK2.out; omega
     case rel => exact ⟨(y159), (wrap64 (Int.tdiv x9_2 (rd l1 x10_2))), (wrap64 (x10_2 - 1)), z1_, z1_, H', ⟨by have := HK1.out; have := HK2.out; omega⟩, ⟨by (try simp only [hl7_1]); (try simp only [hl7_2]); (with_reducible repeat (first | apply Kd.R_alloc | apply Kd.R_drewN | apply Kd.R_drew)); exact Kd.R_mono (Kd.R_far (p := ⟨go23, (x23_1 : Int).toNat, none⟩) (Kd.R_mono HO_5.out (fun k_ hk => (⟨hk, fun e_ => hk (by rw [e_]; rfl)⟩ : _ ∧ k_ ≠ go23))) (fun _ hk => hk.2) (.int .i64 (wrap64 ((rd x7_2 x23_1) + (wrap64 ((Int.tmod x9_2 (rd l1 x10_2)) * (rd t148 (ji13)))))))) (fun _ hk => hk.1)⟩, ⟨by (try simp only [hl7_1]); (try simp only [hl7_2]); (with_reducible repeat (first | apply Kd.R_alloc | apply Kd.R_drewN | apply Kd.R_drew)); exact HQ26.out⟩, ⟨by repeat (first | (with_reducible first | exact HB.out | apply below_alloc | apply pw_below_drewN | apply below_drew1 | refine below_set ?_ GB23.out) | exact HB.out)⟩⟩

end Go.Proofs.Ytbdhabpplidgfaa.PTensKnown
