/- The functions that the law TensEach reaches, as Lean functions, and that each call of the Go function does what its Lean function says, wherever that one answers. Written by a program of mine over the print of the kit; Lean checks it. -/
import Derived.Test.YtbdhabpplidgfaaPTensEachx0
import Derived.Test.YtbdhabpplidgfaaPTensEachx5
import Derived.Test.YtbdhabpplidgfaaPTensEachx6
import Derived.Test.YtbdhabpplidgfaaPTensEachx12
namespace Go.Proofs.Ytbdhabpplidgfaa.PTensEach
open Go.RowKit Go.Proofs.YtbdhabpplidgfaaW.PrintWords Go.Proofs.YtbdhabpplidgfaaW.PrintLast Go.Proofs.YtbdhabpplidgfaaW.PrintMore
attribute [local go_sem] max2_int min2_int max_two min_two max_three min_three max_four min_four   -- for this text's walks alone
set_option linter.unusedVariables false
set_option linter.unusedSimpArgs false

/-! ### carouselref5_Place: function 57 -/
mutual
def carouselref5_Place.j0 : Nat → List Int → Int → Bool → Option (List Int × Bool)
 | 0, _, _, _ => none
 | k + 1, x0, x1, x20 => if x20 = true then (some (([] : List Int), false)) else (if 0 ≤ (x0.length : Int) then (if ((x0.length : Int) : Int).toNat ≤ 35184372088832 then (carouselref5_Place.l0 k x0 x1 (List.replicate ((x0.length : Int) : Int).toNat 0) (wrap64 ((x0.length : Int) - 1))) else (none)) else (none))
def carouselref5_Place.l0 : Nat → List Int → Int → List Int → Int → Option (List Int × Bool)
 | 0, _, _, _, _ => none
 | k + 1, x0, x1, x6, x7 => if x7 ≥ 0 then (if 0 ≤ x7 then (if x7 < (x0.length : Int) then (if (rd x0 x7) = 0 then (none) else (if x7 < (x6.length : Int) then (carouselref5_Place.l0 k x0 (wrap64 (Int.tdiv x1 (rd x0 x7))) (x6.set (x7 : Int).toNat (Int.tmod x1 (rd x0 x7))) (wrap64 (x7 - 1))) else (none))) else (none)) else (none)) else (some (x6, true))
end
def carouselref5_Place.f (k : Nat) (l0 : List Int) (a1 : Int) : Option (List Int × Bool) := (carouselref5_Good.f k l0).bind fun t389 => (if t389 = true then (if a1 < 0 then (carouselref5_Place.j0 k l0 a1 true) else ((carouselref5_Size.f k l0).bind fun t390 => (carouselref5_Place.j0 k l0 a1 (decide (a1 ≥ t390))))) else (carouselref5_Place.j0 k l0 a1 true))
theorem carouselref5_Place.mono_l : ∀ k, (∀ y0 y1 y2, LeO (carouselref5_Place.j0 k y0 y1 y2) (carouselref5_Place.j0 (k + 1) y0 y1 y2)) ∧ (∀ y0 y1 y2 y3, LeO (carouselref5_Place.l0 k y0 y1 y2 y3) (carouselref5_Place.l0 (k + 1) y0 y1 y2 y3))
 | 0 => ⟨fun _ _ _ r h => by simp [carouselref5_Place.j0] at h, fun _ _ _ _ r h => by simp [carouselref5_Place.l0] at h⟩
 | k + 1 => by
  obtain ⟨ih0, ih1⟩ := carouselref5_Place.mono_l k
  refine ⟨?_, ?_⟩
  ·intro y0 y1 y2
   unfold carouselref5_Place.j0
   repeat' first
   | (with_reducible exact ih0 _ _ _)
   | (with_reducible exact ih1 _ _ _ _)
   | (with_reducible exact LeO.refl _)
   | (with_reducible exact LeO.none _)
   | (with_reducible refine LeO.ite ?_ ?_)
   | (with_reducible refine LeO.bind ?_ (fun _ => ?_))
   | exact ih0 _ _ _
   | exact ih1 _ _ _ _
   | exact LeO.none _
   | refine LeO.ite ?_ ?_
   | refine LeO.bind ?_ (fun _ => ?_)
  ·intro y0 y1 y2 y3
   unfold carouselref5_Place.l0
   repeat' first
   | (with_reducible exact ih0 _ _ _)
   | (with_reducible exact ih1 _ _ _ _)
   | (with_reducible exact LeO.refl _)
   | (with_reducible exact LeO.none _)
   | (with_reducible refine LeO.ite ?_ ?_)
   | (with_reducible refine LeO.bind ?_ (fun _ => ?_))
   | exact ih0 _ _ _
   | exact ih1 _ _ _ _
   | exact LeO.none _
   | refine LeO.ite ?_ ?_
   | refine LeO.bind ?_ (fun _ => ?_)
theorem carouselref5_Place.mono : ∀ a0 a1 k, LeO (carouselref5_Place.f k a0 a1) (carouselref5_Place.f (k + 1) a0 a1) := by
 intro a0 a1 k
 obtain ⟨ih0, ih1⟩ := carouselref5_Place.mono_l k
 unfold carouselref5_Place.f
 repeat' first
   | (with_reducible exact ih0 _ _ _)
   | (with_reducible exact ih1 _ _ _ _)
   | (with_reducible exact carouselref5_Good.mono _ _)
   | (with_reducible exact carouselref5_Size.mono _ _)
   | (with_reducible exact LeO.refl _)
   | (with_reducible exact LeO.none _)
   | (with_reducible refine LeO.ite ?_ ?_)
   | (with_reducible refine LeO.bind ?_ (fun _ => ?_))
   | exact ih0 _ _ _
   | exact ih1 _ _ _ _
   | exact carouselref5_Good.mono _ _
   | exact carouselref5_Size.mono _ _
   | exact LeO.none _
   | refine LeO.ite ?_ ?_
   | refine LeO.bind ?_ (fun _ => ?_)
set_option maxHeartbeats 8000000 in
set_option maxRecDepth 100000 in
theorem carouselref5_Place.calls (k : Nat) (A0 : Option Addr) (c0 : Nat) (l0 : List Int) (a1 : Int) (r1 : List Int) (r2 : Bool) (w : World) (hr0 : Kd.C (Kd.int .i64) w A0 l0.length l0) (hc0 : l0.length ≤ c0) (h : carouselref5_Place.f k l0 a1 = some (r1, r2)) :
  Calls Try.prog 57 #[.slice A0 l0.length c0, .int .i64 a1] w fun e w' => ∃ v0_ : Value, e = .returned (.tuple #[v0_, .bool r2]) ∧ Kd.R (Kd.int .i64) 3 w' w.heap.size (fun _ => True) v0_ r1 ∧ Below w.heap.size w w' := by
 have HR0 := Aside0.mk hr0
 have HC0 := Aside0.mk hc0
 clear hr0 hc0
 have HB := Aside0.mk (Below.refl w.heap.size w)
 have H : ((carouselref5_Good.f k l0).bind fun t389 => (if t389 = true then (if a1 < 0 then (carouselref5_Place.j0 k l0 a1 true) else ((carouselref5_Size.f k l0).bind fun t390 => (carouselref5_Place.j0 k l0 a1 (decide (a1 ≥ t390))))) else (carouselref5_Place.j0 k l0 a1 true))) = some (r1, r2) := h
 clear h
 have HC3 := Aside0.mk H
 clear H
 go_enter Try.func57, Try.ntmps57
 go_upto_region 1 with (fail)
 go_cut [20] (fun v20 wc => ∃ (kq : Nat) (x20_2 : Bool), v20 = .bool x20_2 ∧ Aside0 (carouselref5_Place.j0 kq l0 a1 x20_2 = some (r1, r2)) ∧ Aside0 (kq ≤ k) ∧ Aside0 (Below w.heap.size w wc))
 case first =>
  have H := HC3.out
  clear HC3
  replace H := Option.bind_eq_some_iff.mp H
  obtain ⟨t389, A40, H⟩ := H
  (try dsimp only at H)
  have A4 := Aside0.mk A40
  clear A40
  by_cases c5 : t389 = true
  ·subst c5
   have H1 := H
   rw [if_pos rfl] at H1
   clear H
   have H := H1
   clear H1
   by_cases c6 : a1 < 0
   ·rw [if_pos c6] at H
    have c6b0 : decide (a1 < 0) = true := decide_eq_true c6
    clear c6
    (first | rw [c6b0] | (simp only [i64_w, i32_w]; rw [c6b0]) | skip)
    have H' := Aside0.mk H
    clear H
    go_wp2_with (first | ((with_reducible refine gate_callee (f := 13) rfl ?_); refine zg_ (some 9) Try.func13 #[.slice A0 l0.length c0] (h := ?_); (with_reducible refine (carouselref5_Good.calls k _ _ l0 true _ ?side1 ?side2 A4.out).mono ?_); (case side1 => exact zk_ (Kd.C_below HR0.out HB.out)); (case side2 => exact HC0.out); rintro e w' ⟨rfl, ⟨nd, rfl⟩⟩; refine ⟨_, rfl, ?_⟩))
    go_meet
    case rel => exact ⟨_, (true), (by first | rfl | (simp; done) | (simp [*]; done)), H', ⟨by first | omega | exact Nat.le_refl _⟩, ⟨zw0_ HB⟩⟩
   ·rw [if_neg c6] at H
    have c6b0 : decide (a1 < 0) = false := decide_eq_false c6
    clear c6
    (first | rw [c6b0] | (simp only [i64_w, i32_w]; rw [c6b0]) | skip)
    replace H := Option.bind_eq_some_iff.mp H
    obtain ⟨t390, A70, H⟩ := H
    replace H : (carouselref5_Place.j0 k l0 a1 (decide (a1 ≥ t390))) = some (r1, r2) := H
    have A7 := Aside0.mk A70
    clear A70
    have H' := Aside0.mk H
    clear H
    go_wp2_with (first | ((with_reducible refine gate_callee (f := 13) rfl ?_); refine zg_ (some 9) Try.func13 #[.slice A0 l0.length c0] (h := ?_); (with_reducible refine (carouselref5_Good.calls k _ _ l0 true _ ?side1 ?side2 A4.out).mono ?_); (case side1 => exact zk_ (Kd.C_below HR0.out HB.out)); (case side2 => exact HC0.out); rintro e w' ⟨rfl, ⟨nd, rfl⟩⟩; refine ⟨_, rfl, ?_⟩) | (go_at_call 38; (with_reducible refine (carouselref5_Size.calls k _ _ l0 t390 _ ?side1 ?side2 A7.out).mono ?_); (case side1 => repeat (first | exact (Kd.C_below HR0.out (zw0_ HB)) | (with_reducible refine Kd.C_alloc ?_ _) | (with_reducible refine Kd.C_drewN ?_ _) | (with_reducible refine Kd.C_drew ?_))); (case side2 => exact HC0.out); rintro e w' ⟨rfl, ⟨nd, rfl⟩⟩))
    go_meet
    case rel => exact ⟨_, (decide (a1 ≥ t390)), (by first | rfl | (simp; done) | (simp [*]; done)), H', ⟨by first | omega | exact Nat.le_refl _⟩, ⟨zw0_ HB⟩⟩
  ·replace c5 := Bool.eq_false_iff.mpr c5
   subst c5
   have H1 : (carouselref5_Place.j0 k l0 a1 true) = some (r1, r2) := by rw [if_neg (show ¬ (false = true) by decide)] at H; exact H
   clear H
   have H := H1
   clear H1
   have H' := Aside0.mk H
   clear H
   go_wp2_with (first | ((with_reducible refine gate_callee (f := 13) rfl ?_); refine zg_ (some 9) Try.func13 #[.slice A0 l0.length c0] (h := ?_); (with_reducible refine (carouselref5_Good.calls k _ _ l0 false _ ?side1 ?side2 A4.out).mono ?_); (case side1 => exact zk_ (Kd.C_below HR0.out HB.out)); (case side2 => exact HC0.out); rintro e w' ⟨rfl, ⟨nd, rfl⟩⟩; refine ⟨_, rfl, ?_⟩))
   go_meet
   case rel => exact ⟨_, (true), (by first | rfl | (simp; done) | (simp [*]; done)), H', ⟨by first | omega | exact Nat.le_refl _⟩, ⟨zw0_ HB⟩⟩
 case rest =>
  clear HC3
  try clear c1
  try clear p2
  try clear c5
  try clear c6
  try clear c6b0
  obtain ⟨kq, x20_2, rfl, HA, HJ2, HB⟩ := hcut
  cases kq with
  | zero => exact absurd HA.out (by simp [carouselref5_Place.j0])
  | succ kj2 =>
   have H := HA.out
   clear HA
   simp only [carouselref5_Place.j0] at H
   by_cases c8 : x20_2 = true
   ·subst c8
    have H1 : (some (([] : List Int), false)) = some (r1, r2) := by rw [if_pos rfl] at H; exact H
    clear H
    have H := H1
    clear H1
    simp only [Option.some.injEq, Prod.mk.injEq] at H
    obtain ⟨rfl, rfl⟩ := H
    go_wp2
    go_ret2
    exact ⟨_, by first | rfl | (simp [errW_none, errW_some] <;> rfl) | (simp [*, errW_none, errW_some] <;> rfl), by first | exact Kd.R_nil _ _ _ _ _ | exact Kd.N_nil _ _ _ _ _ | exact Kd.V_nil _ _ _ _ _ | exact Kd.Q_nil _ _ _ _ _ | exact Kd.S_nil _ _ _ _ _, zw0_ HB⟩
   ·replace c8 := Bool.eq_false_iff.mpr c8
    subst c8
    have H1 := H
    rw [if_neg (show ¬ (false = true) by decide)] at H1
    clear H
    have H := H1
    clear H1
    by_cases c9 : 0 ≤ (l0.length : Int)
    ·rw [if_pos c9] at H
     have c9b0 := eq_true c9
     have c9b1 : decide (0 ≤ (l0.length : Int)) = true := decide_eq_true c9
     clear c9
     by_cases c10 : ((l0.length : Int) : Int).toNat ≤ 35184372088832
     ·rw [if_pos c10] at H
      have c10b0 := eq_true c10
      have c10b1 : decide (((l0.length : Int) : Int).toNat ≤ 35184372088832) = true := decide_eq_true c10
      clear c10
      obtain ⟨y391, hy391⟩ : ∃ y_ : List Int, y_ = (List.replicate ((l0.length : Int) : Int).toNat 0) := ⟨_, rfl⟩
      replace H : (carouselref5_Place.l0 kj2 l0 a1 y391 (wrap64 ((l0.length : Int) - 1))) = some (r1, r2) := by first | (rw [hy391]; with_reducible exact H) | (have H2_ := (Option.bind_some _ _).symm.trans H; rw [hy391]; with_reducible exact H2_) | (have H2_ := (Option.bind_some _ _).symm.trans H; with_reducible exact H2_) | with_reducible exact H | (rw [hy391]; exact H) | exact H
      have Ny391 := Aside0.mk hy391
      clear hy391
      have H' := Aside0.mk H
      clear H
      go_wp2_with (first | ((with_reducible refine gate_dst (N := 23) rfl ?_); refine Kd.R_make (Kd.int .i64) _ 3 rfl (N := 23) rfl 22 _ _ rfl (l0.length : Int) rfl rfl Try.underlying22 (.int .i64 0) 8 info3 rfl (by decide) (by omega) 0 (ok := fun _ => True) (okp := fun _ => True) rfl (fun _ hk => hk) trivial (of_decide_eq_true (by first | (with_reducible assumption) | assumption)) (Nat.le_trans (Nat.mul_le_mul_right _ (of_decide_eq_true (by first | (with_reducible assumption) | assumption) : (l0.length : Int).toNat ≤ 35184372088832)) (by omega)) (Below.refl _ _) (Nat.le_refl _) ?_; intro v392 w11 ho12 hb hg_ hnew_; clear hg_ hnew_; (first | rw [← Ny391.out] at ho12 | (simp only [Int.reduceToNat] at ho12; rw [← Ny391.out] at ho12)); have n0_ := Aside0.mk (Kd.R_lower ho12 (below_size (zw0_ HB))); have n1_ := Aside0.mk (below_step (zw0_ HB) hb); clear HB; have HO393 := n0_; have HB := n1_; clear n0_ n1_; clear hb ho12))
      go_loopg [1, 7] kj2 (fun kq v1 v7 w' => ∃ (x1_2 : Int) (x6_2 : List Int) (x7_2 : Int), v1 = .int .i64 x1_2 ∧ v7 = .int .i64 x7_2 ∧ Aside0 (carouselref5_Place.l0 kq l0 x1_2 x6_2 x7_2 = some (r1, r2)) ∧ Aside0 (kq ≤ kj2) ∧ Aside0 (Kd.R (Kd.int .i64) 3 w' w.heap.size (fun _ => True) v392 x6_2) ∧ Aside0 (Below w.heap.size w w'))
      case atStart => exact ⟨(a1), (y391), (wrap64 ((l0.length : Int) - 1)), (by first | rfl | (simp; done) | (simp [*]; done)), (by first | rfl | (simp; done) | (simp [*]; done)), H', ⟨Nat.le_refl _⟩, ⟨zr_ HO393.out⟩, ⟨zw0_ HB⟩⟩
      case round =>
       clear H'
       try clear c1
       try clear p2
       try clear c5
       try clear c6
       try clear c6b0
       try clear p6
       try clear c8
       try clear c9
       try clear c9b0
       try clear c9b1
       try clear c10
       try clear c10b0
       try clear c10b1
       try clear p2
       obtain ⟨x1_2, x6_2, x7_2, rfl, rfl, HA, HK2, HO_6, HB⟩ := hrel
       cases gk with
       | zero => exact absurd HA.out (by simp [carouselref5_Place.l0])
       | succ k2 =>
        have H := HA.out
        clear HA
        simp only [carouselref5_Place.l0] at H
        by_cases c13 : x7_2 ≥ 0
        ·rw [if_pos c13] at H
         have c13b0 : decide (0 ≤ x7_2) = true := decide_eq_true c13
         clear c13
         by_cases c14 : 0 ≤ x7_2
         ·rw [if_pos c14] at H
          have c14b0 : decide (0 ≤ x7_2) = true := decide_eq_true c14
          clear c14
          by_cases c15 : x7_2 < (l0.length : Int)
          ·rw [if_pos c15] at H
           have c15b0 : decide (x7_2 < (l0.length : Int)) = true := decide_eq_true c15
           clear c15
           by_cases c16 : (rd l0 x7_2) = 0
           ·rw [if_pos c16] at H
            exact absurd H (by simp)
           ·rw [if_neg c16] at H
            have c16b0 : ((rd l0 x7_2) == 0) = false := beq_eq_false_iff_ne.mpr c16
            have c16b1 : ((rd l0 x7_2) != 0) = true := bne_iff_ne.mpr c16
            by_cases c17 : x7_2 < (x6_2.length : Int)
            ·rw [if_pos c17] at H
             have c17b0 : decide (x7_2 < (x6_2.length : Int)) = true := decide_eq_true c17
             clear c17
             obtain ⟨y395, hy395⟩ : ∃ y_ : List Int, y_ = (x6_2.set (x7_2 : Int).toNat (Int.tmod x1_2 (rd l0 x7_2))) := ⟨_, rfl⟩
             replace H : (carouselref5_Place.l0 k2 l0 (wrap64 (Int.tdiv x1_2 (rd l0 x7_2))) y395 (wrap64 (x7_2 - 1))) = some (r1, r2) := by first | (rw [hy395]; with_reducible exact H) | (have H2_ := (Option.bind_some _ _).symm.trans H; rw [hy395]; with_reducible exact H2_) | (have H2_ := (Option.bind_some _ _).symm.trans H; with_reducible exact H2_) | with_reducible exact H | (rw [hy395]; exact H) | exact H
             have Ny395 := Aside0.mk hy395
             clear hy395
             have H' := Aside0.mk H
             clear H
             have p394 : 0 ≤ (x7_2 : Int) := of_decide_eq_true (by first | (with_reducible assumption) | assumption)
             have q394 : x7_2 < (l0.length : Int) := of_decide_eq_true (by first | (with_reducible assumption) | assumption)
             obtain ⟨ad394, e394, hx394_0⟩ := Kd.at_int HR0.out x7_2 p394 q394
             cases e394
             replace hx394_0 := (HB.out.cell (World.block_lt_of_cell? w _ hx394_0)).trans hx394_0
             replace p394 := eq_true p394
             replace q394 := eq_true q394
             have p18 : 0 ≤ (x7_2 : Int) := of_decide_eq_true (by first | (with_reducible assumption) | assumption)
             have q18 : (x7_2 : Int) < ((x6_2.length : Int) : Int) := of_decide_eq_true (by first | (with_reducible assumption) | assumption)
             obtain ⟨go18, co18, eo18, gb18, gl18, cl18, HG18⟩ := Kd.R_form HO_6.out (by omega)
             (first | cases eo18 | (injection eo18 with ea_ en_ ec_; (first | subst ea_ | (injection ea_ with ea_; subst ea_)); subst ec_; clear en_))
             have GB18 := Aside0.mk gb18
             have GG18 := Aside0.mk HG18
             clear gb18 gl18 HG18
             obtain ⟨hx18_0, hf18_0⟩ := Kd.R_celln 0 HO_6.out (x7_2 : Int) p18 q18
             replace p18 := eq_true p18
             replace q18 := eq_true q18
             have HP19 := Kd.R_putg HO_6.out (x7_2 : Int) (Int.tmod x1_2 (rd l0 x7_2))
             go_wp2_with (first | ((with_reducible refine gate_store (t := 3) (p := 39) rfl ?_); refine store_event (t := 3) (p := 39) (v := ?vo_w20) (w1 := (wr.setCell ⟨go18, (x7_2 : Int).toNat, none⟩ (.int .i64 (Int.tmod x1_2 (rd l0 x7_2))))) ?hg ?ho ?hn ?hr ?_; (case ho => rfl); (case hg => rfl); (case hn => rfl); (case hr => first | (go_simp; done) | (go_simp; rfl)); intro w20 hw; have hg : wr.grownBy w20 (some go18) := (by rw [hw]; exact HP19.2); have hp_ : Kd.R (Kd.int .i64) 3 w20 w.heap.size (fun _ => True) (.slice (some ⟨go18, 0, none⟩) x6_2.length co18) y395 := (by rw [hw, Ny395.out]; exact HP19.1); clear HP19; have n0_ := Aside0.mk (hp_); have n1_ := Aside0.mk ((by rw [hw]; exact below_set (HB.out) GB18.out : Below w.heap.size w w20)); clear HO_6 HB; have HO_6 := n0_; have HB := n1_; clear n0_ n1_; clear hg hw hp_; have p396 : 0 ≤ (x7_2 : Int) := of_decide_eq_true (by first | (with_reducible assumption) | assumption); have q396 : x7_2 < (l0.length : Int) := of_decide_eq_true (by first | (with_reducible assumption) | assumption); obtain ⟨ad396, e396, hx396_0⟩ := Kd.at_int HR0.out x7_2 p396 q396; obtain rfl : ad394 = ad396 := (by injection e396); replace hx396_0 := (HB.out.cell (World.block_lt_of_cell? w _ hx396_0)).trans hx396_0; replace p396 := eq_true p396; replace q396 := eq_true q396))
             go_roundg k2
             case measure => have := HJ2.out; have := HK2.out; omega
             case rel => exact ⟨(wrap64 (Int.tdiv x1_2 (rd l0 x7_2))), (y395), (wrap64 (x7_2 - 1)), (by first | rfl | (simp; done) | (simp [*]; done)), (by first | rfl | (simp; done) | (simp [*]; done)), H', ⟨by have := HJ2.out; have := HK2.out; omega⟩, ⟨zr_ HO_6.out⟩, ⟨zw0_ HB⟩⟩
            ·rw [if_neg c17] at H
             exact absurd H (by simp)
          ·rw [if_neg c15] at H
           exact absurd H (by simp)
         ·rw [if_neg c14] at H
          exact absurd H (by simp)
        ·rw [if_neg c13] at H
         have c13b0 : decide (0 ≤ x7_2) = false := decide_eq_false c13
         clear c13
         simp only [Option.some.injEq, Prod.mk.injEq] at H
         obtain ⟨rfl, rfl⟩ := H
         go_wp2
         go_ret2
         exact ⟨_, by first | rfl | (simp [errW_none, errW_some] <;> rfl) | (simp [*, errW_none, errW_some] <;> rfl), zr_ HO_6.out, zw0_ HB⟩
     ·rw [if_neg c10] at H
      exact absurd H (by simp)
    ·rw [if_neg c9] at H
     exact absurd H (by simp)

/-! ### carouselref5_From: function 47 -/
mutual
def carouselref5_From.j0 : Nat → List Int → List Int → Int → Bool → Option (Int × Bool)
 | 0, _, _, _, _ => none
 | k + 1, x0, x1, x2, x28 => if x28 = true then (some (0, false)) else ((carouselref5_Place.f k x1 x2).bind fun bt402 => (if bt402.2 = true then (carouselref5_From.l0 k x0 bt402.1 0 0) else (some (0, false))))
def carouselref5_From.l0 : Nat → List Int → List Int → Int → Int → Option (Int × Bool)
 | 0, _, _, _, _ => none
 | k + 1, x0, x10, x12, x13 => if x13 < (x0.length : Int) then (if 0 ≤ (wrap64 ((wrap64 ((x10.length : Int) - (x0.length : Int))) + x13)) then (if (wrap64 ((wrap64 ((x10.length : Int) - (x0.length : Int))) + x13)) < (x10.length : Int) then (if 0 ≤ x13 then (if (rd x0 x13) = 1 then (carouselref5_From.l0 k x0 x10 (wrap64 ((wrap64 (x12 * (rd x0 x13))) + 0)) (wrap64 (x13 + 1))) else (carouselref5_From.l0 k x0 x10 (wrap64 ((wrap64 (x12 * (rd x0 x13))) + (rd x10 (wrap64 ((wrap64 ((x10.length : Int) - (x0.length : Int))) + x13))))) (wrap64 (x13 + 1)))) else (none)) else (none)) else (none)) else (some (x12, true))
end
def carouselref5_From.f (k : Nat) (l0 : List Int) (l1 : List Int) (a2 : Int) : Option (Int × Bool) := (carouselref5_Join.f k l0 l1).bind fun bt397 => (if bt397.2 = 0 then ((carouselref5_Same.f k bt397.1 l1).bind fun t401 => (carouselref5_From.j0 k l0 l1 a2 (!t401))) else (carouselref5_From.j0 k l0 l1 a2 true))
theorem carouselref5_From.mono_l : ∀ k, (∀ y0 y1 y2 y3, LeO (carouselref5_From.j0 k y0 y1 y2 y3) (carouselref5_From.j0 (k + 1) y0 y1 y2 y3)) ∧ (∀ y0 y1 y2 y3, LeO (carouselref5_From.l0 k y0 y1 y2 y3) (carouselref5_From.l0 (k + 1) y0 y1 y2 y3))
 | 0 => ⟨fun _ _ _ _ r h => by simp [carouselref5_From.j0] at h, fun _ _ _ _ r h => by simp [carouselref5_From.l0] at h⟩
 | k + 1 => by
  obtain ⟨ih0, ih1⟩ := carouselref5_From.mono_l k
  refine ⟨?_, ?_⟩
  ·intro y0 y1 y2 y3
   unfold carouselref5_From.j0
   repeat' first
   | (with_reducible exact ih0 _ _ _ _)
   | (with_reducible exact ih1 _ _ _ _)
   | (with_reducible exact carouselref5_Place.mono _ _ _)
   | (with_reducible exact LeO.refl _)
   | (with_reducible exact LeO.none _)
   | (with_reducible refine LeO.ite ?_ ?_)
   | (with_reducible refine LeO.bind ?_ (fun _ => ?_))
   | exact ih0 _ _ _ _
   | exact ih1 _ _ _ _
   | exact carouselref5_Place.mono _ _ _
   | exact LeO.none _
   | refine LeO.ite ?_ ?_
   | refine LeO.bind ?_ (fun _ => ?_)
  ·intro y0 y1 y2 y3
   unfold carouselref5_From.l0
   repeat' first
   | (with_reducible exact ih0 _ _ _ _)
   | (with_reducible exact ih1 _ _ _ _)
   | (with_reducible exact LeO.refl _)
   | (with_reducible exact LeO.none _)
   | (with_reducible refine LeO.ite ?_ ?_)
   | (with_reducible refine LeO.bind ?_ (fun _ => ?_))
   | exact ih0 _ _ _ _
   | exact ih1 _ _ _ _
   | exact LeO.none _
   | refine LeO.ite ?_ ?_
   | refine LeO.bind ?_ (fun _ => ?_)
theorem carouselref5_From.mono : ∀ a0 a1 a2 k, LeO (carouselref5_From.f k a0 a1 a2) (carouselref5_From.f (k + 1) a0 a1 a2) := by
 intro a0 a1 a2 k
 obtain ⟨ih0, ih1⟩ := carouselref5_From.mono_l k
 unfold carouselref5_From.f
 repeat' first
   | (with_reducible exact ih0 _ _ _ _)
   | (with_reducible exact ih1 _ _ _ _)
   | (with_reducible exact carouselref5_Join.mono _ _ _)
   | (with_reducible exact carouselref5_Same.mono _ _ _)
   | (with_reducible exact LeO.refl _)
   | (with_reducible exact LeO.none _)
   | (with_reducible refine LeO.ite ?_ ?_)
   | (with_reducible refine LeO.bind ?_ (fun _ => ?_))
   | exact ih0 _ _ _ _
   | exact ih1 _ _ _ _
   | exact carouselref5_Join.mono _ _ _
   | exact carouselref5_Same.mono _ _ _
   | exact LeO.none _
   | refine LeO.ite ?_ ?_
   | refine LeO.bind ?_ (fun _ => ?_)
set_option maxHeartbeats 8000000 in
set_option maxRecDepth 100000 in
theorem carouselref5_From.calls (k : Nat) (A0 : Option Addr) (c0 : Nat) (l0 : List Int) (A1 : Option Addr) (c1 : Nat) (l1 : List Int) (a2 : Int) (r1 : Int) (r2 : Bool) (w : World) (hr0 : Kd.C (Kd.int .i64) w A0 l0.length l0) (hc0 : l0.length ≤ c0) (hr1 : Kd.C (Kd.int .i64) w A1 l1.length l1) (hc1 : l1.length ≤ c1) (h : carouselref5_From.f k l0 l1 a2 = some (r1, r2)) :
  Calls Try.prog 47 #[.slice A0 l0.length c0, .slice A1 l1.length c1, .int .i64 a2] w fun e w' => e = .returned (.tuple #[.int .i64 r1, .bool r2]) ∧ Below w.heap.size w w' := by
 have HR0 := Aside0.mk hr0
 have HC0 := Aside0.mk hc0
 clear hr0 hc0
 have HR1 := Aside0.mk hr1
 have HC1 := Aside0.mk hc1
 clear hr1 hc1
 have HB := Aside0.mk (Below.refl w.heap.size w)
 have H : ((carouselref5_Join.f k l0 l1).bind fun bt397 => (if bt397.2 = 0 then ((carouselref5_Same.f k bt397.1 l1).bind fun t401 => (carouselref5_From.j0 k l0 l1 a2 (!t401))) else (carouselref5_From.j0 k l0 l1 a2 true))) = some (r1, r2) := h
 clear h
 replace H := Option.bind_eq_some_iff.mp H
 obtain ⟨⟨t397, t398⟩, A40, H⟩ := H
 (try dsimp only at H)
 have A4 := Aside0.mk A40
 clear A40
 have HC5 := Aside0.mk H
 clear H
 go_enter Try.func47, Try.ntmps47
 go_upto_region 2 with (first | ((with_reducible refine gate_callee (f := 46) rfl ?_); refine zg_ (some 18) Try.func46 #[.slice A0 l0.length c0, .slice A1 l1.length c1] (h := ?_); (with_reducible refine (carouselref5_Join.calls k _ _ l0 _ _ l1 t397 t398 _ ?side1 ?side2 ?side3 ?side4 A4.out).mono ?_); (case side1 => repeat (first | exact HR0.out | (with_reducible refine Kd.C_alloc ?_ _) | (with_reducible refine Kd.C_drewN ?_ _) | (with_reducible refine Kd.C_drew ?_))); (case side2 => exact HC0.out); (case side3 => repeat (first | exact HR1.out | (with_reducible refine Kd.C_alloc ?_ _) | (with_reducible refine Kd.C_drewN ?_ _) | (with_reducible refine Kd.C_drew ?_))); (case side4 => exact HC1.out); rintro e w6 ⟨v399, rfl, ho0, hb⟩; refine ⟨_, rfl, ?_⟩; have n0_ := Aside0.mk (Kd.R_lower ho0 (below_size (zw0_ HB))); have n1_ := Aside0.mk (below_step (zw0_ HB) hb); clear HB; have HO400 := n0_; have HB := n1_; clear n0_ n1_; (try clear hb); (try clear hb2); (try clear hk); (try clear hi); (try clear ho0)))
 (try simp only [Act.put, List.setIfInBounds_toArray, List.set_cons_zero, List.set_cons_succ])
 go_cut [28] (fun v28 wc => ∃ (kq : Nat) (x28_4 : Bool), v28 = .bool x28_4 ∧ Aside0 (carouselref5_From.j0 kq l0 l1 a2 x28_4 = some (r1, r2)) ∧ Aside0 (kq ≤ k) ∧ Aside0 (Below w.heap.size w wc))
 case first =>
  have H := HC5.out
  clear HC5
  by_cases c7 : t398 = 0
  ·rw [if_pos c7] at H
   have c7b0 : (t398 == 0) = true := beq_iff_eq.mpr c7
   have c7b1 : (t398 != 0) = false := bne_eq_false_iff_eq.mpr c7
   clear c7
   (first | rw [c7b0] | (simp only [i64_w, i32_w]; rw [c7b0]) | skip)
   replace H := Option.bind_eq_some_iff.mp H
   obtain ⟨t401, A80, H⟩ := H
   replace H : (carouselref5_From.j0 k l0 l1 a2 (!t401)) = some (r1, r2) := H
   have A8 := Aside0.mk A80
   clear A80
   have H' := Aside0.mk H
   clear H
   obtain ⟨Ao9, co9, eo9⟩ := Kd.R_slice HO400.out
   subst eo9
   go_wp2_with (first | (go_at_call 37; (with_reducible refine (carouselref5_Same.calls k _ _ t397 _ _ l1 t401 _ ?side1 ?side2 ?side3 ?side4 A8.out).mono ?_); (case side1 => exact zk_ ((Kd.R_reads' HO400.out).2.2)); (case side2 => exact (Kd.R_reads' HO400.out).2.1); (case side3 => exact zk_ (Kd.C_below HR1.out HB.out)); (case side4 => exact HC1.out); rintro e w' ⟨rfl, ⟨nd, rfl⟩⟩))
   go_meet
   case rel => exact ⟨_, (!t401), (by first | rfl | (simp; done) | (simp [*]; done)), H', ⟨by first | omega | exact Nat.le_refl _⟩, ⟨zw0_ HB⟩⟩
  ·rw [if_neg c7] at H
   have c7b0 : (t398 == 0) = false := beq_eq_false_iff_ne.mpr c7
   have c7b1 : (t398 != 0) = true := bne_iff_ne.mpr c7
   (first | rw [c7b0] | (simp only [i64_w, i32_w]; rw [c7b0]) | skip)
   have H' := Aside0.mk H
   clear H
   go_wp2
   go_meet
   case rel => exact ⟨_, (true), (by first | rfl | (simp; done) | (simp [*]; done)), H', ⟨by first | omega | exact Nat.le_refl _⟩, ⟨zw0_ HB⟩⟩
 case rest =>
  clear HC5
  try clear c1
  try clear p2
  try clear c4
  try clear c7
  try clear c7b0
  try clear c7b1
  obtain ⟨kq, x28_4, rfl, HA, HJ4, HB⟩ := hcut
  cases kq with
  | zero => exact absurd HA.out (by simp [carouselref5_From.j0])
  | succ kj4 =>
   have H := HA.out
   clear HA
   simp only [carouselref5_From.j0] at H
   by_cases c10 : x28_4 = true
   ·subst c10
    have H1 : (some (0, false)) = some (r1, r2) := by rw [if_pos rfl] at H; exact H
    clear H
    have H := H1
    clear H1
    simp only [Option.some.injEq, Prod.mk.injEq] at H
    obtain ⟨rfl, rfl⟩ := H
    go_wp2
    go_ret2
    exact ⟨by first | rfl | (simp [errW_none, errW_some] <;> rfl) | (simp [*, errW_none, errW_some] <;> rfl), zw0_ HB⟩
   ·replace c10 := Bool.eq_false_iff.mpr c10
    subst c10
    have H1 := H
    rw [if_neg (show ¬ (false = true) by decide)] at H1
    clear H
    have H := H1
    clear H1
    replace H := Option.bind_eq_some_iff.mp H
    obtain ⟨⟨t402, t403⟩, A110, H⟩ := H
    replace H : (if t403 = true then (carouselref5_From.l0 kj4 l0 t402 0 0) else (some (0, false))) = some (r1, r2) := H
    have A11 := Aside0.mk A110
    clear A110
    by_cases c12 : t403 = true
    ·subst c12
     have H1 : (carouselref5_From.l0 kj4 l0 t402 0 0) = some (r1, r2) := by rw [if_pos rfl] at H; exact H
     clear H
     have H := H1
     clear H1
     have H' := Aside0.mk H
     clear H
     go_wp2_with (first | ((with_reducible refine gate_callee (f := 57) rfl ?_); refine zg_ (some 32) Try.func57 #[.slice A1 l1.length c1, .int .i64 a2] (h := ?_); (with_reducible refine (carouselref5_Place.calls kj4 _ _ l1 a2 t402 true _ ?side1 ?side2 A11.out).mono ?_); (case side1 => exact zk_ (Kd.C_below HR1.out HB.out)); (case side2 => exact HC1.out); rintro e w13 ⟨v404, rfl, ho0, hb⟩; refine ⟨_, rfl, ?_⟩; have n0_ := Aside0.mk (Kd.R_lower ho0 (below_size (zw0_ HB))); have n1_ := Aside0.mk (below_step (zw0_ HB) hb); clear HB; have HO405 := n0_; have HB := n1_; clear n0_ n1_; (try clear hb); (try clear hb2); (try clear hk); (try clear hi); (try clear ho0)))
     go_loopg [12, 13] kj4 (fun kq v12 v13 w' => ∃ (x12_2 : Int) (x13_2 : Int), v12 = .int .i64 x12_2 ∧ v13 = .int .i64 x13_2 ∧ Aside0 (carouselref5_From.l0 kq l0 t402 x12_2 x13_2 = some (r1, r2)) ∧ Aside0 (kq ≤ kj4) ∧ Aside0 (Kd.R (Kd.int .i64) 3 w' w.heap.size (fun _ => True) v404 t402) ∧ Aside0 (Below w.heap.size w w'))
     case atStart => exact ⟨(0), (0), (by first | rfl | (simp; done) | (simp [*]; done)), (by first | rfl | (simp; done) | (simp [*]; done)), H', ⟨Nat.le_refl _⟩, ⟨zr_ HO405.out⟩, ⟨zw0_ HB⟩⟩
     case round =>
      clear H'
      try clear c1
      try clear p2
      try clear c4
      try clear c5
      try clear c7
      try clear c7b0
      try clear c7b1
      try clear c10
      try clear c12
      try clear p2
      obtain ⟨x12_2, x13_2, rfl, rfl, HA, HK2, HO_10, HB⟩ := hrel
      cases gk with
      | zero => exact absurd HA.out (by simp [carouselref5_From.l0])
      | succ k2 =>
       have H := HA.out
       clear HA
       simp only [carouselref5_From.l0] at H
       by_cases c14 : x13_2 < (l0.length : Int)
       ·rw [if_pos c14] at H
        have c14b0 : decide (x13_2 < (l0.length : Int)) = true := decide_eq_true c14
        clear c14
        obtain ⟨ji15, hji15⟩ : ∃ j_ : Int, (wrap64 ((wrap64 ((t402.length : Int) - (l0.length : Int))) + x13_2)) = j_ := ⟨_, rfl⟩
        replace H : (if 0 ≤ (ji15) then (if (ji15) < (t402.length : Int) then (if 0 ≤ x13_2 then (if (rd l0 x13_2) = 1 then (carouselref5_From.l0 k2 l0 t402 (wrap64 ((wrap64 (x12_2 * (rd l0 x13_2))) + 0)) (wrap64 (x13_2 + 1))) else (carouselref5_From.l0 k2 l0 t402 (wrap64 ((wrap64 (x12_2 * (rd l0 x13_2))) + (rd t402 (ji15)))) (wrap64 (x13_2 + 1)))) else (none)) else (none)) else (none)) = some (r1, r2) := by first | (rw [hji15] at H; exact H) | (simp only [hji15] at H ⊢; exact H)
        have hji15w : (IntKind.i64.wrap ((wrap64 ((t402.length : Int) - (l0.length : Int))) + x13_2)) = ji15 := (i64_w _).trans hji15
        by_cases c16 : 0 ≤ (ji15)
        ·rw [if_pos c16] at H
         have c16b0 : decide (0 ≤ (ji15)) = true := decide_eq_true c16
         clear c16
         by_cases c17 : (ji15) < (t402.length : Int)
         ·rw [if_pos c17] at H
          have c17b0 : decide ((ji15) < (t402.length : Int)) = true := decide_eq_true c17
          clear c17
          by_cases c18 : 0 ≤ x13_2
          ·rw [if_pos c18] at H
           have c18b0 : decide (0 ≤ x13_2) = true := decide_eq_true c18
           clear c18
           by_cases c19 : (rd l0 x13_2) = 1
           ·rw [if_pos c19] at H
            have c19b0 : ((rd l0 x13_2) == 1) = true := beq_iff_eq.mpr c19
            have c19b1 : ((rd l0 x13_2) != 1) = false := bne_eq_false_iff_eq.mpr c19
            clear c19
            have H' := Aside0.mk H
            clear H
            obtain ⟨Ao20, co20, eo20⟩ := Kd.R_slice HO_10.out
            subst eo20
            have p406 : 0 ≤ ((ji15) : Int) := of_decide_eq_true (by first | (with_reducible assumption) | assumption)
            have q406 : (ji15) < (t402.length : Int) := of_decide_eq_true (by first | (with_reducible assumption) | assumption)
            obtain ⟨ad406, e406, hx406_0⟩ := Kd.at_int (Kd.R_reads' HO_10.out).2.2 (ji15) p406 q406
            cases e406
            replace p406 := eq_true p406
            replace q406 := eq_true q406
            have p407 : 0 ≤ (x13_2 : Int) := of_decide_eq_true (by first | (with_reducible assumption) | assumption)
            have q407 : x13_2 < (l0.length : Int) := of_decide_eq_true (by first | (with_reducible assumption) | assumption)
            obtain ⟨ad407, e407, hx407_0⟩ := Kd.at_int HR0.out x13_2 p407 q407
            cases e407
            replace hx407_0 := (HB.out.cell (World.block_lt_of_cell? w _ hx407_0)).trans hx407_0
            replace p407 := eq_true p407
            replace q407 := eq_true q407
            have p408 : 0 ≤ (x13_2 : Int) := of_decide_eq_true (by first | (with_reducible assumption) | assumption)
            have q408 : x13_2 < (l0.length : Int) := of_decide_eq_true (by first | (with_reducible assumption) | assumption)
            obtain ⟨ad408, e408, hx408_0⟩ := Kd.at_int HR0.out x13_2 p408 q408
            obtain rfl : ad407 = ad408 := (by injection e408)
            replace hx408_0 := (HB.out.cell (World.block_lt_of_cell? w _ hx408_0)).trans hx408_0
            replace p408 := eq_true p408
            replace q408 := eq_true q408
            go_wp2
            go_roundg k2
            case measure => have := HJ4.out; have := HK2.out; omega
            case rel => exact ⟨(wrap64 ((wrap64 (x12_2 * (rd l0 x13_2))) + 0)), (wrap64 (x13_2 + 1)), (by first | rfl | (simp; done) | (simp [*]; done)), (by first | rfl | (simp; done) | (simp [*]; done)), H', ⟨by have := HJ4.out; have := HK2.out; omega⟩, ⟨zr_ HO_10.out⟩, ⟨zw0_ HB⟩⟩
           ·rw [if_neg c19] at H
            have c19b0 : ((rd l0 x13_2) == 1) = false := beq_eq_false_iff_ne.mpr c19
            have c19b1 : ((rd l0 x13_2) != 1) = true := bne_iff_ne.mpr c19
            have H' := Aside0.mk H
            clear H
            obtain ⟨Ao21, co21, eo21⟩ := Kd.R_slice HO_10.out
            subst eo21
            have p406 : 0 ≤ ((ji15) : Int) := of_decide_eq_true (by first | (with_reducible assumption) | assumption)
            have q406 : (ji15) < (t402.length : Int) := of_decide_eq_true (by first | (with_reducible assumption) | assumption)
            obtain ⟨ad406, e406, hx406_0⟩ := Kd.at_int (Kd.R_reads' HO_10.out).2.2 (ji15) p406 q406
            cases e406
            replace p406 := eq_true p406
            replace q406 := eq_true q406
            have p407 : 0 ≤ (x13_2 : Int) := of_decide_eq_true (by first | (with_reducible assumption) | assumption)
            have q407 : x13_2 < (l0.length : Int) := of_decide_eq_true (by first | (with_reducible assumption) | assumption)
            obtain ⟨ad407, e407, hx407_0⟩ := Kd.at_int HR0.out x13_2 p407 q407
            cases e407
            replace hx407_0 := (HB.out.cell (World.block_lt_of_cell? w _ hx407_0)).trans hx407_0
            replace p407 := eq_true p407
            replace q407 := eq_true q407
            have p409 : 0 ≤ (x13_2 : Int) := of_decide_eq_true (by first | (with_reducible assumption) | assumption)
            have q409 : x13_2 < (l0.length : Int) := of_decide_eq_true (by first | (with_reducible assumption) | assumption)
            obtain ⟨ad409, e409, hx409_0⟩ := Kd.at_int HR0.out x13_2 p409 q409
            obtain rfl : ad407 = ad409 := (by injection e409)
            replace hx409_0 := (HB.out.cell (World.block_lt_of_cell? w _ hx409_0)).trans hx409_0
            replace p409 := eq_true p409
            replace q409 := eq_true q409
            go_wp2
            go_roundg k2
            case measure => have := HJ4.out; have := HK2.out; omega
            case rel => exact ⟨(wrap64 ((wrap64 (x12_2 * (rd l0 x13_2))) + (rd t402 (ji15)))), (wrap64 (x13_2 + 1)), (by first | rfl | (simp; done) | (simp only [← hji15] <;> (first | rfl | simp)) | (simp [*]; done)), (by first | rfl | (simp; done) | (simp [*]; done)), H', ⟨by have := HJ4.out; have := HK2.out; omega⟩, ⟨zr_ HO_10.out⟩, ⟨zw0_ HB⟩⟩
          ·rw [if_neg c18] at H
           exact absurd H (by simp)
         ·rw [if_neg c17] at H
          exact absurd H (by simp)
        ·rw [if_neg c16] at H
         exact absurd H (by simp)
       ·rw [if_neg c14] at H
        have c14b0 : decide (x13_2 < (l0.length : Int)) = false := decide_eq_false c14
        clear c14
        simp only [Option.some.injEq, Prod.mk.injEq] at H
        obtain ⟨rfl, rfl⟩ := H
        go_wp2
        go_ret2
        exact ⟨by first | rfl | (simp [errW_none, errW_some] <;> rfl) | (simp [*, errW_none, errW_some] <;> rfl), zw0_ HB⟩
    ·replace c12 := Bool.eq_false_iff.mpr c12
     subst c12
     have H1 : (some (0, false)) = some (r1, r2) := by rw [if_neg (show ¬ (false = true) by decide)] at H; exact H
     clear H
     have H := H1
     clear H1
     simp only [Option.some.injEq, Prod.mk.injEq] at H
     obtain ⟨rfl, rfl⟩ := H
     go_wp2_with (first | ((with_reducible refine gate_callee (f := 57) rfl ?_); refine zg_ (some 32) Try.func57 #[.slice A1 l1.length c1, .int .i64 a2] (h := ?_); (with_reducible refine (carouselref5_Place.calls kj4 _ _ l1 a2 t402 false _ ?side1 ?side2 A11.out).mono ?_); (case side1 => exact zk_ (Kd.C_below HR1.out HB.out)); (case side2 => exact HC1.out); rintro e w22 ⟨v404, rfl, ho0, hb⟩; refine ⟨_, rfl, ?_⟩; have n0_ := Aside0.mk (Kd.R_lower ho0 (below_size (zw0_ HB))); have n1_ := Aside0.mk (below_step (zw0_ HB) hb); clear HB; have HO405 := n0_; have HB := n1_; clear n0_ n1_; (try clear hb); (try clear hb2); (try clear hk); (try clear hi); (try clear ho0)))
     go_ret2
     exact ⟨by first | rfl | (simp [errW_none, errW_some] <;> rfl) | (simp [*, errW_none, errW_some] <;> rfl), zw0_ HB⟩

/-! ### carouselref1_Held: function 66 -/
def carouselref1_Held.j0 : Nat → Bool → Bool → Int → Int → Int → Int → Option (Int)
 | 0, _, _, _, _, _, _ => none
 | k + 1, x20, x411000, x411001, x411002, x411003, x411004 => if x20 = true then (if x411000 = true then (some (-9223372036854775808)) else (some 9223372036854775807)) else (if x411000 = true then (some (wrap64 (-(wrap64 (x411001))))) else (some (wrap64 (x411001))))
def carouselref1_Held.f (k : Nat) (a0_0 : Bool) (a0_1 : Int) (a0_2 : Int) (a0_3 : Int) (a0_4 : Int) : Option (Int) := if (Go.bits .or .u64 (Go.bits .or .u64 a0_2 a0_3) a0_4) = 0 then (carouselref1_Held.j0 k (decide (a0_1 ≥ 9223372036854775808)) a0_0 a0_1 a0_2 a0_3 a0_4) else (carouselref1_Held.j0 k true a0_0 a0_1 a0_2 a0_3 a0_4)
theorem carouselref1_Held.mono_l : ∀ k, (∀ y0 y1 y2 y3 y4 y5, LeO (carouselref1_Held.j0 k y0 y1 y2 y3 y4 y5) (carouselref1_Held.j0 (k + 1) y0 y1 y2 y3 y4 y5))
 | 0 => fun _ _ _ _ _ _ r h => by simp [carouselref1_Held.j0] at h
 | k + 1 => by
  have ih0 := carouselref1_Held.mono_l k
  ·intro y0 y1 y2 y3 y4 y5
   unfold carouselref1_Held.j0
   repeat' first
   | (with_reducible exact ih0 _ _ _ _ _ _)
   | (with_reducible exact LeO.refl _)
   | (with_reducible exact LeO.none _)
   | (with_reducible refine LeO.ite ?_ ?_)
   | (with_reducible refine LeO.bind ?_ (fun _ => ?_))
   | exact ih0 _ _ _ _ _ _
   | exact LeO.none _
   | refine LeO.ite ?_ ?_
   | refine LeO.bind ?_ (fun _ => ?_)
theorem carouselref1_Held.mono : ∀ a0 a1 a2 a3 a4 k, LeO (carouselref1_Held.f k a0 a1 a2 a3 a4) (carouselref1_Held.f (k + 1) a0 a1 a2 a3 a4) := by
 intro a0 a1 a2 a3 a4 k
 have ih0 := carouselref1_Held.mono_l k
 unfold carouselref1_Held.f
 repeat' first
   | (with_reducible exact ih0 _ _ _ _ _ _)
   | (with_reducible exact LeO.refl _)
   | (with_reducible exact LeO.none _)
   | (with_reducible refine LeO.ite ?_ ?_)
   | (with_reducible refine LeO.bind ?_ (fun _ => ?_))
   | exact ih0 _ _ _ _ _ _
   | exact LeO.none _
   | refine LeO.ite ?_ ?_
   | refine LeO.bind ?_ (fun _ => ?_)
set_option maxHeartbeats 8000000 in
set_option maxRecDepth 100000 in
theorem carouselref1_Held.calls (k : Nat) (a0_0 : Bool) (a0_1 : Int) (a0_2 : Int) (a0_3 : Int) (a0_4 : Int) (r : Int) (w : World) (h : carouselref1_Held.f k a0_0 a0_1 a0_2 a0_3 a0_4 = some r) :
  Calls Try.prog 66 #[.agg #[.bool a0_0, .int .u64 a0_1, .int .u64 a0_2, .int .u64 a0_3, .int .u64 a0_4]] w fun e w' => e = .returned (.int .i64 r) ∧ Below w.heap.size w w' := by
 have hu74 := Try.underlying74
 have HB := Aside0.mk (Below.refl w.heap.size w)
 have H : (if (Go.bits .or .u64 (Go.bits .or .u64 a0_2 a0_3) a0_4) = 0 then (carouselref1_Held.j0 k (decide (a0_1 ≥ 9223372036854775808)) a0_0 a0_1 a0_2 a0_3 a0_4) else (carouselref1_Held.j0 k true a0_0 a0_1 a0_2 a0_3 a0_4)) = some r := h
 clear h
 have HC2 := Aside0.mk H
 clear H
 go_enter Try.func66, Try.ntmps66
 go_upto_region 1 with (first | ((with_reducible refine gate_dst (N := 1) rfl ?_); refine box_event ?hg (N := 1) ?hd (cs := #[.bool a0_0, .int .u64 a0_1, .int .u64 a0_2, .int .u64 a0_3, .int .u64 a0_4]) (t := 74) ?hr ?_; (case hd => rfl); (case hg => rfl); (case hr => first | (go_simp; done) | (go_simp; rfl)); intro gb410 hg w3 hbox hb; have n0_ := Aside0.mk (below_step (zw0_ HB) hb); have n1_ := Aside0.mk (hbox); have n2_ := Aside0.mk (zs_ hg (zw0_ HB)); have n3_ := Aside0.mk (zs_ hg (zw0_ HB)); clear HB; have HB := n0_; have BK410 := n1_; have GW410 := n2_; have GE410 := n3_; clear n0_ n1_ n2_ n3_; clear hb hbox hg))
 (try simp only [Act.put, List.setIfInBounds_toArray, List.set_cons_zero, List.set_cons_succ])
 go_cut [20] (fun v20 wc => ∃ (kq : Nat) (x20_1 : Bool), v20 = .bool x20_1 ∧ Aside0 (carouselref1_Held.j0 kq x20_1 a0_0 a0_1 a0_2 a0_3 a0_4 = some r) ∧ Aside0 (kq ≤ k) ∧ Aside0 (wc.heap[gb410]? = some (.cells #[.bool a0_0, .int .u64 a0_1, .int .u64 a0_2, .int .u64 a0_3, .int .u64 a0_4] 74 (0, 0))) ∧ Aside0 (Below w.heap.size w wc))
 case first =>
  have H := HC2.out
  clear HC2
  by_cases c4 : (Go.bits .or .u64 (Go.bits .or .u64 a0_2 a0_3) a0_4) = 0
  ·rw [if_pos c4] at H
   have c4b0 : ((Go.bits .or .u64 (Go.bits .or .u64 a0_2 a0_3) a0_4) == 0) = true := beq_iff_eq.mpr c4
   have c4b1 : ((Go.bits .or .u64 (Go.bits .or .u64 a0_2 a0_3) a0_4) != 0) = false := bne_eq_false_iff_eq.mpr c4
   clear c4
   (first | rw [c4b0] | (simp only [i64_w, i32_w]; rw [c4b0]) | skip)
   have H' := Aside0.mk H
   clear H
   have hcz5_0 := zx_ (v := .bool a0_0) BK410 0
   have hcz5_1 := zx_ (v := .int .u64 a0_1) BK410 1
   have hcz5_2 := zx_ (v := .int .u64 a0_2) BK410 2
   have hcz5_3 := zx_ (v := .int .u64 a0_3) BK410 3
   have hcz5_4 := zx_ (v := .int .u64 a0_4) BK410 4
   have hfz5_0 := blk_frozen BK410.out 0
   have hfz5_1 := blk_frozen BK410.out 1
   have hfz5_2 := blk_frozen BK410.out 2
   have hfz5_3 := blk_frozen BK410.out 3
   have hfz5_4 := blk_frozen BK410.out 4
   go_wp2
   go_meet
   case rel => exact ⟨_, (decide (a0_1 ≥ 9223372036854775808)), (by first | rfl | (simp; done) | (simp [*]; done)), H', ⟨by first | omega | exact Nat.le_refl _⟩, ⟨zb_ BK410⟩, ⟨zw1_ HB GE410⟩⟩
  ·rw [if_neg c4] at H
   have c4b0 : ((Go.bits .or .u64 (Go.bits .or .u64 a0_2 a0_3) a0_4) == 0) = false := beq_eq_false_iff_ne.mpr c4
   have c4b1 : ((Go.bits .or .u64 (Go.bits .or .u64 a0_2 a0_3) a0_4) != 0) = true := bne_iff_ne.mpr c4
   (first | rw [c4b0] | (simp only [i64_w, i32_w]; rw [c4b0]) | skip)
   have H' := Aside0.mk H
   clear H
   have hcz6_0 := zx_ (v := .bool a0_0) BK410 0
   have hcz6_1 := zx_ (v := .int .u64 a0_1) BK410 1
   have hcz6_2 := zx_ (v := .int .u64 a0_2) BK410 2
   have hcz6_3 := zx_ (v := .int .u64 a0_3) BK410 3
   have hcz6_4 := zx_ (v := .int .u64 a0_4) BK410 4
   have hfz6_0 := blk_frozen BK410.out 0
   have hfz6_1 := blk_frozen BK410.out 1
   have hfz6_2 := blk_frozen BK410.out 2
   have hfz6_3 := blk_frozen BK410.out 3
   have hfz6_4 := blk_frozen BK410.out 4
   go_wp2
   go_meet
   case rel => exact ⟨_, (true), (by first | rfl | (simp; done) | (simp [*]; done)), H', ⟨by first | omega | exact Nat.le_refl _⟩, ⟨zb_ BK410⟩, ⟨zw1_ HB GE410⟩⟩
 case rest =>
  clear HC2
  try clear p2
  try clear c4
  try clear c4b0
  try clear c4b1
  try clear c6
  try clear hcz5_0
  try clear hcz5_1
  try clear hcz5_2
  try clear hcz5_3
  try clear hcz5_4
  try clear hcz6_0
  try clear hcz6_1
  try clear hcz6_2
  try clear hcz6_3
  try clear hcz6_4
  try clear hfz5_0
  try clear hfz5_1
  try clear hfz5_2
  try clear hfz5_3
  try clear hfz5_4
  try clear hfz6_0
  try clear hfz6_1
  try clear hfz6_2
  try clear hfz6_3
  try clear hfz6_4
  obtain ⟨kq, x20_1, rfl, HA, HJ1, BK410, HB⟩ := hcut
  cases kq with
  | zero => exact absurd HA.out (by simp [carouselref1_Held.j0])
  | succ kj1 =>
   have H := HA.out
   clear HA
   simp only [carouselref1_Held.j0] at H
   by_cases c7 : x20_1 = true
   ·subst c7
    have H1 : (if a0_0 = true then (some (-9223372036854775808)) else (some 9223372036854775807)) = some r := by rw [if_pos rfl] at H; exact H
    clear H
    have H := H1
    clear H1
    by_cases c8 : a0_0 = true
    ·subst c8
     have H1 : (some (-9223372036854775808)) = some r := by rw [if_pos rfl] at H; exact H
     clear H
     have H := H1
     clear H1
     obtain rfl := Option.some.inj H
     have hcz9_0 := zx_ (v := .bool true) BK410 0
     have hcz9_1 := zx_ (v := .int .u64 a0_1) BK410 1
     have hcz9_2 := zx_ (v := .int .u64 a0_2) BK410 2
     have hcz9_3 := zx_ (v := .int .u64 a0_3) BK410 3
     have hcz9_4 := zx_ (v := .int .u64 a0_4) BK410 4
     have hfz9_0 := blk_frozen BK410.out 0
     have hfz9_1 := blk_frozen BK410.out 1
     have hfz9_2 := blk_frozen BK410.out 2
     have hfz9_3 := blk_frozen BK410.out 3
     have hfz9_4 := blk_frozen BK410.out 4
     go_wp2
     go_ret
     exact ⟨by first | rfl | (simp [errW_none, errW_some] <;> rfl) | (simp [*, errW_none, errW_some] <;> rfl), zw1_ HB GE410⟩
    ·replace c8 := Bool.eq_false_iff.mpr c8
     subst c8
     have H1 : (some 9223372036854775807) = some r := by rw [if_neg (show ¬ (false = true) by decide)] at H; exact H
     clear H
     have H := H1
     clear H1
     obtain rfl := Option.some.inj H
     have hcz10_0 := zx_ (v := .bool false) BK410 0
     have hcz10_1 := zx_ (v := .int .u64 a0_1) BK410 1
     have hcz10_2 := zx_ (v := .int .u64 a0_2) BK410 2
     have hcz10_3 := zx_ (v := .int .u64 a0_3) BK410 3
     have hcz10_4 := zx_ (v := .int .u64 a0_4) BK410 4
     have hfz10_0 := blk_frozen BK410.out 0
     have hfz10_1 := blk_frozen BK410.out 1
     have hfz10_2 := blk_frozen BK410.out 2
     have hfz10_3 := blk_frozen BK410.out 3
     have hfz10_4 := blk_frozen BK410.out 4
     go_wp2
     go_ret
     exact ⟨by first | rfl | (simp [errW_none, errW_some] <;> rfl) | (simp [*, errW_none, errW_some] <;> rfl), zw1_ HB GE410⟩
   ·replace c7 := Bool.eq_false_iff.mpr c7
    subst c7
    have H1 := H
    rw [if_neg (show ¬ (false = true) by decide)] at H1
    clear H
    have H := H1
    clear H1
    by_cases c11 : a0_0 = true
    ·subst c11
     have H1 : (some (wrap64 (-(wrap64 (a0_1))))) = some r := by rw [if_pos rfl] at H; exact H
     clear H
     have H := H1
     clear H1
     obtain rfl := Option.some.inj H
     have hcz12_0 := zx_ (v := .bool true) BK410 0
     have hcz12_1 := zx_ (v := .int .u64 a0_1) BK410 1
     have hcz12_2 := zx_ (v := .int .u64 a0_2) BK410 2
     have hcz12_3 := zx_ (v := .int .u64 a0_3) BK410 3
     have hcz12_4 := zx_ (v := .int .u64 a0_4) BK410 4
     have hfz12_0 := blk_frozen BK410.out 0
     have hfz12_1 := blk_frozen BK410.out 1
     have hfz12_2 := blk_frozen BK410.out 2
     have hfz12_3 := blk_frozen BK410.out 3
     have hfz12_4 := blk_frozen BK410.out 4
     go_wp2
     go_ret
     exact ⟨by first | rfl | (simp [errW_none, errW_some] <;> rfl) | (simp [*, errW_none, errW_some] <;> rfl), zw1_ HB GE410⟩
    ·replace c11 := Bool.eq_false_iff.mpr c11
     subst c11
     have H1 : (some (wrap64 (a0_1))) = some r := by rw [if_neg (show ¬ (false = true) by decide)] at H; exact H
     clear H
     have H := H1
     clear H1
     obtain rfl := Option.some.inj H
     have hcz13_0 := zx_ (v := .bool false) BK410 0
     have hcz13_1 := zx_ (v := .int .u64 a0_1) BK410 1
     have hcz13_2 := zx_ (v := .int .u64 a0_2) BK410 2
     have hcz13_3 := zx_ (v := .int .u64 a0_3) BK410 3
     have hcz13_4 := zx_ (v := .int .u64 a0_4) BK410 4
     have hfz13_0 := blk_frozen BK410.out 0
     have hfz13_1 := blk_frozen BK410.out 1
     have hfz13_2 := blk_frozen BK410.out 2
     have hfz13_3 := blk_frozen BK410.out 3
     have hfz13_4 := blk_frozen BK410.out 4
     go_wp2
     go_ret
     exact ⟨by first | rfl | (simp [errW_none, errW_some] <;> rfl) | (simp [*, errW_none, errW_some] <;> rfl), zw1_ HB GE410⟩

end Go.Proofs.Ytbdhabpplidgfaa.PTensEach
