/- The functions that the law OptSteps reaches, as Lean functions, and that each call of the Go function does what its Lean function says, wherever that one answers. Written by a program of mine over the print of the kit; Lean checks it. -/
import Derived.Test.YtaanhfcioemekaaPOptStepsx0
import Derived.Test.YtaanhfcioemekaaPOptStepsx7
import Derived.Test.YtaanhfcioemekaaPOptStepsx8
import Derived.Test.YtaanhfcioemekaaPOptStepsx9
namespace Go.Proofs.Ytaanhfcioemekaa.POptSteps
open Go.RowKit Go.Proofs.YtaanhfcioemekaaW.PrintWords Go.Proofs.YtaanhfcioemekaaW.PrintLast Go.Proofs.YtaanhfcioemekaaW.PrintMore
attribute [local go_sem] max2_int min2_int max_two min_two max_three min_three max_four min_four   -- for this text's walks alone
set_option linter.unusedVariables false
set_option linter.unusedSimpArgs false

/-! ### carouselref1_Halved: function 41 -/
def carouselref1_Halved.f (a0_0 : Bool) (a0_1 : Int) (a0_2 : Int) (a0_3 : Int) (a0_4 : Int) (a1 : Int) : Option (Bool × Int × Int × Int × Int) := if ok_ a0_1 a0_2 a0_3 a0_4 ∧ 0 ≤ a1 ∧ a1 < 256 then (if a1 = 0 then some (a0_0, w0_ (bv_ a0_1 a0_2 a0_3 a0_4 / 2 ^ a1.toNat % 2 ^ (256 - a1).toNat), w1_ (bv_ a0_1 a0_2 a0_3 a0_4 / 2 ^ a1.toNat % 2 ^ (256 - a1).toNat), w2_ (bv_ a0_1 a0_2 a0_3 a0_4 / 2 ^ a1.toNat % 2 ^ (256 - a1).toNat), w3_ (bv_ a0_1 a0_2 a0_3 a0_4 / 2 ^ a1.toNat % 2 ^ (256 - a1).toNat)) else if bitOf_ (bv_ a0_1 a0_2 a0_3 a0_4) (a1 - 1) = 0 then some (a0_0, w0_ (bv_ a0_1 a0_2 a0_3 a0_4 / 2 ^ a1.toNat % 2 ^ (256 - a1).toNat), w1_ (bv_ a0_1 a0_2 a0_3 a0_4 / 2 ^ a1.toNat % 2 ^ (256 - a1).toNat), w2_ (bv_ a0_1 a0_2 a0_3 a0_4 / 2 ^ a1.toNat % 2 ^ (256 - a1).toNat), w3_ (bv_ a0_1 a0_2 a0_3 a0_4 / 2 ^ a1.toNat % 2 ^ (256 - a1).toNat)) else if more_ (bv_ a0_1 a0_2 a0_3 a0_4) (bv_ a0_1 a0_2 a0_3 a0_4 / 2 ^ a1.toNat % 2 ^ (256 - a1).toNat) (a1 - 1) = true then (carouselref1_plus.f (w0_ (bv_ a0_1 a0_2 a0_3 a0_4 / 2 ^ a1.toNat % 2 ^ (256 - a1).toNat)) (w1_ (bv_ a0_1 a0_2 a0_3 a0_4 / 2 ^ a1.toNat % 2 ^ (256 - a1).toNat)) (w2_ (bv_ a0_1 a0_2 a0_3 a0_4 / 2 ^ a1.toNat % 2 ^ (256 - a1).toNat)) (w3_ (bv_ a0_1 a0_2 a0_3 a0_4 / 2 ^ a1.toNat % 2 ^ (256 - a1).toNat)) 1 0 0 0).bind fun p => some (a0_0, p.1, p.2.1, p.2.2.1, p.2.2.2) else some (a0_0, w0_ (bv_ a0_1 a0_2 a0_3 a0_4 / 2 ^ a1.toNat % 2 ^ (256 - a1).toNat), w1_ (bv_ a0_1 a0_2 a0_3 a0_4 / 2 ^ a1.toNat % 2 ^ (256 - a1).toNat), w2_ (bv_ a0_1 a0_2 a0_3 a0_4 / 2 ^ a1.toNat % 2 ^ (256 - a1).toNat), w3_ (bv_ a0_1 a0_2 a0_3 a0_4 / 2 ^ a1.toNat % 2 ^ (256 - a1).toNat))) else none
set_option maxHeartbeats 8000000 in
set_option maxRecDepth 100000 in
theorem carouselref1_Halved.calls (a0_0 : Bool) (a0_1 : Int) (a0_2 : Int) (a0_3 : Int) (a0_4 : Int) (a1 : Int) (r1 : Bool) (r2 : Int) (r3 : Int) (r4 : Int) (r5 : Int) (w : World) (h : carouselref1_Halved.f a0_0 a0_1 a0_2 a0_3 a0_4 a1 = some (r1, r2, r3, r4, r5)) :
  Calls Try.prog 41 #[.agg #[.bool a0_0, .int .u64 a0_1, .int .u64 a0_2, .int .u64 a0_3, .int .u64 a0_4], .int .i64 a1] w fun e w' => e = .returned (.agg #[.bool r1, .int .u64 r2, .int .u64 r3, .int .u64 r4, .int .u64 r5]) ∧ Below w.heap.size w w' := by
 unfold carouselref1_Halved.f at h
 by_cases hc : ok_ a0_1 a0_2 a0_3 a0_4 ∧ 0 ≤ a1 ∧ a1 < 256
 case neg => rw [if_neg hc] at h; cases h
 rw [if_pos hc] at h
 have H0 := Aside0.mk h
 clear h
 obtain ⟨hok, m0, m1⟩ := hc
 have sb : ∀ w i, 0 ≤ i → i < 256 → Calls Try.prog 54 #[.agg #[.int .u64 a0_1, .int .u64 a0_2, .int .u64 a0_3, .int .u64 a0_4], .int .i64 i] w fun e w' => e = .returned (.int .u64 (bitOf_ (bv_ a0_1 a0_2 a0_3 a0_4) i)) ∧ Below w.heap.size w w' := by
  intro w i i0 i1
  have := carouselref1_bit.calls a0_1 a0_2 a0_3 a0_4 i _ w (show carouselref1_bit.f a0_1 a0_2 a0_3 a0_4 i = some _ by unfold carouselref1_bit.f; rw [if_pos ⟨i0, i1⟩])
  have e := bit_eq_ a0_1 a0_2 a0_3 a0_4 i hok i0 i1
  rw [← e]
  exact this
 have hu59 := Try.underlying59
 have hu61 := Try.underlying61
 have SB := Aside0.mk sb
 have M0 := Aside0.mk m0
 have M1 := Aside0.mk m1
 clear sb m0 m1 hok
 go_enter Try.func41, Try.ntmps41
 go_wp2
 go_loopg [6] (256 - a1).toNat (fun kq v6 w' => ∃ (i : Int), v6 = .int .i64 i ∧ Aside0 (a1 ≤ i ∧ i ≤ 256) ∧ Aside0 (kq = (256 - i).toNat) ∧ Aside0 (Mem5_ w 61 a0_0 a0_1 a0_2 a0_3 a0_4 a0_0 (bv_ a0_1 a0_2 a0_3 a0_4 / 2 ^ a1.toNat % 2 ^ (i - a1).toNat) w'))
 case atStart => exact ⟨a1, rfl, ⟨by have := M1.out; omega⟩, ⟨rfl⟩, ⟨mem5_start_ w 61 a0_0 a0_0 a0_1 a0_2 a0_3 a0_4 _ (by simp)⟩⟩
 case round =>
  obtain ⟨i, rfl, HI, HK, HM⟩ := hrel
  by_cases c : i < 256
  case neg =>
   have cb : decide (i < 256) = false := decide_eq_false c
   have i256 : i = 256 := by have := HI.out; omega
   subst i256
   clear c
   obtain ⟨x, hx⟩ : ∃ x, x = bv_ a0_1 a0_2 a0_3 a0_4 / 2 ^ a1.toNat % 2 ^ (256 - a1).toNat := ⟨_, rfl⟩
   rw [← hx] at HM
   have HX := Aside0.mk hx
   clear hx
   by_cases mz : a1 = 0
   case pos =>
    have mb : (a1 == 0) = true := by simp [mz]
    have MZ := Aside0.mk mz
    clear mz
    have hx_0 : wr.cell? ⟨w.heap.size + 1 + 1, 0, none⟩ = some (.bool a0_0) := (blk_cell HM.out.2.2.1 0).trans rfl
    have fx_0 := blk_frozen HM.out.2.2.1 0
    have hx_1 : wr.cell? ⟨w.heap.size + 1 + 1, 1, none⟩ = some (.int .u64 (w0_ x)) := (blk_cell HM.out.2.2.1 1).trans rfl
    have fx_1 := blk_frozen HM.out.2.2.1 1
    have hx_2 : wr.cell? ⟨w.heap.size + 1 + 1, 2, none⟩ = some (.int .u64 (w1_ x)) := (blk_cell HM.out.2.2.1 2).trans rfl
    have fx_2 := blk_frozen HM.out.2.2.1 2
    have hx_3 : wr.cell? ⟨w.heap.size + 1 + 1, 3, none⟩ = some (.int .u64 (w2_ x)) := (blk_cell HM.out.2.2.1 3).trans rfl
    have fx_3 := blk_frozen HM.out.2.2.1 3
    have hx_4 : wr.cell? ⟨w.heap.size + 1 + 1, 4, none⟩ = some (.int .u64 (w3_ x)) := (blk_cell HM.out.2.2.1 4).trans rfl
    have fx_4 := blk_frozen HM.out.2.2.1 4
    have hy_0 : wr.cell? ⟨w.heap.size + 1, 0, none⟩ = some (.bool false) := (blk_cell HM.out.2.1 0).trans rfl
    have fy_0 := blk_frozen HM.out.2.1 0
    have hy_1 : wr.cell? ⟨w.heap.size + 1, 1, none⟩ = some (.int .u64 0) := (blk_cell HM.out.2.1 1).trans rfl
    have fy_1 := blk_frozen HM.out.2.1 1
    have hy_2 : wr.cell? ⟨w.heap.size + 1, 2, none⟩ = some (.int .u64 0) := (blk_cell HM.out.2.1 2).trans rfl
    have fy_2 := blk_frozen HM.out.2.1 2
    have hy_3 : wr.cell? ⟨w.heap.size + 1, 3, none⟩ = some (.int .u64 0) := (blk_cell HM.out.2.1 3).trans rfl
    have fy_3 := blk_frozen HM.out.2.1 3
    have hy_4 : wr.cell? ⟨w.heap.size + 1, 4, none⟩ = some (.int .u64 0) := (blk_cell HM.out.2.1 4).trans rfl
    have fy_4 := blk_frozen HM.out.2.1 4
    go_wp2
    have E := end5_ w wr (w.heap.size + 1) (by omega) 61 _ _ _ _ _ (.bool a0_0) (.int .u64 (w0_ x)) (.int .u64 (w1_ x)) (.int .u64 (w2_ x)) (.int .u64 (w3_ x)) HM.out.2.1 HM.out.2.2.2
    exact bodyPost_ret (results_cell_row rfl _ _ (w.heap.size + 1) 61 (row5_ a0_0 x) (0, 0) _ rfl E.1 hu61 rfl (by kernel_rfl)) rfl ⟨by have H := H0.out; rw [← HX.out, if_pos MZ.out] at H; simp only [Option.some.injEq, Prod.mk.injEq] at H; obtain ⟨rfl, rfl, rfl, rfl, rfl⟩ := H; rfl, E.2⟩
   case neg =>
    have mb : (a1 == 0) = false := by simp [mz]
    have MZ := Aside0.mk mz
    clear mz
    have wm : wrap64 (a1 - 1) = a1 - 1 := by have := M0.out; have := M1.out; unfold wrap64; omega
    have ha_0 : wr.cell? ⟨w.heap.size, 0, none⟩ = some (.bool a0_0) := (blk_cell HM.out.1 0).trans rfl
    have fa_0 := blk_frozen HM.out.1 0
    have ha_1 : wr.cell? ⟨w.heap.size, 1, none⟩ = some (.int .u64 a0_1) := (blk_cell HM.out.1 1).trans rfl
    have fa_1 := blk_frozen HM.out.1 1
    have ha_2 : wr.cell? ⟨w.heap.size, 2, none⟩ = some (.int .u64 a0_2) := (blk_cell HM.out.1 2).trans rfl
    have fa_2 := blk_frozen HM.out.1 2
    have ha_3 : wr.cell? ⟨w.heap.size, 3, none⟩ = some (.int .u64 a0_3) := (blk_cell HM.out.1 3).trans rfl
    have fa_3 := blk_frozen HM.out.1 3
    have ha_4 : wr.cell? ⟨w.heap.size, 4, none⟩ = some (.int .u64 a0_4) := (blk_cell HM.out.1 4).trans rfl
    have fa_4 := blk_frozen HM.out.1 4
    by_cases b1 : bitOf_ (bv_ a0_1 a0_2 a0_3 a0_4) (a1 - 1) = 0
    case pos =>
     have bb : (bitOf_ (bv_ a0_1 a0_2 a0_3 a0_4) (a1 - 1) == 0) = true := by simp [b1]
     have B1 := Aside0.mk b1
     clear b1
     go_wp2_with ((go_at_call 54; (with_reducible refine (SB.out _ (a1 - 1) (by have := M0.out; have := MZ.out; omega) (by have := M1.out; omega)).mono ?_); rintro e w4 ⟨rfl, hb⟩; have HM4 := Aside0.mk (mem5_call_ HM.out hb); clear hb; have hq_0 : w4.cell? ⟨w.heap.size + 1 + 1, 0, none⟩ = some (.bool a0_0) := (blk_cell HM4.out.2.2.1 0).trans rfl; have fq_0 := blk_frozen HM4.out.2.2.1 0; have hq_1 : w4.cell? ⟨w.heap.size + 1 + 1, 1, none⟩ = some (.int .u64 (w0_ x)) := (blk_cell HM4.out.2.2.1 1).trans rfl; have fq_1 := blk_frozen HM4.out.2.2.1 1; have hq_2 : w4.cell? ⟨w.heap.size + 1 + 1, 2, none⟩ = some (.int .u64 (w1_ x)) := (blk_cell HM4.out.2.2.1 2).trans rfl; have fq_2 := blk_frozen HM4.out.2.2.1 2; have hq_3 : w4.cell? ⟨w.heap.size + 1 + 1, 3, none⟩ = some (.int .u64 (w2_ x)) := (blk_cell HM4.out.2.2.1 3).trans rfl; have fq_3 := blk_frozen HM4.out.2.2.1 3; have hq_4 : w4.cell? ⟨w.heap.size + 1 + 1, 4, none⟩ = some (.int .u64 (w3_ x)) := (blk_cell HM4.out.2.2.1 4).trans rfl; have fq_4 := blk_frozen HM4.out.2.2.1 4; have hr_0 : w4.cell? ⟨w.heap.size + 1, 0, none⟩ = some (.bool false) := (blk_cell HM4.out.2.1 0).trans rfl; have fr_0 := blk_frozen HM4.out.2.1 0; have hr_1 : w4.cell? ⟨w.heap.size + 1, 1, none⟩ = some (.int .u64 0) := (blk_cell HM4.out.2.1 1).trans rfl; have fr_1 := blk_frozen HM4.out.2.1 1; have hr_2 : w4.cell? ⟨w.heap.size + 1, 2, none⟩ = some (.int .u64 0) := (blk_cell HM4.out.2.1 2).trans rfl; have fr_2 := blk_frozen HM4.out.2.1 2; have hr_3 : w4.cell? ⟨w.heap.size + 1, 3, none⟩ = some (.int .u64 0) := (blk_cell HM4.out.2.1 3).trans rfl; have fr_3 := blk_frozen HM4.out.2.1 3; have hr_4 : w4.cell? ⟨w.heap.size + 1, 4, none⟩ = some (.int .u64 0) := (blk_cell HM4.out.2.1 4).trans rfl; have fr_4 := blk_frozen HM4.out.2.1 4))
     have E := end5_ w w4 (w.heap.size + 1) (by omega) 61 _ _ _ _ _ (.bool a0_0) (.int .u64 (w0_ x)) (.int .u64 (w1_ x)) (.int .u64 (w2_ x)) (.int .u64 (w3_ x)) HM4.out.2.1 HM4.out.2.2.2
     exact bodyPost_ret (results_cell_row rfl _ _ (w.heap.size + 1) 61 (row5_ a0_0 x) (0, 0) _ rfl E.1 hu61 rfl (by kernel_rfl)) rfl ⟨by have H := H0.out; rw [← HX.out, if_neg MZ.out, if_pos B1.out] at H; simp only [Option.some.injEq, Prod.mk.injEq] at H; obtain ⟨rfl, rfl, rfl, rfl, rfl⟩ := H; rfl, E.2⟩
    case neg =>
     have bb : (bitOf_ (bv_ a0_1 a0_2 a0_3 a0_4) (a1 - 1) == 0) = false := by simp [b1]
     have B1 := Aside0.mk b1
     clear b1
     go_wp2_with ((go_at_call 54; (with_reducible refine (SB.out _ (a1 - 1) (by have := M0.out; have := MZ.out; omega) (by have := M1.out; omega)).mono ?_); rintro e w4 ⟨rfl, hb⟩; have HM4 := Aside0.mk (mem5_call_ HM.out hb); clear hb; have hq_0 : w4.cell? ⟨w.heap.size + 1 + 1, 0, none⟩ = some (.bool a0_0) := (blk_cell HM4.out.2.2.1 0).trans rfl; have fq_0 := blk_frozen HM4.out.2.2.1 0; have hq_1 : w4.cell? ⟨w.heap.size + 1 + 1, 1, none⟩ = some (.int .u64 (w0_ x)) := (blk_cell HM4.out.2.2.1 1).trans rfl; have fq_1 := blk_frozen HM4.out.2.2.1 1; have hq_2 : w4.cell? ⟨w.heap.size + 1 + 1, 2, none⟩ = some (.int .u64 (w1_ x)) := (blk_cell HM4.out.2.2.1 2).trans rfl; have fq_2 := blk_frozen HM4.out.2.2.1 2; have hq_3 : w4.cell? ⟨w.heap.size + 1 + 1, 3, none⟩ = some (.int .u64 (w2_ x)) := (blk_cell HM4.out.2.2.1 3).trans rfl; have fq_3 := blk_frozen HM4.out.2.2.1 3; have hq_4 : w4.cell? ⟨w.heap.size + 1 + 1, 4, none⟩ = some (.int .u64 (w3_ x)) := (blk_cell HM4.out.2.2.1 4).trans rfl; have fq_4 := blk_frozen HM4.out.2.2.1 4; have hr_0 : w4.cell? ⟨w.heap.size + 1, 0, none⟩ = some (.bool false) := (blk_cell HM4.out.2.1 0).trans rfl; have fr_0 := blk_frozen HM4.out.2.1 0; have hr_1 : w4.cell? ⟨w.heap.size + 1, 1, none⟩ = some (.int .u64 0) := (blk_cell HM4.out.2.1 1).trans rfl; have fr_1 := blk_frozen HM4.out.2.1 1; have hr_2 : w4.cell? ⟨w.heap.size + 1, 2, none⟩ = some (.int .u64 0) := (blk_cell HM4.out.2.1 2).trans rfl; have fr_2 := blk_frozen HM4.out.2.1 2; have hr_3 : w4.cell? ⟨w.heap.size + 1, 3, none⟩ = some (.int .u64 0) := (blk_cell HM4.out.2.1 3).trans rfl; have fr_3 := blk_frozen HM4.out.2.1 3; have hr_4 : w4.cell? ⟨w.heap.size + 1, 4, none⟩ = some (.int .u64 0) := (blk_cell HM4.out.2.1 4).trans rfl; have fr_4 := blk_frozen HM4.out.2.1 4))
     go_loopg [7, 8] (a1 - 1).toNat (fun kq v7 v8 w' => ∃ (mo : Bool) (j : Int), v7 = .bool mo ∧ v8 = .int .i64 j ∧ Aside0 (0 ≤ j ∧ j ≤ a1 - 1) ∧ Aside0 (kq = (a1 - 1 - j).toNat) ∧ Aside0 (mo = more_ (bv_ a0_1 a0_2 a0_3 a0_4) x j) ∧ Aside0 (Mem5_ w 61 a0_0 a0_1 a0_2 a0_3 a0_4 a0_0 x w'))
     case atStart => exact ⟨_, 0, rfl, rfl, ⟨by have := M0.out; have := MZ.out; omega⟩, ⟨by simp⟩, ⟨more_start_ _ x⟩, HM4⟩
     case round =>
      clear HM HM4
      obtain ⟨mo, j, rfl, rfl, HJ, HK, HMO, HM⟩ := hrel
      by_cases c : j < a1 - 1
      case pos =>
       have cb : decide (j < a1 - 1) = true := decide_eq_true c
       have C := Aside0.mk c
       clear c
       have w1 : wrap64 (j + 1) = j + 1 := by have := HJ.out; have := M1.out; unfold wrap64; omega
       have ha_0 : wr.cell? ⟨w.heap.size, 0, none⟩ = some (.bool a0_0) := (blk_cell HM.out.1 0).trans rfl
       have fa_0 := blk_frozen HM.out.1 0
       have ha_1 : wr.cell? ⟨w.heap.size, 1, none⟩ = some (.int .u64 a0_1) := (blk_cell HM.out.1 1).trans rfl
       have fa_1 := blk_frozen HM.out.1 1
       have ha_2 : wr.cell? ⟨w.heap.size, 2, none⟩ = some (.int .u64 a0_2) := (blk_cell HM.out.1 2).trans rfl
       have fa_2 := blk_frozen HM.out.1 2
       have ha_3 : wr.cell? ⟨w.heap.size, 3, none⟩ = some (.int .u64 a0_3) := (blk_cell HM.out.1 3).trans rfl
       have fa_3 := blk_frozen HM.out.1 3
       have ha_4 : wr.cell? ⟨w.heap.size, 4, none⟩ = some (.int .u64 a0_4) := (blk_cell HM.out.1 4).trans rfl
       have fa_4 := blk_frozen HM.out.1 4
       cases mo with
       | true =>
        go_wp2
        go_roundg (a1 - 1 - (j + 1)).toNat
        case measure => have := HK.out; have := C.out; have := HJ.out; omega
        case rel => exact ⟨_, j + 1, rfl, by first | rfl | rw [w1], ⟨by have := HJ.out; have := C.out; omega⟩, ⟨rfl⟩, ⟨more_up_ _ x j HJ.out.1 HMO.out⟩, HM⟩
       | false =>
        by_cases b1 : bitOf_ (bv_ a0_1 a0_2 a0_3 a0_4) j = 1
        case pos =>
         have bb : (bitOf_ (bv_ a0_1 a0_2 a0_3 a0_4) j == 1) = true := by simp [b1]
         have B2 := Aside0.mk b1
         clear b1
         go_wp2_with ((go_at_call 54; (with_reducible refine (SB.out _ j (by have := HJ.out; omega) (by have := HJ.out; have := M1.out; omega)).mono ?_); rintro e w5 ⟨rfl, hb⟩; have HM5 := Aside0.mk (mem5_call_ HM.out hb); clear hb))
         go_roundg (a1 - 1 - (j + 1)).toNat
         case measure => have := HK.out; have := C.out; have := HJ.out; omega
         case rel => exact ⟨_, j + 1, rfl, by first | rfl | rw [w1], ⟨by have := HJ.out; have := C.out; omega⟩, ⟨rfl⟩, ⟨more_one_ _ x j HJ.out.1 HMO.out B2.out⟩, HM5⟩
        case neg =>
         have bb : (bitOf_ (bv_ a0_1 a0_2 a0_3 a0_4) j == 1) = false := by simp [b1]
         have B2 := Aside0.mk b1
         clear b1
         go_wp2_with ((go_at_call 54; (with_reducible refine (SB.out _ j (by have := HJ.out; omega) (by have := HJ.out; have := M1.out; omega)).mono ?_); rintro e w5 ⟨rfl, hb⟩; have HM5 := Aside0.mk (mem5_call_ HM.out hb); clear hb))
         go_roundg (a1 - 1 - (j + 1)).toNat
         case measure => have := HK.out; have := C.out; have := HJ.out; omega
         case rel => exact ⟨_, j + 1, rfl, by first | rfl | rw [w1], ⟨by have := HJ.out; have := C.out; omega⟩, ⟨rfl⟩, ⟨more_zero_ _ x j HJ.out.1 HMO.out B2.out⟩, HM5⟩
      case neg =>
       have cb : decide (j < a1 - 1) = false := decide_eq_false c
       have jm : j = a1 - 1 := by have := HJ.out; omega
       subst jm
       clear c
       have hx_0 : wr.cell? ⟨w.heap.size + 1 + 1, 0, none⟩ = some (.bool a0_0) := (blk_cell HM.out.2.2.1 0).trans rfl
       have fx_0 := blk_frozen HM.out.2.2.1 0
       have hx_1 : wr.cell? ⟨w.heap.size + 1 + 1, 1, none⟩ = some (.int .u64 (w0_ x)) := (blk_cell HM.out.2.2.1 1).trans rfl
       have fx_1 := blk_frozen HM.out.2.2.1 1
       have hx_2 : wr.cell? ⟨w.heap.size + 1 + 1, 2, none⟩ = some (.int .u64 (w1_ x)) := (blk_cell HM.out.2.2.1 2).trans rfl
       have fx_2 := blk_frozen HM.out.2.2.1 2
       have hx_3 : wr.cell? ⟨w.heap.size + 1 + 1, 3, none⟩ = some (.int .u64 (w2_ x)) := (blk_cell HM.out.2.2.1 3).trans rfl
       have fx_3 := blk_frozen HM.out.2.2.1 3
       have hx_4 : wr.cell? ⟨w.heap.size + 1 + 1, 4, none⟩ = some (.int .u64 (w3_ x)) := (blk_cell HM.out.2.2.1 4).trans rfl
       have fx_4 := blk_frozen HM.out.2.2.1 4
       have hy_0 : wr.cell? ⟨w.heap.size + 1, 0, none⟩ = some (.bool false) := (blk_cell HM.out.2.1 0).trans rfl
       have fy_0 := blk_frozen HM.out.2.1 0
       have hy_1 : wr.cell? ⟨w.heap.size + 1, 1, none⟩ = some (.int .u64 0) := (blk_cell HM.out.2.1 1).trans rfl
       have fy_1 := blk_frozen HM.out.2.1 1
       have hy_2 : wr.cell? ⟨w.heap.size + 1, 2, none⟩ = some (.int .u64 0) := (blk_cell HM.out.2.1 2).trans rfl
       have fy_2 := blk_frozen HM.out.2.1 2
       have hy_3 : wr.cell? ⟨w.heap.size + 1, 3, none⟩ = some (.int .u64 0) := (blk_cell HM.out.2.1 3).trans rfl
       have fy_3 := blk_frozen HM.out.2.1 3
       have hy_4 : wr.cell? ⟨w.heap.size + 1, 4, none⟩ = some (.int .u64 0) := (blk_cell HM.out.2.1 4).trans rfl
       have fy_4 := blk_frozen HM.out.2.1 4
       cases mo with
       | false =>
        go_wp2
        have E := end5_ w wr (w.heap.size + 1) (by omega) 61 _ _ _ _ _ (.bool a0_0) (.int .u64 (w0_ x)) (.int .u64 (w1_ x)) (.int .u64 (w2_ x)) (.int .u64 (w3_ x)) HM.out.2.1 HM.out.2.2.2
        exact bodyPost_ret (results_cell_row rfl _ _ (w.heap.size + 1) 61 (row5_ a0_0 x) (0, 0) _ rfl E.1 hu61 rfl (by kernel_rfl)) rfl ⟨by have H := H0.out; rw [← HX.out, if_neg MZ.out, if_neg B1.out, if_neg (by rw [← HMO.out]; decide)] at H; simp only [Option.some.injEq, Prod.mk.injEq] at H; obtain ⟨rfl, rfl, rfl, rfl, rfl⟩ := H; rfl, E.2⟩
       | true =>
        have H := H0.out
        rw [← HX.out, if_neg MZ.out, if_neg B1.out, if_pos HMO.out.symm] at H
        obtain ⟨⟨p0, p1, p2, p3⟩, hp, H⟩ := Option.bind_eq_some_iff.mp H
        have HP := Aside0.mk hp
        have HR := Aside0.mk H
        clear hp H
        go_upto_region 16 with (((with_reducible refine gate_dst (N := 76) rfl ?_); refine goesL_ (some 76) rfl rfl Try.func43 (by kernel_rfl) rfl #[.agg #[.int .u64 (w0_ x), .int .u64 (w1_ x), .int .u64 (w2_ x), .int .u64 (w3_ x)], .agg #[.int .u64 1, .int .u64 0, .int .u64 0, .int .u64 0]] rfl (by (try simp only [List.map_toArray, List.map_cons, List.map_nil]); first | done | rfl) ?_; (with_reducible refine (carouselref1_plus.calls (w0_ x) (w1_ x) (w2_ x) (w3_ x) 1 0 0 0 p0 p1 p2 p3 _ HP.out).mono ?_); rintro e w5 ⟨rfl, hb⟩; refine ⟨_, rfl, ?_⟩; have HM5 := Aside0.mk (mem5_call_ HM.out hb); clear hb; have hq_0 : w5.cell? ⟨w.heap.size + 1 + 1, 0, none⟩ = some (.bool a0_0) := (blk_cell HM5.out.2.2.1 0).trans rfl; have fq_0 := blk_frozen HM5.out.2.2.1 0; have hq_1 : w5.cell? ⟨w.heap.size + 1 + 1, 1, none⟩ = some (.int .u64 (w0_ x)) := (blk_cell HM5.out.2.2.1 1).trans rfl; have fq_1 := blk_frozen HM5.out.2.2.1 1; have hq_2 : w5.cell? ⟨w.heap.size + 1 + 1, 2, none⟩ = some (.int .u64 (w1_ x)) := (blk_cell HM5.out.2.2.1 2).trans rfl; have fq_2 := blk_frozen HM5.out.2.2.1 2; have hq_3 : w5.cell? ⟨w.heap.size + 1 + 1, 3, none⟩ = some (.int .u64 (w2_ x)) := (blk_cell HM5.out.2.2.1 3).trans rfl; have fq_3 := blk_frozen HM5.out.2.2.1 3; have hq_4 : w5.cell? ⟨w.heap.size + 1 + 1, 4, none⟩ = some (.int .u64 (w3_ x)) := (blk_cell HM5.out.2.2.1 4).trans rfl; have fq_4 := blk_frozen HM5.out.2.2.1 4))
        generalize hW : ((((w5.setCell ⟨w.heap.size + 1 + 1, 1, none⟩ (.int .u64 p0)).setCell ⟨w.heap.size + 1 + 1, 2, none⟩ (.int .u64 p1)).setCell ⟨w.heap.size + 1 + 1, 3, none⟩ (.int .u64 p2)).setCell ⟨w.heap.size + 1 + 1, 4, none⟩ (.int .u64 p3)) = w6
        have F6 := Aside0.mk (set4_ HM5.out _ _ _ _ w6 hW)
        clear hW
        have hs_0 : w6.cell? ⟨w.heap.size + 1 + 1, 0, none⟩ = some (.bool a0_0) := (blk_cell F6.out.1 0).trans rfl
        have fs_0 := blk_frozen F6.out.1 0
        have hs_1 : w6.cell? ⟨w.heap.size + 1 + 1, 1, none⟩ = some (.int .u64 p0) := (blk_cell F6.out.1 1).trans rfl
        have fs_1 := blk_frozen F6.out.1 1
        have hs_2 : w6.cell? ⟨w.heap.size + 1 + 1, 2, none⟩ = some (.int .u64 p1) := (blk_cell F6.out.1 2).trans rfl
        have fs_2 := blk_frozen F6.out.1 2
        have hs_3 : w6.cell? ⟨w.heap.size + 1 + 1, 3, none⟩ = some (.int .u64 p2) := (blk_cell F6.out.1 3).trans rfl
        have fs_3 := blk_frozen F6.out.1 3
        have hs_4 : w6.cell? ⟨w.heap.size + 1 + 1, 4, none⟩ = some (.int .u64 p3) := (blk_cell F6.out.1 4).trans rfl
        have fs_4 := blk_frozen F6.out.1 4
        have ht_0 : w6.cell? ⟨w.heap.size + 1, 0, none⟩ = some (.bool false) := (blk_cell F6.out.2.1 0).trans rfl
        have ft_0 := blk_frozen F6.out.2.1 0
        have ht_1 : w6.cell? ⟨w.heap.size + 1, 1, none⟩ = some (.int .u64 0) := (blk_cell F6.out.2.1 1).trans rfl
        have ft_1 := blk_frozen F6.out.2.1 1
        have ht_2 : w6.cell? ⟨w.heap.size + 1, 2, none⟩ = some (.int .u64 0) := (blk_cell F6.out.2.1 2).trans rfl
        have ft_2 := blk_frozen F6.out.2.1 2
        have ht_3 : w6.cell? ⟨w.heap.size + 1, 3, none⟩ = some (.int .u64 0) := (blk_cell F6.out.2.1 3).trans rfl
        have ft_3 := blk_frozen F6.out.2.1 3
        have ht_4 : w6.cell? ⟨w.heap.size + 1, 4, none⟩ = some (.int .u64 0) := (blk_cell F6.out.2.1 4).trans rfl
        have ft_4 := blk_frozen F6.out.2.1 4
        go_wp2
        have E := end5_ w w6 (w.heap.size + 1) (by omega) 61 _ _ _ _ _ (.bool a0_0) (.int .u64 p0) (.int .u64 p1) (.int .u64 p2) (.int .u64 p3) F6.out.2.1 F6.out.2.2
        exact bodyPost_ret (results_cell_row rfl _ _ (w.heap.size + 1) 61 #[.bool a0_0, .int .u64 p0, .int .u64 p1, .int .u64 p2, .int .u64 p3] (0, 0) _ rfl E.1 hu61 rfl (by kernel_rfl)) rfl ⟨by have H := HR.out; simp only [Option.some.injEq, Prod.mk.injEq] at H; obtain ⟨rfl, rfl, rfl, rfl, rfl⟩ := H; rfl, E.2⟩
  case pos =>
   have C := Aside0.mk c
   have cb : decide (i < 256) = true := decide_eq_true c
   clear c
   obtain ⟨x, hx⟩ : ∃ x, x = bv_ a0_1 a0_2 a0_3 a0_4 / 2 ^ a1.toNat % 2 ^ (i - a1).toNat := ⟨_, rfl⟩
   rw [← hx] at HM
   have HX := Aside0.mk hx
   clear hx
   obtain ⟨b, hb0⟩ : ∃ b, b = bitOf_ (bv_ a0_1 a0_2 a0_3 a0_4) i := ⟨_, rfl⟩
   have HBT := Aside0.mk hb0
   have w1 : wrap64 (i + 1) = i + 1 := by have := HI.out; have := M0.out; have := C.out; unfold wrap64; omega
   have NB := Aside0.mk (next_bit_ (bv_ a0_1 a0_2 a0_3 a0_4) a1 i M0.out HI.out.1)
   have ha_0 : wr.cell? ⟨w.heap.size, 0, none⟩ = some (.bool a0_0) := (blk_cell HM.out.1 0).trans rfl
   have fa_0 := blk_frozen HM.out.1 0
   have ha_1 : wr.cell? ⟨w.heap.size, 1, none⟩ = some (.int .u64 a0_1) := (blk_cell HM.out.1 1).trans rfl
   have fa_1 := blk_frozen HM.out.1 1
   have ha_2 : wr.cell? ⟨w.heap.size, 2, none⟩ = some (.int .u64 a0_2) := (blk_cell HM.out.1 2).trans rfl
   have fa_2 := blk_frozen HM.out.1 2
   have ha_3 : wr.cell? ⟨w.heap.size, 3, none⟩ = some (.int .u64 a0_3) := (blk_cell HM.out.1 3).trans rfl
   have fa_3 := blk_frozen HM.out.1 3
   have ha_4 : wr.cell? ⟨w.heap.size, 4, none⟩ = some (.int .u64 a0_4) := (blk_cell HM.out.1 4).trans rfl
   have fa_4 := blk_frozen HM.out.1 4
   by_cases b1 : bitOf_ (bv_ a0_1 a0_2 a0_3 a0_4) i = 1
   case neg =>
    have bb : (bitOf_ (bv_ a0_1 a0_2 a0_3 a0_4) i == 1) = false := by simp [b1]
    have B0 : Aside0 (bitOf_ (bv_ a0_1 a0_2 a0_3 a0_4) i = 0) := ⟨by unfold bitOf_ at b1 ⊢; omega⟩
    clear b1 hb0
    go_wp2_with (((with_reducible refine gate_dst (N := 20) rfl ?_); refine goesL_ (some 20) rfl rfl Try.func54 (by kernel_rfl) rfl #[.agg #[.int .u64 a0_1, .int .u64 a0_2, .int .u64 a0_3, .int .u64 a0_4], .int .i64 i] rfl (by (try simp only [List.map_toArray, List.map_cons, List.map_nil]); first | done | rfl) ?_; (with_reducible refine (SB.out _ i (by have := HI.out; have := M0.out; omega) C.out).mono ?_); rintro e w4 ⟨rfl, hb⟩; refine ⟨_, rfl, ?_⟩; have HM4 := Aside0.mk (mem5_call_ HM.out hb); clear hb; have hq_0 : w4.cell? ⟨w.heap.size + 1 + 1, 0, none⟩ = some (.bool a0_0) := (blk_cell HM4.out.2.2.1 0).trans rfl; have fq_0 := blk_frozen HM4.out.2.2.1 0; have hq_1 : w4.cell? ⟨w.heap.size + 1 + 1, 1, none⟩ = some (.int .u64 (w0_ x)) := (blk_cell HM4.out.2.2.1 1).trans rfl; have fq_1 := blk_frozen HM4.out.2.2.1 1; have hq_2 : w4.cell? ⟨w.heap.size + 1 + 1, 2, none⟩ = some (.int .u64 (w1_ x)) := (blk_cell HM4.out.2.2.1 2).trans rfl; have fq_2 := blk_frozen HM4.out.2.2.1 2; have hq_3 : w4.cell? ⟨w.heap.size + 1 + 1, 3, none⟩ = some (.int .u64 (w2_ x)) := (blk_cell HM4.out.2.2.1 3).trans rfl; have fq_3 := blk_frozen HM4.out.2.2.1 3; have hq_4 : w4.cell? ⟨w.heap.size + 1 + 1, 4, none⟩ = some (.int .u64 (w3_ x)) := (blk_cell HM4.out.2.2.1 4).trans rfl; have fq_4 := blk_frozen HM4.out.2.2.1 4))
    go_roundg (256 - (i + 1)).toNat
    case measure => have := HK.out; have := C.out; have := HI.out; omega
    case rel => exact ⟨i + 1, by first | rfl | rw [w1], ⟨by have := HI.out; have := C.out; omega⟩, ⟨rfl⟩, ⟨by rw [NB.out, B0.out, Int.mul_zero, Int.add_zero, ← HX.out]; exact HM4.out⟩⟩
   case pos =>
    have bb : (bitOf_ (bv_ a0_1 a0_2 a0_3 a0_4) i == 1) = true := by simp [b1]
    have B1 := Aside0.mk b1
    clear b1 hb0
    obtain ⟨d, hd⟩ : ∃ d, d = i - a1 := ⟨_, rfl⟩
    have d0 : 0 ≤ d ∧ d < 256 := by have := HI.out; have := C.out; have := M0.out; omega
    have wd : wrap64 (i - a1) = d := by unfold wrap64; omega
    obtain ⟨s, hs⟩ : ∃ s, s = d % 64 := ⟨_, rfl⟩
    have s0 : 0 ≤ s := by omega
    have s1 : s < 64 := by omega
    have e2 : d.tmod 64 = s := by rw [Int.tmod_eq_emod_of_nonneg (by omega)]; omega
    have D := Aside0.mk hd
    have S := Aside0.mk hs
    have x0 : 0 ≤ x ∧ x < 2 ^ (i - a1).toNat := by
     rw [HX.out]
     have p : (0 : Int) < 2 ^ (i - a1).toNat := Int.pow_pos (by decide)
     exact ⟨Int.emod_nonneg _ (by omega), Int.emod_lt_of_pos _ p⟩
    have X0 := Aside0.mk x0
    clear x0
    by_cases j0 : d / 64 = 0
    case pos =>
     have e1 : d.tdiv 64 = 0 := by rw [Int.tdiv_eq_ediv_of_nonneg (by omega)]; omega
     have E := Aside0.mk (set_or_ x d s 0 (by omega) (by decide) s0 s1 X0.out.1 (by rw [hd]; exact X0.out.2) a0_0)
     clear hd hs j0
     go_wp2_with (((with_reducible refine gate_dst (N := 20) rfl ?_); refine goesL_ (some 20) rfl rfl Try.func54 (by kernel_rfl) rfl #[.agg #[.int .u64 a0_1, .int .u64 a0_2, .int .u64 a0_3, .int .u64 a0_4], .int .i64 i] rfl (by (try simp only [List.map_toArray, List.map_cons, List.map_nil]); first | done | rfl) ?_; (with_reducible refine (SB.out _ i (by have := HI.out; have := M0.out; omega) C.out).mono ?_); rintro e w4 ⟨rfl, hb⟩; refine ⟨_, rfl, ?_⟩; have HM4 := Aside0.mk (mem5_call_ HM.out hb); clear hb; have hq_0 : w4.cell? ⟨w.heap.size + 1 + 1, 0, none⟩ = some (.bool a0_0) := (blk_cell HM4.out.2.2.1 0).trans rfl; have fq_0 := blk_frozen HM4.out.2.2.1 0; have hq_1 : w4.cell? ⟨w.heap.size + 1 + 1, 1, none⟩ = some (.int .u64 (w0_ x)) := (blk_cell HM4.out.2.2.1 1).trans rfl; have fq_1 := blk_frozen HM4.out.2.2.1 1; have hq_2 : w4.cell? ⟨w.heap.size + 1 + 1, 2, none⟩ = some (.int .u64 (w1_ x)) := (blk_cell HM4.out.2.2.1 2).trans rfl; have fq_2 := blk_frozen HM4.out.2.2.1 2; have hq_3 : w4.cell? ⟨w.heap.size + 1 + 1, 3, none⟩ = some (.int .u64 (w2_ x)) := (blk_cell HM4.out.2.2.1 3).trans rfl; have fq_3 := blk_frozen HM4.out.2.2.1 3; have hq_4 : w4.cell? ⟨w.heap.size + 1 + 1, 4, none⟩ = some (.int .u64 (w3_ x)) := (blk_cell HM4.out.2.2.1 4).trans rfl; have fq_4 := blk_frozen HM4.out.2.2.1 4))
     go_roundg (256 - (i + 1)).toNat
     case measure => have := HK.out; have := C.out; have := HI.out; omega
     case rel => exact ⟨i + 1, by first | rfl | rw [w1], ⟨by have := HI.out; have := C.out; omega⟩, ⟨rfl⟩, ⟨mem5_set_ HM4.out _ _ _ (by rw [NB.out, B1.out, Int.mul_one, ← HX.out, ← D.out]; exact E.out)⟩⟩
    case neg =>
     by_cases j1 : d / 64 = 1
     case pos =>
      have e1 : d.tdiv 64 = 1 := by rw [Int.tdiv_eq_ediv_of_nonneg (by omega)]; omega
      have E := Aside0.mk (set_or_ x d s 1 (by omega) (by decide) s0 s1 X0.out.1 (by rw [hd]; exact X0.out.2) a0_0)
      clear hd hs j0 j1
      go_wp2_with (((with_reducible refine gate_dst (N := 20) rfl ?_); refine goesL_ (some 20) rfl rfl Try.func54 (by kernel_rfl) rfl #[.agg #[.int .u64 a0_1, .int .u64 a0_2, .int .u64 a0_3, .int .u64 a0_4], .int .i64 i] rfl (by (try simp only [List.map_toArray, List.map_cons, List.map_nil]); first | done | rfl) ?_; (with_reducible refine (SB.out _ i (by have := HI.out; have := M0.out; omega) C.out).mono ?_); rintro e w4 ⟨rfl, hb⟩; refine ⟨_, rfl, ?_⟩; have HM4 := Aside0.mk (mem5_call_ HM.out hb); clear hb; have hq_0 : w4.cell? ⟨w.heap.size + 1 + 1, 0, none⟩ = some (.bool a0_0) := (blk_cell HM4.out.2.2.1 0).trans rfl; have fq_0 := blk_frozen HM4.out.2.2.1 0; have hq_1 : w4.cell? ⟨w.heap.size + 1 + 1, 1, none⟩ = some (.int .u64 (w0_ x)) := (blk_cell HM4.out.2.2.1 1).trans rfl; have fq_1 := blk_frozen HM4.out.2.2.1 1; have hq_2 : w4.cell? ⟨w.heap.size + 1 + 1, 2, none⟩ = some (.int .u64 (w1_ x)) := (blk_cell HM4.out.2.2.1 2).trans rfl; have fq_2 := blk_frozen HM4.out.2.2.1 2; have hq_3 : w4.cell? ⟨w.heap.size + 1 + 1, 3, none⟩ = some (.int .u64 (w2_ x)) := (blk_cell HM4.out.2.2.1 3).trans rfl; have fq_3 := blk_frozen HM4.out.2.2.1 3; have hq_4 : w4.cell? ⟨w.heap.size + 1 + 1, 4, none⟩ = some (.int .u64 (w3_ x)) := (blk_cell HM4.out.2.2.1 4).trans rfl; have fq_4 := blk_frozen HM4.out.2.2.1 4))
      go_roundg (256 - (i + 1)).toNat
      case measure => have := HK.out; have := C.out; have := HI.out; omega
      case rel => exact ⟨i + 1, by first | rfl | rw [w1], ⟨by have := HI.out; have := C.out; omega⟩, ⟨rfl⟩, ⟨mem5_set_ HM4.out _ _ _ (by rw [NB.out, B1.out, Int.mul_one, ← HX.out, ← D.out]; exact E.out)⟩⟩
     case neg =>
      by_cases j2 : d / 64 = 2
      case pos =>
       have e1 : d.tdiv 64 = 2 := by rw [Int.tdiv_eq_ediv_of_nonneg (by omega)]; omega
       have E := Aside0.mk (set_or_ x d s 2 (by omega) (by decide) s0 s1 X0.out.1 (by rw [hd]; exact X0.out.2) a0_0)
       clear hd hs j0 j1 j2
       go_wp2_with (((with_reducible refine gate_dst (N := 20) rfl ?_); refine goesL_ (some 20) rfl rfl Try.func54 (by kernel_rfl) rfl #[.agg #[.int .u64 a0_1, .int .u64 a0_2, .int .u64 a0_3, .int .u64 a0_4], .int .i64 i] rfl (by (try simp only [List.map_toArray, List.map_cons, List.map_nil]); first | done | rfl) ?_; (with_reducible refine (SB.out _ i (by have := HI.out; have := M0.out; omega) C.out).mono ?_); rintro e w4 ⟨rfl, hb⟩; refine ⟨_, rfl, ?_⟩; have HM4 := Aside0.mk (mem5_call_ HM.out hb); clear hb; have hq_0 : w4.cell? ⟨w.heap.size + 1 + 1, 0, none⟩ = some (.bool a0_0) := (blk_cell HM4.out.2.2.1 0).trans rfl; have fq_0 := blk_frozen HM4.out.2.2.1 0; have hq_1 : w4.cell? ⟨w.heap.size + 1 + 1, 1, none⟩ = some (.int .u64 (w0_ x)) := (blk_cell HM4.out.2.2.1 1).trans rfl; have fq_1 := blk_frozen HM4.out.2.2.1 1; have hq_2 : w4.cell? ⟨w.heap.size + 1 + 1, 2, none⟩ = some (.int .u64 (w1_ x)) := (blk_cell HM4.out.2.2.1 2).trans rfl; have fq_2 := blk_frozen HM4.out.2.2.1 2; have hq_3 : w4.cell? ⟨w.heap.size + 1 + 1, 3, none⟩ = some (.int .u64 (w2_ x)) := (blk_cell HM4.out.2.2.1 3).trans rfl; have fq_3 := blk_frozen HM4.out.2.2.1 3; have hq_4 : w4.cell? ⟨w.heap.size + 1 + 1, 4, none⟩ = some (.int .u64 (w3_ x)) := (blk_cell HM4.out.2.2.1 4).trans rfl; have fq_4 := blk_frozen HM4.out.2.2.1 4))
       go_roundg (256 - (i + 1)).toNat
       case measure => have := HK.out; have := C.out; have := HI.out; omega
       case rel => exact ⟨i + 1, by first | rfl | rw [w1], ⟨by have := HI.out; have := C.out; omega⟩, ⟨rfl⟩, ⟨mem5_set_ HM4.out _ _ _ (by rw [NB.out, B1.out, Int.mul_one, ← HX.out, ← D.out]; exact E.out)⟩⟩
      case neg =>
       have j3 : d / 64 = 3 := by omega
       have e1 : d.tdiv 64 = 3 := by rw [Int.tdiv_eq_ediv_of_nonneg (by omega)]; omega
       have E := Aside0.mk (set_or_ x d s 3 (by omega) (by decide) s0 s1 X0.out.1 (by rw [hd]; exact X0.out.2) a0_0)
       clear hd hs j0 j1 j2 j3
       go_wp2_with (((with_reducible refine gate_dst (N := 20) rfl ?_); refine goesL_ (some 20) rfl rfl Try.func54 (by kernel_rfl) rfl #[.agg #[.int .u64 a0_1, .int .u64 a0_2, .int .u64 a0_3, .int .u64 a0_4], .int .i64 i] rfl (by (try simp only [List.map_toArray, List.map_cons, List.map_nil]); first | done | rfl) ?_; (with_reducible refine (SB.out _ i (by have := HI.out; have := M0.out; omega) C.out).mono ?_); rintro e w4 ⟨rfl, hb⟩; refine ⟨_, rfl, ?_⟩; have HM4 := Aside0.mk (mem5_call_ HM.out hb); clear hb; have hq_0 : w4.cell? ⟨w.heap.size + 1 + 1, 0, none⟩ = some (.bool a0_0) := (blk_cell HM4.out.2.2.1 0).trans rfl; have fq_0 := blk_frozen HM4.out.2.2.1 0; have hq_1 : w4.cell? ⟨w.heap.size + 1 + 1, 1, none⟩ = some (.int .u64 (w0_ x)) := (blk_cell HM4.out.2.2.1 1).trans rfl; have fq_1 := blk_frozen HM4.out.2.2.1 1; have hq_2 : w4.cell? ⟨w.heap.size + 1 + 1, 2, none⟩ = some (.int .u64 (w1_ x)) := (blk_cell HM4.out.2.2.1 2).trans rfl; have fq_2 := blk_frozen HM4.out.2.2.1 2; have hq_3 : w4.cell? ⟨w.heap.size + 1 + 1, 3, none⟩ = some (.int .u64 (w2_ x)) := (blk_cell HM4.out.2.2.1 3).trans rfl; have fq_3 := blk_frozen HM4.out.2.2.1 3; have hq_4 : w4.cell? ⟨w.heap.size + 1 + 1, 4, none⟩ = some (.int .u64 (w3_ x)) := (blk_cell HM4.out.2.2.1 4).trans rfl; have fq_4 := blk_frozen HM4.out.2.2.1 4))
       go_roundg (256 - (i + 1)).toNat
       case measure => have := HK.out; have := C.out; have := HI.out; omega
       case rel => exact ⟨i + 1, by first | rfl | rw [w1], ⟨by have := HI.out; have := C.out; omega⟩, ⟨rfl⟩, ⟨mem5_set_ HM4.out _ _ _ (by rw [NB.out, B1.out, Int.mul_one, ← HX.out, ← D.out]; exact E.out)⟩⟩

/-! ### carouselref1_Times: function 42 -/
theorem tm_start_ (w : World) (o1 : Obj) (n : Nat) (cs : Array Value) (t : TypeId) (w4 : World) (hb : Below (((w.alloc o1).drewN n).alloc (.cells cs t)).heap.size (((w.alloc o1).drewN n).alloc (.cells cs t)) w4) :
  w4.heap[w.heap.size + 1]? = some (.cells cs t (0, 0)) ∧ w4.heap[w.heap.size]? = some o1 ∧ Below w.heap.size w w4 := by
 have s1 : ((w.alloc o1).drewN n).heap.size = w.heap.size + 1 := by simp only [World.alloc, World.drewN, Array.size_push]
 have b1 := blk_new ((w.alloc o1).drewN n) (.cells cs t (0, 0))
 rw [s1] at b1
 have b0 : (((w.alloc o1).drewN n).alloc (.cells cs t (0, 0))).heap[w.heap.size]? = some o1 := blk_alloc (blk_drewN (blk_new w o1) n) _
 have h1 : Below w.heap.size w ((w.alloc o1).drewN n) := by
  have h := (Below.refl w.heap.size w).alloc (Nat.le_refl _) o1
  exact ⟨h.os, h.tape, h.output, h.size, h.block⟩
 have h2 := h1.alloc (by rw [s1]; omega) (.cells cs t (0, 0))
 exact ⟨blk_below b1 hb, blk_below b0 hb, h2.trans (hb.mono h2.size)⟩
theorem tm_step_ (w w4 : World) (g : Nat) (o1 : Obj) (t : TypeId) (c0 c1 c2 c3 v0 v1 v2 v3 : Value) (hg : g = w.heap.size + 1) (b1 : w4.heap[g]? = some (.cells #[c0, c1, c2, c3] t (0, 0))) (b0 : w4.heap[w.heap.size]? = some o1) (hb : Below w.heap.size w w4) (w5 : World)
  (e : ((((w4.setCell ⟨g, 0, none⟩ v0).setCell ⟨g, 1, none⟩ v1).setCell ⟨g, 2, none⟩ v2).setCell ⟨g, 3, none⟩ v3) = w5) :
  w5.heap[g]? = some (.cells #[v0, v1, v2, v3] t (0, 0)) ∧ w5.heap[w.heap.size]? = some o1 ∧ Below w.heap.size w w5 := by
 subst e
 have hp : ∀ i, w.heap.size ≤ (⟨g, i, none⟩ : Addr).block := fun i => by show w.heap.size ≤ g; omega
 refine ⟨?_, ?_, (((hb.setCell (hp 0) _).setCell (hp 1) _).setCell (hp 2) _).setCell (hp 3) _⟩
 ·exact blk_put (cs := #[v0, v1, v2, c3]) (blk_put (cs := #[v0, v1, c2, c3]) (blk_put (cs := #[v0, c1, c2, c3]) (blk_put (cs := #[c0, c1, c2, c3]) b1 0 _ rfl) 1 _ rfl) 2 _ rfl) 3 _ rfl
 ·have q : ∀ i, w.heap.size ≠ (⟨g, i, none⟩ : Addr).block := fun i => by show w.heap.size ≠ g; omega
  rw [Below.heap_setCell _ _ _ _ (q 3), Below.heap_setCell _ _ _ _ (q 2), Below.heap_setCell _ _ _ _ (q 1), Below.heap_setCell _ _ _ _ (q 0)]
  exact b0
theorem tm_call_ (w w5 w6 : World) (g : Nat) (o1 o2 : Obj) (b1 : w5.heap[g]? = some o2) (b0 : w5.heap[w.heap.size]? = some o1) (hb : Below w.heap.size w w5) (h : Below w5.heap.size w5 w6) :
  w6.heap[g]? = some o2 ∧ w6.heap[w.heap.size]? = some o1 ∧ Below w.heap.size w w6 := ⟨blk_below b1 h, blk_below b0 h, hb.trans (h.mono hb.size)⟩
theorem tm_end_ (w w7 : World) (t : TypeId) (z0 z1 z2 z3 z4 v0 v1 v2 v3 v4 : Value) (b0 : w7.heap[w.heap.size]? = some (.cells #[z0, z1, z2, z3, z4] t (0, 0))) (hb : Below w.heap.size w w7) :
  (((((w7.setCell ⟨w.heap.size, 0, none⟩ v0).setCell ⟨w.heap.size, 1, none⟩ v1).setCell ⟨w.heap.size, 2, none⟩ v2).setCell ⟨w.heap.size, 3, none⟩ v3).setCell ⟨w.heap.size, 4, none⟩ v4).heap[w.heap.size]? = some (.cells #[v0, v1, v2, v3, v4] t (0, 0)) ∧
  Below w.heap.size w (((((w7.setCell ⟨w.heap.size, 0, none⟩ v0).setCell ⟨w.heap.size, 1, none⟩ v1).setCell ⟨w.heap.size, 2, none⟩ v2).setCell ⟨w.heap.size, 3, none⟩ v3).setCell ⟨w.heap.size, 4, none⟩ v4) := by
 have hp : ∀ i, w.heap.size ≤ (⟨w.heap.size, i, none⟩ : Addr).block := fun i => Nat.le_refl _
 exact ⟨blk_put (cs := #[v0, v1, v2, v3, z4]) (blk_put (cs := #[v0, v1, v2, z3, z4]) (blk_put (cs := #[v0, v1, z2, z3, z4]) (blk_put (cs := #[v0, z1, z2, z3, z4]) (blk_put (cs := #[z0, z1, z2, z3, z4]) b0 0 _ rfl) 1 _ rfl) 2 _ rfl) 3 _ rfl) 4 _ rfl,
  ((((hb.setCell (hp 0) _).setCell (hp 1) _).setCell (hp 2) _).setCell (hp 3) _).setCell (hp 4) _⟩
theorem carouselref1_Times.ix0 (v0 v1 : Int) (w : World) : (Instr.index 84 (.agg #[.int .u64 v0, .int .u64 v1]) (.int .i64 0)).run Try.prog w = .ok (.int .u64 v0) w := by
 have hi : (Try.prog.info? 28).map (·.size) = some 1 := by kernel_rfl
 cases h : Try.prog.info? 28 with
 | none => rw [h] at hi; cases hi
 | some q =>
  rw [h] at hi
  have hs : q.size = 1 := by simpa using hi
  simp [Instr.index, run_underlying Try.underlying84, asIntOf, part, sizeOf, typeInfo, h, hs, go_sem]
theorem carouselref1_Times.ix1 (v0 v1 : Int) (w : World) : (Instr.index 84 (.agg #[.int .u64 v0, .int .u64 v1]) (.int .i64 1)).run Try.prog w = .ok (.int .u64 v1) w := by
 have hi : (Try.prog.info? 28).map (·.size) = some 1 := by kernel_rfl
 cases h : Try.prog.info? 28 with
 | none => rw [h] at hi; cases hi
 | some q =>
  rw [h] at hi
  have hs : q.size = 1 := by simpa using hi
  simp [Instr.index, run_underlying Try.underlying84, asIntOf, part, sizeOf, typeInfo, h, hs, go_sem]
def carouselref1_Times.f (a0 : Int) (a1 : Int) : Option (Bool × Int × Int × Int × Int) := (carouselref1_size.f a0).bind fun x => ((carouselref1_size.f a1).bind fun y => ((carouselref1_plus.f (IntKind.u64.wrap (Go.bits .and .u64 x 4294967295 * Go.bits .and .u64 y 4294967295)) (IntKind.u64.wrap (x / 4294967296 * (y / 4294967296))) 0 0 (IntKind.u64.wrap (IntKind.u64.wrap (Go.bits .and .u64 x 4294967295 * (y / 4294967296)) * 4294967296)) (IntKind.u64.wrap (Go.bits .and .u64 x 4294967295 * (y / 4294967296)) / 4294967296) 0 0).bind fun p => ((carouselref1_plus.f p.1 p.2.1 p.2.2.1 p.2.2.2 (IntKind.u64.wrap (IntKind.u64.wrap (x / 4294967296 * Go.bits .and .u64 y 4294967295) * 4294967296)) (IntKind.u64.wrap (x / 4294967296 * Go.bits .and .u64 y 4294967295) / 4294967296) 0 0).bind fun q => (some ((decide (a0 < 0)) != (decide (a1 < 0)), q.1, q.2.1, q.2.2.1, q.2.2.2)))))
set_option maxHeartbeats 8000000 in
set_option maxRecDepth 100000 in
theorem carouselref1_Times.calls (a0 : Int) (a1 : Int) (r1 : Bool) (r2 : Int) (r3 : Int) (r4 : Int) (r5 : Int) (w : World) (h : carouselref1_Times.f a0 a1 = some (r1, r2, r3, r4, r5)) :
  Calls Try.prog 42 #[.int .i64 a0, .int .i64 a1] w fun e w' => e = .returned (.agg #[.bool r1, .int .u64 r2, .int .u64 r3, .int .u64 r4, .int .u64 r5]) ∧ Below w.heap.size w w' := by
 unfold carouselref1_Times.f at h
 obtain ⟨x, hx, h⟩ := Option.bind_eq_some_iff.mp h
 obtain ⟨y, hy, h⟩ := Option.bind_eq_some_iff.mp h
 obtain ⟨⟨p0, p1, p2, p3⟩, hp, h⟩ := Option.bind_eq_some_iff.mp h
 obtain ⟨⟨q0, q1, q2, q3⟩, hq, h⟩ := Option.bind_eq_some_iff.mp h
 simp only [Option.some.injEq, Prod.mk.injEq] at h
 obtain ⟨rfl, rfl, rfl, rfl, rfl⟩ := h
 have sa := fun w => carouselref1_size.calls a0 x w hx
 have sb := fun w => carouselref1_size.calls a1 y w hy
 have s1 := fun w => carouselref1_plus.calls _ _ _ _ _ _ _ _ p0 p1 p2 p3 w hp
 have s2 := fun w => carouselref1_plus.calls _ _ _ _ _ _ _ _ q0 q1 q2 q3 w hq
 clear hx hy hp hq
 have hu59 := Try.underlying59
 have hu61 := Try.underlying61
 have hu84 := Try.underlying84
 have hix0 := carouselref1_Times.ix0
 have hix1 := carouselref1_Times.ix1
 have SA := Aside0.mk sa
 have SB := Aside0.mk sb
 have S1 := Aside0.mk s1
 have S2 := Aside0.mk s2
 clear sa sb s1 s2
 go_enter Try.func42, Try.ntmps42
 go_wp2_with (first | ((with_reducible refine gate_dst (N := 15) rfl ?_); refine goesL_ (some 15) rfl rfl Try.func46 (by kernel_rfl) rfl #[.int .i64 a0] rfl (by (try simp only [List.map_toArray, List.map_cons, List.map_nil]); first | done | rfl) ?_; (with_reducible refine (SA.out _).mono ?_); rintro e w' ⟨rfl, ⟨nd, rfl⟩⟩; refine ⟨_, rfl, ?_⟩) | ((with_reducible refine gate_dst (N := 17) rfl ?_); refine goesL_ (some 17) rfl rfl Try.func46 (by kernel_rfl) rfl #[.int .i64 a1] rfl (by (try simp only [List.map_toArray, List.map_cons, List.map_nil]); first | done | rfl) ?_; (with_reducible refine (SB.out _).mono ?_); rintro e w' ⟨rfl, ⟨nd, rfl⟩⟩; refine ⟨_, rfl, ?_⟩))
 refine wp_loop_rounds 3 ?_
 rw [rounds_succ]
 go_wp2_with (((with_reducible refine gate_dst (N := 49) rfl ?_); refine goesL_ (some 49) rfl rfl Try.func43 (by kernel_rfl) rfl #[.agg #[.int .u64 (IntKind.u64.wrap (Go.bits .and .u64 x 4294967295 * Go.bits .and .u64 y 4294967295)), .int .u64 (IntKind.u64.wrap (x / 4294967296 * (y / 4294967296))), .int .u64 0, .int .u64 0], .agg #[.int .u64 (IntKind.u64.wrap (IntKind.u64.wrap (Go.bits .and .u64 x 4294967295 * (y / 4294967296)) * 4294967296)), .int .u64 (IntKind.u64.wrap (Go.bits .and .u64 x 4294967295 * (y / 4294967296)) / 4294967296), .int .u64 0, .int .u64 0]] rfl (by (try simp only [List.map_toArray, List.map_cons, List.map_nil]); first | done | rfl) ?_; (with_reducible refine (S1.out _).mono ?_); rintro e w4 ⟨rfl, hb⟩; refine ⟨_, rfl, ?_⟩; have F4 := Aside0.mk (tm_start_ w _ _ _ _ w4 hb); clear hb; have hc4_0 : w4.cell? ⟨w.heap.size + 1, 0, none⟩ = some (.int .u64 (IntKind.u64.wrap (Go.bits .and .u64 x 4294967295 * Go.bits .and .u64 y 4294967295))) := (blk_cell F4.out.1 0).trans rfl; have hf4_0 := blk_frozen F4.out.1 0; have hc4_1 : w4.cell? ⟨w.heap.size + 1, 1, none⟩ = some (.int .u64 (IntKind.u64.wrap (x / 4294967296 * (y / 4294967296)))) := (blk_cell F4.out.1 1).trans rfl; have hf4_1 := blk_frozen F4.out.1 1; have hc4_2 : w4.cell? ⟨w.heap.size + 1, 2, none⟩ = some (.int .u64 0) := (blk_cell F4.out.1 2).trans rfl; have hf4_2 := blk_frozen F4.out.1 2; have hc4_3 : w4.cell? ⟨w.heap.size + 1, 3, none⟩ = some (.int .u64 0) := (blk_cell F4.out.1 3).trans rfl; have hf4_3 := blk_frozen F4.out.1 3))
 generalize hW : ((((w4.setCell ⟨w.heap.size + 1, 0, none⟩ (.int .u64 p0)).setCell ⟨w.heap.size + 1, 1, none⟩ (.int .u64 p1)).setCell ⟨w.heap.size + 1, 2, none⟩ (.int .u64 p2)).setCell ⟨w.heap.size + 1, 3, none⟩ (.int .u64 p3)) = w5
 have F5 := Aside0.mk (tm_step_ w w4 (w.heap.size + 1) _ _ _ _ _ _ _ _ _ _ rfl F4.out.1 F4.out.2.1 F4.out.2.2 w5 hW)
 clear hW hc4_0 hc4_1 hc4_2 hc4_3 hf4_0 hf4_1 hf4_2 hf4_3
 have hc5_0 : w5.cell? ⟨w.heap.size + 1, 0, none⟩ = some (.int .u64 p0) := (blk_cell F5.out.1 0).trans rfl
 have hf5_0 := blk_frozen F5.out.1 0
 have hc5_1 : w5.cell? ⟨w.heap.size + 1, 1, none⟩ = some (.int .u64 p1) := (blk_cell F5.out.1 1).trans rfl
 have hf5_1 := blk_frozen F5.out.1 1
 have hc5_2 : w5.cell? ⟨w.heap.size + 1, 2, none⟩ = some (.int .u64 p2) := (blk_cell F5.out.1 2).trans rfl
 have hf5_2 := blk_frozen F5.out.1 2
 have hc5_3 : w5.cell? ⟨w.heap.size + 1, 3, none⟩ = some (.int .u64 p3) := (blk_cell F5.out.1 3).trans rfl
 have hf5_3 := blk_frozen F5.out.1 3
 rw [rounds_succ]
 go_wp2_with (((with_reducible refine gate_dst (N := 49) rfl ?_); refine goesL_ (some 49) rfl rfl Try.func43 (by kernel_rfl) rfl #[.agg #[.int .u64 p0, .int .u64 p1, .int .u64 p2, .int .u64 p3], .agg #[.int .u64 (IntKind.u64.wrap (IntKind.u64.wrap (x / 4294967296 * Go.bits .and .u64 y 4294967295) * 4294967296)), .int .u64 (IntKind.u64.wrap (x / 4294967296 * Go.bits .and .u64 y 4294967295) / 4294967296), .int .u64 0, .int .u64 0]] rfl (by (try simp only [List.map_toArray, List.map_cons, List.map_nil]); first | done | rfl) ?_; (with_reducible refine (S2.out _).mono ?_); rintro e w6 ⟨rfl, hb⟩; refine ⟨_, rfl, ?_⟩; have F6 := Aside0.mk (tm_call_ w w5 w6 (w.heap.size + 1) _ _ F5.out.1 F5.out.2.1 F5.out.2.2 hb); clear hb; have hc6_0 : w6.cell? ⟨w.heap.size + 1, 0, none⟩ = some (.int .u64 p0) := (blk_cell F6.out.1 0).trans rfl; have hf6_0 := blk_frozen F6.out.1 0; have hc6_1 : w6.cell? ⟨w.heap.size + 1, 1, none⟩ = some (.int .u64 p1) := (blk_cell F6.out.1 1).trans rfl; have hf6_1 := blk_frozen F6.out.1 1; have hc6_2 : w6.cell? ⟨w.heap.size + 1, 2, none⟩ = some (.int .u64 p2) := (blk_cell F6.out.1 2).trans rfl; have hf6_2 := blk_frozen F6.out.1 2; have hc6_3 : w6.cell? ⟨w.heap.size + 1, 3, none⟩ = some (.int .u64 p3) := (blk_cell F6.out.1 3).trans rfl; have hf6_3 := blk_frozen F6.out.1 3))
 generalize hW : ((((w6.setCell ⟨w.heap.size + 1, 0, none⟩ (.int .u64 q0)).setCell ⟨w.heap.size + 1, 1, none⟩ (.int .u64 q1)).setCell ⟨w.heap.size + 1, 2, none⟩ (.int .u64 q2)).setCell ⟨w.heap.size + 1, 3, none⟩ (.int .u64 q3)) = w7
 have F7 := Aside0.mk (tm_step_ w w6 (w.heap.size + 1) _ _ _ _ _ _ _ _ _ _ rfl F6.out.1 F6.out.2.1 F6.out.2.2 w7 hW)
 clear hW
 have hc7_0 : w7.cell? ⟨w.heap.size + 1, 0, none⟩ = some (.int .u64 q0) := (blk_cell F7.out.1 0).trans rfl
 have hf7_0 := blk_frozen F7.out.1 0
 have hc7_1 : w7.cell? ⟨w.heap.size + 1, 1, none⟩ = some (.int .u64 q1) := (blk_cell F7.out.1 1).trans rfl
 have hf7_1 := blk_frozen F7.out.1 1
 have hc7_2 : w7.cell? ⟨w.heap.size + 1, 2, none⟩ = some (.int .u64 q2) := (blk_cell F7.out.1 2).trans rfl
 have hf7_2 := blk_frozen F7.out.1 2
 have hc7_3 : w7.cell? ⟨w.heap.size + 1, 3, none⟩ = some (.int .u64 q3) := (blk_cell F7.out.1 3).trans rfl
 have hf7_3 := blk_frozen F7.out.1 3
 have hr_0 : w7.cell? ⟨w.heap.size, 0, none⟩ = some (.bool false) := (blk_cell F7.out.2.1 0).trans rfl
 have hq_0 := blk_frozen F7.out.2.1 0
 have hr_1 : w7.cell? ⟨w.heap.size, 1, none⟩ = some (.int .u64 0) := (blk_cell F7.out.2.1 1).trans rfl
 have hq_1 := blk_frozen F7.out.2.1 1
 have hr_2 : w7.cell? ⟨w.heap.size, 2, none⟩ = some (.int .u64 0) := (blk_cell F7.out.2.1 2).trans rfl
 have hq_2 := blk_frozen F7.out.2.1 2
 have hr_3 : w7.cell? ⟨w.heap.size, 3, none⟩ = some (.int .u64 0) := (blk_cell F7.out.2.1 3).trans rfl
 have hq_3 := blk_frozen F7.out.2.1 3
 have hr_4 : w7.cell? ⟨w.heap.size, 4, none⟩ = some (.int .u64 0) := (blk_cell F7.out.2.1 4).trans rfl
 have hq_4 := blk_frozen F7.out.2.1 4
 rw [rounds_succ]
 go_wp2
 have E := tm_end_ w w7 61 _ _ _ _ _ (.bool (!(decide (a0 < 0) == decide (a1 < 0)))) (.int .u64 q0) (.int .u64 q1) (.int .u64 q2) (.int .u64 q3) F7.out.2.1 F7.out.2.2
 exact bodyPost_ret (results_cell_row rfl _ _ w.heap.size 61 #[.bool (!(decide (a0 < 0) == decide (a1 < 0))), .int .u64 q0, .int .u64 q1, .int .u64 q2, .int .u64 q3] (0, 0) _ rfl E.1 hu61 rfl (by kernel_rfl)) rfl ⟨rfl, E.2⟩

/-! ### carouselref1_Mul: function 27 -/
def carouselref1_Mul.f (k : Nat) (a0 : Int) (a1 : Int) : Option (Int) := (carouselref1_Times.f a0 a1).bind fun bt293 => ((carouselref1_Halved.f bt293.1 bt293.2.1 bt293.2.2.1 bt293.2.2.2.1 bt293.2.2.2.2 32).bind fun bt298 => ((carouselref1_Held.f k bt298.1 bt298.2.1 bt298.2.2.1 bt298.2.2.2.1 bt298.2.2.2.2).bind fun t303 => (some t303)))
theorem carouselref1_Mul.mono : ∀ a0 a1 k, LeO (carouselref1_Mul.f k a0 a1) (carouselref1_Mul.f (k + 1) a0 a1) := by
 intro a0 a1 k
 unfold carouselref1_Mul.f
 repeat' first
   | (with_reducible exact carouselref1_Held.mono _ _ _ _ _ _)
   | (with_reducible exact LeO.refl _)
   | (with_reducible exact LeO.none _)
   | (with_reducible refine LeO.ite ?_ ?_)
   | (with_reducible refine LeO.bind ?_ (fun _ => ?_))
   | exact carouselref1_Held.mono _ _ _ _ _ _
   | exact LeO.none _
   | refine LeO.ite ?_ ?_
   | refine LeO.bind ?_ (fun _ => ?_)
set_option maxHeartbeats 8000000 in
set_option maxRecDepth 100000 in
theorem carouselref1_Mul.calls (k : Nat) (a0 : Int) (a1 : Int) (r : Int) (w : World) (h : carouselref1_Mul.f k a0 a1 = some r) :
  Calls Try.prog 27 #[.int .i64 a0, .int .i64 a1] w fun e w' => e = .returned (.int .i64 r) ∧ Below w.heap.size w w' := by
 have HB := Aside0.mk (Below.refl w.heap.size w)
 have H : ((carouselref1_Times.f a0 a1).bind fun bt293 => ((carouselref1_Halved.f bt293.1 bt293.2.1 bt293.2.2.1 bt293.2.2.2.1 bt293.2.2.2.2 32).bind fun bt298 => ((carouselref1_Held.f k bt298.1 bt298.2.1 bt298.2.2.1 bt298.2.2.2.1 bt298.2.2.2.2).bind fun t303 => (some t303)))) = some r := h
 clear h
 replace H := Option.bind_eq_some_iff.mp H
 obtain ⟨⟨t293, t294, t295, t296, t297⟩, A30, H⟩ := H
 (try dsimp only at H)
 have A3 := Aside0.mk A30
 clear A30
 replace H := Option.bind_eq_some_iff.mp H
 obtain ⟨⟨t298, t299, t300, t301, t302⟩, A40, H⟩ := H
 replace H : ((carouselref1_Held.f k t298 t299 t300 t301 t302).bind fun t303 => (some t303)) = some r := H
 have A4 := Aside0.mk A40
 clear A40
 replace H := Option.bind_eq_some_iff.mp H
 obtain ⟨t303, A50, H⟩ := H
 replace H : (some t303) = some r := H
 have A5 := Aside0.mk A50
 clear A50
 obtain rfl := Option.some.inj H
 go_enter Try.func27, Try.ntmps27
 go_wp2_with (first | ((with_reducible refine gate_callee (f := 42) rfl ?_); refine goesL_ (some 7) rfl rfl Try.func42 (by kernel_rfl) rfl #[.int .i64 a0, .int .i64 a1] rfl (by (try simp only [List.map_toArray, List.map_cons, List.map_nil]); first | done | rfl | (simp only [List.length_drop, List.length_take]; rfl)) ?_; (with_reducible refine (carouselref1_Times.calls a0 a1 t293 t294 t295 t296 t297 _ A3.out).mono ?_); rintro e w6 ⟨rfl, hb⟩; refine ⟨_, rfl, ?_⟩; have n0_ := Aside0.mk (below_step (by repeat (first | (with_reducible first | exact HB.out | apply below_alloc | apply pw_below_drewN | apply below_drew1) | exact HB.out)) hb); clear HB; have HB := n0_; clear n0_; (try clear hb); (try clear hb2); (try clear hk); (try clear hi)) | ((with_reducible refine gate_callee (f := 41) rfl ?_); refine goesL_ (some 8) rfl rfl Try.func41 (by kernel_rfl) rfl #[.agg #[.bool t293, .int .u64 t294, .int .u64 t295, .int .u64 t296, .int .u64 t297], .int .i64 32] rfl (by (try simp only [List.map_toArray, List.map_cons, List.map_nil]); first | done | rfl | (simp only [List.length_drop, List.length_take]; rfl)) ?_; (with_reducible refine (carouselref1_Halved.calls t293 t294 t295 t296 t297 32 t298 t299 t300 t301 t302 _ A4.out).mono ?_); rintro e w7 ⟨rfl, hb⟩; refine ⟨_, rfl, ?_⟩; have n0_ := Aside0.mk (below_step (by repeat (first | (with_reducible first | exact HB.out | apply below_alloc | apply pw_below_drewN | apply below_drew1) | exact HB.out)) hb); clear HB; have HB := n0_; clear n0_; (try clear hb); (try clear hb2); (try clear hk); (try clear hi)) | ((with_reducible refine gate_callee (f := 28) rfl ?_); refine goesL_ (some 9) rfl rfl Try.func28 (by kernel_rfl) rfl #[.agg #[.bool t298, .int .u64 t299, .int .u64 t300, .int .u64 t301, .int .u64 t302]] rfl (by (try simp only [List.map_toArray, List.map_cons, List.map_nil]); first | done | rfl | (simp only [List.length_drop, List.length_take]; rfl)) ?_; (with_reducible refine (carouselref1_Held.calls k t298 t299 t300 t301 t302 t303 _ A5.out).mono ?_); rintro e w8 ⟨rfl, hb⟩; refine ⟨_, rfl, ?_⟩; have n0_ := Aside0.mk (below_step (by repeat (first | (with_reducible first | exact HB.out | apply below_alloc | apply pw_below_drewN | apply below_drew1) | exact HB.out)) hb); clear HB; have HB := n0_; clear n0_; (try clear hb); (try clear hb2); (try clear hk); (try clear hi)))
 go_ret
 exact ⟨by first | rfl | (simp [errW_none, errW_some] <;> rfl) | (simp [*, errW_none, errW_some] <;> rfl), by repeat (first | (with_reducible first | exact HB.out | apply below_alloc | apply pw_below_drewN | apply below_drew1) | exact HB.out)⟩

end Go.Proofs.Ytaanhfcioemekaa.POptSteps
