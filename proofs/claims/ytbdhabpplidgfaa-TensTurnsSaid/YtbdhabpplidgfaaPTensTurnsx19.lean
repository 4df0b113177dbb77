/- The functions that the law TensTurns reaches, as Lean functions, and that each call of the Go function does what its Lean function says, wherever that one answers. Written by a program of mine over the print of the kit; Lean checks it. -/
import Derived.Test.YtbdhabpplidgfaaPTensTurnsx0
import Derived.Test.YtbdhabpplidgfaaPTensTurnsx11
import Derived.Test.YtbdhabpplidgfaaPTensTurnsx12
import Derived.Test.YtbdhabpplidgfaaPTensTurnsx18
namespace Go.Proofs.Ytbdhabpplidgfaa.PTensTurns
open Go.RowKit Go.Proofs.YtbdhabpplidgfaaW.PrintWords Go.Proofs.YtbdhabpplidgfaaW.PrintLast Go.Proofs.YtbdhabpplidgfaaW.PrintMore
attribute [local go_sem] max2_int min2_int max_two min_two max_three min_three max_four min_four   -- for this text's walks alone
set_option linter.unusedVariables false
set_option linter.unusedSimpArgs false

/-! ### carouselref1_Plus: function 67 -/
def carouselref1_Plus.f (a0_0 : Bool) (a0_1 : Int) (a0_2 : Int) (a0_3 : Int) (a0_4 : Int) (a1_0 : Bool) (a1_1 : Int) (a1_2 : Int) (a1_3 : Int) (a1_4 : Int) : Option (Bool × Int × Int × Int × Int) := if (a0_0 == a1_0) = true then ((carouselref1_plus.f a0_1 a0_2 a0_3 a0_4 a1_1 a1_2 a1_3 a1_4).bind fun bt455 => (some (a0_0, bt455.1, bt455.2.1, bt455.2.2.1, bt455.2.2.2))) else ((carouselref1_less.f a0_1 a0_2 a0_3 a0_4 a1_1 a1_2 a1_3 a1_4).bind fun t459 => (if t459 = true then ((carouselref1_minus.f a1_1 a1_2 a1_3 a1_4 a0_1 a0_2 a0_3 a0_4).bind fun bt460 => (some (a1_0, bt460.1, bt460.2.1, bt460.2.2.1, bt460.2.2.2))) else ((carouselref1_minus.f a0_1 a0_2 a0_3 a0_4 a1_1 a1_2 a1_3 a1_4).bind fun bt464 => (some (a0_0, bt464.1, bt464.2.1, bt464.2.2.1, bt464.2.2.2)))))
def carouselref1_Plus.T2 : Bool × List (List Nat × List Nat) := (true, [([], []), ([0], [0]), ([], []), ([2], [2]), ([], []), ([4], [4]), ([3, 5], [3, 5]), ([1, 6], [1, 6]), ([7, 6, 0, 1, 2, 3, 4, 5, 6, 7], [7])])
def carouselref1_Plus.B2 : List Nat := [0, 1, 0, 4, 0, 16, 60, 127, 255]
theorem carouselref1_Plus.tab2 : rtab .any (opsOf Try.f67 2) = carouselref1_Plus.T2 := by kernel_rfl
theorem carouselref1_Plus.bits2 : waitsOk carouselref1_Plus.T2.2 carouselref1_Plus.B2 = true := by kernel_rfl
def carouselref1_Plus.T4 : Bool × List (List Nat × List Nat) := (true, [([], []), ([0], [0]), ([], []), ([2], [2]), ([], []), ([4], [4]), ([3, 5], [3, 5]), ([1, 6], [1, 6]), ([7, 6, 0, 1, 2, 3, 4, 5, 6, 7], [7])])
def carouselref1_Plus.B4 : List Nat := [0, 1, 0, 4, 0, 16, 60, 127, 255]
theorem carouselref1_Plus.tab4 : rtab .any (opsOf Try.f67 4) = carouselref1_Plus.T4 := by kernel_rfl
theorem carouselref1_Plus.bits4 : waitsOk carouselref1_Plus.T4.2 carouselref1_Plus.B4 = true := by kernel_rfl
def carouselref1_Plus.T5 : Bool × List (List Nat × List Nat) := (true, [([], []), ([0], [0]), ([], []), ([2], [2]), ([], []), ([4], [4]), ([3, 5], [3, 5]), ([1, 6], [1, 6]), ([7, 6, 0, 1, 2, 3, 4, 5, 6, 7], [7])])
def carouselref1_Plus.B5 : List Nat := [0, 1, 0, 4, 0, 16, 60, 127, 255]
theorem carouselref1_Plus.tab5 : rtab .any (opsOf Try.f67 5) = carouselref1_Plus.T5 := by kernel_rfl
theorem carouselref1_Plus.bits5 : waitsOk carouselref1_Plus.T5.2 carouselref1_Plus.B5 = true := by kernel_rfl
set_option maxHeartbeats 8000000 in
set_option maxRecDepth 100000 in
theorem carouselref1_Plus.calls (a0_0 : Bool) (a0_1 : Int) (a0_2 : Int) (a0_3 : Int) (a0_4 : Int) (a1_0 : Bool) (a1_1 : Int) (a1_2 : Int) (a1_3 : Int) (a1_4 : Int) (r1 : Bool) (r2 : Int) (r3 : Int) (r4 : Int) (r5 : Int) (w : World) (h : carouselref1_Plus.f a0_0 a0_1 a0_2 a0_3 a0_4 a1_0 a1_1 a1_2 a1_3 a1_4 = some (r1, r2, r3, r4, r5)) :
  Calls Try.prog 67 #[.agg #[.bool a0_0, .int .u64 a0_1, .int .u64 a0_2, .int .u64 a0_3, .int .u64 a0_4], .agg #[.bool a1_0, .int .u64 a1_1, .int .u64 a1_2, .int .u64 a1_3, .int .u64 a1_4]] w fun e w' => e = .returned (.agg #[.bool r1, .int .u64 r2, .int .u64 r3, .int .u64 r4, .int .u64 r5]) ∧ Below w.heap.size w w' := by
 have hu74 := Try.underlying74
 have hu72 := Try.underlying72
 have HB := Aside0.mk (Below.refl w.heap.size w)
 have H : (if (a0_0 == a1_0) = true then ((carouselref1_plus.f a0_1 a0_2 a0_3 a0_4 a1_1 a1_2 a1_3 a1_4).bind fun bt455 => (some (a0_0, bt455.1, bt455.2.1, bt455.2.2.1, bt455.2.2.2))) else ((carouselref1_less.f a0_1 a0_2 a0_3 a0_4 a1_1 a1_2 a1_3 a1_4).bind fun t459 => (if t459 = true then ((carouselref1_minus.f a1_1 a1_2 a1_3 a1_4 a0_1 a0_2 a0_3 a0_4).bind fun bt460 => (some (a1_0, bt460.1, bt460.2.1, bt460.2.2.1, bt460.2.2.2))) else ((carouselref1_minus.f a0_1 a0_2 a0_3 a0_4 a1_1 a1_2 a1_3 a1_4).bind fun bt464 => (some (a0_0, bt464.1, bt464.2.1, bt464.2.2.1, bt464.2.2.2)))))) = some (r1, r2, r3, r4, r5) := h
 clear h
 by_cases c3 : (a0_0 == a1_0) = true
 ·rw [if_pos c3] at H
  have c3b0 : (a0_0 == a1_0) = true := c3
  (try (have c3b1 : decide (a0_0 = a1_0) = true := by simpa using c3))
  (try (have c3b2 : (a0_0 == a1_0) = true := by simpa using c3))
  clear c3
  replace H := Option.bind_eq_some_iff.mp H
  obtain ⟨⟨t455, t456, t457, t458⟩, A40, H⟩ := H
  replace H : (some (a0_0, t455, t456, t457, t458)) = some (r1, r2, r3, r4, r5) := H
  have A4 := Aside0.mk A40
  clear A40
  simp only [Option.some.injEq, Prod.mk.injEq] at H
  obtain ⟨rfl, rfl, rfl, rfl, rfl⟩ := H
  go_enter Try.func67, Try.ntmps67
  try go_wp2_with (first | ((with_reducible refine gate_dst (N := 2) rfl ?_); refine box_event ?hg (N := 2) ?hd (cs := #[.bool a0_0, .int .u64 a0_1, .int .u64 a0_2, .int .u64 a0_3, .int .u64 a0_4]) (t := 74) ?hr ?_; (case hd => rfl); (case hg => rfl); (case hr => first | (go_simp; done) | (go_simp; rfl)); intro gb452 hg w5 hbox hb; have BK452 := Aside0.mk (hbox); have GW452 := Aside0.mk (zs_ hg (zw0_ HB)); have GE452 := Aside0.mk (zs_ hg (zw0_ HB)); replace HB := Aside0.mk (below_step (zw0_ HB) hb); clear hb hbox hg) | ((with_reducible refine gate_dst (N := 3) rfl ?_); refine box_event ?hg (N := 3) ?hd (cs := #[.bool a1_0, .int .u64 a1_1, .int .u64 a1_2, .int .u64 a1_3, .int .u64 a1_4]) (t := 74) ?hr ?_; (case hd => rfl); (case hg => rfl); (case hr => first | (go_simp; done) | (go_simp; rfl)); intro gb453 hg w6 hbox hb; have BK453 := Aside0.mk (hbox); have GW453 := Aside0.mk (zs_ hg (zw1_ HB GE452)); have GE453 := Aside0.mk (zs_ hg (zw1_ HB GE452)); replace HB := Aside0.mk (below_step (zw1_ HB GE452) hb); have NB452_453 := Aside0.mk (zn_ hg BK452); have NB453_452 := Aside0.mk (zm_ hg BK452); replace BK452 := za_ BK452 hb; clear hb hbox hg) | ((with_reducible refine gate_dst (N := 4) rfl ?_); refine box_event ?hg (N := 4) ?hd (cs := #[.bool false, .int .u64 0, .int .u64 0, .int .u64 0, .int .u64 0]) (t := 74) ?hr ?_; (case hd => rfl); (case hg => rfl); (case hr => first | (go_simp; done) | (go_simp; rfl)); intro gb454 hg w7 hbox hb; have BK454 := Aside0.mk (hbox); have GW454 := Aside0.mk (zs_ hg (zw2_ HB GE452 GE453)); have GE454 := Aside0.mk (zs_ hg (zw2_ HB GE452 GE453)); replace HB := Aside0.mk (below_step (zw2_ HB GE452 GE453) hb); have NB452_454 := Aside0.mk (zn_ hg BK452); have NB454_452 := Aside0.mk (zm_ hg BK452); replace BK452 := za_ BK452 hb; have NB453_454 := Aside0.mk (zn_ hg BK453); have NB454_453 := Aside0.mk (zm_ hg BK453); replace BK453 := za_ BK453 hb; clear hb hbox hg; have hnb8 := NB452_453.out; have hnc8 := NB453_452.out; have hnb9 := NB452_454.out; have hnc9 := NB454_452.out; have hcz10_0 := zx_ (v := .bool a0_0) BK452 0; have hcz10_1 := zx_ (v := .int .u64 a0_1) BK452 1; have hcz10_2 := zx_ (v := .int .u64 a0_2) BK452 2; have hcz10_3 := zx_ (v := .int .u64 a0_3) BK452 3; have hcz10_4 := zx_ (v := .int .u64 a0_4) BK452 4; have hfz10_0 := blk_frozen BK452.out 0; have hfz10_1 := blk_frozen BK452.out 1; have hfz10_2 := blk_frozen BK452.out 2; have hfz10_3 := blk_frozen BK452.out 3; have hfz10_4 := blk_frozen BK452.out 4; have hnb11 := NB453_454.out; have hnc11 := NB454_453.out; have hcz12_0 := zx_ (v := .bool a1_0) BK453 0; have hcz12_1 := zx_ (v := .int .u64 a1_1) BK453 1; have hcz12_2 := zx_ (v := .int .u64 a1_2) BK453 2; have hcz12_3 := zx_ (v := .int .u64 a1_3) BK453 3; have hcz12_4 := zx_ (v := .int .u64 a1_4) BK453 4; have hfz12_0 := blk_frozen BK453.out 0; have hfz12_1 := blk_frozen BK453.out 1; have hfz12_2 := blk_frozen BK453.out 2; have hfz12_3 := blk_frozen BK453.out 3; have hfz12_4 := blk_frozen BK453.out 4))
  replace BK452 := Aside0.mk (blk_drew BK452.out)
  replace BK453 := Aside0.mk (blk_drew BK453.out)
  replace BK454 := Aside0.mk (blk_drew BK454.out)
  replace HB := Aside0.mk (below_drew1 HB.out)
  refine start_ (n := 9) (S := fun w' => w'.cell? ⟨gb452, 0, none⟩ = some (.bool a0_0) ∧ w'.cell? ⟨gb452, 1, none⟩ = some (.int .u64 a0_1) ∧ w'.cell? ⟨gb452, 2, none⟩ = some (.int .u64 a0_2) ∧ w'.cell? ⟨gb452, 3, none⟩ = some (.int .u64 a0_3) ∧ w'.cell? ⟨gb452, 4, none⟩ = some (.int .u64 a0_4) ∧ w'.cell? ⟨gb453, 0, none⟩ = some (.bool a1_0) ∧ w'.cell? ⟨gb453, 1, none⟩ = some (.int .u64 a1_1) ∧ w'.cell? ⟨gb453, 2, none⟩ = some (.int .u64 a1_2) ∧ w'.cell? ⟨gb453, 3, none⟩ = some (.int .u64 a1_3) ∧ w'.cell? ⟨gb453, 4, none⟩ = some (.int .u64 a1_4)) (ds := []) #[false, false, false, false, false, false, false, false, false] (by kernel_rfl) rfl rfl ⟨(blk_cell BK452.out 0).trans rfl, (blk_cell BK452.out 1).trans rfl, (blk_cell BK452.out 2).trans rfl, (blk_cell BK452.out 3).trans rfl, (blk_cell BK452.out 4).trans rfl, (blk_cell BK453.out 0).trans rfl, (blk_cell BK453.out 1).trans rfl, (blk_cell BK453.out 2).trans rfl, (blk_cell BK453.out 3).trans rfl, (blk_cell BK453.out 4).trans rfl⟩ (fun hHeld => ?_); refine with_tabW carouselref1_Plus.tab2 carouselref1_Plus.bits2 (fun HT_ HW_ => ?_)
  generalize w7.drew = w13 at BK452 BK453 BK454 HB hHeld ⊢
  refine yp_ ?_ 0 10
  refine yp_ ?_ 2 12
  refine yp_ ?_ 4 14
  refine yt10_ ?_ 1 11
  refine yt10_ ?_ 3 13
  refine yt10_ ?_ 5 15
  refine yo_ 6 (some 16) (fun K hK => ?_)
  refine yg_ Try.func76 #[.agg #[.int .u64 a0_1, .int .u64 a0_2, .int .u64 a0_3, .int .u64 a0_4], .agg #[.int .u64 a1_1, .int .u64 a1_2, .int .u64 a1_3, .int .u64 a1_4]] ?_
  with_reducible refine (carouselref1_plus.calls a0_1 a0_2 a0_3 a0_4 a1_1 a1_2 a1_3 a1_4 t455 t456 t457 t458 _ A4.out).mono ?_
  rintro e w14 ⟨rfl, hb⟩
  refine ⟨_, rfl, ?_⟩
  replace BK452 := za_ BK452 hb
  replace BK453 := za_ BK453 hb
  replace BK454 := za_ BK454 hb
  replace HB := Aside0.mk (below_step (zw3_ HB GE452 GE453 GE454) hb)
  (try clear hb)
  (try clear hb2)
  (try clear hk)
  (try clear hi)
  refine hK.out _ _ ⟨zx_ BK452 0, zx_ BK452 1, zx_ BK452 2, zx_ BK452 3, zx_ BK452 4, zx_ BK453 0, zx_ BK453 1, zx_ BK453 2, zx_ BK453 3, zx_ BK453 4⟩ (fun hHeld => ?_)
  clear hK K
  refine zq_ (some 16) (h := ?_)
  refine yp_ ?_ 7 17
  refine yo_ 8 none (fun K hK => ?_)
  have hs15 := zx_ (v := .bool false) BK454 0
  have hfs15 := blk_frozen BK454.out 0
  have hns15_0 := NB452_454.out
  have hns15_1 := NB453_454.out
  have hms15_0 := NB454_452.out
  have hms15_1 := NB454_453.out
  have hs16 := zx_ (v := .int .u64 0) BK454 1
  have hfs16 := blk_frozen BK454.out 1
  have hns16_0 := NB452_454.out
  have hns16_1 := NB453_454.out
  have hms16_0 := NB454_452.out
  have hms16_1 := NB454_453.out
  have hs17 := zx_ (v := .int .u64 0) BK454 2
  have hfs17 := blk_frozen BK454.out 2
  have hns17_0 := NB452_454.out
  have hns17_1 := NB453_454.out
  have hms17_0 := NB454_452.out
  have hms17_1 := NB454_453.out
  have hs18 := zx_ (v := .int .u64 0) BK454 3
  have hfs18 := blk_frozen BK454.out 3
  have hns18_0 := NB452_454.out
  have hns18_1 := NB453_454.out
  have hms18_0 := NB454_452.out
  have hms18_1 := NB454_453.out
  have hs19 := zx_ (v := .int .u64 0) BK454 4
  have hfs19 := blk_frozen BK454.out 4
  have hns19_0 := NB452_454.out
  have hns19_1 := NB453_454.out
  have hms19_0 := NB454_452.out
  have hms19_1 := NB454_453.out
  refine skip_ (w1 := ?_) (by rfl) rfl ?_ ?_
  rotate_left
  ·go_simp
   rfl
  refine hK.out _ _ ⟨((cell_far (p := ⟨gb454, _, none⟩) NB452_454.out _).trans (((cell_far (p := ⟨gb454, _, none⟩) NB452_454.out _).trans (((cell_far (p := ⟨gb454, _, none⟩) NB452_454.out _).trans (((cell_far (p := ⟨gb454, _, none⟩) NB452_454.out _).trans (((cell_far (p := ⟨gb454, _, none⟩) NB452_454.out _).trans (hHeld.1)))))))))), ((cell_far (p := ⟨gb454, _, none⟩) NB452_454.out _).trans (((cell_far (p := ⟨gb454, _, none⟩) NB452_454.out _).trans (((cell_far (p := ⟨gb454, _, none⟩) NB452_454.out _).trans (((cell_far (p := ⟨gb454, _, none⟩) NB452_454.out _).trans (((cell_far (p := ⟨gb454, _, none⟩) NB452_454.out _).trans (hHeld.2.1)))))))))), ((cell_far (p := ⟨gb454, _, none⟩) NB452_454.out _).trans (((cell_far (p := ⟨gb454, _, none⟩) NB452_454.out _).trans (((cell_far (p := ⟨gb454, _, none⟩) NB452_454.out _).trans (((cell_far (p := ⟨gb454, _, none⟩) NB452_454.out _).trans (((cell_far (p := ⟨gb454, _, none⟩) NB452_454.out _).trans (hHeld.2.2.1)))))))))), ((cell_far (p := ⟨gb454, _, none⟩) NB452_454.out _).trans (((cell_far (p := ⟨gb454, _, none⟩) NB452_454.out _).trans (((cell_far (p := ⟨gb454, _, none⟩) NB452_454.out _).trans (((cell_far (p := ⟨gb454, _, none⟩) NB452_454.out _).trans (((cell_far (p := ⟨gb454, _, none⟩) NB452_454.out _).trans (hHeld.2.2.2.1)))))))))), ((cell_far (p := ⟨gb454, _, none⟩) NB452_454.out _).trans (((cell_far (p := ⟨gb454, _, none⟩) NB452_454.out _).trans (((cell_far (p := ⟨gb454, _, none⟩) NB452_454.out _).trans (((cell_far (p := ⟨gb454, _, none⟩) NB452_454.out _).trans (((cell_far (p := ⟨gb454, _, none⟩) NB452_454.out _).trans (hHeld.2.2.2.2.1)))))))))), ((cell_far (p := ⟨gb454, _, none⟩) NB453_454.out _).trans (((cell_far (p := ⟨gb454, _, none⟩) NB453_454.out _).trans (((cell_far (p := ⟨gb454, _, none⟩) NB453_454.out _).trans (((cell_far (p := ⟨gb454, _, none⟩) NB453_454.out _).trans (((cell_far (p := ⟨gb454, _, none⟩) NB453_454.out _).trans (hHeld.2.2.2.2.2.1)))))))))), ((cell_far (p := ⟨gb454, _, none⟩) NB453_454.out _).trans (((cell_far (p := ⟨gb454, _, none⟩) NB453_454.out _).trans (((cell_far (p := ⟨gb454, _, none⟩) NB453_454.out _).trans (((cell_far (p := ⟨gb454, _, none⟩) NB453_454.out _).trans (((cell_far (p := ⟨gb454, _, none⟩) NB453_454.out _).trans (hHeld.2.2.2.2.2.2.1)))))))))), ((cell_far (p := ⟨gb454, _, none⟩) NB453_454.out _).trans (((cell_far (p := ⟨gb454, _, none⟩) NB453_454.out _).trans (((cell_far (p := ⟨gb454, _, none⟩) NB453_454.out _).trans (((cell_far (p := ⟨gb454, _, none⟩) NB453_454.out _).trans (((cell_far (p := ⟨gb454, _, none⟩) NB453_454.out _).trans (hHeld.2.2.2.2.2.2.2.1)))))))))), ((cell_far (p := ⟨gb454, _, none⟩) NB453_454.out _).trans (((cell_far (p := ⟨gb454, _, none⟩) NB453_454.out _).trans (((cell_far (p := ⟨gb454, _, none⟩) NB453_454.out _).trans (((cell_far (p := ⟨gb454, _, none⟩) NB453_454.out _).trans (((cell_far (p := ⟨gb454, _, none⟩) NB453_454.out _).trans (hHeld.2.2.2.2.2.2.2.2.1)))))))))), ((cell_far (p := ⟨gb454, _, none⟩) NB453_454.out _).trans (((cell_far (p := ⟨gb454, _, none⟩) NB453_454.out _).trans (((cell_far (p := ⟨gb454, _, none⟩) NB453_454.out _).trans (((cell_far (p := ⟨gb454, _, none⟩) NB453_454.out _).trans (((cell_far (p := ⟨gb454, _, none⟩) NB453_454.out _).trans (hHeld.2.2.2.2.2.2.2.2.2))))))))))⟩ (fun hHeld => ?_)
  clear hK K
  refine done_ (done_of HT_.out (by kernel_rfl)) ?_
  try go_wp2
  refine bodyPost_ret (results_cell_row rfl _ _ gb454 74 #[.bool a0_0, .int .u64 t455, .int .u64 t456, .int .u64 t457, .int .u64 t458] (0, 0) _ rfl (zo5_ BK454) Try.underlying74 rfl (by kernel_rfl)) rfl ?_
  exact ⟨z0_, zw3_ HB GE452 GE453 GE454⟩
 rw [if_neg c3] at H
 have c3b0 : (a0_0 == a1_0) = false := by simpa using c3
 (try (have c3b1 : decide (a0_0 = a1_0) = false := by simpa using c3))
 (try (have c3b2 : (a0_0 == a1_0) = false := by simpa using c3))
 (try (have c3b3 : ¬ (a0_0 = a1_0) := by simpa using c3))
 clear c3
 replace H := Option.bind_eq_some_iff.mp H
 obtain ⟨t459, A200, H⟩ := H
 (try dsimp only at H)
 have A20 := Aside0.mk A200
 clear A200
 by_cases c21 : t459 = true
 ·subst c21
  have H1 := H
  rw [if_pos rfl] at H1
  clear H
  have H := H1
  clear H1
  replace H := Option.bind_eq_some_iff.mp H
  obtain ⟨⟨t460, t461, t462, t463⟩, A220, H⟩ := H
  replace H : (some (a1_0, t460, t461, t462, t463)) = some (r1, r2, r3, r4, r5) := H
  have A22 := Aside0.mk A220
  clear A220
  simp only [Option.some.injEq, Prod.mk.injEq] at H
  obtain ⟨rfl, rfl, rfl, rfl, rfl⟩ := H
  go_enter Try.func67, Try.ntmps67
  try go_wp2_with (first | ((with_reducible refine gate_dst (N := 2) rfl ?_); refine box_event ?hg (N := 2) ?hd (cs := #[.bool a0_0, .int .u64 a0_1, .int .u64 a0_2, .int .u64 a0_3, .int .u64 a0_4]) (t := 74) ?hr ?_; (case hd => rfl); (case hg => rfl); (case hr => first | (go_simp; done) | (go_simp; rfl)); intro gb452 hg w23 hbox hb; have BK452 := Aside0.mk (hbox); have GW452 := Aside0.mk (zs_ hg (zw0_ HB)); have GE452 := Aside0.mk (zs_ hg (zw0_ HB)); replace HB := Aside0.mk (below_step (zw0_ HB) hb); clear hb hbox hg) | ((with_reducible refine gate_dst (N := 3) rfl ?_); refine box_event ?hg (N := 3) ?hd (cs := #[.bool a1_0, .int .u64 a1_1, .int .u64 a1_2, .int .u64 a1_3, .int .u64 a1_4]) (t := 74) ?hr ?_; (case hd => rfl); (case hg => rfl); (case hr => first | (go_simp; done) | (go_simp; rfl)); intro gb453 hg w24 hbox hb; have BK453 := Aside0.mk (hbox); have GW453 := Aside0.mk (zs_ hg (zw1_ HB GE452)); have GE453 := Aside0.mk (zs_ hg (zw1_ HB GE452)); replace HB := Aside0.mk (below_step (zw1_ HB GE452) hb); have NB452_453 := Aside0.mk (zn_ hg BK452); have NB453_452 := Aside0.mk (zm_ hg BK452); replace BK452 := za_ BK452 hb; clear hb hbox hg) | ((with_reducible refine gate_dst (N := 4) rfl ?_); refine box_event ?hg (N := 4) ?hd (cs := #[.bool false, .int .u64 0, .int .u64 0, .int .u64 0, .int .u64 0]) (t := 74) ?hr ?_; (case hd => rfl); (case hg => rfl); (case hr => first | (go_simp; done) | (go_simp; rfl)); intro gb454 hg w25 hbox hb; have BK454 := Aside0.mk (hbox); have GW454 := Aside0.mk (zs_ hg (zw2_ HB GE452 GE453)); have GE454 := Aside0.mk (zs_ hg (zw2_ HB GE452 GE453)); replace HB := Aside0.mk (below_step (zw2_ HB GE452 GE453) hb); have NB452_454 := Aside0.mk (zn_ hg BK452); have NB454_452 := Aside0.mk (zm_ hg BK452); replace BK452 := za_ BK452 hb; have NB453_454 := Aside0.mk (zn_ hg BK453); have NB454_453 := Aside0.mk (zm_ hg BK453); replace BK453 := za_ BK453 hb; clear hb hbox hg; have hnb26 := NB452_453.out; have hnc26 := NB453_452.out; have hnb27 := NB452_454.out; have hnc27 := NB454_452.out; have hcz28_0 := zx_ (v := .bool a0_0) BK452 0; have hcz28_1 := zx_ (v := .int .u64 a0_1) BK452 1; have hcz28_2 := zx_ (v := .int .u64 a0_2) BK452 2; have hcz28_3 := zx_ (v := .int .u64 a0_3) BK452 3; have hcz28_4 := zx_ (v := .int .u64 a0_4) BK452 4; have hfz28_0 := blk_frozen BK452.out 0; have hfz28_1 := blk_frozen BK452.out 1; have hfz28_2 := blk_frozen BK452.out 2; have hfz28_3 := blk_frozen BK452.out 3; have hfz28_4 := blk_frozen BK452.out 4; have hnb29 := NB453_454.out; have hnc29 := NB454_453.out; have hcz30_0 := zx_ (v := .bool a1_0) BK453 0; have hcz30_1 := zx_ (v := .int .u64 a1_1) BK453 1; have hcz30_2 := zx_ (v := .int .u64 a1_2) BK453 2; have hcz30_3 := zx_ (v := .int .u64 a1_3) BK453 3; have hcz30_4 := zx_ (v := .int .u64 a1_4) BK453 4; have hfz30_0 := blk_frozen BK453.out 0; have hfz30_1 := blk_frozen BK453.out 1; have hfz30_2 := blk_frozen BK453.out 2; have hfz30_3 := blk_frozen BK453.out 3; have hfz30_4 := blk_frozen BK453.out 4) | ((with_reducible refine gate_callee (f := 77) rfl ?_); refine zg_ (some 22) Try.func77 #[.agg #[.int .u64 a0_1, .int .u64 a0_2, .int .u64 a0_3, .int .u64 a0_4], .agg #[.int .u64 a1_1, .int .u64 a1_2, .int .u64 a1_3, .int .u64 a1_4]] (h := ?_); (with_reducible refine (carouselref1_less.calls a0_1 a0_2 a0_3 a0_4 a1_1 a1_2 a1_3 a1_4 true _ A20.out).mono ?_); rintro e w31 ⟨rfl, hb⟩; refine ⟨_, rfl, ?_⟩; replace BK452 := za_ BK452 hb; replace BK453 := za_ BK453 hb; replace BK454 := za_ BK454 hb; replace HB := Aside0.mk (below_step (zw3_ HB GE452 GE453 GE454) hb); (try clear hb)))
  replace BK452 := Aside0.mk (blk_drew BK452.out)
  replace BK453 := Aside0.mk (blk_drew BK453.out)
  replace BK454 := Aside0.mk (blk_drew BK454.out)
  replace HB := Aside0.mk (below_drew1 HB.out)
  refine start_ (n := 9) (S := fun w' => w'.cell? ⟨gb453, 0, none⟩ = some (.bool a1_0) ∧ w'.cell? ⟨gb453, 1, none⟩ = some (.int .u64 a1_1) ∧ w'.cell? ⟨gb453, 2, none⟩ = some (.int .u64 a1_2) ∧ w'.cell? ⟨gb453, 3, none⟩ = some (.int .u64 a1_3) ∧ w'.cell? ⟨gb453, 4, none⟩ = some (.int .u64 a1_4) ∧ w'.cell? ⟨gb452, 0, none⟩ = some (.bool a0_0) ∧ w'.cell? ⟨gb452, 1, none⟩ = some (.int .u64 a0_1) ∧ w'.cell? ⟨gb452, 2, none⟩ = some (.int .u64 a0_2) ∧ w'.cell? ⟨gb452, 3, none⟩ = some (.int .u64 a0_3) ∧ w'.cell? ⟨gb452, 4, none⟩ = some (.int .u64 a0_4)) (ds := []) #[false, false, false, false, false, false, false, false, false] (by kernel_rfl) rfl rfl ⟨(blk_cell BK453.out 0).trans rfl, (blk_cell BK453.out 1).trans rfl, (blk_cell BK453.out 2).trans rfl, (blk_cell BK453.out 3).trans rfl, (blk_cell BK453.out 4).trans rfl, (blk_cell BK452.out 0).trans rfl, (blk_cell BK452.out 1).trans rfl, (blk_cell BK452.out 2).trans rfl, (blk_cell BK452.out 3).trans rfl, (blk_cell BK452.out 4).trans rfl⟩ (fun hHeld => ?_); refine with_tabW carouselref1_Plus.tab4 carouselref1_Plus.bits4 (fun HT_ HW_ => ?_)
  generalize w31.drew = w32 at BK452 BK453 BK454 HB hHeld ⊢
  refine yp_ ?_ 0 23
  refine yp_ ?_ 2 25
  refine yp_ ?_ 4 27
  refine yt10_ ?_ 1 24
  refine yt10_ ?_ 3 26
  refine yt10_ ?_ 5 28
  refine yo_ 6 (some 29) (fun K hK => ?_)
  refine yg_ Try.func78 #[.agg #[.int .u64 a1_1, .int .u64 a1_2, .int .u64 a1_3, .int .u64 a1_4], .agg #[.int .u64 a0_1, .int .u64 a0_2, .int .u64 a0_3, .int .u64 a0_4]] ?_
  with_reducible refine (carouselref1_minus.calls a1_1 a1_2 a1_3 a1_4 a0_1 a0_2 a0_3 a0_4 t460 t461 t462 t463 _ A22.out).mono ?_
  rintro e w33 ⟨rfl, hb⟩
  refine ⟨_, rfl, ?_⟩
  replace BK452 := za_ BK452 hb
  replace BK453 := za_ BK453 hb
  replace BK454 := za_ BK454 hb
  replace HB := Aside0.mk (below_step (zw3_ HB GE452 GE453 GE454) hb)
  (try clear hb)
  (try clear hb2)
  (try clear hk)
  (try clear hi)
  refine hK.out _ _ ⟨zx_ BK453 0, zx_ BK453 1, zx_ BK453 2, zx_ BK453 3, zx_ BK453 4, zx_ BK452 0, zx_ BK452 1, zx_ BK452 2, zx_ BK452 3, zx_ BK452 4⟩ (fun hHeld => ?_)
  clear hK K
  refine zq_ (some 29) (h := ?_)
  refine yp_ ?_ 7 30
  refine yo_ 8 none (fun K hK => ?_)
  have hs34 := zx_ (v := .bool false) BK454 0
  have hfs34 := blk_frozen BK454.out 0
  have hns34_0 := NB452_454.out
  have hns34_1 := NB453_454.out
  have hms34_0 := NB454_452.out
  have hms34_1 := NB454_453.out
  have hs35 := zx_ (v := .int .u64 0) BK454 1
  have hfs35 := blk_frozen BK454.out 1
  have hns35_0 := NB452_454.out
  have hns35_1 := NB453_454.out
  have hms35_0 := NB454_452.out
  have hms35_1 := NB454_453.out
  have hs36 := zx_ (v := .int .u64 0) BK454 2
  have hfs36 := blk_frozen BK454.out 2
  have hns36_0 := NB452_454.out
  have hns36_1 := NB453_454.out
  have hms36_0 := NB454_452.out
  have hms36_1 := NB454_453.out
  have hs37 := zx_ (v := .int .u64 0) BK454 3
  have hfs37 := blk_frozen BK454.out 3
  have hns37_0 := NB452_454.out
  have hns37_1 := NB453_454.out
  have hms37_0 := NB454_452.out
  have hms37_1 := NB454_453.out
  have hs38 := zx_ (v := .int .u64 0) BK454 4
  have hfs38 := blk_frozen BK454.out 4
  have hns38_0 := NB452_454.out
  have hns38_1 := NB453_454.out
  have hms38_0 := NB454_452.out
  have hms38_1 := NB454_453.out
  refine skip_ (w1 := ?_) (by rfl) rfl ?_ ?_
  rotate_left
  ·go_simp
   rfl
  refine hK.out _ _ ⟨((cell_far (p := ⟨gb454, _, none⟩) NB453_454.out _).trans (((cell_far (p := ⟨gb454, _, none⟩) NB453_454.out _).trans (((cell_far (p := ⟨gb454, _, none⟩) NB453_454.out _).trans (((cell_far (p := ⟨gb454, _, none⟩) NB453_454.out _).trans (((cell_far (p := ⟨gb454, _, none⟩) NB453_454.out _).trans (hHeld.1)))))))))), ((cell_far (p := ⟨gb454, _, none⟩) NB453_454.out _).trans (((cell_far (p := ⟨gb454, _, none⟩) NB453_454.out _).trans (((cell_far (p := ⟨gb454, _, none⟩) NB453_454.out _).trans (((cell_far (p := ⟨gb454, _, none⟩) NB453_454.out _).trans (((cell_far (p := ⟨gb454, _, none⟩) NB453_454.out _).trans (hHeld.2.1)))))))))), ((cell_far (p := ⟨gb454, _, none⟩) NB453_454.out _).trans (((cell_far (p := ⟨gb454, _, none⟩) NB453_454.out _).trans (((cell_far (p := ⟨gb454, _, none⟩) NB453_454.out _).trans (((cell_far (p := ⟨gb454, _, none⟩) NB453_454.out _).trans (((cell_far (p := ⟨gb454, _, none⟩) NB453_454.out _).trans (hHeld.2.2.1)))))))))), ((cell_far (p := ⟨gb454, _, none⟩) NB453_454.out _).trans (((cell_far (p := ⟨gb454, _, none⟩) NB453_454.out _).trans (((cell_far (p := ⟨gb454, _, none⟩) NB453_454.out _).trans (((cell_far (p := ⟨gb454, _, none⟩) NB453_454.out _).trans (((cell_far (p := ⟨gb454, _, none⟩) NB453_454.out _).trans (hHeld.2.2.2.1)))))))))), ((cell_far (p := ⟨gb454, _, none⟩) NB453_454.out _).trans (((cell_far (p := ⟨gb454, _, none⟩) NB453_454.out _).trans (((cell_far (p := ⟨gb454, _, none⟩) NB453_454.out _).trans (((cell_far (p := ⟨gb454, _, none⟩) NB453_454.out _).trans (((cell_far (p := ⟨gb454, _, none⟩) NB453_454.out _).trans (hHeld.2.2.2.2.1)))))))))), ((cell_far (p := ⟨gb454, _, none⟩) NB452_454.out _).trans (((cell_far (p := ⟨gb454, _, none⟩) NB452_454.out _).trans (((cell_far (p := ⟨gb454, _, none⟩) NB452_454.out _).trans (((cell_far (p := ⟨gb454, _, none⟩) NB452_454.out _).trans (((cell_far (p := ⟨gb454, _, none⟩) NB452_454.out _).trans (hHeld.2.2.2.2.2.1)))))))))), ((cell_far (p := ⟨gb454, _, none⟩) NB452_454.out _).trans (((cell_far (p := ⟨gb454, _, none⟩) NB452_454.out _).trans (((cell_far (p := ⟨gb454, _, none⟩) NB452_454.out _).trans (((cell_far (p := ⟨gb454, _, none⟩) NB452_454.out _).trans (((cell_far (p := ⟨gb454, _, none⟩) NB452_454.out _).trans (hHeld.2.2.2.2.2.2.1)))))))))), ((cell_far (p := ⟨gb454, _, none⟩) NB452_454.out _).trans (((cell_far (p := ⟨gb454, _, none⟩) NB452_454.out _).trans (((cell_far (p := ⟨gb454, _, none⟩) NB452_454.out _).trans (((cell_far (p := ⟨gb454, _, none⟩) NB452_454.out _).trans (((cell_far (p := ⟨gb454, _, none⟩) NB452_454.out _).trans (hHeld.2.2.2.2.2.2.2.1)))))))))), ((cell_far (p := ⟨gb454, _, none⟩) NB452_454.out _).trans (((cell_far (p := ⟨gb454, _, none⟩) NB452_454.out _).trans (((cell_far (p := ⟨gb454, _, none⟩) NB452_454.out _).trans (((cell_far (p := ⟨gb454, _, none⟩) NB452_454.out _).trans (((cell_far (p := ⟨gb454, _, none⟩) NB452_454.out _).trans (hHeld.2.2.2.2.2.2.2.2.1)))))))))), ((cell_far (p := ⟨gb454, _, none⟩) NB452_454.out _).trans (((cell_far (p := ⟨gb454, _, none⟩) NB452_454.out _).trans (((cell_far (p := ⟨gb454, _, none⟩) NB452_454.out _).trans (((cell_far (p := ⟨gb454, _, none⟩) NB452_454.out _).trans (((cell_far (p := ⟨gb454, _, none⟩) NB452_454.out _).trans (hHeld.2.2.2.2.2.2.2.2.2))))))))))⟩ (fun hHeld => ?_)
  clear hK K
  refine done_ (done_of HT_.out (by kernel_rfl)) ?_
  try go_wp2
  refine bodyPost_ret (results_cell_row rfl _ _ gb454 74 #[.bool a1_0, .int .u64 t460, .int .u64 t461, .int .u64 t462, .int .u64 t463] (0, 0) _ rfl (zo5_ BK454) Try.underlying74 rfl (by kernel_rfl)) rfl ?_
  exact ⟨z0_, zw3_ HB GE452 GE453 GE454⟩
 replace c21 := Bool.eq_false_iff.mpr c21
 subst c21
 have H1 := H
 rw [if_neg (show ¬ (false = true) by decide)] at H1
 clear H
 have H := H1
 clear H1
 replace H := Option.bind_eq_some_iff.mp H
 obtain ⟨⟨t464, t465, t466, t467⟩, A390, H⟩ := H
 replace H : (some (a0_0, t464, t465, t466, t467)) = some (r1, r2, r3, r4, r5) := H
 have A39 := Aside0.mk A390
 clear A390
 simp only [Option.some.injEq, Prod.mk.injEq] at H
 obtain ⟨rfl, rfl, rfl, rfl, rfl⟩ := H
 go_enter Try.func67, Try.ntmps67
 try go_wp2_with (first | ((with_reducible refine gate_dst (N := 2) rfl ?_); refine box_event ?hg (N := 2) ?hd (cs := #[.bool a0_0, .int .u64 a0_1, .int .u64 a0_2, .int .u64 a0_3, .int .u64 a0_4]) (t := 74) ?hr ?_; (case hd => rfl); (case hg => rfl); (case hr => first | (go_simp; done) | (go_simp; rfl)); intro gb452 hg w40 hbox hb; have BK452 := Aside0.mk (hbox); have GW452 := Aside0.mk (zs_ hg (zw0_ HB)); have GE452 := Aside0.mk (zs_ hg (zw0_ HB)); replace HB := Aside0.mk (below_step (zw0_ HB) hb); clear hb hbox hg) | ((with_reducible refine gate_dst (N := 3) rfl ?_); refine box_event ?hg (N := 3) ?hd (cs := #[.bool a1_0, .int .u64 a1_1, .int .u64 a1_2, .int .u64 a1_3, .int .u64 a1_4]) (t := 74) ?hr ?_; (case hd => rfl); (case hg => rfl); (case hr => first | (go_simp; done) | (go_simp; rfl)); intro gb453 hg w41 hbox hb; have BK453 := Aside0.mk (hbox); have GW453 := Aside0.mk (zs_ hg (zw1_ HB GE452)); have GE453 := Aside0.mk (zs_ hg (zw1_ HB GE452)); replace HB := Aside0.mk (below_step (zw1_ HB GE452) hb); have NB452_453 := Aside0.mk (zn_ hg BK452); have NB453_452 := Aside0.mk (zm_ hg BK452); replace BK452 := za_ BK452 hb; clear hb hbox hg) | ((with_reducible refine gate_dst (N := 4) rfl ?_); refine box_event ?hg (N := 4) ?hd (cs := #[.bool false, .int .u64 0, .int .u64 0, .int .u64 0, .int .u64 0]) (t := 74) ?hr ?_; (case hd => rfl); (case hg => rfl); (case hr => first | (go_simp; done) | (go_simp; rfl)); intro gb454 hg w42 hbox hb; have BK454 := Aside0.mk (hbox); have GW454 := Aside0.mk (zs_ hg (zw2_ HB GE452 GE453)); have GE454 := Aside0.mk (zs_ hg (zw2_ HB GE452 GE453)); replace HB := Aside0.mk (below_step (zw2_ HB GE452 GE453) hb); have NB452_454 := Aside0.mk (zn_ hg BK452); have NB454_452 := Aside0.mk (zm_ hg BK452); replace BK452 := za_ BK452 hb; have NB453_454 := Aside0.mk (zn_ hg BK453); have NB454_453 := Aside0.mk (zm_ hg BK453); replace BK453 := za_ BK453 hb; clear hb hbox hg; have hnb43 := NB452_453.out; have hnc43 := NB453_452.out; have hnb44 := NB452_454.out; have hnc44 := NB454_452.out; have hcz45_0 := zx_ (v := .bool a0_0) BK452 0; have hcz45_1 := zx_ (v := .int .u64 a0_1) BK452 1; have hcz45_2 := zx_ (v := .int .u64 a0_2) BK452 2; have hcz45_3 := zx_ (v := .int .u64 a0_3) BK452 3; have hcz45_4 := zx_ (v := .int .u64 a0_4) BK452 4; have hfz45_0 := blk_frozen BK452.out 0; have hfz45_1 := blk_frozen BK452.out 1; have hfz45_2 := blk_frozen BK452.out 2; have hfz45_3 := blk_frozen BK452.out 3; have hfz45_4 := blk_frozen BK452.out 4; have hnb46 := NB453_454.out; have hnc46 := NB454_453.out; have hcz47_0 := zx_ (v := .bool a1_0) BK453 0; have hcz47_1 := zx_ (v := .int .u64 a1_1) BK453 1; have hcz47_2 := zx_ (v := .int .u64 a1_2) BK453 2; have hcz47_3 := zx_ (v := .int .u64 a1_3) BK453 3; have hcz47_4 := zx_ (v := .int .u64 a1_4) BK453 4; have hfz47_0 := blk_frozen BK453.out 0; have hfz47_1 := blk_frozen BK453.out 1; have hfz47_2 := blk_frozen BK453.out 2; have hfz47_3 := blk_frozen BK453.out 3; have hfz47_4 := blk_frozen BK453.out 4) | ((with_reducible refine gate_callee (f := 77) rfl ?_); refine zg_ (some 22) Try.func77 #[.agg #[.int .u64 a0_1, .int .u64 a0_2, .int .u64 a0_3, .int .u64 a0_4], .agg #[.int .u64 a1_1, .int .u64 a1_2, .int .u64 a1_3, .int .u64 a1_4]] (h := ?_); (with_reducible refine (carouselref1_less.calls a0_1 a0_2 a0_3 a0_4 a1_1 a1_2 a1_3 a1_4 false _ A20.out).mono ?_); rintro e w48 ⟨rfl, hb⟩; refine ⟨_, rfl, ?_⟩; replace BK452 := za_ BK452 hb; replace BK453 := za_ BK453 hb; replace BK454 := za_ BK454 hb; replace HB := Aside0.mk (below_step (zw3_ HB GE452 GE453 GE454) hb); (try clear hb)))
 replace BK452 := Aside0.mk (blk_drew BK452.out)
 replace BK453 := Aside0.mk (blk_drew BK453.out)
 replace BK454 := Aside0.mk (blk_drew BK454.out)
 replace HB := Aside0.mk (below_drew1 HB.out)
 refine start_ (n := 9) (S := fun w' => w'.cell? ⟨gb452, 0, none⟩ = some (.bool a0_0) ∧ w'.cell? ⟨gb452, 1, none⟩ = some (.int .u64 a0_1) ∧ w'.cell? ⟨gb452, 2, none⟩ = some (.int .u64 a0_2) ∧ w'.cell? ⟨gb452, 3, none⟩ = some (.int .u64 a0_3) ∧ w'.cell? ⟨gb452, 4, none⟩ = some (.int .u64 a0_4) ∧ w'.cell? ⟨gb453, 0, none⟩ = some (.bool a1_0) ∧ w'.cell? ⟨gb453, 1, none⟩ = some (.int .u64 a1_1) ∧ w'.cell? ⟨gb453, 2, none⟩ = some (.int .u64 a1_2) ∧ w'.cell? ⟨gb453, 3, none⟩ = some (.int .u64 a1_3) ∧ w'.cell? ⟨gb453, 4, none⟩ = some (.int .u64 a1_4)) (ds := []) #[false, false, false, false, false, false, false, false, false] (by kernel_rfl) rfl rfl ⟨(blk_cell BK452.out 0).trans rfl, (blk_cell BK452.out 1).trans rfl, (blk_cell BK452.out 2).trans rfl, (blk_cell BK452.out 3).trans rfl, (blk_cell BK452.out 4).trans rfl, (blk_cell BK453.out 0).trans rfl, (blk_cell BK453.out 1).trans rfl, (blk_cell BK453.out 2).trans rfl, (blk_cell BK453.out 3).trans rfl, (blk_cell BK453.out 4).trans rfl⟩ (fun hHeld => ?_); refine with_tabW carouselref1_Plus.tab5 carouselref1_Plus.bits5 (fun HT_ HW_ => ?_)
 generalize w48.drew = w49 at BK452 BK453 BK454 HB hHeld ⊢
 refine yp_ ?_ 0 31
 refine yp_ ?_ 2 33
 refine yp_ ?_ 4 35
 refine yt10_ ?_ 1 32
 refine yt10_ ?_ 3 34
 refine yt10_ ?_ 5 36
 refine yo_ 6 (some 37) (fun K hK => ?_)
 refine yg_ Try.func78 #[.agg #[.int .u64 a0_1, .int .u64 a0_2, .int .u64 a0_3, .int .u64 a0_4], .agg #[.int .u64 a1_1, .int .u64 a1_2, .int .u64 a1_3, .int .u64 a1_4]] ?_
 with_reducible refine (carouselref1_minus.calls a0_1 a0_2 a0_3 a0_4 a1_1 a1_2 a1_3 a1_4 t464 t465 t466 t467 _ A39.out).mono ?_
 rintro e w50 ⟨rfl, hb⟩
 refine ⟨_, rfl, ?_⟩
 replace BK452 := za_ BK452 hb
 replace BK453 := za_ BK453 hb
 replace BK454 := za_ BK454 hb
 replace HB := Aside0.mk (below_step (zw3_ HB GE452 GE453 GE454) hb)
 (try clear hb)
 (try clear hb2)
 (try clear hk)
 (try clear hi)
 refine hK.out _ _ ⟨zx_ BK452 0, zx_ BK452 1, zx_ BK452 2, zx_ BK452 3, zx_ BK452 4, zx_ BK453 0, zx_ BK453 1, zx_ BK453 2, zx_ BK453 3, zx_ BK453 4⟩ (fun hHeld => ?_)
 clear hK K
 refine zq_ (some 37) (h := ?_)
 refine yp_ ?_ 7 38
 refine yo_ 8 none (fun K hK => ?_)
 have hs51 := zx_ (v := .bool false) BK454 0
 have hfs51 := blk_frozen BK454.out 0
 have hns51_0 := NB452_454.out
 have hns51_1 := NB453_454.out
 have hms51_0 := NB454_452.out
 have hms51_1 := NB454_453.out
 have hs52 := zx_ (v := .int .u64 0) BK454 1
 have hfs52 := blk_frozen BK454.out 1
 have hns52_0 := NB452_454.out
 have hns52_1 := NB453_454.out
 have hms52_0 := NB454_452.out
 have hms52_1 := NB454_453.out
 have hs53 := zx_ (v := .int .u64 0) BK454 2
 have hfs53 := blk_frozen BK454.out 2
 have hns53_0 := NB452_454.out
 have hns53_1 := NB453_454.out
 have hms53_0 := NB454_452.out
 have hms53_1 := NB454_453.out
 have hs54 := zx_ (v := .int .u64 0) BK454 3
 have hfs54 := blk_frozen BK454.out 3
 have hns54_0 := NB452_454.out
 have hns54_1 := NB453_454.out
 have hms54_0 := NB454_452.out
 have hms54_1 := NB454_453.out
 have hs55 := zx_ (v := .int .u64 0) BK454 4
 have hfs55 := blk_frozen BK454.out 4
 have hns55_0 := NB452_454.out
 have hns55_1 := NB453_454.out
 have hms55_0 := NB454_452.out
 have hms55_1 := NB454_453.out
 refine skip_ (w1 := ?_) (by rfl) rfl ?_ ?_
 rotate_left
 ·go_simp
  rfl
 refine hK.out _ _ ⟨((cell_far (p := ⟨gb454, _, none⟩) NB452_454.out _).trans (((cell_far (p := ⟨gb454, _, none⟩) NB452_454.out _).trans (((cell_far (p := ⟨gb454, _, none⟩) NB452_454.out _).trans (((cell_far (p := ⟨gb454, _, none⟩) NB452_454.out _).trans (((cell_far (p := ⟨gb454, _, none⟩) NB452_454.out _).trans (hHeld.1)))))))))), ((cell_far (p := ⟨gb454, _, none⟩) NB452_454.out _).trans (((cell_far (p := ⟨gb454, _, none⟩) NB452_454.out _).trans (((cell_far (p := ⟨gb454, _, none⟩) NB452_454.out _).trans (((cell_far (p := ⟨gb454, _, none⟩) NB452_454.out _).trans (((cell_far (p := ⟨gb454, _, none⟩) NB452_454.out _).trans (hHeld.2.1)))))))))), ((cell_far (p := ⟨gb454, _, none⟩) NB452_454.out _).trans (((cell_far (p := ⟨gb454, _, none⟩) NB452_454.out _).trans (((cell_far (p := ⟨gb454, _, none⟩) NB452_454.out _).trans (((cell_far (p := ⟨gb454, _, none⟩) NB452_454.out _).trans (((cell_far (p := ⟨gb454, _, none⟩) NB452_454.out _).trans (hHeld.2.2.1)))))))))), ((cell_far (p := ⟨gb454, _, none⟩) NB452_454.out _).trans (((cell_far (p := ⟨gb454, _, none⟩) NB452_454.out _).trans (((cell_far (p := ⟨gb454, _, none⟩) NB452_454.out _).trans (((cell_far (p := ⟨gb454, _, none⟩) NB452_454.out _).trans (((cell_far (p := ⟨gb454, _, none⟩) NB452_454.out _).trans (hHeld.2.2.2.1)))))))))), ((cell_far (p := ⟨gb454, _, none⟩) NB452_454.out _).trans (((cell_far (p := ⟨gb454, _, none⟩) NB452_454.out _).trans (((cell_far (p := ⟨gb454, _, none⟩) NB452_454.out _).trans (((cell_far (p := ⟨gb454, _, none⟩) NB452_454.out _).trans (((cell_far (p := ⟨gb454, _, none⟩) NB452_454.out _).trans (hHeld.2.2.2.2.1)))))))))), ((cell_far (p := ⟨gb454, _, none⟩) NB453_454.out _).trans (((cell_far (p := ⟨gb454, _, none⟩) NB453_454.out _).trans (((cell_far (p := ⟨gb454, _, none⟩) NB453_454.out _).trans (((cell_far (p := ⟨gb454, _, none⟩) NB453_454.out _).trans (((cell_far (p := ⟨gb454, _, none⟩) NB453_454.out _).trans (hHeld.2.2.2.2.2.1)))))))))), ((cell_far (p := ⟨gb454, _, none⟩) NB453_454.out _).trans (((cell_far (p := ⟨gb454, _, none⟩) NB453_454.out _).trans (((cell_far (p := ⟨gb454, _, none⟩) NB453_454.out _).trans (((cell_far (p := ⟨gb454, _, none⟩) NB453_454.out _).trans (((cell_far (p := ⟨gb454, _, none⟩) NB453_454.out _).trans (hHeld.2.2.2.2.2.2.1)))))))))), ((cell_far (p := ⟨gb454, _, none⟩) NB453_454.out _).trans (((cell_far (p := ⟨gb454, _, none⟩) NB453_454.out _).trans (((cell_far (p := ⟨gb454, _, none⟩) NB453_454.out _).trans (((cell_far (p := ⟨gb454, _, none⟩) NB453_454.out _).trans (((cell_far (p := ⟨gb454, _, none⟩) NB453_454.out _).trans (hHeld.2.2.2.2.2.2.2.1)))))))))), ((cell_far (p := ⟨gb454, _, none⟩) NB453_454.out _).trans (((cell_far (p := ⟨gb454, _, none⟩) NB453_454.out _).trans (((cell_far (p := ⟨gb454, _, none⟩) NB453_454.out _).trans (((cell_far (p := ⟨gb454, _, none⟩) NB453_454.out _).trans (((cell_far (p := ⟨gb454, _, none⟩) NB453_454.out _).trans (hHeld.2.2.2.2.2.2.2.2.1)))))))))), ((cell_far (p := ⟨gb454, _, none⟩) NB453_454.out _).trans (((cell_far (p := ⟨gb454, _, none⟩) NB453_454.out _).trans (((cell_far (p := ⟨gb454, _, none⟩) NB453_454.out _).trans (((cell_far (p := ⟨gb454, _, none⟩) NB453_454.out _).trans (((cell_far (p := ⟨gb454, _, none⟩) NB453_454.out _).trans (hHeld.2.2.2.2.2.2.2.2.2))))))))))⟩ (fun hHeld => ?_)
 clear hK K
 refine done_ (done_of HT_.out (by kernel_rfl)) ?_
 try go_wp2
 refine bodyPost_ret (results_cell_row rfl _ _ gb454 74 #[.bool a0_0, .int .u64 t464, .int .u64 t465, .int .u64 t466, .int .u64 t467] (0, 0) _ rfl (zo5_ BK454) Try.underlying74 rfl (by kernel_rfl)) rfl ?_
 exact ⟨z0_, zw3_ HB GE452 GE453 GE454⟩

/-! ### carouselref1_From: function 68 -/
def carouselref1_From.f (a0 : Int) : Option (Bool × Int × Int × Int × Int) := (carouselref1_size.f a0).bind fun t469 => (some (decide (a0 < 0), t469, 0, 0, 0))
set_option maxHeartbeats 8000000 in
set_option maxRecDepth 100000 in
theorem carouselref1_From.calls (a0 : Int) (r1 : Bool) (r2 : Int) (r3 : Int) (r4 : Int) (r5 : Int) (w : World) (h : carouselref1_From.f a0 = some (r1, r2, r3, r4, r5)) :
  Calls Try.prog 68 #[.int .i64 a0] w fun e w' => e = .returned (.agg #[.bool r1, .int .u64 r2, .int .u64 r3, .int .u64 r4, .int .u64 r5]) ∧ Below w.heap.size w w' := by
 have hu74 := Try.underlying74
 have hu72 := Try.underlying72
 have HB := Aside0.mk (Below.refl w.heap.size w)
 have H : ((carouselref1_size.f a0).bind fun t469 => (some (decide (a0 < 0), t469, 0, 0, 0))) = some (r1, r2, r3, r4, r5) := h
 clear h
 replace H := Option.bind_eq_some_iff.mp H
 obtain ⟨t469, A20, H⟩ := H
 replace H : (some (decide (a0 < 0), t469, 0, 0, 0)) = some (r1, r2, r3, r4, r5) := H
 have A2 := Aside0.mk A20
 clear A20
 simp only [Option.some.injEq, Prod.mk.injEq] at H
 obtain ⟨rfl, rfl, rfl, rfl, rfl⟩ := H
 go_enter Try.func68, Try.ntmps68
 go_wp2_with (first | ((with_reducible refine gate_dst (N := 2) rfl ?_); refine box_event ?hg (N := 2) ?hd (cs := #[.bool false, .int .u64 0, .int .u64 0, .int .u64 0, .int .u64 0]) (t := 74) ?hr ?_; (case hd => rfl); (case hg => rfl); (case hr => first | (go_simp; done) | (go_simp; rfl)); intro gb468 hg w3 hbox hb; have BK468 := Aside0.mk (hbox); have GW468 := Aside0.mk (zs_ hg (zw0_ HB)); have GE468 := Aside0.mk (zs_ hg (zw0_ HB)); replace HB := Aside0.mk (below_step (zw0_ HB) hb); clear hb hbox hg) | ((with_reducible refine gate_callee (f := 79) rfl ?_); refine zg_ (some 6) Try.func79 #[.int .i64 a0] (h := ?_); (with_reducible refine (carouselref1_size.calls a0 t469 _ A2.out).mono ?_); rintro e w' ⟨rfl, ⟨nd, rfl⟩⟩; refine ⟨_, rfl, ?_⟩; (try (rw [drewN_self w3]; generalize hq_ : World.drewN w3 _ = w3; have n0_ : Aside0 (w3.heap[gb468]? = some (.cells #[.bool false, .int .u64 0, .int .u64 0, .int .u64 0, .int .u64 0] 74 (0, 0))) := ⟨by rw [← hq_]; exact (zb_ BK468)⟩; have n1_ : Aside0 (Below w.heap.size w w3) := ⟨by rw [← hq_]; exact (zw1_ HB GE468)⟩; clear BK468 HB hq_; have BK468 := n0_; have HB := n1_; clear n0_ n1_)); have hcz4_0 := zx_ (v := .bool false) BK468 0; have hcz4_1 := zx_ (v := .int .u64 0) BK468 1; have hcz4_2 := zx_ (v := .int .u64 0) BK468 2; have hcz4_3 := zx_ (v := .int .u64 0) BK468 3; have hcz4_4 := zx_ (v := .int .u64 0) BK468 4; have hfz4_0 := blk_frozen BK468.out 0; have hfz4_1 := blk_frozen BK468.out 1; have hfz4_2 := blk_frozen BK468.out 2; have hfz4_3 := blk_frozen BK468.out 3; have hfz4_4 := blk_frozen BK468.out 4))
 refine bodyPost_ret (results_cell_row rfl _ _ gb468 74 #[.bool (decide (a0 < 0)), .int .u64 t469, .int .u64 0, .int .u64 0, .int .u64 0] (0, 0) _ rfl (zo5_ BK468) Try.underlying74 rfl (by kernel_rfl)) rfl ?_
 exact ⟨z0_, zw1_ HB GE468⟩

/-! ### carouselref1_Add: function 48 -/
def carouselref1_Add.f (k : Nat) (a0 : Int) (a1 : Int) : Option (Int) := (carouselref1_From.f a0).bind fun bt470 => ((carouselref1_From.f a1).bind fun bt475 => ((carouselref1_Plus.f bt470.1 bt470.2.1 bt470.2.2.1 bt470.2.2.2.1 bt470.2.2.2.2 bt475.1 bt475.2.1 bt475.2.2.1 bt475.2.2.2.1 bt475.2.2.2.2).bind fun bt480 => ((carouselref1_Held.f k bt480.1 bt480.2.1 bt480.2.2.1 bt480.2.2.2.1 bt480.2.2.2.2).bind fun t485 => (some t485))))
theorem carouselref1_Add.mono : ∀ a0 a1 k, LeO (carouselref1_Add.f k a0 a1) (carouselref1_Add.f (k + 1) a0 a1) := by
 intro a0 a1 k
 unfold carouselref1_Add.f
 repeat' first
   | (with_reducible exact carouselref1_Held.mono _ _ _ _ _ _)
   | (with_reducible exact LeO.refl _)
   | (with_reducible exact LeO.none _)
   | (with_reducible refine LeO.ite ?_ ?_)
   | (with_reducible refine LeO.bind ?_ (fun _ => ?_))
   | exact carouselref1_Held.mono _ _ _ _ _ _
   | exact LeO.none _
   | refine LeO.ite ?_ ?_
   | refine LeO.bind ?_ (fun _ => ?_)
set_option maxHeartbeats 8000000 in
set_option maxRecDepth 100000 in
theorem carouselref1_Add.calls (k : Nat) (a0 : Int) (a1 : Int) (r : Int) (w : World) (h : carouselref1_Add.f k a0 a1 = some r) :
  Calls Try.prog 48 #[.int .i64 a0, .int .i64 a1] w fun e w' => e = .returned (.int .i64 r) ∧ Below w.heap.size w w' := by
 have HB := Aside0.mk (Below.refl w.heap.size w)
 have H : ((carouselref1_From.f a0).bind fun bt470 => ((carouselref1_From.f a1).bind fun bt475 => ((carouselref1_Plus.f bt470.1 bt470.2.1 bt470.2.2.1 bt470.2.2.2.1 bt470.2.2.2.2 bt475.1 bt475.2.1 bt475.2.2.1 bt475.2.2.2.1 bt475.2.2.2.2).bind fun bt480 => ((carouselref1_Held.f k bt480.1 bt480.2.1 bt480.2.2.1 bt480.2.2.2.1 bt480.2.2.2.2).bind fun t485 => (some t485))))) = some r := h
 clear h
 replace H := Option.bind_eq_some_iff.mp H
 obtain ⟨⟨t470, t471, t472, t473, t474⟩, A30, H⟩ := H
 (try dsimp only at H)
 have A3 := Aside0.mk A30
 clear A30
 replace H := Option.bind_eq_some_iff.mp H
 obtain ⟨⟨t475, t476, t477, t478, t479⟩, A40, H⟩ := H
 (try dsimp only at H)
 have A4 := Aside0.mk A40
 clear A40
 replace H := Option.bind_eq_some_iff.mp H
 obtain ⟨⟨t480, t481, t482, t483, t484⟩, A50, H⟩ := H
 replace H : ((carouselref1_Held.f k t480 t481 t482 t483 t484).bind fun t485 => (some t485)) = some r := H
 have A5 := Aside0.mk A50
 clear A50
 replace H := Option.bind_eq_some_iff.mp H
 obtain ⟨t485, A60, H⟩ := H
 replace H : (some t485) = some r := H
 have A6 := Aside0.mk A60
 clear A60
 obtain rfl := Option.some.inj H
 go_enter Try.func48, Try.ntmps48
 go_wp2_with (first | ((with_reducible refine gate_callee (f := 68) rfl ?_); refine zg_ (some 6) Try.func68 #[.int .i64 a0] (h := ?_); (with_reducible refine (carouselref1_From.calls a0 t470 t471 t472 t473 t474 _ A3.out).mono ?_); rintro e w7 ⟨rfl, hb⟩; refine ⟨_, rfl, ?_⟩; replace HB := Aside0.mk (below_step (zw0_ HB) hb); (try clear hb)) | ((with_reducible refine gate_callee (f := 68) rfl ?_); refine zg_ (some 8) Try.func68 #[.int .i64 a1] (h := ?_); (with_reducible refine (carouselref1_From.calls a1 t475 t476 t477 t478 t479 _ A4.out).mono ?_); rintro e w8 ⟨rfl, hb⟩; refine ⟨_, rfl, ?_⟩; replace HB := Aside0.mk (below_step (zw0_ HB) hb); (try clear hb)) | ((with_reducible refine gate_callee (f := 67) rfl ?_); refine zg_ (some 9) Try.func67 #[.agg #[.bool t470, .int .u64 t471, .int .u64 t472, .int .u64 t473, .int .u64 t474], .agg #[.bool t475, .int .u64 t476, .int .u64 t477, .int .u64 t478, .int .u64 t479]] (h := ?_); (with_reducible refine (carouselref1_Plus.calls t470 t471 t472 t473 t474 t475 t476 t477 t478 t479 t480 t481 t482 t483 t484 _ A5.out).mono ?_); rintro e w9 ⟨rfl, hb⟩; refine ⟨_, rfl, ?_⟩; replace HB := Aside0.mk (below_step (zw0_ HB) hb); (try clear hb)) | ((with_reducible refine gate_callee (f := 66) rfl ?_); refine zg_ (some 10) Try.func66 #[.agg #[.bool t480, .int .u64 t481, .int .u64 t482, .int .u64 t483, .int .u64 t484]] (h := ?_); (with_reducible refine (carouselref1_Held.calls k t480 t481 t482 t483 t484 t485 _ A6.out).mono ?_); rintro e w10 ⟨rfl, hb⟩; refine ⟨_, rfl, ?_⟩; replace HB := Aside0.mk (below_step (zw0_ HB) hb); (try clear hb)))
 go_ret
 exact ⟨z0_, zw0_ HB⟩

end Go.Proofs.Ytbdhabpplidgfaa.PTensTurns
