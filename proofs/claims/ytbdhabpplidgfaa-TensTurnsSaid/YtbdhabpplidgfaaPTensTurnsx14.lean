/- The functions that the law TensTurns reaches, as Lean functions, and that each call of the Go function does what its Lean function says, wherever that one answers. Written by a program of mine over the print of the kit; Lean checks it. -/
import Derived.Test.YtbdhabpplidgfaaPTensTurnsx0
import Derived.Test.YtbdhabpplidgfaaPTensTurnsx11
namespace Go.Proofs.Ytbdhabpplidgfaa.PTensTurns
open Go.RowKit Go.Proofs.YtbdhabpplidgfaaW.PrintWords Go.Proofs.YtbdhabpplidgfaaW.PrintLast Go.Proofs.YtbdhabpplidgfaaW.PrintMore
attribute [local go_sem] max2_int min2_int max_two min_two max_three min_three max_four min_four   -- for this text's walks alone
set_option linter.unusedVariables false
set_option linter.unusedSimpArgs false

/-! ### carouselref5_Reshape: function 30 -/
def carouselref5_Reshape.j0 : Nat → List Int → Bool → List Int → List Int → Option (List Int × List Int × Int)
 | 0, _, _, _, _ => none
 | k + 1, x1, x13, x366000, x366001 => if x13 = true then (some (([] : List Int), ([] : List Int), 1)) else ((carouselref5_Size.f k x1).bind fun t369 => (if t369 = (x366001.length : Int) then ((some (([] : List Int) : List Int)).bind fun y370 => (if y370.length + x1.length < 17592186044416 then ((some (([] : List Int) : List Int)).bind fun y376 => (if y376.length + x366001.length < 17592186044416 then (some ((y370 ++ x1), (y376 ++ x366001), 0)) else (none))) else (none))) else (some (([] : List Int), ([] : List Int), 4))))
def carouselref5_Reshape.f (k : Nat) (l0_0 : List Int) (l0_1 : List Int) (l1 : List Int) : Option (List Int × List Int × Int) := (carouselref5_Is.f k l0_0 l0_1).bind fun t367 => (if t367 = true then ((carouselref5_Good.f k l1).bind fun t368 => (carouselref5_Reshape.j0 k l1 (!t368) l0_0 l0_1)) else (carouselref5_Reshape.j0 k l1 true l0_0 l0_1))
theorem carouselref5_Reshape.mono_l : ∀ k, (∀ y0 y1 y2 y3, LeO (carouselref5_Reshape.j0 k y0 y1 y2 y3) (carouselref5_Reshape.j0 (k + 1) y0 y1 y2 y3))
 | 0 => fun _ _ _ _ r h => by simp [carouselref5_Reshape.j0] at h
 | k + 1 => by
  have ih0 := carouselref5_Reshape.mono_l k
  ·intro y0 y1 y2 y3
   unfold carouselref5_Reshape.j0
   repeat' first
   | (with_reducible exact ih0 _ _ _ _)
   | (with_reducible exact carouselref5_Size.mono _ _)
   | (with_reducible exact LeO.refl _)
   | (with_reducible exact LeO.none _)
   | (with_reducible refine LeO.ite ?_ ?_)
   | (with_reducible refine LeO.bind ?_ (fun _ => ?_))
   | exact ih0 _ _ _ _
   | exact carouselref5_Size.mono _ _
   | exact LeO.none _
   | refine LeO.ite ?_ ?_
   | refine LeO.bind ?_ (fun _ => ?_)
theorem carouselref5_Reshape.mono : ∀ a0 a1 a2 k, LeO (carouselref5_Reshape.f k a0 a1 a2) (carouselref5_Reshape.f (k + 1) a0 a1 a2) := by
 intro a0 a1 a2 k
 have ih0 := carouselref5_Reshape.mono_l k
 unfold carouselref5_Reshape.f
 repeat' first
   | (with_reducible exact ih0 _ _ _ _)
   | (with_reducible exact carouselref5_Good.mono _ _)
   | (with_reducible exact carouselref5_Is.mono _ _ _)
   | (with_reducible exact LeO.refl _)
   | (with_reducible exact LeO.none _)
   | (with_reducible refine LeO.ite ?_ ?_)
   | (with_reducible refine LeO.bind ?_ (fun _ => ?_))
   | exact ih0 _ _ _ _
   | exact carouselref5_Good.mono _ _
   | exact carouselref5_Is.mono _ _ _
   | exact LeO.none _
   | refine LeO.ite ?_ ?_
   | refine LeO.bind ?_ (fun _ => ?_)
def carouselref5_Reshape.T5 : Bool × List (List Nat × List Nat) := (true, [([], []), ([], []), ([0, 1], [0, 1]), ([], []), ([], []), ([4], [4]), ([3, 5, 2], [3, 5]), ([2, 6], [2, 6]), ([7, 6, 0, 1, 2, 3, 4, 5, 6, 7], [7]), ([8, 0, 1, 2, 3, 4, 5, 6, 7, 8], [])])
def carouselref5_Reshape.B5 : List Nat := [0, 0, 3, 0, 0, 16, 63, 127, 255, 511]
theorem carouselref5_Reshape.tab5 : rtab .any (opsOf Try.f30 5) = carouselref5_Reshape.T5 := by kernel_rfl
theorem carouselref5_Reshape.bits5 : waitsOk carouselref5_Reshape.T5.2 carouselref5_Reshape.B5 = true := by kernel_rfl
set_option maxHeartbeats 8000000 in
set_option maxRecDepth 100000 in
theorem carouselref5_Reshape.calls (k : Nat) (A0_0 : Option Addr) (c0_0 : Nat) (l0_0 : List Int) (A0_1 : Option Addr) (c0_1 : Nat) (l0_1 : List Int) (A1 : Option Addr) (c1 : Nat) (l1 : List Int) (r1 : List Int) (r2 : List Int) (r3 : Int) (w : World) (hr0_0 : Kd.C (Kd.int .i64) w A0_0 l0_0.length l0_0) (hc0_0 : l0_0.length ≤ c0_0) (hr0_1 : Kd.C (Kd.int .i64) w A0_1 l0_1.length l0_1) (hc0_1 : l0_1.length ≤ c0_1) (hr1 : Kd.C (Kd.int .i64) w A1 l1.length l1) (hc1 : l1.length ≤ c1) (h : carouselref5_Reshape.f k l0_0 l0_1 l1 = some (r1, r2, r3)) :
  Calls Try.prog 30 #[.agg #[.slice A0_0 l0_0.length c0_0, .slice A0_1 l0_1.length c0_1], .slice A1 l1.length c1] w fun e w' => ∃ v0_ v1_ : Value, e = .returned (.tuple #[.agg #[v0_, v1_], .int .i64 r3]) ∧ Kd.R (Kd.int .i64) 3 w' w.heap.size (fun _ => True) v0_ r1 ∧ Kd.R (Kd.int .i64) 23 w' w.heap.size (fun _ => True) v1_ r2 ∧ Below w.heap.size w w' := by
 have hu27 := Try.underlying27
 have HR0_0 := Aside0.mk hr0_0
 have HC0_0 := Aside0.mk hc0_0
 clear hr0_0 hc0_0
 have HR0_1 := Aside0.mk hr0_1
 have HC0_1 := Aside0.mk hc0_1
 clear hr0_1 hc0_1
 have HR1 := Aside0.mk hr1
 have HC1 := Aside0.mk hc1
 clear hr1 hc1
 have HB := Aside0.mk (Below.refl w.heap.size w)
 have H : ((carouselref5_Is.f k l0_0 l0_1).bind fun t367 => (if t367 = true then ((carouselref5_Good.f k l1).bind fun t368 => (carouselref5_Reshape.j0 k l1 (!t368) l0_0 l0_1)) else (carouselref5_Reshape.j0 k l1 true l0_0 l0_1))) = some (r1, r2, r3) := h
 clear h
 have HC3 := Aside0.mk H
 clear H
 go_enter Try.func30, Try.ntmps30
 go_upto_region 1 with (first | ((with_reducible refine gate_dst (N := 2) rfl ?_); refine box_event ?hg (N := 2) ?hd (cs := #[.slice A0_0 l0_0.length c0_0, .slice A0_1 l0_1.length c0_1]) (t := 27) ?hr ?_; (case hd => rfl); (case hg => rfl); (case hr => first | (go_simp; done) | (go_simp; rfl)); intro gb365 hg w4 hbox hb; have BK365 := Aside0.mk (hbox); have GW365 := Aside0.mk (zs_ hg (zw0_ HB)); have GE365 := Aside0.mk (zs_ hg (zw0_ HB)); replace HB := Aside0.mk (below_step (zw0_ HB) hb); clear hb hbox hg) | ((with_reducible refine gate_dst (N := 4) rfl ?_); refine box_event ?hg (N := 4) ?hd (cs := #[.slice none 0 0, .slice none 0 0]) (t := 27) ?hr ?_; (case hd => rfl); (case hg => rfl); (case hr => first | (go_simp; done) | (go_simp; rfl)); intro gb366 hg w5 hbox hb; have BK366 := Aside0.mk (hbox); have GW366 := Aside0.mk (zs_ hg (zw1_ HB GE365)); have GE366 := Aside0.mk (zs_ hg (zw1_ HB GE365)); replace HB := Aside0.mk (below_step (zw1_ HB GE365) hb); have NB365_366 := Aside0.mk (zn_ hg BK365); have NB366_365 := Aside0.mk (zm_ hg BK365); replace BK365 := za_ BK365 hb; clear hb hbox hg))
 (try simp only [Act.put, List.setIfInBounds_toArray, List.set_cons_zero, List.set_cons_succ])
 go_cut [13] (fun v13 wc => ∃ (kq : Nat) (x13_2 : Bool), v13 = .bool x13_2 ∧ Aside0 (carouselref5_Reshape.j0 kq l1 x13_2 l0_0 l0_1 = some (r1, r2, r3)) ∧ Aside0 (kq ≤ k) ∧ Aside0 (wc.heap[gb365]? = some (.cells #[(.slice A0_0 l0_0.length c0_0), (.slice A0_1 l0_1.length c0_1)] 27 (0, 0))) ∧ Aside0 (wc.heap[gb366]? = some (.cells #[(.slice none 0 0), (.slice none 0 0)] 27 (0, 0))) ∧ Aside0 (Below w.heap.size w wc))
 case first =>
  have H := HC3.out
  clear HC3
  replace H := Option.bind_eq_some_iff.mp H
  obtain ⟨t367, A60, H⟩ := H
  (try dsimp only at H)
  have A6 := Aside0.mk A60
  clear A60
  by_cases c7 : t367 = true
  rotate_left
  ·replace c7 := Bool.eq_false_iff.mpr c7
   subst c7
   have H1 : (carouselref5_Reshape.j0 k l1 true l0_0 l0_1) = some (r1, r2, r3) := by rw [if_neg (show ¬ (false = true) by decide)] at H; exact H
   clear H
   have H := H1
   clear H1
   have H' := Aside0.mk H
   clear H
   have hnb12 := NB365_366.out
   have hnc12 := NB366_365.out
   have hcz13_0 := zx_ (v := .slice A0_0 l0_0.length c0_0) BK365 0
   have hcz13_1 := zx_ (v := .slice A0_1 l0_1.length c0_1) BK365 1
   have hfz13_0 := blk_frozen BK365.out 0
   have hfz13_1 := blk_frozen BK365.out 1
   go_wp2_with (first | ((with_reducible refine gate_callee (f := 18) rfl ?_); refine zg_ (some 7) Try.func18 #[.agg #[.slice A0_0 l0_0.length c0_0, .slice A0_1 l0_1.length c0_1]] (h := ?_); (with_reducible refine (carouselref5_Is.calls k _ _ l0_0 _ _ l0_1 false _ ?side1 ?side2 ?side3 ?side4 A6.out).mono ?_); (case side1 => exact zk_ (Kd.C_below HR0_0.out HB.out)); (case side2 => exact HC0_0.out); (case side3 => exact zk_ (Kd.C_below HR0_1.out HB.out)); (case side4 => exact HC0_1.out); rintro e w14 ⟨rfl, hb⟩; refine ⟨_, rfl, ?_⟩; replace BK365 := za_ BK365 hb; replace BK366 := za_ BK366 hb; replace HB := Aside0.mk (below_step (zw2_ HB GE365 GE366) hb); (try clear hb)))
   go_meet
   case rel => exact ⟨_, (true), z1_, H', ⟨by first | omega | exact Nat.le_refl _⟩, ⟨zb_ BK365⟩, ⟨zb_ BK366⟩, ⟨zw2_ HB GE365 GE366⟩⟩
  subst c7
  have H1 := H
  rw [if_pos rfl] at H1
  clear H
  have H := H1
  clear H1
  replace H := Option.bind_eq_some_iff.mp H
  obtain ⟨t368, A80, H⟩ := H
  replace H : (carouselref5_Reshape.j0 k l1 (!t368) l0_0 l0_1) = some (r1, r2, r3) := H
  have A8 := Aside0.mk A80
  clear A80
  have H' := Aside0.mk H
  clear H
  have hnb9 := NB365_366.out
  have hnc9 := NB366_365.out
  have hcz10_0 := zx_ (v := .slice A0_0 l0_0.length c0_0) BK365 0
  have hcz10_1 := zx_ (v := .slice A0_1 l0_1.length c0_1) BK365 1
  have hfz10_0 := blk_frozen BK365.out 0
  have hfz10_1 := blk_frozen BK365.out 1
  go_wp2_with (first | ((with_reducible refine gate_callee (f := 18) rfl ?_); refine zg_ (some 7) Try.func18 #[.agg #[.slice A0_0 l0_0.length c0_0, .slice A0_1 l0_1.length c0_1]] (h := ?_); (with_reducible refine (carouselref5_Is.calls k _ _ l0_0 _ _ l0_1 true _ ?side1 ?side2 ?side3 ?side4 A6.out).mono ?_); (case side1 => exact zk_ (Kd.C_below HR0_0.out HB.out)); (case side2 => exact HC0_0.out); (case side3 => exact zk_ (Kd.C_below HR0_1.out HB.out)); (case side4 => exact HC0_1.out); rintro e w11 ⟨rfl, hb⟩; refine ⟨_, rfl, ?_⟩; replace BK365 := za_ BK365 hb; replace BK366 := za_ BK366 hb; replace HB := Aside0.mk (below_step (zw2_ HB GE365 GE366) hb); (try clear hb)) | (go_at_call 13; (with_reducible refine (carouselref5_Good.calls k _ _ l1 t368 _ ?side1 ?side2 A8.out).mono ?_); (case side1 => exact zk_ (Kd.C_below HR1.out HB.out)); (case side2 => exact HC1.out); rintro e w' ⟨rfl, ⟨nd, rfl⟩⟩))
  go_meet
  case rel => exact ⟨_, (!t368), z1_, H', ⟨by first | omega | exact Nat.le_refl _⟩, ⟨zb_ BK365⟩, ⟨zb_ BK366⟩, ⟨zw2_ HB GE365 GE366⟩⟩
 case rest =>
  clear HC3
  try clear c1
  try clear p2
  try clear c3
  try clear c7
  try clear c9
  try clear c12
  try clear hcz10_0
  try clear hcz10_1
  try clear hcz13_0
  try clear hcz13_1
  try clear hfz10_0
  try clear hfz10_1
  try clear hfz13_0
  try clear hfz13_1
  obtain ⟨kq, x13_2, rfl, HA, HJ2, BK365, BK366, HB⟩ := hcut
  cases kq with
  | zero => exact absurd HA.out (by simp [carouselref5_Reshape.j0])
  | succ kj2 =>
   have H := HA.out
   clear HA
   simp only [carouselref5_Reshape.j0] at H
   by_cases c15 : x13_2 = true
   ·subst c15
    have H1 : (some (([] : List Int), ([] : List Int), 1)) = some (r1, r2, r3) := by rw [if_pos rfl] at H; exact H
    clear H
    have H := H1
    clear H1
    simp only [Option.some.injEq, Prod.mk.injEq] at H
    obtain ⟨rfl, rfl, rfl⟩ := H
    have hnb16 := NB366_365.out
    have hnc16 := NB365_366.out
    have hcz17_0 := zx_ (v := .slice none 0 0) BK366 0
    have hcz17_1 := zx_ (v := .slice none 0 0) BK366 1
    have hfz17_0 := blk_frozen BK366.out 0
    have hfz17_1 := blk_frozen BK366.out 1
    go_wp2
    refine bodyPost_ret (results_ct rfl _ _ gb366 27 #[.slice none 0 0, .slice none 0 0] (0, 0) _ rfl (zo2_ BK366) Try.underlying27 rfl (by kernel_rfl)) rfl ?_
    exact ⟨_, _, z0_, z2_, z2_, zw2_ HB GE365 GE366⟩
   replace c15 := Bool.eq_false_iff.mpr c15
   subst c15
   have H1 := H
   rw [if_neg (show ¬ (false = true) by decide)] at H1
   clear H
   have H := H1
   clear H1
   replace H := Option.bind_eq_some_iff.mp H
   obtain ⟨t369, A180, H⟩ := H
   (try dsimp only at H)
   have A18 := Aside0.mk A180
   clear A180
   by_cases c19 : t369 = (l0_1.length : Int)
   rotate_left
   ·rw [if_neg c19] at H
    have c19b0 : (t369 == (l0_1.length : Int)) = false := beq_eq_false_iff_ne.mpr c19
    have c19b1 : (t369 != (l0_1.length : Int)) = true := bne_iff_ne.mpr c19
    simp only [Option.some.injEq, Prod.mk.injEq] at H
    obtain ⟨rfl, rfl, rfl⟩ := H
    try go_wp2
    replace BK365 := Aside0.mk (blk_drew BK365.out)
    replace BK366 := Aside0.mk (blk_drew BK366.out)
    replace HB := Aside0.mk (below_drew1 HB.out)
    refine start_ (n := 6) (S := fun w' => w'.cell? ⟨gb365, 0, none⟩ = some (.slice A0_0 l0_0.length c0_0) ∧ w'.cell? ⟨gb365, 1, none⟩ = some (.slice A0_1 l0_1.length c0_1)) (ds := []) #[false, false, false, false, false, false] (by kernel_rfl) rfl rfl ⟨(blk_cell BK365.out 0).trans rfl, (blk_cell BK365.out 1).trans rfl⟩ (fun hHeld => ?_)
    generalize wc.drew = w35 at BK365 BK366 HB hHeld ⊢
    refine pure_ (i := 0) (N := some 15) (v := ?_) (a' := ?_) #[true, false, false, false, false, false] rfl rfl (by kernel_rfl) (fun _ _ _ h => h) (Or.inl ⟨by rfl, ?_⟩) ?_ ?_
    rotate_left
    ·intro w'
     go_simp
     with_reducible rfl
    rotate_left
    ·simp only [Act.put, List.setIfInBounds_toArray, List.set_cons_zero, List.set_cons_succ, i64_w, i32_w]
     rfl
    refine pure_ (i := 2) (N := some 17) (v := ?_) (a' := ?_) #[true, false, true, false, false, false] rfl rfl (by kernel_rfl) (fun _ _ _ h => h) (Or.inl ⟨by rfl, ?_⟩) ?_ ?_
    rotate_left
    ·intro w'
     go_simp
     with_reducible rfl
    rotate_left
    ·simp only [Act.put, List.setIfInBounds_toArray, List.set_cons_zero, List.set_cons_succ, i64_w, i32_w]
     rfl
    refine take_ (i := 3) (N := some 18) (v := ?_) (a' := ?_) #[true, false, true, true, false, false] rfl rfl (by kernel_rfl) (fun _ _ _ h => h) (Or.inl ⟨by rfl, ?_⟩) hHeld ?_ ?_
    rotate_left
    ·rintro w' ⟨s0, s1⟩
     go_simp
     with_reducible rfl
    rotate_left
    ·simp only [Act.put, List.setIfInBounds_toArray, List.set_cons_zero, List.set_cons_succ, i64_w, i32_w]
     rfl
    refine pure_ (i := 4) (N := some 19) (v := ?_) (a' := ?_) #[true, false, true, true, true, false] rfl rfl (by kernel_rfl) (fun _ _ _ h => h) (Or.inl ⟨by rfl, ?_⟩) ?_ ?_
    rotate_left
    ·intro w'
     go_simp
     with_reducible rfl
    rotate_left
    ·simp only [Act.put, List.setIfInBounds_toArray, List.set_cons_zero, List.set_cons_succ, i64_w, i32_w]
     rfl
    refine one_ (i := 1) (N := some 16) #[true, true, true, true, true, false] rfl rfl (by kernel_rfl) (by decide) (fun K hK => ?_)
    refine yg_ Try.func38 #[.slice A1 l1.length c1] ?_
    with_reducible refine (carouselref5_Size.calls kj2 _ _ l1 t369 _ ?side1 ?side2 A18.out).mono ?_
    (case side1 => exact zk_ (Kd.C_below HR1.out HB.out))
    (case side2 => exact HC1.out)
    rintro e w' ⟨rfl, ⟨nd, rfl⟩⟩
    refine ⟨_, rfl, ?_⟩
    refine hK.out _ _ ⟨zx_ BK365 0, zx_ BK365 1⟩ (fun hHeld => ?_)
    clear hK K
    refine zq_ (some 16) (h := ?_)
    refine pure_ (i := 5) (N := some 20) (v := ?_) (a' := ?_) #[true, true, true, true, true, true] rfl rfl (by kernel_rfl) (fun _ _ _ h => h) (Or.inl ⟨by rfl, ?_⟩) ?_ ?_
    rotate_left
    ·intro w'
     go_simp
     with_reducible rfl
    rotate_left
    ·simp only [Act.put, List.setIfInBounds_toArray, List.set_cons_zero, List.set_cons_succ, i64_w, i32_w]
     rfl
    refine done_ (by kernel_rfl) ?_
    have hnb36 := NB366_365.out
    have hnc36 := NB365_366.out
    have hcz37_0 := zx_ (v := .slice none 0 0) BK366 0
    have hcz37_1 := zx_ (v := .slice none 0 0) BK366 1
    have hfz37_0 := blk_frozen BK366.out 0
    have hfz37_1 := blk_frozen BK366.out 1
    try go_wp2
    refine bodyPost_ret (results_ct rfl _ _ gb366 27 #[.slice none 0 0, .slice none 0 0] (0, 0) _ rfl (zo2_ BK366) Try.underlying27 rfl (by kernel_rfl)) rfl ?_
    exact ⟨_, _, z0_, z2_, z2_, zw2_ HB GE365 GE366⟩
   rw [if_pos c19] at H
   have c19b0 : (t369 == (l0_1.length : Int)) = true := beq_iff_eq.mpr c19
   have c19b1 : (t369 != (l0_1.length : Int)) = false := bne_eq_false_iff_eq.mpr c19
   clear c19
   obtain ⟨y370, hy370⟩ : ∃ y_ : List Int, y_ = (([] : List Int)) := ⟨_, rfl⟩
   replace H : (if y370.length + l1.length < 17592186044416 then ((some (([] : List Int) : List Int)).bind fun y376 => (if y376.length + l0_1.length < 17592186044416 then (some ((y370 ++ l1), (y376 ++ l0_1), 0)) else (none))) else (none)) = some (r1, r2, r3) := by first | (rw [hy370]; with_reducible exact H) | (have H2_ := (Option.bind_some _ _).symm.trans H; rw [hy370]; with_reducible exact H2_) | (have H2_ := (Option.bind_some _ _).symm.trans H; with_reducible exact H2_) | with_reducible exact H | (rw [hy370]; exact H) | exact H
   have Ny370 := Aside0.mk hy370
   clear hy370
   by_cases c20 : y370.length + l1.length < 17592186044416
   rotate_left
   ·rw [if_neg c20] at H
    exact absurd H (by simp)
   rw [if_pos c20] at H
   have LMc20 := Aside0.mk c20
   clear c20
   obtain ⟨y373, hy373⟩ : ∃ y_ : List Int, y_ = (y370 ++ l1) := ⟨_, rfl⟩
   replace H : ((some (([] : List Int) : List Int)).bind fun y376 => (if y376.length + l0_1.length < 17592186044416 then (some (y373, (y376 ++ l0_1), 0)) else (none))) = some (r1, r2, r3) := by first | (rw [hy373]; with_reducible exact H) | (have H2_ := (Option.bind_some _ _).symm.trans H; rw [hy373]; with_reducible exact H2_) | (have H2_ := (Option.bind_some _ _).symm.trans H; with_reducible exact H2_) | with_reducible exact H | (rw [hy373]; exact H) | exact H
   have Ny373 := Aside0.mk hy373
   clear hy373
   obtain ⟨y376, hy376⟩ : ∃ y_ : List Int, y_ = (([] : List Int)) := ⟨_, rfl⟩
   replace H : (if y376.length + l0_1.length < 17592186044416 then (some (y373, (y376 ++ l0_1), 0)) else (none)) = some (r1, r2, r3) := by first | (rw [hy376]; with_reducible exact H) | (have H2_ := (Option.bind_some _ _).symm.trans H; rw [hy376]; with_reducible exact H2_) | (have H2_ := (Option.bind_some _ _).symm.trans H; with_reducible exact H2_) | with_reducible exact H | (rw [hy376]; exact H) | exact H
   have Ny376 := Aside0.mk hy376
   clear hy376
   by_cases c21 : y376.length + l0_1.length < 17592186044416
   rotate_left
   ·rw [if_neg c21] at H
    exact absurd H (by simp)
   rw [if_pos c21] at H
   have LMc21 := Aside0.mk c21
   clear c21
   obtain ⟨y379, hy379⟩ : ∃ y_ : List Int, y_ = (y376 ++ l0_1) := ⟨_, rfl⟩
   replace H : (some (y373, y379, 0)) = some (r1, r2, r3) := by first | (rw [hy379]; with_reducible exact H) | (have H2_ := (Option.bind_some _ _).symm.trans H; rw [hy379]; with_reducible exact H2_) | (have H2_ := (Option.bind_some _ _).symm.trans H; with_reducible exact H2_) | with_reducible exact H | (rw [hy379]; exact H) | exact H
   have Ny379 := Aside0.mk hy379
   clear hy379
   simp only [Option.some.injEq, Prod.mk.injEq] at H
   obtain ⟨rfl, rfl, rfl⟩ := H
   try go_wp2
   replace BK365 := Aside0.mk (blk_drew BK365.out)
   replace BK366 := Aside0.mk (blk_drew BK366.out)
   replace HB := Aside0.mk (below_drew1 HB.out)
   refine start_ (n := 6) (S := fun w' => w'.cell? ⟨gb365, 0, none⟩ = some (.slice A0_0 l0_0.length c0_0) ∧ w'.cell? ⟨gb365, 1, none⟩ = some (.slice A0_1 l0_1.length c0_1)) (ds := []) #[false, false, false, false, false, false] (by kernel_rfl) rfl rfl ⟨(blk_cell BK365.out 0).trans rfl, (blk_cell BK365.out 1).trans rfl⟩ (fun hHeld => ?_)
   generalize wc.drew = w22 at BK365 BK366 HB hHeld ⊢
   refine pure_ (i := 0) (N := some 15) (v := ?_) (a' := ?_) #[true, false, false, false, false, false] rfl rfl (by kernel_rfl) (fun _ _ _ h => h) (Or.inl ⟨by rfl, ?_⟩) ?_ ?_
   rotate_left
   ·intro w'
    go_simp
    with_reducible rfl
   rotate_left
   ·simp only [Act.put, List.setIfInBounds_toArray, List.set_cons_zero, List.set_cons_succ, i64_w, i32_w]
    rfl
   refine pure_ (i := 2) (N := some 17) (v := ?_) (a' := ?_) #[true, false, true, false, false, false] rfl rfl (by kernel_rfl) (fun _ _ _ h => h) (Or.inl ⟨by rfl, ?_⟩) ?_ ?_
   rotate_left
   ·intro w'
    go_simp
    with_reducible rfl
   rotate_left
   ·simp only [Act.put, List.setIfInBounds_toArray, List.set_cons_zero, List.set_cons_succ, i64_w, i32_w]
    rfl
   refine take_ (i := 3) (N := some 18) (v := ?_) (a' := ?_) #[true, false, true, true, false, false] rfl rfl (by kernel_rfl) (fun _ _ _ h => h) (Or.inl ⟨by rfl, ?_⟩) hHeld ?_ ?_
   rotate_left
   ·rintro w' ⟨s0, s1⟩
    go_simp
    with_reducible rfl
   rotate_left
   ·simp only [Act.put, List.setIfInBounds_toArray, List.set_cons_zero, List.set_cons_succ, i64_w, i32_w]
    rfl
   refine pure_ (i := 4) (N := some 19) (v := ?_) (a' := ?_) #[true, false, true, true, true, false] rfl rfl (by kernel_rfl) (fun _ _ _ h => h) (Or.inl ⟨by rfl, ?_⟩) ?_ ?_
   rotate_left
   ·intro w'
    go_simp
    with_reducible rfl
   rotate_left
   ·simp only [Act.put, List.setIfInBounds_toArray, List.set_cons_zero, List.set_cons_succ, i64_w, i32_w]
    rfl
   refine one_ (i := 1) (N := some 16) #[true, true, true, true, true, false] rfl rfl (by kernel_rfl) (by decide) (fun K hK => ?_)
   refine yg_ Try.func38 #[.slice A1 l1.length c1] ?_
   with_reducible refine (carouselref5_Size.calls kj2 _ _ l1 t369 _ ?side1 ?side2 A18.out).mono ?_
   (case side1 => exact zk_ (Kd.C_below HR1.out HB.out))
   (case side2 => exact HC1.out)
   rintro e w' ⟨rfl, ⟨nd, rfl⟩⟩
   refine ⟨_, rfl, ?_⟩
   refine hK.out _ _ ⟨zx_ BK365 0, zx_ BK365 1⟩ (fun hHeld => ?_)
   clear hK K
   refine zq_ (some 16) (h := ?_)
   refine pure_ (i := 5) (N := some 20) (v := ?_) (a' := ?_) #[true, true, true, true, true, true] rfl rfl (by kernel_rfl) (fun _ _ _ h => h) (Or.inl ⟨by rfl, ?_⟩) ?_ ?_
   rotate_left
   ·intro w'
    go_simp
    with_reducible rfl
   rotate_left
   ·simp only [Act.put, List.setIfInBounds_toArray, List.set_cons_zero, List.set_cons_succ, i64_w, i32_w]
    rfl
   refine done_ (by kernel_rfl) ?_
   try go_wp2
   (try (rw [drewN_self w22]; generalize hq_ : World.drewN w22 _ = w22; have n0_ : Aside0 (w22.heap[gb365]? = some (.cells #[.slice A0_0 l0_0.length c0_0, .slice A0_1 l0_1.length c0_1] 27 (0, 0))) := ⟨by rw [← hq_]; exact (zb_ BK365)⟩; have n1_ : Aside0 (w22.heap[gb366]? = some (.cells #[.slice none 0 0, .slice none 0 0] 27 (0, 0))) := ⟨by rw [← hq_]; exact (zb_ BK366)⟩; have n2_ : Aside0 (Below w.heap.size w w22) := ⟨by rw [← hq_]; exact (zw2_ HB GE365 GE366)⟩; clear BK365 BK366 HB hq_; have BK365 := n0_; have BK366 := n1_; have HB := n2_; clear n0_ n1_ n2_))
   replace BK365 := Aside0.mk (blk_drew BK365.out)
   replace BK366 := Aside0.mk (blk_drew BK366.out)
   replace HB := Aside0.mk (below_drew1 HB.out)
   refine start_ (n := 10) (S := fun w' => w'.cell? ⟨gb365, 0, none⟩ = some (.slice A0_0 l0_0.length c0_0) ∧ w'.cell? ⟨gb365, 1, none⟩ = some (.slice A0_1 l0_1.length c0_1)) (ds := []) #[false, false, false, false, false, false, false, false, false, false] (by kernel_rfl) rfl rfl ⟨(blk_cell BK365.out 0).trans rfl, (blk_cell BK365.out 1).trans rfl⟩ (fun hHeld => ?_); refine with_tabW carouselref5_Reshape.tab5 carouselref5_Reshape.bits5 (fun HT_ HW_ => ?_)
   generalize w22.drew = w23 at BK365 BK366 HB hHeld ⊢
   refine yp_ ?_ 1 23
   refine yp_ ?_ 4 26
   refine yt2_ ?_ 5 27
   refine join_ (σ := Value × Value × Value) 4 #[true, true, true, true, true, true, false, false, false, false] (fun s_ => [(22, s_.1), (24, s_.2.1), (25, s_.2.2)]) (fun s_ w' => (w'.cell? ⟨gb365, 0, none⟩ = some (.slice A0_0 l0_0.length c0_0) ∧ w'.cell? ⟨gb365, 1, none⟩ = some (.slice A0_1 l0_1.length c0_1)) ∧ (Kd.R (Kd.int .i64) 3 w' w.heap.size (fun _ => True) s_.2.1 y373) ∧ (Kd.R (Kd.int .i64) 23 w' w.heap.size (fun _ => True) s_.2.2 y376) ∧ (w'.heap[gb365]? = some (.cells #[.slice A0_0 l0_0.length c0_0, .slice A0_1 l0_1.length c0_1] 27 (0, 0))) ∧ (w'.heap[gb366]? = some (.cells #[.slice none 0 0, .slice none 0 0] 27 (0, 0))) ∧ (Below w.heap.size w w')) ?_ ?_
   rotate_left
   ·intro hCont
    refine two_ (i := 0) (j := 3) (Ni := some 22) (Nj := some 25) #[true, true, false, false, true, true, false, false, false, false] #[false, true, false, true, true, true, false, false, false, false] rfl rfl rfl rfl (two_of HT_.out (by kernel_rfl)) (by decide) (by decide) (fun K hK => ?_) (fun K hK => ?_)
    ·skip
     refine Kd.R_lit_step (Kd.int .i64) _ 3 ?hg (N := 22) ?hd (xs := ([] : List Int)) (inner := []) (ok := fun _ => True) (okp := fun _ => True) ?hr ?hp (fun _ hk => hk) trivial (Below.refl _ _) (Nat.le_refl _) (by simp) ?_; (case hd => rfl); (case hg => rfl); (case hr => first | (go_simp; done) | (go_simp; rfl)); (case hp => exact (Reps.none _ _))
     intro v371 w24 ho25 hb hg_ hnew_
     clear hg_ hnew_
     (first | rw [← Ny370.out] at ho25 | (simp only [Int.reduceToNat] at ho25; rw [← Ny370.out] at ho25))
     have HO372 := Aside0.mk (Kd.R_lower ho25 (below_size (zw2_ HB GE365 GE366)))
     replace BK365 := za_ BK365 hb
     replace BK366 := za_ BK366 hb
     replace HB := Aside0.mk (below_step (zw2_ HB GE365 GE366) hb)
     clear hb ho25
     refine hK.out _ _ ⟨zx_ BK365 0, zx_ BK365 1⟩ (fun hHeld => ?_)
     clear hK K
     refine zq_ (some 22) (h := ?_)
     refine two_ (i := 2) (j := 3) (Ni := some 24) (Nj := some 25) #[true, true, true, false, true, true, false, false, false, false] #[true, true, false, true, true, true, false, false, false, false] rfl rfl rfl rfl (two_of HT_.out (by kernel_rfl)) (by decide) (by decide) (fun K hK => ?_) (fun K hK => ?_)
     ·skip
      refine Kd.R_append_rows_step (Kd.int .i64) (w0 := w) w.heap.size (by rfl) (.tmp 22) (.tmp 23) 22 3 (.int .i64 0) 8 rfl Try.underlying22 info3 rfl (by decide) (by omega) v371 y370 l1 _ _ _ (fun _ => True) (fun _ => False) rfl rfl ?aO ?aR (fun _ _ h => h) (fun _ h => h.elim) ?aF ?aB ?aS ?aL ?_
      (case aR => exact zk_ (Kd.C_below HR1.out HB.out))
      (case aB => exact (zw2_ HB GE365 GE366))
      (case aF => exact (fun _ _ => trivial))
      (case aO => exact (zr_ HO372.out))
      (case aS => exact (below_size (zw2_ HB GE365 GE366)))
      (case aL => have := LMc20.out; omega)
      intro v374 w26 ho hb hg hat
      rw [← Ny373.out] at ho
      replace BK365 := Aside0.mk (zh_ BK365 hg (Kd.R_ne HO372.out BK365.out (by decide)))
      replace BK366 := Aside0.mk (zh_ BK366 hg (Kd.R_ne HO372.out BK366.out (by decide)))
      replace HB := Aside0.mk (hb)
      have HO375 := Aside0.mk (ho)
      clear HO372
      clear ho hb hg hat
      refine hK.out _ _ ⟨zx_ BK365 0, zx_ BK365 1⟩ (fun hHeld => ?_)
      clear hK K
      refine zq_ (some 24) (h := ?_)
      refine yo_ 3 (some 25) (fun K hK => ?_)
      refine Kd.R_lit_step (Kd.int .i64) _ 23 ?hg (N := 25) ?hd (xs := ([] : List Int)) (inner := []) (ok := fun _ => True) (okp := fun _ => True) ?hr ?hp (fun _ hk => hk) trivial (Below.refl _ _) (Nat.le_refl _) (by simp) ?_; (case hd => rfl); (case hg => rfl); (case hr => first | (go_simp; done) | (go_simp; rfl)); (case hp => exact (Reps.none _ _))
      intro v377 w27 ho28 hb hg_ hnew_
      clear hg_ hnew_
      (first | rw [← Ny376.out] at ho28 | (simp only [Int.reduceToNat] at ho28; rw [← Ny376.out] at ho28))
      replace HO375 := zy_ HO375 hb
      have HO378 := Aside0.mk (Kd.R_lower ho28 (below_size (zw2_ HB GE365 GE366)))
      replace BK365 := za_ BK365 hb
      replace BK366 := za_ BK366 hb
      replace HB := Aside0.mk (below_step (zw2_ HB GE365 GE366) hb)
      clear hb ho28
      refine hK.out _ _ ⟨zx_ BK365 0, zx_ BK365 1⟩ (fun hHeld => ?_)
      clear hK K
      refine zq_ (some 25) (h := ?_)
      exact zj_ (hCont (v371, v374, v377) _ ⟨hHeld, (zr_ HO375.out), (zr_ HO378.out), (zb_ BK365), (zb_ BK366), (zw2_ HB GE365 GE366)⟩)
     skip
     refine Kd.R_lit_step (Kd.int .i64) _ 23 ?hg (N := 25) ?hd (xs := ([] : List Int)) (inner := []) (ok := fun _ => True) (okp := fun _ => True) ?hr ?hp (fun _ hk => hk) trivial (Below.refl _ _) (Nat.le_refl _) (by simp) ?_; (case hd => rfl); (case hg => rfl); (case hr => first | (go_simp; done) | (go_simp; rfl)); (case hp => exact (Reps.none _ _))
     intro v377 w26 ho27 hb hg_ hnew_
     clear hg_ hnew_
     (first | rw [← Ny376.out] at ho27 | (simp only [Int.reduceToNat] at ho27; rw [← Ny376.out] at ho27))
     replace HO372 := zy_ HO372 hb
     have HO378 := Aside0.mk (Kd.R_lower ho27 (below_size (zw2_ HB GE365 GE366)))
     replace BK365 := za_ BK365 hb
     replace BK366 := za_ BK366 hb
     replace HB := Aside0.mk (below_step (zw2_ HB GE365 GE366) hb)
     clear hb ho27
     refine hK.out _ _ ⟨zx_ BK365 0, zx_ BK365 1⟩ (fun hHeld => ?_)
     clear hK K
     refine zq_ (some 25) (h := ?_)
     refine yo_ 2 (some 24) (fun K hK => ?_)
     refine Kd.R_append_rows_step (Kd.int .i64) (w0 := w) w.heap.size (by rfl) (.tmp 22) (.tmp 23) 22 3 (.int .i64 0) 8 rfl Try.underlying22 info3 rfl (by decide) (by omega) v371 y370 l1 _ _ _ (fun _ => True) (fun _ => False) rfl rfl ?aO ?aR (fun _ _ h => h) (fun _ h => h.elim) ?aF ?aB ?aS ?aL ?_
     (case aR => exact zk_ (Kd.C_below HR1.out HB.out))
     (case aB => exact (zw2_ HB GE365 GE366))
     (case aF => exact (fun _ _ => trivial))
     (case aO => exact (zr_ HO372.out))
     (case aS => exact (below_size (zw2_ HB GE365 GE366)))
     (case aL => have := LMc20.out; omega)
     intro v374 w28 ho hb hg hat
     rw [← Ny373.out] at ho
     replace BK365 := Aside0.mk (zh_ BK365 hg (Kd.R_ne HO372.out BK365.out (by decide)))
     replace BK366 := Aside0.mk (zh_ BK366 hg (Kd.R_ne HO372.out BK366.out (by decide)))
     replace HO378 := Aside0.mk (Kd.R_over' (zr_ HO378.out) (Kd.R_typed (zr_ HO372.out)) (by decide) hg)
     replace HB := Aside0.mk (hb)
     have HO375 := Aside0.mk (ho)
     clear HO372
     clear ho hb hg hat
     refine hK.out _ _ ⟨zx_ BK365 0, zx_ BK365 1⟩ (fun hHeld => ?_)
     clear hK K
     refine zq_ (some 24) (h := ?_)
     exact zj_ (hCont (v371, v374, v377) _ ⟨hHeld, (zr_ HO375.out), (zr_ HO378.out), (zb_ BK365), (zb_ BK366), (zw2_ HB GE365 GE366)⟩)
    skip
    refine Kd.R_lit_step (Kd.int .i64) _ 23 ?hg (N := 25) ?hd (xs := ([] : List Int)) (inner := []) (ok := fun _ => True) (okp := fun _ => True) ?hr ?hp (fun _ hk => hk) trivial (Below.refl _ _) (Nat.le_refl _) (by simp) ?_; (case hd => rfl); (case hg => rfl); (case hr => first | (go_simp; done) | (go_simp; rfl)); (case hp => exact (Reps.none _ _))
    intro v377 w24 ho25 hb hg_ hnew_
    clear hg_ hnew_
    (first | rw [← Ny376.out] at ho25 | (simp only [Int.reduceToNat] at ho25; rw [← Ny376.out] at ho25))
    have HO378 := Aside0.mk (Kd.R_lower ho25 (below_size (zw2_ HB GE365 GE366)))
    replace BK365 := za_ BK365 hb
    replace BK366 := za_ BK366 hb
    replace HB := Aside0.mk (below_step (zw2_ HB GE365 GE366) hb)
    clear hb ho25
    refine hK.out _ _ ⟨zx_ BK365 0, zx_ BK365 1⟩ (fun hHeld => ?_)
    clear hK K
    refine zq_ (some 25) (h := ?_)
    refine yo_ 0 (some 22) (fun K hK => ?_)
    refine Kd.R_lit_step (Kd.int .i64) _ 3 ?hg (N := 22) ?hd (xs := ([] : List Int)) (inner := []) (ok := fun _ => True) (okp := fun _ => True) ?hr ?hp (fun _ hk => hk) trivial (Below.refl _ _) (Nat.le_refl _) (by simp) ?_; (case hd => rfl); (case hg => rfl); (case hr => first | (go_simp; done) | (go_simp; rfl)); (case hp => exact (Reps.none _ _))
    intro v371 w26 ho27 hb hg_ hnew_
    clear hg_ hnew_
    (first | rw [← Ny370.out] at ho27 | (simp only [Int.reduceToNat] at ho27; rw [← Ny370.out] at ho27))
    replace HO378 := zy_ HO378 hb
    have HO372 := Aside0.mk (Kd.R_lower ho27 (below_size (zw2_ HB GE365 GE366)))
    replace BK365 := za_ BK365 hb
    replace BK366 := za_ BK366 hb
    replace HB := Aside0.mk (below_step (zw2_ HB GE365 GE366) hb)
    clear hb ho27
    refine hK.out _ _ ⟨zx_ BK365 0, zx_ BK365 1⟩ (fun hHeld => ?_)
    clear hK K
    refine zq_ (some 22) (h := ?_)
    refine yo_ 2 (some 24) (fun K hK => ?_)
    refine Kd.R_append_rows_step (Kd.int .i64) (w0 := w) w.heap.size (by rfl) (.tmp 22) (.tmp 23) 22 3 (.int .i64 0) 8 rfl Try.underlying22 info3 rfl (by decide) (by omega) v371 y370 l1 _ _ _ (fun _ => True) (fun _ => False) rfl rfl ?aO ?aR (fun _ _ h => h) (fun _ h => h.elim) ?aF ?aB ?aS ?aL ?_
    (case aR => exact zk_ (Kd.C_below HR1.out HB.out))
    (case aB => exact (zw2_ HB GE365 GE366))
    (case aF => exact (fun _ _ => trivial))
    (case aO => exact (zr_ HO372.out))
    (case aS => exact (below_size (zw2_ HB GE365 GE366)))
    (case aL => have := LMc20.out; omega)
    intro v374 w28 ho hb hg hat
    rw [← Ny373.out] at ho
    replace BK365 := Aside0.mk (zh_ BK365 hg (Kd.R_ne HO372.out BK365.out (by decide)))
    replace BK366 := Aside0.mk (zh_ BK366 hg (Kd.R_ne HO372.out BK366.out (by decide)))
    replace HO378 := Aside0.mk (Kd.R_over' (zr_ HO378.out) (Kd.R_typed (zr_ HO372.out)) (by decide) hg)
    replace HB := Aside0.mk (hb)
    have HO375 := Aside0.mk (ho)
    clear HO372
    clear ho hb hg hat
    refine hK.out _ _ ⟨zx_ BK365 0, zx_ BK365 1⟩ (fun hHeld => ?_)
    clear hK K
    refine zq_ (some 24) (h := ?_)
    exact zj_ (hCont (v371, v374, v377) _ ⟨hHeld, (zr_ HO375.out), (zr_ HO378.out), (zb_ BK365), (zb_ BK366), (zw2_ HB GE365 GE366)⟩)
   rintro ⟨v371, v374, v377⟩ w29 ⟨hS_, h0_, h1_, h2_, h3_, h4_⟩
   (try dsimp only at h0_ h1_ h2_ h3_ h4_)
   clear BK365 BK366 HB
   have HO375 := Aside0.mk h0_
   have HO378 := Aside0.mk h1_
   have BK365 := Aside0.mk h2_
   have BK366 := Aside0.mk h3_
   have HB := Aside0.mk h4_
   clear h0_ h1_ h2_ h3_ h4_
   have hHeld : w29.cell? ⟨gb365, 0, none⟩ = some (.slice A0_0 l0_0.length c0_0) ∧ w29.cell? ⟨gb365, 1, none⟩ = some (.slice A0_1 l0_1.length c0_1) := hS_
   refine zi_ (h := ?_)
   refine yo_ 6 (some 28) (fun K hK => ?_)
   refine Kd.R_append_rows_step (Kd.int .i64) (w0 := w) w.heap.size (by rfl) (.tmp 25) (.tmp 27) 25 23 (.int .i64 0) 8 rfl Try.underlying25 info23 rfl (by decide) (by omega) v377 y376 l0_1 _ _ _ (fun _ => True) (fun _ => False) rfl rfl ?aO ?aR (fun _ _ h => h) (fun _ h => h.elim) ?aF ?aB ?aS ?aL ?_
   (case aR => exact zk_ (Kd.C_below HR0_1.out HB.out))
   (case aB => exact (zw2_ HB GE365 GE366))
   (case aF => exact (fun _ _ => trivial))
   (case aO => exact (zr_ HO378.out))
   (case aS => exact (below_size (zw2_ HB GE365 GE366)))
   (case aL => have := LMc21.out; omega)
   intro v380 w30 ho hb hg hat
   rw [← Ny379.out] at ho
   replace BK365 := Aside0.mk (zh_ BK365 hg (Kd.R_ne HO378.out BK365.out (by decide)))
   replace BK366 := Aside0.mk (zh_ BK366 hg (Kd.R_ne HO378.out BK366.out (by decide)))
   replace HO375 := Aside0.mk (Kd.R_over' (zr_ HO375.out) (Kd.R_typed (zr_ HO378.out)) (by decide) hg)
   replace HB := Aside0.mk (hb)
   have HO381 := Aside0.mk (ho)
   clear HO378
   clear ho hb hg hat
   obtain ⟨Ao31, co31, eo31⟩ := Kd.R_slice HO381.out
   (first | subst eo31 | (injection eo31 with f1_ f2_ f3_; have f4_ := f1_.symm; have f5_ := f3_.symm; clear f1_ f2_ f3_; subst f4_; subst f5_))
   obtain ⟨Ao32, co32, eo32⟩ := Kd.R_slice HO375.out
   (first | subst eo32 | (injection eo32 with f1_ f2_ f3_; have f4_ := f1_.symm; have f5_ := f3_.symm; clear f1_ f2_ f3_; subst f4_; subst f5_))
   refine hK.out _ _ ⟨zx_ BK365 0, zx_ BK365 1⟩ (fun hHeld => ?_)
   clear hK K
   refine zq_ (some 28) (h := ?_)
   refine yp_ ?_ 7 29
   refine yo_ 8 none (fun K hK => ?_)
   have hs33 := zx_ (v := .slice none 0 0) BK366 0
   have hfs33 := blk_frozen BK366.out 0
   have hns33_0 := NB365_366.out
   have hms33_0 := NB366_365.out
   have hs34 := zx_ (v := .slice none 0 0) BK366 1
   have hfs34 := blk_frozen BK366.out 1
   have hns34_0 := NB365_366.out
   have hms34_0 := NB366_365.out
   refine skip_ (w1 := ?_) (by rfl) rfl ?_ ?_
   rotate_left
   ·go_simp
    rfl
   refine hK.out _ _ ⟨((cell_far (p := ⟨gb366, _, none⟩) NB365_366.out _).trans (((cell_far (p := ⟨gb366, _, none⟩) NB365_366.out _).trans (hHeld.1)))), ((cell_far (p := ⟨gb366, _, none⟩) NB365_366.out _).trans (((cell_far (p := ⟨gb366, _, none⟩) NB365_366.out _).trans (hHeld.2))))⟩ (fun hHeld => ?_)
   clear hK K
   refine yp_ ?_ 9 5
   refine done_ (done_of HT_.out (by kernel_rfl)) ?_
   try go_wp2
   refine bodyPost_ret (results_ct rfl _ _ gb366 27 #[.slice Ao32 y373.length co32, .slice Ao31 y379.length co31] (0, 0) _ rfl (zo2_ BK366) Try.underlying27 rfl (by kernel_rfl)) rfl ?_
   exact ⟨_, _, z0_, zr_ (Kd.R_mono (Kd.R_far (p := ⟨gb366, 1, none⟩) (Kd.R_far (p := ⟨gb366, 0, none⟩) (Kd.R_types HO375.out BK366.out (by decide)) (fun _ hk => hk.2) (.slice Ao32 y373.length co32)) (fun _ hk => hk.2) (.slice Ao31 y379.length co31)) (fun _ hk => trivial)), zr_ (Kd.R_mono (Kd.R_far (p := ⟨gb366, 1, none⟩) (Kd.R_far (p := ⟨gb366, 0, none⟩) (Kd.R_types HO381.out BK366.out (by decide)) (fun _ hk => hk.2) (.slice Ao32 y373.length co32)) (fun _ hk => hk.2) (.slice Ao31 y379.length co31)) (fun _ hk => trivial)), zw2_ HB GE365 GE366⟩

end Go.Proofs.Ytbdhabpplidgfaa.PTensTurns
