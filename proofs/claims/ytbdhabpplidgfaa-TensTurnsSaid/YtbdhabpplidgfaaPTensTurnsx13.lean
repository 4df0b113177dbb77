/- The functions that the law TensTurns reaches, as Lean functions, and that each call of the Go function does what its Lean function says, wherever that one answers. Written by a program of mine over the print of the kit; Lean checks it. -/
import Derived.Test.YtbdhabpplidgfaaPTensTurnsx0
import Derived.Test.YtbdhabpplidgfaaPTensTurnsx11
import Derived.Test.YtbdhabpplidgfaaPTensTurnsx12
namespace Go.Proofs.Ytbdhabpplidgfaa.PTensTurns
open Go.RowKit Go.Proofs.YtbdhabpplidgfaaW.PrintWords Go.Proofs.YtbdhabpplidgfaaW.PrintLast Go.Proofs.YtbdhabpplidgfaaW.PrintMore
attribute [local go_sem] max2_int min2_int max_two min_two max_three min_three max_four min_four   -- for this text's walks alone
set_option linter.unusedVariables false
set_option linter.unusedSimpArgs false

/-! ### carouselref5_Scale: function 29 -/
def carouselref5_Scale.l0 : Nat → Int → Int → List Int → List Int → List Int → List Int → Option (List Int × List Int × Int)
 | 0, _, _, _, _, _, _ => none
 | k + 1, x1, x7, x353000, x353001, x362000, x362001 => if x7 < (x362001.length : Int) then (if 0 ≤ x7 then (if x7 < (x353001.length : Int) then ((carouselref1_Mul.f k (rd x353001 x7) x1).bind fun t363 => (carouselref5_Scale.l0 k x1 (wrap64 (x7 + 1)) x353000 x353001 x362000 (x362001.set (x7 : Int).toNat t363))) else (none)) else (none)) else (some (x362000, x362001, 0))
def carouselref5_Scale.f (k : Nat) (l0_0 : List Int) (l0_1 : List Int) (a1 : Int) : Option (List Int × List Int × Int) := (carouselref5_Is.f k l0_0 l0_1).bind fun t354 => (if t354 = true then ((carouselref5_New.f k l0_0 0).bind fun bt355 => (carouselref5_Scale.l0 k a1 0 l0_0 l0_1 bt355.1 bt355.2)) else (some (([] : List Int), ([] : List Int), 1)))
theorem carouselref5_Scale.mono_l : ∀ k, (∀ y0 y1 y2 y3 y4 y5, LeO (carouselref5_Scale.l0 k y0 y1 y2 y3 y4 y5) (carouselref5_Scale.l0 (k + 1) y0 y1 y2 y3 y4 y5))
 | 0 => fun _ _ _ _ _ _ r h => by simp [carouselref5_Scale.l0] at h
 | k + 1 => by
  have ih0 := carouselref5_Scale.mono_l k
  ·intro y0 y1 y2 y3 y4 y5
   unfold carouselref5_Scale.l0
   repeat' first
   | (with_reducible exact ih0 _ _ _ _ _ _)
   | (with_reducible exact carouselref1_Mul.mono _ _ _)
   | (with_reducible exact LeO.refl _)
   | (with_reducible exact LeO.none _)
   | (with_reducible refine LeO.ite ?_ ?_)
   | (with_reducible refine LeO.bind ?_ (fun _ => ?_))
   | exact ih0 _ _ _ _ _ _
   | exact carouselref1_Mul.mono _ _ _
   | exact LeO.none _
   | refine LeO.ite ?_ ?_
   | refine LeO.bind ?_ (fun _ => ?_)
theorem carouselref5_Scale.mono : ∀ a0 a1 a2 k, LeO (carouselref5_Scale.f k a0 a1 a2) (carouselref5_Scale.f (k + 1) a0 a1 a2) := by
 intro a0 a1 a2 k
 have ih0 := carouselref5_Scale.mono_l k
 unfold carouselref5_Scale.f
 repeat' first
   | (with_reducible exact ih0 _ _ _ _ _ _)
   | (with_reducible exact carouselref5_Is.mono _ _ _)
   | (with_reducible exact carouselref5_New.mono _ _ _)
   | (with_reducible exact LeO.refl _)
   | (with_reducible exact LeO.none _)
   | (with_reducible refine LeO.ite ?_ ?_)
   | (with_reducible refine LeO.bind ?_ (fun _ => ?_))
   | exact ih0 _ _ _ _ _ _
   | exact carouselref5_Is.mono _ _ _
   | exact carouselref5_New.mono _ _ _
   | exact LeO.none _
   | refine LeO.ite ?_ ?_
   | refine LeO.bind ?_ (fun _ => ?_)
def carouselref5_Scale.T7 : Bool × List (List Nat × List Nat) := (true, [([], []), ([0], [0]), ([], []), ([], []), ([3], [3]), ([], []), ([4, 5], [4, 5]), ([6], [6]), ([], []), ([7, 8], [7, 8]), ([1, 2, 0, 1, 2, 3, 4, 5, 6, 7, 8, 9], [1, 2]), ([10, 9, 9, 0, 1, 2, 3, 4, 5, 6, 7, 8, 9], [9, 10])])
def carouselref5_Scale.B7 : List Nat := [0, 1, 0, 0, 8, 0, 56, 120, 0, 504, 1023, 2047]
theorem carouselref5_Scale.tab7 : rtab .any (opsOf Try.f29 7) = carouselref5_Scale.T7 := by kernel_rfl
theorem carouselref5_Scale.bits7 : waitsOk carouselref5_Scale.T7.2 carouselref5_Scale.B7 = true := by kernel_rfl
set_option maxHeartbeats 8000000 in
set_option maxRecDepth 100000 in
theorem carouselref5_Scale.calls (k : Nat) (A0_0 : Option Addr) (c0_0 : Nat) (l0_0 : List Int) (A0_1 : Option Addr) (c0_1 : Nat) (l0_1 : List Int) (a1 : Int) (r1 : List Int) (r2 : List Int) (r3 : Int) (w : World) (hr0_0 : Kd.C (Kd.int .i64) w A0_0 l0_0.length l0_0) (hc0_0 : l0_0.length ≤ c0_0) (hr0_1 : Kd.C (Kd.int .i64) w A0_1 l0_1.length l0_1) (hc0_1 : l0_1.length ≤ c0_1) (h : carouselref5_Scale.f k l0_0 l0_1 a1 = some (r1, r2, r3)) :
  Calls Try.prog 29 #[.agg #[.slice A0_0 l0_0.length c0_0, .slice A0_1 l0_1.length c0_1], .int .i64 a1] w fun e w' => ∃ v0_ v1_ : Value, e = .returned (.tuple #[.agg #[v0_, v1_], .int .i64 r3]) ∧ Kd.R (Kd.int .i64) 3 w' w.heap.size (fun _ => True) v0_ r1 ∧ Kd.R (Kd.int .i64) 23 w' w.heap.size (fun _ => True) v1_ r2 ∧ Below w.heap.size w w' := by
 have hu27 := Try.underlying27
 have HR0_0 := Aside0.mk hr0_0
 have HC0_0 := Aside0.mk hc0_0
 clear hr0_0 hc0_0
 have HR0_1 := Aside0.mk hr0_1
 have HC0_1 := Aside0.mk hc0_1
 clear hr0_1 hc0_1
 have HB := Aside0.mk (Below.refl w.heap.size w)
 have H : ((carouselref5_Is.f k l0_0 l0_1).bind fun t354 => (if t354 = true then ((carouselref5_New.f k l0_0 0).bind fun bt355 => (carouselref5_Scale.l0 k a1 0 l0_0 l0_1 bt355.1 bt355.2)) else (some (([] : List Int), ([] : List Int), 1)))) = some (r1, r2, r3) := h
 clear h
 replace H := Option.bind_eq_some_iff.mp H
 obtain ⟨t354, A30, H⟩ := H
 (try dsimp only at H)
 have A3 := Aside0.mk A30
 clear A30
 by_cases c4 : t354 = true
 rotate_left
 ·replace c4 := Bool.eq_false_iff.mpr c4
  subst c4
  have H1 : (some (([] : List Int), ([] : List Int), 1)) = some (r1, r2, r3) := by rw [if_neg (show ¬ (false = true) by decide)] at H; exact H
  clear H
  have H := H1
  clear H1
  simp only [Option.some.injEq, Prod.mk.injEq] at H
  obtain ⟨rfl, rfl, rfl⟩ := H
  go_enter Try.func29, Try.ntmps29
  go_wp2_with (first | ((with_reducible refine gate_dst (N := 2) rfl ?_); refine box_event ?hg (N := 2) ?hd (cs := #[.slice A0_0 l0_0.length c0_0, .slice A0_1 l0_1.length c0_1]) (t := 27) ?hr ?_; (case hd => rfl); (case hg => rfl); (case hr => first | (go_simp; done) | (go_simp; rfl)); intro gb352 hg w37 hbox hb; have BK352 := Aside0.mk (hbox); have GW352 := Aside0.mk (zs_ hg (zw0_ HB)); have GE352 := Aside0.mk (zs_ hg (zw0_ HB)); replace HB := Aside0.mk (below_step (zw0_ HB) hb); clear hb hbox hg) | ((with_reducible refine gate_dst (N := 4) rfl ?_); refine box_event ?hg (N := 4) ?hd (cs := #[.slice none 0 0, .slice none 0 0]) (t := 27) ?hr ?_; (case hd => rfl); (case hg => rfl); (case hr => first | (go_simp; done) | (go_simp; rfl)); intro gb353 hg w38 hbox hb; have BK353 := Aside0.mk (hbox); have GW353 := Aside0.mk (zs_ hg (zw1_ HB GE352)); have GE353 := Aside0.mk (zs_ hg (zw1_ HB GE352)); replace HB := Aside0.mk (below_step (zw1_ HB GE352) hb); have NB352_353 := Aside0.mk (zn_ hg BK352); have NB353_352 := Aside0.mk (zm_ hg BK352); replace BK352 := za_ BK352 hb; clear hb hbox hg; have hnb39 := NB352_353.out; have hnc39 := NB353_352.out; have hcz40_0 := zx_ (v := .slice A0_0 l0_0.length c0_0) BK352 0; have hcz40_1 := zx_ (v := .slice A0_1 l0_1.length c0_1) BK352 1; have hfz40_0 := blk_frozen BK352.out 0; have hfz40_1 := blk_frozen BK352.out 1) | ((with_reducible refine gate_callee (f := 18) rfl ?_); refine zg_ (some 9) Try.func18 #[.agg #[.slice A0_0 l0_0.length c0_0, .slice A0_1 l0_1.length c0_1]] (h := ?_); (with_reducible refine (carouselref5_Is.calls k _ _ l0_0 _ _ l0_1 false _ ?side1 ?side2 ?side3 ?side4 A3.out).mono ?_); (case side1 => exact zk_ (Kd.C_below HR0_0.out HB.out)); (case side2 => exact HC0_0.out); (case side3 => exact zk_ (Kd.C_below HR0_1.out HB.out)); (case side4 => exact HC0_1.out); rintro e w41 ⟨rfl, hb⟩; refine ⟨_, rfl, ?_⟩; replace BK352 := za_ BK352 hb; replace BK353 := za_ BK353 hb; replace HB := Aside0.mk (below_step (zw2_ HB GE352 GE353) hb); (try clear hb); have hcz42_0 := zx_ (v := .slice none 0 0) BK353 0; have hcz42_1 := zx_ (v := .slice none 0 0) BK353 1; have hfz42_0 := blk_frozen BK353.out 0; have hfz42_1 := blk_frozen BK353.out 1))
  refine bodyPost_ret (results_ct rfl _ _ gb353 27 #[.slice none 0 0, .slice none 0 0] (0, 0) _ rfl (zo2_ BK353) Try.underlying27 rfl (by kernel_rfl)) rfl ?_
  exact ⟨_, _, z0_, z2_, z2_, zw2_ HB GE352 GE353⟩
 subst c4
 have H1 := H
 rw [if_pos rfl] at H1
 clear H
 have H := H1
 clear H1
 replace H := Option.bind_eq_some_iff.mp H
 obtain ⟨⟨t355, t358⟩, A50, H⟩ := H
 replace H : (carouselref5_Scale.l0 k a1 0 l0_0 l0_1 t355 t358) = some (r1, r2, r3) := H
 have A5 := Aside0.mk A50
 clear A50
 have H' := Aside0.mk H
 clear H
 go_enter Try.func29, Try.ntmps29
 go_wp2_with (first | ((with_reducible refine gate_dst (N := 2) rfl ?_); refine box_event ?hg (N := 2) ?hd (cs := #[.slice A0_0 l0_0.length c0_0, .slice A0_1 l0_1.length c0_1]) (t := 27) ?hr ?_; (case hd => rfl); (case hg => rfl); (case hr => first | (go_simp; done) | (go_simp; rfl)); intro gb352 hg w6 hbox hb; have BK352 := Aside0.mk (hbox); have GW352 := Aside0.mk (zs_ hg (zw0_ HB)); have GE352 := Aside0.mk (zs_ hg (zw0_ HB)); replace HB := Aside0.mk (below_step (zw0_ HB) hb); clear hb hbox hg) | ((with_reducible refine gate_dst (N := 4) rfl ?_); refine box_event ?hg (N := 4) ?hd (cs := #[.slice none 0 0, .slice none 0 0]) (t := 27) ?hr ?_; (case hd => rfl); (case hg => rfl); (case hr => first | (go_simp; done) | (go_simp; rfl)); intro gb353 hg w7 hbox hb; have BK353 := Aside0.mk (hbox); have GW353 := Aside0.mk (zs_ hg (zw1_ HB GE352)); have GE353 := Aside0.mk (zs_ hg (zw1_ HB GE352)); replace HB := Aside0.mk (below_step (zw1_ HB GE352) hb); have NB352_353 := Aside0.mk (zn_ hg BK352); have NB353_352 := Aside0.mk (zm_ hg BK352); replace BK352 := za_ BK352 hb; clear hb hbox hg; have hnb8 := NB352_353.out; have hnc8 := NB353_352.out; have hcz9_0 := zx_ (v := .slice A0_0 l0_0.length c0_0) BK352 0; have hcz9_1 := zx_ (v := .slice A0_1 l0_1.length c0_1) BK352 1; have hfz9_0 := blk_frozen BK352.out 0; have hfz9_1 := blk_frozen BK352.out 1) | ((with_reducible refine gate_callee (f := 18) rfl ?_); refine zg_ (some 9) Try.func18 #[.agg #[.slice A0_0 l0_0.length c0_0, .slice A0_1 l0_1.length c0_1]] (h := ?_); (with_reducible refine (carouselref5_Is.calls k _ _ l0_0 _ _ l0_1 true _ ?side1 ?side2 ?side3 ?side4 A3.out).mono ?_); (case side1 => exact zk_ (Kd.C_below HR0_0.out HB.out)); (case side2 => exact HC0_0.out); (case side3 => exact zk_ (Kd.C_below HR0_1.out HB.out)); (case side4 => exact HC0_1.out); rintro e w10 ⟨rfl, hb⟩; refine ⟨_, rfl, ?_⟩; replace BK352 := za_ BK352 hb; replace BK353 := za_ BK353 hb; replace HB := Aside0.mk (below_step (zw2_ HB GE352 GE353) hb); (try clear hb); have hcz11_0 := zx_ (v := .slice A0_0 l0_0.length c0_0) BK352 0; have hcz11_1 := zx_ (v := .slice A0_1 l0_1.length c0_1) BK352 1; have hfz11_0 := blk_frozen BK352.out 0; have hfz11_1 := blk_frozen BK352.out 1) | ((with_reducible refine gate_callee (f := 15) rfl ?_); refine zg_ (some 14) Try.func15 #[.slice A0_0 l0_0.length c0_0, .int .i64 0] (h := ?_); (with_reducible refine (carouselref5_New.calls k _ _ l0_0 0 t355 t358 _ ?side1 ?side2 A5.out).mono ?_); (case side1 => exact zk_ (Kd.C_below HR0_0.out HB.out)); (case side2 => exact HC0_0.out); rintro e w12 ⟨v356, v359, rfl, ho0, ho1, hb⟩; refine ⟨_, rfl, ?_⟩; have HO357 := Aside0.mk (Kd.R_lower ho0 (below_size (zw2_ HB GE352 GE353))); have HO360 := Aside0.mk (Kd.R_lower ho1 (below_size (zw2_ HB GE352 GE353))); replace BK352 := za_ BK352 hb; replace BK353 := za_ BK353 hb; replace HB := Aside0.mk (below_step (zw2_ HB GE352 GE353) hb); (try clear hb); (try clear ho0); (try clear ho1)) | ((with_reducible refine gate_dst (N := 6) rfl ?_); refine box_event ?hg (N := 6) ?hd (cs := #[.slice none 0 0, .slice none 0 0]) (t := 27) ?hr ?_; (case hd => rfl); (case hg => rfl); (case hr => first | (go_simp; done) | (go_simp; rfl)); intro gb361 hg w13 hbox hb; replace HO357 := zy_ HO357 hb; replace HO360 := zy_ HO360 hb; have BK361 := Aside0.mk (hbox); have GW361 := Aside0.mk (zs_ hg (zw2_ HB GE352 GE353)); have GE361 := Aside0.mk (zs_ hg (zw2_ HB GE352 GE353)); replace HB := Aside0.mk (below_step (zw2_ HB GE352 GE353) hb); have NB352_361 := Aside0.mk (zn_ hg BK352); have NB361_352 := Aside0.mk (zm_ hg BK352); replace BK352 := za_ BK352 hb; have NB353_361 := Aside0.mk (zn_ hg BK353); have NB361_353 := Aside0.mk (zm_ hg BK353); replace BK353 := za_ BK353 hb; clear hb hbox hg; obtain ⟨Ao14, co14, eo14⟩ := Kd.R_slice HO357.out; subst eo14; have hnb15 := NB361_352.out; have hnc15 := NB352_361.out; have hnb16 := NB361_353.out; have hnc16 := NB353_361.out; have hcz17_0 := zx_ (v := .slice none 0 0) BK361 0; have hcz17_1 := zx_ (v := .slice none 0 0) BK361 1; have hfz17_0 := blk_frozen BK361.out 0; have hfz17_1 := blk_frozen BK361.out 1; obtain ⟨Ao18, co18, eo18⟩ := Kd.R_slice HO360.out; subst eo18))
 go_loopg [7] k (fun kq v7 w' => ∃ (x7_1 : Int) (x362001_1 : List Int) (u362001 : Value), v7 = .int .i64 x7_1 ∧ Aside0 (carouselref5_Scale.l0 kq a1 x7_1 l0_0 l0_1 t355 x362001_1 = some (r1, r2, r3)) ∧ Aside0 (kq ≤ k) ∧ Aside0 (Kd.R (Kd.int .i64) 3 w' w.heap.size (fun _ => True) (.slice Ao14 t355.length co14) t355) ∧ Aside0 (Kd.R (Kd.int .i64) 23 w' w.heap.size (fun _ => True) u362001 x362001_1) ∧ Aside0 (w'.heap[gb352]? = some (.cells #[(.slice A0_0 l0_0.length c0_0), (.slice A0_1 l0_1.length c0_1)] 27 (0, 0))) ∧ Aside0 (w'.heap[gb353]? = some (.cells #[(.slice none 0 0), (.slice none 0 0)] 27 (0, 0))) ∧ Aside0 (w'.heap[gb361]? = some (.cells #[(.slice Ao14 t355.length co14), u362001] 27 (0, 0))) ∧ Aside0 (Below w.heap.size w w'))
 case atStart => exact ⟨(0), (t358), (.slice Ao18 t358.length co18), z1_, H', ⟨Nat.le_refl _⟩, ⟨zr_ (Kd.R_mono (Kd.R_far (p := ⟨gb361, 1, none⟩) (Kd.R_far (p := ⟨gb361, 0, none⟩) (Kd.R_types HO357.out BK361.out (by decide)) (fun _ hk => hk.2) (.slice Ao14 t355.length co14)) (fun _ hk => hk.2) (.slice Ao18 t358.length co18)) (fun _ hk => trivial))⟩, ⟨zr_ (Kd.R_mono (Kd.R_far (p := ⟨gb361, 1, none⟩) (Kd.R_far (p := ⟨gb361, 0, none⟩) (Kd.R_types HO360.out BK361.out (by decide)) (fun _ hk => hk.2) (.slice Ao14 t355.length co14)) (fun _ hk => hk.2) (.slice Ao18 t358.length co18)) (fun _ hk => trivial))⟩, ⟨zv1_ BK352 NB352_361⟩, ⟨zv1_ BK353 NB353_361⟩, ⟨zo2_ BK361⟩, ⟨zw3_ HB GE352 GE353 GE361⟩⟩
 case round =>
  clear H'
  try clear c1
  try clear c2
  try clear p2
  try clear c4
  try clear c8
  try clear c15
  try clear c16
  try clear c18
  try clear hcz11_0
  try clear hcz11_1
  try clear hcz17_0
  try clear hcz17_1
  try clear hcz9_0
  try clear hcz9_1
  try clear hfz11_0
  try clear hfz11_1
  try clear hfz17_0
  try clear hfz17_1
  try clear hfz9_0
  try clear hfz9_1
  obtain ⟨x7_1, x362001_1, u362001, rfl, HA, HK1, HO_362000, HO_362001, BK352, BK353, BK361, HB⟩ := hrel
  cases gk with
  | zero => exact absurd HA.out (by simp [carouselref5_Scale.l0])
  | succ k1 =>
   have H := HA.out
   clear HA
   simp only [carouselref5_Scale.l0] at H
   by_cases c19 : x7_1 < (x362001_1.length : Int)
   rotate_left
   ·rw [if_neg c19] at H
    have c19b0 : decide (x7_1 < (x362001_1.length : Int)) = false := decide_eq_false c19
    clear c19
    simp only [Option.some.injEq, Prod.mk.injEq] at H
    obtain ⟨rfl, rfl, rfl⟩ := H
    have hnb31 := NB361_352.out
    have hnc31 := NB352_361.out
    have hnb32 := NB361_353.out
    have hnc32 := NB353_361.out
    have hcz33_0 := zx_ (v := .slice Ao14 t355.length co14) BK361 0
    have hcz33_1 := zx_ (v := u362001) BK361 1
    have hfz33_0 := blk_frozen BK361.out 0
    have hfz33_1 := blk_frozen BK361.out 1
    obtain ⟨Ao34, co34, eo34⟩ := Kd.R_slice HO_362001.out
    subst eo34
    have hnb35 := NB353_352.out
    have hnc35 := NB352_353.out
    have hcz36_0 := zx_ (v := .slice none 0 0) BK353 0
    have hcz36_1 := zx_ (v := .slice none 0 0) BK353 1
    have hfz36_0 := blk_frozen BK353.out 0
    have hfz36_1 := blk_frozen BK353.out 1
    go_wp2
    refine bodyPost_ret (results_ct rfl _ _ gb353 27 #[.slice Ao14 t355.length co14, .slice Ao34 x362001_1.length co34] (0, 0) _ rfl (zo2_ BK353) Try.underlying27 rfl (by kernel_rfl)) rfl ?_
    exact ⟨_, _, z0_, zr_ (Kd.R_mono (Kd.R_far (p := ⟨gb353, 1, none⟩) (Kd.R_far (p := ⟨gb353, 0, none⟩) (Kd.R_types HO_362000.out BK353.out (by decide)) (fun _ hk => hk.2) (.slice Ao14 t355.length co14)) (fun _ hk => hk.2) (.slice Ao34 x362001_1.length co34)) (fun _ hk => trivial)), zr_ (Kd.R_mono (Kd.R_far (p := ⟨gb353, 1, none⟩) (Kd.R_far (p := ⟨gb353, 0, none⟩) (Kd.R_types HO_362001.out BK353.out (by decide)) (fun _ hk => hk.2) (.slice Ao14 t355.length co14)) (fun _ hk => hk.2) (.slice Ao34 x362001_1.length co34)) (fun _ hk => trivial)), zw3_ HB GE352 GE353 GE361⟩
   rw [if_pos c19] at H
   have c19b0 : decide (x7_1 < (x362001_1.length : Int)) = true := decide_eq_true c19
   clear c19
   by_cases c20 : 0 ≤ x7_1
   rotate_left
   ·rw [if_neg c20] at H
    exact absurd H (by simp)
   rw [if_pos c20] at H
   have c20b0 : decide (0 ≤ x7_1) = true := decide_eq_true c20
   clear c20
   by_cases c21 : x7_1 < (l0_1.length : Int)
   rotate_left
   ·rw [if_neg c21] at H
    exact absurd H (by simp)
   rw [if_pos c21] at H
   have c21b0 : decide (x7_1 < (l0_1.length : Int)) = true := decide_eq_true c21
   clear c21
   replace H := Option.bind_eq_some_iff.mp H
   obtain ⟨t363, A220, H⟩ := H
   replace H : (carouselref5_Scale.l0 k1 a1 (wrap64 (x7_1 + 1)) l0_0 l0_1 t355 (x362001_1.set (x7_1 : Int).toNat t363)) = some (r1, r2, r3) := H
   have A22 := Aside0.mk A220
   clear A220
   obtain ⟨y364, hy364⟩ : ∃ y_ : List Int, y_ = (x362001_1.set (x7_1 : Int).toNat t363) := ⟨_, rfl⟩
   replace H : (carouselref5_Scale.l0 k1 a1 (wrap64 (x7_1 + 1)) l0_0 l0_1 t355 y364) = some (r1, r2, r3) := by first | (rw [hy364]; with_reducible exact H) | (have H2_ := (Option.bind_some _ _).symm.trans H; rw [hy364]; with_reducible exact H2_) | (have H2_ := (Option.bind_some _ _).symm.trans H; with_reducible exact H2_) | with_reducible exact H | (rw [hy364]; exact H) | exact H
   have Ny364 := Aside0.mk hy364
   clear hy364
   have H' := Aside0.mk H
   clear H
   have hnb24 := NB361_352.out
   have hnc24 := NB352_361.out
   have hnb25 := NB361_353.out
   have hnc25 := NB353_361.out
   have hcz26_0 := zx_ (v := .slice Ao14 t355.length co14) BK361 0
   have hcz26_1 := zx_ (v := u362001) BK361 1
   have hfz26_0 := blk_frozen BK361.out 0
   have hfz26_1 := blk_frozen BK361.out 1
   obtain ⟨Ao27, co27, eo27⟩ := Kd.R_slice HO_362001.out
   subst eo27
   try go_wp2
   replace HO_362000 := Aside0.mk (Kd.R_drew HO_362000.out)
   replace HO_362001 := Aside0.mk (Kd.R_drew HO_362001.out)
   replace BK352 := Aside0.mk (blk_drew BK352.out)
   replace BK353 := Aside0.mk (blk_drew BK353.out)
   replace BK361 := Aside0.mk (blk_drew BK361.out)
   replace HB := Aside0.mk (below_drew1 HB.out)
   have p362 : 0 ≤ (x7_1 : Int) := of_decide_eq_true (by first | (with_reducible assumption) | assumption)
   have q362 : x7_1 < (l0_1.length : Int) := of_decide_eq_true (by first | (with_reducible assumption) | assumption)
   obtain ⟨ad362, e362, hx362_0⟩ := Kd.at_int HR0_1.out x7_1 p362 q362
   have hw362_0 := hx362_0
   cases e362
   replace hx362_0 := (HB.out.cell (World.block_lt_of_cell? w _ hx362_0)).trans hx362_0
   replace p362 := eq_true p362
   replace q362 := eq_true q362
   refine start_ (n := 12) (S := fun w' => w'.cell? ⟨gb361, 0, none⟩ = some (.slice Ao14 t355.length co14) ∧ w'.cell? ⟨gb361, 1, none⟩ = some (.slice Ao27 x362001_1.length co27) ∧ w'.cell? ⟨gb352, 0, none⟩ = some (.slice A0_0 l0_0.length c0_0) ∧ w'.cell? ⟨gb352, 1, none⟩ = some (.slice (some ad362) l0_1.length c0_1) ∧ w'.cell? (ad362.add (x7_1).toNat) = some (.int .i64 (rd l0_1 x7_1))) (ds := [11]) #[false, false, false, false, false, false, false, false, false, false, false, false] (by kernel_rfl) rfl rfl ⟨(blk_cell BK361.out 0).trans rfl, (blk_cell BK361.out 1).trans rfl, (blk_cell BK352.out 0).trans rfl, (blk_cell BK352.out 1).trans rfl, ((HB.out.cell (World.block_lt_of_cell? w _ hw362_0)).trans hw362_0)⟩ (fun hHeld => ?_); refine with_tabW carouselref5_Scale.tab7 carouselref5_Scale.bits7 (fun HT_ HW_ => ?_)
   generalize wr.drew = w28 at HO_362000 HO_362001 BK352 BK353 BK361 HB hx362_0 hHeld ⊢
   refine yp_ ?_ 0 22
   refine yp_ ?_ 2 24
   refine yp_ ?_ 3 25
   refine yp_ ?_ 5 27
   refine yp_ ?_ 8 30
   refine yt5_ ?_ 1 23
   refine yt5_ ?_ 4 26
   refine yp_ ?_ 6 28
   refine yt5_ ?_ 7 29
   refine yo_ 9 (some 31) (fun K hK => ?_)
   refine yg_ Try.func50 #[.int .i64 (rd l0_1 x7_1), .int .i64 a1] ?_
   with_reducible refine (carouselref1_Mul.calls k1 (rd l0_1 x7_1) a1 t363 _ A22.out).mono ?_
   rintro e w29 ⟨rfl, hb⟩
   refine ⟨_, rfl, ?_⟩
   replace HO_362000 := zy_ HO_362000 hb
   replace HO_362001 := zy_ HO_362001 hb
   replace BK352 := za_ BK352 hb
   replace BK353 := za_ BK353 hb
   replace BK361 := za_ BK361 hb
   replace HB := Aside0.mk (below_step (zw3_ HB GE352 GE353 GE361) hb)
   (try clear hb)
   (try clear hb2)
   (try clear hk)
   (try clear hi)
   have p23 : 0 ≤ (x7_1 : Int) := of_decide_eq_true (by first | (with_reducible assumption) | assumption)
   have q23 : (x7_1 : Int) < ((x362001_1.length : Int) : Int) := of_decide_eq_true (by first | (with_reducible assumption) | assumption)
   obtain ⟨go23, co23, eo23, gb23, gl23, cl23, HG23⟩ := Kd.R_form HO_362001.out (by omega)
   (first | cases eo23 | (injection eo23 with ea_ en_ ec_; (first | subst ea_ | (injection ea_ with ea_; subst ea_)); subst ec_; clear en_))
   have GB23 := Aside0.mk gb23
   have GG23 := Aside0.mk HG23
   clear gb23 gl23 HG23
   obtain ⟨hx23_0, hf23_0⟩ := Kd.R_celln 0 HO_362001.out (x7_1 : Int) p23 q23
   replace p23 := eq_true p23
   replace q23 := eq_true q23
   have HP30 := Kd.R_putn HO_362001.out (x7_1 : Int) t363
   rw [← Ny364.out] at HP30
   have HQ30 := Aside0.mk HP30
   clear HP30
   refine hK.out _ _ ⟨(blk_cell BK361.out 0).trans rfl, (blk_cell BK361.out 1).trans rfl, (blk_cell BK352.out 0).trans rfl, (blk_cell BK352.out 1).trans rfl, ((HB.out.cell (World.block_lt_of_cell? w _ hw362_0)).trans hw362_0)⟩ (fun hHeld => ?_)
   clear hK K
   refine zq_ (some 31) (h := ?_)
   refine yp_ ?_ 10 32
   refine yl_ 11 none (fun K hK => ?_)
   refine skip_ (w1 := ?_) (by rfl) rfl ?_ ?_
   rotate_left
   ·go_simp
    rfl
   refine hK.out _ _ ?_
   clear hK K
   refine done_ (done_of HT_.out (by kernel_rfl)) ?_
   try go_wp2
   go_roundg k1
   case measure => have := HK1.out; omega
   case rel => exact ⟨(wrap64 (x7_1 + 1)), (y364), (.slice (some ⟨go23, 0, none⟩) x362001_1.length co27), z1_, H', ⟨by have := HK1.out; omega⟩, ⟨zr_ (Kd.R_mono (Kd.R_far (p := ⟨go23, (x7_1 : Int).toNat, none⟩) (Kd.R_types HO_362000.out GG23.out (by decide)) (fun _ hk => hk.2) (.int .i64 t363)) (fun _ hk => trivial))⟩, ⟨zr_ HQ30.out⟩, ⟨by (with_reducible repeat (first | refine blk_drewN ?_ _ | refine blk_drew ?_ | refine blk_alloc ?_ _)); refine blk_far ?_ (by have h_ := Kd.R_ne HO_362001.out BK352.out (by decide); intro e_; exact h_ (by rw [e_]; rfl)) _; (with_reducible repeat (first | refine blk_drewN ?_ _ | refine blk_drew ?_ | refine blk_alloc ?_ _)); exact BK352.out⟩, ⟨by (with_reducible repeat (first | refine blk_drewN ?_ _ | refine blk_drew ?_ | refine blk_alloc ?_ _)); refine blk_far ?_ (by have h_ := Kd.R_ne HO_362001.out BK353.out (by decide); intro e_; exact h_ (by rw [e_]; rfl)) _; (with_reducible repeat (first | refine blk_drewN ?_ _ | refine blk_drew ?_ | refine blk_alloc ?_ _)); exact BK353.out⟩, ⟨by (with_reducible repeat (first | refine blk_drewN ?_ _ | refine blk_drew ?_ | refine blk_alloc ?_ _)); refine blk_far ?_ (by have h_ := Kd.R_ne HO_362001.out BK361.out (by decide); intro e_; exact h_ (by rw [e_]; rfl)) _; (with_reducible repeat (first | refine blk_drewN ?_ _ | refine blk_drew ?_ | refine blk_alloc ?_ _)); exact BK361.out⟩, ⟨by repeat (first | (with_reducible first | exact HB.out | apply below_alloc | apply pw_below_drewN | apply below_drew1 | refine below_set ?_ GB23.out | refine below_set ?_ GE352.out | refine below_set ?_ GE353.out | refine below_set ?_ GE361.out) | exact HB.out)⟩⟩

end Go.Proofs.Ytbdhabpplidgfaa.PTensTurns
