/- The functions that the law TensEach reaches, as Lean functions, and that each call of the Go function does what its Lean function says, wherever that one answers. Written by a program of mine over the print of the kit; Lean checks it. -/
import Derived.Test.YtbdhabpplidgfaaPTensEachx0
import Derived.Test.YtbdhabpplidgfaaPTensEachx6
import Derived.Test.YtbdhabpplidgfaaPTensEachx8
import Derived.Test.YtbdhabpplidgfaaPTensEachx9
import Derived.Test.YtbdhabpplidgfaaPTensEachx10
namespace Go.Proofs.Ytbdhabpplidgfaa.PTensEach
open Go.RowKit Go.Proofs.YtbdhabpplidgfaaW.PrintWords Go.Proofs.YtbdhabpplidgfaaW.PrintLast Go.Proofs.YtbdhabpplidgfaaW.PrintMore
attribute [local go_sem] max2_int min2_int max_two min_two max_three min_three max_four min_four   -- for this text's walks alone
set_option linter.unusedVariables false
set_option linter.unusedSimpArgs false

/-! ### tens_Add: function 19 -/
def tens_Add.f (k : Nat) (l0_0 : List Int) (l0_1 : List Int) (l1_0 : List Int) (l1_1 : List Int) : Option (List Int × List Int × Int) := (tens_both_Add.f k l0_0 l0_1 l1_0 l1_1).bind fun bt339 => (some (bt339.1, bt339.2.1, bt339.2.2))
theorem tens_Add.mono : ∀ a0 a1 a2 a3 k, LeO (tens_Add.f k a0 a1 a2 a3) (tens_Add.f (k + 1) a0 a1 a2 a3) := by
 intro a0 a1 a2 a3 k
 unfold tens_Add.f
 repeat' first
   | (with_reducible exact tens_both_Add.mono _ _ _ _ _)
   | (with_reducible exact LeO.refl _)
   | (with_reducible exact LeO.none _)
   | (with_reducible refine LeO.ite ?_ ?_)
   | (with_reducible refine LeO.bind ?_ (fun _ => ?_))
   | exact tens_both_Add.mono _ _ _ _ _
   | exact LeO.none _
   | refine LeO.ite ?_ ?_
   | refine LeO.bind ?_ (fun _ => ?_)
set_option maxHeartbeats 8000000 in
set_option maxRecDepth 100000 in
theorem tens_Add.calls (k : Nat) (A0_0 : Option Addr) (c0_0 : Nat) (l0_0 : List Int) (A0_1 : Option Addr) (c0_1 : Nat) (l0_1 : List Int) (A1_0 : Option Addr) (c1_0 : Nat) (l1_0 : List Int) (A1_1 : Option Addr) (c1_1 : Nat) (l1_1 : List Int) (r1 : List Int) (r2 : List Int) (r3 : Int) (w : World) (hr0_0 : Kd.C (Kd.int .i64) w A0_0 l0_0.length l0_0) (hc0_0 : l0_0.length ≤ c0_0) (hr0_1 : Kd.C (Kd.int .i64) w A0_1 l0_1.length l0_1) (hc0_1 : l0_1.length ≤ c0_1) (hr1_0 : Kd.C (Kd.int .i64) w A1_0 l1_0.length l1_0) (hc1_0 : l1_0.length ≤ c1_0) (hr1_1 : Kd.C (Kd.int .i64) w A1_1 l1_1.length l1_1) (hc1_1 : l1_1.length ≤ c1_1) (h : tens_Add.f k l0_0 l0_1 l1_0 l1_1 = some (r1, r2, r3)) :
  Calls Try.prog 19 #[.agg #[.slice A0_0 l0_0.length c0_0, .slice A0_1 l0_1.length c0_1], .agg #[.slice A1_0 l1_0.length c1_0, .slice A1_1 l1_1.length c1_1]] w fun e w' => ∃ v0_ v1_ : Value, e = .returned (.tuple #[.agg #[v0_, v1_], .int .i64 r3]) ∧ Kd.R (Kd.int .i64) 3 w' w.heap.size (fun _ => True) v0_ r1 ∧ Kd.R (Kd.int .i64) 23 w' w.heap.size (fun _ => True) v1_ r2 ∧ Below w.heap.size w w' := by
 have hu27 := Try.underlying27
 have HR0_0 := Aside0.mk hr0_0
 have HC0_0 := Aside0.mk hc0_0
 clear hr0_0 hc0_0
 have HR0_1 := Aside0.mk hr0_1
 have HC0_1 := Aside0.mk hc0_1
 clear hr0_1 hc0_1
 have HR1_0 := Aside0.mk hr1_0
 have HC1_0 := Aside0.mk hc1_0
 clear hr1_0 hc1_0
 have HR1_1 := Aside0.mk hr1_1
 have HC1_1 := Aside0.mk hc1_1
 clear hr1_1 hc1_1
 have HB := Aside0.mk (Below.refl w.heap.size w)
 have H : ((tens_both_Add.f k l0_0 l0_1 l1_0 l1_1).bind fun bt339 => (some (bt339.1, bt339.2.1, bt339.2.2))) = some (r1, r2, r3) := h
 clear h
 replace H := Option.bind_eq_some_iff.mp H
 obtain ⟨⟨t339, t342, t345⟩, A30, H⟩ := H
 replace H : (some (t339, t342, t345)) = some (r1, r2, r3) := H
 have A3 := Aside0.mk A30
 clear A30
 simp only [Option.some.injEq, Prod.mk.injEq] at H
 obtain ⟨rfl, rfl, rfl⟩ := H
 go_enter Try.func19, Try.ntmps19
 go_wp2_with (first | ((with_reducible refine gate_dst (N := 2) rfl ?_); refine box_event ?hg (N := 2) ?hd (cs := #[.slice A0_0 l0_0.length c0_0, .slice A0_1 l0_1.length c0_1]) (t := 27) ?hr ?_; (case hd => rfl); (case hg => rfl); (case hr => first | (go_simp; done) | (go_simp; rfl)); intro gb336 hg w4 hbox hb; have n0_ := Aside0.mk (below_step (zw0_ HB) hb); have n1_ := Aside0.mk (hbox); have n2_ := Aside0.mk (zs_ hg (zw0_ HB)); have n3_ := Aside0.mk (zs_ hg (zw0_ HB)); clear HB; have HB := n0_; have BK336 := n1_; have GW336 := n2_; have GE336 := n3_; clear n0_ n1_ n2_ n3_; clear hb hbox hg) | ((with_reducible refine gate_dst (N := 3) rfl ?_); refine box_event ?hg (N := 3) ?hd (cs := #[.slice A1_0 l1_0.length c1_0, .slice A1_1 l1_1.length c1_1]) (t := 27) ?hr ?_; (case hd => rfl); (case hg => rfl); (case hr => first | (go_simp; done) | (go_simp; rfl)); intro gb337 hg w5 hbox hb; have n0_ := Aside0.mk (zl_ BK336 hb); have n1_ := Aside0.mk (below_step (zw1_ HB GE336) hb); have n2_ := Aside0.mk (hbox); have n3_ := Aside0.mk (zs_ hg (zw1_ HB GE336)); have n4_ := Aside0.mk (zs_ hg (zw1_ HB GE336)); have n5_ := Aside0.mk (zn_ hg BK336); have n6_ := Aside0.mk (zm_ hg BK336); clear BK336 HB; have BK336 := n0_; have HB := n1_; have BK337 := n2_; have GW337 := n3_; have GE337 := n4_; have NB336_337 := n5_; have NB337_336 := n6_; clear n0_ n1_ n2_ n3_ n4_ n5_ n6_; clear hb hbox hg) | ((with_reducible refine gate_dst (N := 4) rfl ?_); refine box_event ?hg (N := 4) ?hd (cs := #[.slice none 0 0, .slice none 0 0]) (t := 27) ?hr ?_; (case hd => rfl); (case hg => rfl); (case hr => first | (go_simp; done) | (go_simp; rfl)); intro gb338 hg w6 hbox hb; have n0_ := Aside0.mk (zl_ BK336 hb); have n1_ := Aside0.mk (zl_ BK337 hb); have n2_ := Aside0.mk (below_step (zw2_ HB GE336 GE337) hb); have n3_ := Aside0.mk (hbox); have n4_ := Aside0.mk (zs_ hg (zw2_ HB GE336 GE337)); have n5_ := Aside0.mk (zs_ hg (zw2_ HB GE336 GE337)); have n6_ := Aside0.mk (zn_ hg BK336); have n7_ := Aside0.mk (zm_ hg BK336); have n8_ := Aside0.mk (zn_ hg BK337); have n9_ := Aside0.mk (zm_ hg BK337); clear BK336 BK337 HB; have BK336 := n0_; have BK337 := n1_; have HB := n2_; have BK338 := n3_; have GW338 := n4_; have GE338 := n5_; have NB336_338 := n6_; have NB338_336 := n7_; have NB337_338 := n8_; have NB338_337 := n9_; clear n0_ n1_ n2_ n3_ n4_ n5_ n6_ n7_ n8_ n9_; clear hb hbox hg; have hnb7 := NB336_337.out; have hnc7 := NB337_336.out; have hnb8 := NB336_338.out; have hnc8 := NB338_336.out; have hcz9_0 := zx_ (v := .slice A0_0 l0_0.length c0_0) BK336 0; have hcz9_1 := zx_ (v := .slice A0_1 l0_1.length c0_1) BK336 1; have hfz9_0 := blk_frozen BK336.out 0; have hfz9_1 := blk_frozen BK336.out 1; have hnb10 := NB337_338.out; have hnc10 := NB338_337.out; have hcz11_0 := zx_ (v := .slice A1_0 l1_0.length c1_0) BK337 0; have hcz11_1 := zx_ (v := .slice A1_1 l1_1.length c1_1) BK337 1; have hfz11_0 := blk_frozen BK337.out 0; have hfz11_1 := blk_frozen BK337.out 1) | ((with_reducible refine gate_callee (f := 39) rfl ?_); refine zg_ (some 8) Try.func39 #[.agg #[.slice A0_0 l0_0.length c0_0, .slice A0_1 l0_1.length c0_1], .agg #[.slice A1_0 l1_0.length c1_0, .slice A1_1 l1_1.length c1_1], .func (.func 40) #[] #[]] (h := ?_); (with_reducible refine (tens_both_Add.calls k _ _ l0_0 _ _ l0_1 _ _ l1_0 _ _ l1_1 t339 t342 t345 _ ?side1 ?side2 ?side3 ?side4 ?side5 ?side6 ?side7 ?side8 A3.out).mono ?_); (case side1 => exact zk_ (Kd.C_below HR0_0.out HB.out)); (case side2 => exact HC0_0.out); (case side3 => exact zk_ (Kd.C_below HR0_1.out HB.out)); (case side4 => exact HC0_1.out); (case side5 => exact zk_ (Kd.C_below HR1_0.out HB.out)); (case side6 => exact HC1_0.out); (case side7 => exact zk_ (Kd.C_below HR1_1.out HB.out)); (case side8 => exact HC1_1.out); rintro e w12 ⟨v340, v343, rfl, ho0, ho1, hb⟩; refine ⟨_, rfl, ?_⟩; have n0_ := Aside0.mk (Kd.R_lower ho0 (below_size (zw3_ HB GE336 GE337 GE338))); have n1_ := Aside0.mk (Kd.R_lower ho1 (below_size (zw3_ HB GE336 GE337 GE338))); have n2_ := Aside0.mk (zl_ BK336 hb); have n3_ := Aside0.mk (zl_ BK337 hb); have n4_ := Aside0.mk (zl_ BK338 hb); have n5_ := Aside0.mk (below_step (zw3_ HB GE336 GE337 GE338) hb); clear BK336 BK337 BK338 HB; have HO341 := n0_; have HO344 := n1_; have BK336 := n2_; have BK337 := n3_; have BK338 := n4_; have HB := n5_; clear n0_ n1_ n2_ n3_ n4_ n5_; (try clear hb); (try clear hb2); (try clear hk); (try clear hi); (try clear ho0); (try clear ho1); obtain ⟨Ao13, co13, eo13⟩ := Kd.R_slice HO341.out; subst eo13; have hcz14_0 := zx_ (v := .slice none 0 0) BK338 0; have hcz14_1 := zx_ (v := .slice none 0 0) BK338 1; have hfz14_0 := blk_frozen BK338.out 0; have hfz14_1 := blk_frozen BK338.out 1; obtain ⟨Ao15, co15, eo15⟩ := Kd.R_slice HO344.out; subst eo15))
 refine bodyPost_ret (results_ct rfl _ _ gb338 27 #[.slice Ao13 t339.length co13, .slice Ao15 t342.length co15] (0, 0) _ rfl (by (with_reducible repeat (first | refine blk_drewN ?_ _ | refine blk_drew ?_ | refine blk_alloc ?_ _)); refine blk_put (cs := #[.slice Ao13 t339.length co13, .slice none 0 0]) ?_ 1 _ rfl; (with_reducible repeat (first | refine blk_drewN ?_ _ | refine blk_drew ?_ | refine blk_alloc ?_ _)); refine blk_put (cs := #[.slice none 0 0, .slice none 0 0]) ?_ 0 _ rfl; (with_reducible repeat (first | refine blk_drewN ?_ _ | refine blk_drew ?_ | refine blk_alloc ?_ _)); exact BK338.out) Try.underlying27 rfl (by kernel_rfl)) rfl ?_
 exact ⟨_, _, by first | rfl | (simp [errW_none, errW_some] <;> rfl) | (simp [*, errW_none, errW_some] <;> rfl), zr_ (Kd.R_mono (Kd.R_far (p := ⟨gb338, 1, none⟩) (Kd.R_far (p := ⟨gb338, 0, none⟩) (Kd.R_types HO341.out BK338.out (by decide)) (fun _ hk => hk.2) (.slice Ao13 t339.length co13)) (fun _ hk => hk.2) (.slice Ao15 t342.length co15)) (fun _ hk => trivial)), zr_ (Kd.R_mono (Kd.R_far (p := ⟨gb338, 1, none⟩) (Kd.R_far (p := ⟨gb338, 0, none⟩) (Kd.R_types HO344.out BK338.out (by decide)) (fun _ hk => hk.2) (.slice Ao13 t339.length co13)) (fun _ hk => hk.2) (.slice Ao15 t342.length co15)) (fun _ hk => trivial)), zw3_ HB GE336 GE337 GE338⟩

/-! ### tens_Mul: function 22 -/
def tens_Mul.f (k : Nat) (l0_0 : List Int) (l0_1 : List Int) (l1_0 : List Int) (l1_1 : List Int) : Option (List Int × List Int × Int) := (tens_both_Mul.f k l0_0 l0_1 l1_0 l1_1).bind fun bt349 => (some (bt349.1, bt349.2.1, bt349.2.2))
theorem tens_Mul.mono : ∀ a0 a1 a2 a3 k, LeO (tens_Mul.f k a0 a1 a2 a3) (tens_Mul.f (k + 1) a0 a1 a2 a3) := by
 intro a0 a1 a2 a3 k
 unfold tens_Mul.f
 repeat' first
   | (with_reducible exact tens_both_Mul.mono _ _ _ _ _)
   | (with_reducible exact LeO.refl _)
   | (with_reducible exact LeO.none _)
   | (with_reducible refine LeO.ite ?_ ?_)
   | (with_reducible refine LeO.bind ?_ (fun _ => ?_))
   | exact tens_both_Mul.mono _ _ _ _ _
   | exact LeO.none _
   | refine LeO.ite ?_ ?_
   | refine LeO.bind ?_ (fun _ => ?_)
set_option maxHeartbeats 8000000 in
set_option maxRecDepth 100000 in
theorem tens_Mul.calls (k : Nat) (A0_0 : Option Addr) (c0_0 : Nat) (l0_0 : List Int) (A0_1 : Option Addr) (c0_1 : Nat) (l0_1 : List Int) (A1_0 : Option Addr) (c1_0 : Nat) (l1_0 : List Int) (A1_1 : Option Addr) (c1_1 : Nat) (l1_1 : List Int) (r1 : List Int) (r2 : List Int) (r3 : Int) (w : World) (hr0_0 : Kd.C (Kd.int .i64) w A0_0 l0_0.length l0_0) (hc0_0 : l0_0.length ≤ c0_0) (hr0_1 : Kd.C (Kd.int .i64) w A0_1 l0_1.length l0_1) (hc0_1 : l0_1.length ≤ c0_1) (hr1_0 : Kd.C (Kd.int .i64) w A1_0 l1_0.length l1_0) (hc1_0 : l1_0.length ≤ c1_0) (hr1_1 : Kd.C (Kd.int .i64) w A1_1 l1_1.length l1_1) (hc1_1 : l1_1.length ≤ c1_1) (h : tens_Mul.f k l0_0 l0_1 l1_0 l1_1 = some (r1, r2, r3)) :
  Calls Try.prog 22 #[.agg #[.slice A0_0 l0_0.length c0_0, .slice A0_1 l0_1.length c0_1], .agg #[.slice A1_0 l1_0.length c1_0, .slice A1_1 l1_1.length c1_1]] w fun e w' => ∃ v0_ v1_ : Value, e = .returned (.tuple #[.agg #[v0_, v1_], .int .i64 r3]) ∧ Kd.R (Kd.int .i64) 3 w' w.heap.size (fun _ => True) v0_ r1 ∧ Kd.R (Kd.int .i64) 23 w' w.heap.size (fun _ => True) v1_ r2 ∧ Below w.heap.size w w' := by
 have hu27 := Try.underlying27
 have HR0_0 := Aside0.mk hr0_0
 have HC0_0 := Aside0.mk hc0_0
 clear hr0_0 hc0_0
 have HR0_1 := Aside0.mk hr0_1
 have HC0_1 := Aside0.mk hc0_1
 clear hr0_1 hc0_1
 have HR1_0 := Aside0.mk hr1_0
 have HC1_0 := Aside0.mk hc1_0
 clear hr1_0 hc1_0
 have HR1_1 := Aside0.mk hr1_1
 have HC1_1 := Aside0.mk hc1_1
 clear hr1_1 hc1_1
 have HB := Aside0.mk (Below.refl w.heap.size w)
 have H : ((tens_both_Mul.f k l0_0 l0_1 l1_0 l1_1).bind fun bt349 => (some (bt349.1, bt349.2.1, bt349.2.2))) = some (r1, r2, r3) := h
 clear h
 replace H := Option.bind_eq_some_iff.mp H
 obtain ⟨⟨t349, t352, t355⟩, A30, H⟩ := H
 replace H : (some (t349, t352, t355)) = some (r1, r2, r3) := H
 have A3 := Aside0.mk A30
 clear A30
 simp only [Option.some.injEq, Prod.mk.injEq] at H
 obtain ⟨rfl, rfl, rfl⟩ := H
 go_enter Try.func22, Try.ntmps22
 go_wp2_with (first | ((with_reducible refine gate_dst (N := 2) rfl ?_); refine box_event ?hg (N := 2) ?hd (cs := #[.slice A0_0 l0_0.length c0_0, .slice A0_1 l0_1.length c0_1]) (t := 27) ?hr ?_; (case hd => rfl); (case hg => rfl); (case hr => first | (go_simp; done) | (go_simp; rfl)); intro gb346 hg w4 hbox hb; have n0_ := Aside0.mk (below_step (zw0_ HB) hb); have n1_ := Aside0.mk (hbox); have n2_ := Aside0.mk (zs_ hg (zw0_ HB)); have n3_ := Aside0.mk (zs_ hg (zw0_ HB)); clear HB; have HB := n0_; have BK346 := n1_; have GW346 := n2_; have GE346 := n3_; clear n0_ n1_ n2_ n3_; clear hb hbox hg) | ((with_reducible refine gate_dst (N := 3) rfl ?_); refine box_event ?hg (N := 3) ?hd (cs := #[.slice A1_0 l1_0.length c1_0, .slice A1_1 l1_1.length c1_1]) (t := 27) ?hr ?_; (case hd => rfl); (case hg => rfl); (case hr => first | (go_simp; done) | (go_simp; rfl)); intro gb347 hg w5 hbox hb; have n0_ := Aside0.mk (zl_ BK346 hb); have n1_ := Aside0.mk (below_step (zw1_ HB GE346) hb); have n2_ := Aside0.mk (hbox); have n3_ := Aside0.mk (zs_ hg (zw1_ HB GE346)); have n4_ := Aside0.mk (zs_ hg (zw1_ HB GE346)); have n5_ := Aside0.mk (zn_ hg BK346); have n6_ := Aside0.mk (zm_ hg BK346); clear BK346 HB; have BK346 := n0_; have HB := n1_; have BK347 := n2_; have GW347 := n3_; have GE347 := n4_; have NB346_347 := n5_; have NB347_346 := n6_; clear n0_ n1_ n2_ n3_ n4_ n5_ n6_; clear hb hbox hg) | ((with_reducible refine gate_dst (N := 4) rfl ?_); refine box_event ?hg (N := 4) ?hd (cs := #[.slice none 0 0, .slice none 0 0]) (t := 27) ?hr ?_; (case hd => rfl); (case hg => rfl); (case hr => first | (go_simp; done) | (go_simp; rfl)); intro gb348 hg w6 hbox hb; have n0_ := Aside0.mk (zl_ BK346 hb); have n1_ := Aside0.mk (zl_ BK347 hb); have n2_ := Aside0.mk (below_step (zw2_ HB GE346 GE347) hb); have n3_ := Aside0.mk (hbox); have n4_ := Aside0.mk (zs_ hg (zw2_ HB GE346 GE347)); have n5_ := Aside0.mk (zs_ hg (zw2_ HB GE346 GE347)); have n6_ := Aside0.mk (zn_ hg BK346); have n7_ := Aside0.mk (zm_ hg BK346); have n8_ := Aside0.mk (zn_ hg BK347); have n9_ := Aside0.mk (zm_ hg BK347); clear BK346 BK347 HB; have BK346 := n0_; have BK347 := n1_; have HB := n2_; have BK348 := n3_; have GW348 := n4_; have GE348 := n5_; have NB346_348 := n6_; have NB348_346 := n7_; have NB347_348 := n8_; have NB348_347 := n9_; clear n0_ n1_ n2_ n3_ n4_ n5_ n6_ n7_ n8_ n9_; clear hb hbox hg; have hnb7 := NB346_347.out; have hnc7 := NB347_346.out; have hnb8 := NB346_348.out; have hnc8 := NB348_346.out; have hcz9_0 := zx_ (v := .slice A0_0 l0_0.length c0_0) BK346 0; have hcz9_1 := zx_ (v := .slice A0_1 l0_1.length c0_1) BK346 1; have hfz9_0 := blk_frozen BK346.out 0; have hfz9_1 := blk_frozen BK346.out 1; have hnb10 := NB347_348.out; have hnc10 := NB348_347.out; have hcz11_0 := zx_ (v := .slice A1_0 l1_0.length c1_0) BK347 0; have hcz11_1 := zx_ (v := .slice A1_1 l1_1.length c1_1) BK347 1; have hfz11_0 := blk_frozen BK347.out 0; have hfz11_1 := blk_frozen BK347.out 1) | ((with_reducible refine gate_callee (f := 39) rfl ?_); refine zg_ (some 8) Try.func39 #[.agg #[.slice A0_0 l0_0.length c0_0, .slice A0_1 l0_1.length c0_1], .agg #[.slice A1_0 l1_0.length c1_0, .slice A1_1 l1_1.length c1_1], .func (.func 44) #[] #[]] (h := ?_); (with_reducible refine (tens_both_Mul.calls k _ _ l0_0 _ _ l0_1 _ _ l1_0 _ _ l1_1 t349 t352 t355 _ ?side1 ?side2 ?side3 ?side4 ?side5 ?side6 ?side7 ?side8 A3.out).mono ?_); (case side1 => exact zk_ (Kd.C_below HR0_0.out HB.out)); (case side2 => exact HC0_0.out); (case side3 => exact zk_ (Kd.C_below HR0_1.out HB.out)); (case side4 => exact HC0_1.out); (case side5 => exact zk_ (Kd.C_below HR1_0.out HB.out)); (case side6 => exact HC1_0.out); (case side7 => exact zk_ (Kd.C_below HR1_1.out HB.out)); (case side8 => exact HC1_1.out); rintro e w12 ⟨v350, v353, rfl, ho0, ho1, hb⟩; refine ⟨_, rfl, ?_⟩; have n0_ := Aside0.mk (Kd.R_lower ho0 (below_size (zw3_ HB GE346 GE347 GE348))); have n1_ := Aside0.mk (Kd.R_lower ho1 (below_size (zw3_ HB GE346 GE347 GE348))); have n2_ := Aside0.mk (zl_ BK346 hb); have n3_ := Aside0.mk (zl_ BK347 hb); have n4_ := Aside0.mk (zl_ BK348 hb); have n5_ := Aside0.mk (below_step (zw3_ HB GE346 GE347 GE348) hb); clear BK346 BK347 BK348 HB; have HO351 := n0_; have HO354 := n1_; have BK346 := n2_; have BK347 := n3_; have BK348 := n4_; have HB := n5_; clear n0_ n1_ n2_ n3_ n4_ n5_; (try clear hb); (try clear hb2); (try clear hk); (try clear hi); (try clear ho0); (try clear ho1); obtain ⟨Ao13, co13, eo13⟩ := Kd.R_slice HO351.out; subst eo13; have hcz14_0 := zx_ (v := .slice none 0 0) BK348 0; have hcz14_1 := zx_ (v := .slice none 0 0) BK348 1; have hfz14_0 := blk_frozen BK348.out 0; have hfz14_1 := blk_frozen BK348.out 1; obtain ⟨Ao15, co15, eo15⟩ := Kd.R_slice HO354.out; subst eo15))
 refine bodyPost_ret (results_ct rfl _ _ gb348 27 #[.slice Ao13 t349.length co13, .slice Ao15 t352.length co15] (0, 0) _ rfl (by (with_reducible repeat (first | refine blk_drewN ?_ _ | refine blk_drew ?_ | refine blk_alloc ?_ _)); refine blk_put (cs := #[.slice Ao13 t349.length co13, .slice none 0 0]) ?_ 1 _ rfl; (with_reducible repeat (first | refine blk_drewN ?_ _ | refine blk_drew ?_ | refine blk_alloc ?_ _)); refine blk_put (cs := #[.slice none 0 0, .slice none 0 0]) ?_ 0 _ rfl; (with_reducible repeat (first | refine blk_drewN ?_ _ | refine blk_drew ?_ | refine blk_alloc ?_ _)); exact BK348.out) Try.underlying27 rfl (by kernel_rfl)) rfl ?_
 exact ⟨_, _, by first | rfl | (simp [errW_none, errW_some] <;> rfl) | (simp [*, errW_none, errW_some] <;> rfl), zr_ (Kd.R_mono (Kd.R_far (p := ⟨gb348, 1, none⟩) (Kd.R_far (p := ⟨gb348, 0, none⟩) (Kd.R_types HO351.out BK348.out (by decide)) (fun _ hk => hk.2) (.slice Ao13 t349.length co13)) (fun _ hk => hk.2) (.slice Ao15 t352.length co15)) (fun _ hk => trivial)), zr_ (Kd.R_mono (Kd.R_far (p := ⟨gb348, 1, none⟩) (Kd.R_far (p := ⟨gb348, 0, none⟩) (Kd.R_types HO354.out BK348.out (by decide)) (fun _ hk => hk.2) (.slice Ao13 t349.length co13)) (fun _ hk => hk.2) (.slice Ao15 t352.length co15)) (fun _ hk => trivial)), zw3_ HB GE346 GE347 GE348⟩

/-! ### tens_Sub: function 23 -/
def tens_Sub.f (k : Nat) (l0_0 : List Int) (l0_1 : List Int) (l1_0 : List Int) (l1_1 : List Int) : Option (List Int × List Int × Int) := (tens_both_Sub.f k l0_0 l0_1 l1_0 l1_1).bind fun bt359 => (some (bt359.1, bt359.2.1, bt359.2.2))
theorem tens_Sub.mono : ∀ a0 a1 a2 a3 k, LeO (tens_Sub.f k a0 a1 a2 a3) (tens_Sub.f (k + 1) a0 a1 a2 a3) := by
 intro a0 a1 a2 a3 k
 unfold tens_Sub.f
 repeat' first
   | (with_reducible exact tens_both_Sub.mono _ _ _ _ _)
   | (with_reducible exact LeO.refl _)
   | (with_reducible exact LeO.none _)
   | (with_reducible refine LeO.ite ?_ ?_)
   | (with_reducible refine LeO.bind ?_ (fun _ => ?_))
   | exact tens_both_Sub.mono _ _ _ _ _
   | exact LeO.none _
   | refine LeO.ite ?_ ?_
   | refine LeO.bind ?_ (fun _ => ?_)
set_option maxHeartbeats 8000000 in
set_option maxRecDepth 100000 in
theorem tens_Sub.calls (k : Nat) (A0_0 : Option Addr) (c0_0 : Nat) (l0_0 : List Int) (A0_1 : Option Addr) (c0_1 : Nat) (l0_1 : List Int) (A1_0 : Option Addr) (c1_0 : Nat) (l1_0 : List Int) (A1_1 : Option Addr) (c1_1 : Nat) (l1_1 : List Int) (r1 : List Int) (r2 : List Int) (r3 : Int) (w : World) (hr0_0 : Kd.C (Kd.int .i64) w A0_0 l0_0.length l0_0) (hc0_0 : l0_0.length ≤ c0_0) (hr0_1 : Kd.C (Kd.int .i64) w A0_1 l0_1.length l0_1) (hc0_1 : l0_1.length ≤ c0_1) (hr1_0 : Kd.C (Kd.int .i64) w A1_0 l1_0.length l1_0) (hc1_0 : l1_0.length ≤ c1_0) (hr1_1 : Kd.C (Kd.int .i64) w A1_1 l1_1.length l1_1) (hc1_1 : l1_1.length ≤ c1_1) (h : tens_Sub.f k l0_0 l0_1 l1_0 l1_1 = some (r1, r2, r3)) :
  Calls Try.prog 23 #[.agg #[.slice A0_0 l0_0.length c0_0, .slice A0_1 l0_1.length c0_1], .agg #[.slice A1_0 l1_0.length c1_0, .slice A1_1 l1_1.length c1_1]] w fun e w' => ∃ v0_ v1_ : Value, e = .returned (.tuple #[.agg #[v0_, v1_], .int .i64 r3]) ∧ Kd.R (Kd.int .i64) 3 w' w.heap.size (fun _ => True) v0_ r1 ∧ Kd.R (Kd.int .i64) 23 w' w.heap.size (fun _ => True) v1_ r2 ∧ Below w.heap.size w w' := by
 have hu27 := Try.underlying27
 have HR0_0 := Aside0.mk hr0_0
 have HC0_0 := Aside0.mk hc0_0
 clear hr0_0 hc0_0
 have HR0_1 := Aside0.mk hr0_1
 have HC0_1 := Aside0.mk hc0_1
 clear hr0_1 hc0_1
 have HR1_0 := Aside0.mk hr1_0
 have HC1_0 := Aside0.mk hc1_0
 clear hr1_0 hc1_0
 have HR1_1 := Aside0.mk hr1_1
 have HC1_1 := Aside0.mk hc1_1
 clear hr1_1 hc1_1
 have HB := Aside0.mk (Below.refl w.heap.size w)
 have H : ((tens_both_Sub.f k l0_0 l0_1 l1_0 l1_1).bind fun bt359 => (some (bt359.1, bt359.2.1, bt359.2.2))) = some (r1, r2, r3) := h
 clear h
 replace H := Option.bind_eq_some_iff.mp H
 obtain ⟨⟨t359, t362, t365⟩, A30, H⟩ := H
 replace H : (some (t359, t362, t365)) = some (r1, r2, r3) := H
 have A3 := Aside0.mk A30
 clear A30
 simp only [Option.some.injEq, Prod.mk.injEq] at H
 obtain ⟨rfl, rfl, rfl⟩ := H
 go_enter Try.func23, Try.ntmps23
 go_wp2_with (first | ((with_reducible refine gate_dst (N := 2) rfl ?_); refine box_event ?hg (N := 2) ?hd (cs := #[.slice A0_0 l0_0.length c0_0, .slice A0_1 l0_1.length c0_1]) (t := 27) ?hr ?_; (case hd => rfl); (case hg => rfl); (case hr => first | (go_simp; done) | (go_simp; rfl)); intro gb356 hg w4 hbox hb; have n0_ := Aside0.mk (below_step (zw0_ HB) hb); have n1_ := Aside0.mk (hbox); have n2_ := Aside0.mk (zs_ hg (zw0_ HB)); have n3_ := Aside0.mk (zs_ hg (zw0_ HB)); clear HB; have HB := n0_; have BK356 := n1_; have GW356 := n2_; have GE356 := n3_; clear n0_ n1_ n2_ n3_; clear hb hbox hg) | ((with_reducible refine gate_dst (N := 3) rfl ?_); refine box_event ?hg (N := 3) ?hd (cs := #[.slice A1_0 l1_0.length c1_0, .slice A1_1 l1_1.length c1_1]) (t := 27) ?hr ?_; (case hd => rfl); (case hg => rfl); (case hr => first | (go_simp; done) | (go_simp; rfl)); intro gb357 hg w5 hbox hb; have n0_ := Aside0.mk (zl_ BK356 hb); have n1_ := Aside0.mk (below_step (zw1_ HB GE356) hb); have n2_ := Aside0.mk (hbox); have n3_ := Aside0.mk (zs_ hg (zw1_ HB GE356)); have n4_ := Aside0.mk (zs_ hg (zw1_ HB GE356)); have n5_ := Aside0.mk (zn_ hg BK356); have n6_ := Aside0.mk (zm_ hg BK356); clear BK356 HB; have BK356 := n0_; have HB := n1_; have BK357 := n2_; have GW357 := n3_; have GE357 := n4_; have NB356_357 := n5_; have NB357_356 := n6_; clear n0_ n1_ n2_ n3_ n4_ n5_ n6_; clear hb hbox hg) | ((with_reducible refine gate_dst (N := 4) rfl ?_); refine box_event ?hg (N := 4) ?hd (cs := #[.slice none 0 0, .slice none 0 0]) (t := 27) ?hr ?_; (case hd => rfl); (case hg => rfl); (case hr => first | (go_simp; done) | (go_simp; rfl)); intro gb358 hg w6 hbox hb; have n0_ := Aside0.mk (zl_ BK356 hb); have n1_ := Aside0.mk (zl_ BK357 hb); have n2_ := Aside0.mk (below_step (zw2_ HB GE356 GE357) hb); have n3_ := Aside0.mk (hbox); have n4_ := Aside0.mk (zs_ hg (zw2_ HB GE356 GE357)); have n5_ := Aside0.mk (zs_ hg (zw2_ HB GE356 GE357)); have n6_ := Aside0.mk (zn_ hg BK356); have n7_ := Aside0.mk (zm_ hg BK356); have n8_ := Aside0.mk (zn_ hg BK357); have n9_ := Aside0.mk (zm_ hg BK357); clear BK356 BK357 HB; have BK356 := n0_; have BK357 := n1_; have HB := n2_; have BK358 := n3_; have GW358 := n4_; have GE358 := n5_; have NB356_358 := n6_; have NB358_356 := n7_; have NB357_358 := n8_; have NB358_357 := n9_; clear n0_ n1_ n2_ n3_ n4_ n5_ n6_ n7_ n8_ n9_; clear hb hbox hg; have hnb7 := NB356_357.out; have hnc7 := NB357_356.out; have hnb8 := NB356_358.out; have hnc8 := NB358_356.out; have hcz9_0 := zx_ (v := .slice A0_0 l0_0.length c0_0) BK356 0; have hcz9_1 := zx_ (v := .slice A0_1 l0_1.length c0_1) BK356 1; have hfz9_0 := blk_frozen BK356.out 0; have hfz9_1 := blk_frozen BK356.out 1; have hnb10 := NB357_358.out; have hnc10 := NB358_357.out; have hcz11_0 := zx_ (v := .slice A1_0 l1_0.length c1_0) BK357 0; have hcz11_1 := zx_ (v := .slice A1_1 l1_1.length c1_1) BK357 1; have hfz11_0 := blk_frozen BK357.out 0; have hfz11_1 := blk_frozen BK357.out 1) | ((with_reducible refine gate_callee (f := 39) rfl ?_); refine zg_ (some 8) Try.func39 #[.agg #[.slice A0_0 l0_0.length c0_0, .slice A0_1 l0_1.length c0_1], .agg #[.slice A1_0 l1_0.length c1_0, .slice A1_1 l1_1.length c1_1], .func (.func 45) #[] #[]] (h := ?_); (with_reducible refine (tens_both_Sub.calls k _ _ l0_0 _ _ l0_1 _ _ l1_0 _ _ l1_1 t359 t362 t365 _ ?side1 ?side2 ?side3 ?side4 ?side5 ?side6 ?side7 ?side8 A3.out).mono ?_); (case side1 => exact zk_ (Kd.C_below HR0_0.out HB.out)); (case side2 => exact HC0_0.out); (case side3 => exact zk_ (Kd.C_below HR0_1.out HB.out)); (case side4 => exact HC0_1.out); (case side5 => exact zk_ (Kd.C_below HR1_0.out HB.out)); (case side6 => exact HC1_0.out); (case side7 => exact zk_ (Kd.C_below HR1_1.out HB.out)); (case side8 => exact HC1_1.out); rintro e w12 ⟨v360, v363, rfl, ho0, ho1, hb⟩; refine ⟨_, rfl, ?_⟩; have n0_ := Aside0.mk (Kd.R_lower ho0 (below_size (zw3_ HB GE356 GE357 GE358))); have n1_ := Aside0.mk (Kd.R_lower ho1 (below_size (zw3_ HB GE356 GE357 GE358))); have n2_ := Aside0.mk (zl_ BK356 hb); have n3_ := Aside0.mk (zl_ BK357 hb); have n4_ := Aside0.mk (zl_ BK358 hb); have n5_ := Aside0.mk (below_step (zw3_ HB GE356 GE357 GE358) hb); clear BK356 BK357 BK358 HB; have HO361 := n0_; have HO364 := n1_; have BK356 := n2_; have BK357 := n3_; have BK358 := n4_; have HB := n5_; clear n0_ n1_ n2_ n3_ n4_ n5_; (try clear hb); (try clear hb2); (try clear hk); (try clear hi); (try clear ho0); (try clear ho1); obtain ⟨Ao13, co13, eo13⟩ := Kd.R_slice HO361.out; subst eo13; have hcz14_0 := zx_ (v := .slice none 0 0) BK358 0; have hcz14_1 := zx_ (v := .slice none 0 0) BK358 1; have hfz14_0 := blk_frozen BK358.out 0; have hfz14_1 := blk_frozen BK358.out 1; obtain ⟨Ao15, co15, eo15⟩ := Kd.R_slice HO364.out; subst eo15))
 refine bodyPost_ret (results_ct rfl _ _ gb358 27 #[.slice Ao13 t359.length co13, .slice Ao15 t362.length co15] (0, 0) _ rfl (by (with_reducible repeat (first | refine blk_drewN ?_ _ | refine blk_drew ?_ | refine blk_alloc ?_ _)); refine blk_put (cs := #[.slice Ao13 t359.length co13, .slice none 0 0]) ?_ 1 _ rfl; (with_reducible repeat (first | refine blk_drewN ?_ _ | refine blk_drew ?_ | refine blk_alloc ?_ _)); refine blk_put (cs := #[.slice none 0 0, .slice none 0 0]) ?_ 0 _ rfl; (with_reducible repeat (first | refine blk_drewN ?_ _ | refine blk_drew ?_ | refine blk_alloc ?_ _)); exact BK358.out) Try.underlying27 rfl (by kernel_rfl)) rfl ?_
 exact ⟨_, _, by first | rfl | (simp [errW_none, errW_some] <;> rfl) | (simp [*, errW_none, errW_some] <;> rfl), zr_ (Kd.R_mono (Kd.R_far (p := ⟨gb358, 1, none⟩) (Kd.R_far (p := ⟨gb358, 0, none⟩) (Kd.R_types HO361.out BK358.out (by decide)) (fun _ hk => hk.2) (.slice Ao13 t359.length co13)) (fun _ hk => hk.2) (.slice Ao15 t362.length co15)) (fun _ hk => trivial)), zr_ (Kd.R_mono (Kd.R_far (p := ⟨gb358, 1, none⟩) (Kd.R_far (p := ⟨gb358, 0, none⟩) (Kd.R_types HO364.out BK358.out (by decide)) (fun _ hk => hk.2) (.slice Ao13 t359.length co13)) (fun _ hk => hk.2) (.slice Ao15 t362.length co15)) (fun _ hk => trivial)), zw3_ HB GE356 GE357 GE358⟩

/-! ### carouselref5_New: function 15 -/
def carouselref5_New.l0 : Nat → Int → Int → List Int → List Int → Option (List Int × List Int)
 | 0, _, _, _, _ => none
 | k + 1, x1, x6, x378000, x378001 => if x6 < (x378001.length : Int) then (if 0 ≤ x6 then (carouselref5_New.l0 k x1 (wrap64 (x6 + 1)) x378000 (x378001.set (x6 : Int).toNat x1)) else (none)) else (some (x378000, x378001))
def carouselref5_New.f (k : Nat) (l0 : List Int) (a1 : Int) : Option (List Int × List Int) := (some (([] : List Int) : List Int)).bind fun y367 => (if y367.length + l0.length < 17592186044416 then ((carouselref5_Size.f k l0).bind fun t373 => (if 0 ≤ t373 then (if (t373 : Int).toNat ≤ 35184372088832 then (carouselref5_New.l0 k a1 0 (y367 ++ l0) (List.replicate (t373 : Int).toNat 0)) else (none)) else (none))) else (none))
theorem carouselref5_New.mono_l : ∀ k, (∀ y0 y1 y2 y3, LeO (carouselref5_New.l0 k y0 y1 y2 y3) (carouselref5_New.l0 (k + 1) y0 y1 y2 y3))
 | 0 => fun _ _ _ _ r h => by simp [carouselref5_New.l0] at h
 | k + 1 => by
  have ih0 := carouselref5_New.mono_l k
  ·intro y0 y1 y2 y3
   unfold carouselref5_New.l0
   repeat' first
   | (with_reducible exact ih0 _ _ _ _)
   | (with_reducible exact LeO.refl _)
   | (with_reducible exact LeO.none _)
   | (with_reducible refine LeO.ite ?_ ?_)
   | (with_reducible refine LeO.bind ?_ (fun _ => ?_))
   | exact ih0 _ _ _ _
   | exact LeO.none _
   | refine LeO.ite ?_ ?_
   | refine LeO.bind ?_ (fun _ => ?_)
theorem carouselref5_New.mono : ∀ a0 a1 k, LeO (carouselref5_New.f k a0 a1) (carouselref5_New.f (k + 1) a0 a1) := by
 intro a0 a1 k
 have ih0 := carouselref5_New.mono_l k
 unfold carouselref5_New.f
 repeat' first
   | (with_reducible exact ih0 _ _ _ _)
   | (with_reducible exact carouselref5_Size.mono _ _)
   | (with_reducible exact LeO.refl _)
   | (with_reducible exact LeO.none _)
   | (with_reducible refine LeO.ite ?_ ?_)
   | (with_reducible refine LeO.bind ?_ (fun _ => ?_))
   | exact ih0 _ _ _ _
   | exact carouselref5_Size.mono _ _
   | exact LeO.none _
   | refine LeO.ite ?_ ?_
   | refine LeO.bind ?_ (fun _ => ?_)
set_option maxHeartbeats 8000000 in
set_option maxRecDepth 100000 in
theorem carouselref5_New.calls (k : Nat) (A0 : Option Addr) (c0 : Nat) (l0 : List Int) (a1 : Int) (r1 : List Int) (r2 : List Int) (w : World) (hr0 : Kd.C (Kd.int .i64) w A0 l0.length l0) (hc0 : l0.length ≤ c0) (h : carouselref5_New.f k l0 a1 = some (r1, r2)) :
  Calls Try.prog 15 #[.slice A0 l0.length c0, .int .i64 a1] w fun e w' => ∃ v0_ v1_ : Value, e = .returned (.agg #[v0_, v1_]) ∧ Kd.R (Kd.int .i64) 3 w' w.heap.size (fun _ => True) v0_ r1 ∧ Kd.R (Kd.int .i64) 23 w' w.heap.size (fun _ => True) v1_ r2 ∧ Below w.heap.size w w' := by
 have hu27 := Try.underlying27
 have HR0 := Aside0.mk hr0
 have HC0 := Aside0.mk hc0
 clear hr0 hc0
 have HB := Aside0.mk (Below.refl w.heap.size w)
 have H : ((some (([] : List Int) : List Int)).bind fun y367 => (if y367.length + l0.length < 17592186044416 then ((carouselref5_Size.f k l0).bind fun t373 => (if 0 ≤ t373 then (if (t373 : Int).toNat ≤ 35184372088832 then (carouselref5_New.l0 k a1 0 (y367 ++ l0) (List.replicate (t373 : Int).toNat 0)) else (none)) else (none))) else (none))) = some (r1, r2) := h
 clear h
 obtain ⟨y367, hy367⟩ : ∃ y_ : List Int, y_ = (([] : List Int)) := ⟨_, rfl⟩
 replace H : (if y367.length + l0.length < 17592186044416 then ((carouselref5_Size.f k l0).bind fun t373 => (if 0 ≤ t373 then (if (t373 : Int).toNat ≤ 35184372088832 then (carouselref5_New.l0 k a1 0 (y367 ++ l0) (List.replicate (t373 : Int).toNat 0)) else (none)) else (none))) else (none)) = some (r1, r2) := by first | (rw [hy367]; with_reducible exact H) | (have H2_ := (Option.bind_some _ _).symm.trans H; rw [hy367]; with_reducible exact H2_) | (have H2_ := (Option.bind_some _ _).symm.trans H; with_reducible exact H2_) | with_reducible exact H | (rw [hy367]; exact H) | exact H
 have Ny367 := Aside0.mk hy367
 clear hy367
 by_cases c3 : y367.length + l0.length < 17592186044416
 ·rw [if_pos c3] at H
  have LMc3 := Aside0.mk c3
  clear c3
  obtain ⟨y370, hy370⟩ : ∃ y_ : List Int, y_ = (y367 ++ l0) := ⟨_, rfl⟩
  replace H : ((carouselref5_Size.f k l0).bind fun t373 => (if 0 ≤ t373 then (if (t373 : Int).toNat ≤ 35184372088832 then (carouselref5_New.l0 k a1 0 y370 (List.replicate (t373 : Int).toNat 0)) else (none)) else (none))) = some (r1, r2) := by first | (rw [hy370]; with_reducible exact H) | (have H2_ := (Option.bind_some _ _).symm.trans H; rw [hy370]; with_reducible exact H2_) | (have H2_ := (Option.bind_some _ _).symm.trans H; with_reducible exact H2_) | with_reducible exact H | (rw [hy370]; exact H) | exact H
  have Ny370 := Aside0.mk hy370
  clear hy370
  replace H := Option.bind_eq_some_iff.mp H
  obtain ⟨t373, A40, H⟩ := H
  (try dsimp only at H)
  have A4 := Aside0.mk A40
  clear A40
  by_cases c5 : 0 ≤ t373
  ·rw [if_pos c5] at H
   have c5b0 := eq_true c5
   have c5b1 : decide (0 ≤ t373) = true := decide_eq_true c5
   clear c5
   by_cases c6 : (t373 : Int).toNat ≤ 35184372088832
   ·rw [if_pos c6] at H
    have c6b0 := eq_true c6
    have c6b1 : decide ((t373 : Int).toNat ≤ 35184372088832) = true := decide_eq_true c6
    clear c6
    obtain ⟨y374, hy374⟩ : ∃ y_ : List Int, y_ = (List.replicate (t373 : Int).toNat 0) := ⟨_, rfl⟩
    replace H : (carouselref5_New.l0 k a1 0 y370 y374) = some (r1, r2) := by first | (rw [hy374]; with_reducible exact H) | (have H2_ := (Option.bind_some _ _).symm.trans H; rw [hy374]; with_reducible exact H2_) | (have H2_ := (Option.bind_some _ _).symm.trans H; with_reducible exact H2_) | with_reducible exact H | (rw [hy374]; exact H) | exact H
    have Ny374 := Aside0.mk hy374
    clear hy374
    have H' := Aside0.mk H
    clear H
    go_enter Try.func15, Try.ntmps15
    go_wp2_with (first | ((with_reducible refine gate_dst (N := 4) rfl ?_); refine box_event ?hg (N := 4) ?hd (cs := #[.slice none 0 0, .slice none 0 0]) (t := 27) ?hr ?_; (case hd => rfl); (case hg => rfl); (case hr => first | (go_simp; done) | (go_simp; rfl)); intro gb366 hg w7 hbox hb; have n0_ := Aside0.mk (below_step (zw0_ HB) hb); have n1_ := Aside0.mk (hbox); have n2_ := Aside0.mk (zs_ hg (zw0_ HB)); have n3_ := Aside0.mk (zs_ hg (zw0_ HB)); clear HB; have HB := n0_; have BK366 := n1_; have GW366 := n2_; have GE366 := n3_; clear n0_ n1_ n2_ n3_; clear hb hbox hg) | ((with_reducible refine gate_dst (N := 7) rfl ?_); refine Kd.R_lit (Kd.int .i64) _ 3 ?hg (N := 7) ?hd (xs := ([] : List Int)) (inner := []) (ok := fun _ => True) (okp := fun _ => True) ?hr ?hp (fun _ hk => hk) trivial (Below.refl _ _) (Nat.le_refl _) (by simp) ?_; (case hd => rfl); (case hg => rfl); (case hr => first | (go_simp; done) | (go_simp; rfl)); (case hp => exact (Reps.none _ _)); intro v368 w8 ho9 hb hg_ hnew_; clear hg_ hnew_; (first | rw [← Ny367.out] at ho9 | (simp only [Int.reduceToNat] at ho9; rw [← Ny367.out] at ho9)); have n0_ := Aside0.mk (Kd.R_lower ho9 (below_size (zw1_ HB GE366))); have n1_ := Aside0.mk (zl_ BK366 hb); have n2_ := Aside0.mk (below_step (zw1_ HB GE366) hb); clear BK366 HB; have HO369 := n0_; have BK366 := n1_; have HB := n2_; clear n0_ n1_ n2_; clear hb ho9) | ((with_reducible refine gate_builtin (b := .append) (xs := #[.tmp 7, .tmp 8]) rfl ?_); at_builtin; refine Kd.R_append_rows (Kd.int .i64) (w0 := w) w.heap.size rfl (.tmp 7) (.tmp 8) 22 3 (.int .i64 0) 8 rfl Try.underlying22 info3 rfl (by decide) (by omega) v368 y367 l0 _ _ _ (fun _ => True) (fun _ => False) rfl rfl ?aO ?aR (fun _ _ h => h) (fun _ h => h.elim) ?aF ?aB ?aS ?aL ?_; (case aR => exact zk_ (Kd.C_below HR0.out HB.out)); (case aB => exact (zw1_ HB GE366)); (case aF => exact (fun _ _ => trivial)); (case aO => exact (zr_ HO369.out)); (case aS => exact (below_size (zw1_ HB GE366))); (case aL => have := LMc3.out; omega); intro v371 w10 ho hb hg hat; rw [← Ny370.out] at ho; have n0_ := Aside0.mk (blk_grown (g := gb366) (o := .cells #[.slice none 0 0, .slice none 0 0] 27 (0, 0)) (zb_ BK366) hg (Kd.R_ne HO369.out BK366.out (by decide))); have n1_ := Aside0.mk (hb); have n2_ := Aside0.mk (ho); clear BK366 HB HO369; have BK366 := n0_; have HB := n1_; have HO372 := n2_; clear n0_ n1_ n2_; clear ho hb hg hat) | ((with_reducible refine gate_callee (f := 38) rfl ?_); refine zg_ (some 11) Try.func38 #[.slice A0 l0.length c0] (h := ?_); (with_reducible refine (carouselref5_Size.calls k _ _ l0 t373 _ ?side1 ?side2 A4.out).mono ?_); (case side1 => exact zk_ (Kd.C_below HR0.out HB.out)); (case side2 => exact HC0.out); rintro e w' ⟨rfl, ⟨nd, rfl⟩⟩; refine ⟨_, rfl, ?_⟩; (try (rw [drewN_self w10]; generalize hq_ : World.drewN w10 _ = w10; have n0_ : Aside0 (Kd.R (Kd.int .i64) 3 w10 w.heap.size (fun _ => True) v371 y370) := ⟨by rw [← hq_]; exact (zr_ HO372.out)⟩; have n1_ : Aside0 (w10.heap[gb366]? = some (.cells #[.slice none 0 0, .slice none 0 0] 27 (0, 0))) := ⟨by rw [← hq_]; exact (zb_ BK366)⟩; have n2_ : Aside0 (Below w.heap.size w w10) := ⟨by rw [← hq_]; exact (zw1_ HB GE366)⟩; clear HO372 BK366 HB hq_; have HO372 := n0_; have BK366 := n1_; have HB := n2_; clear n0_ n1_ n2_))) | ((with_reducible refine gate_dst (N := 12) rfl ?_); refine Kd.R_make (Kd.int .i64) _ 23 rfl (N := 12) rfl 25 _ _ rfl t373 rfl rfl Try.underlying25 (.int .i64 0) 8 info23 rfl (by decide) (by omega) 0 (ok := fun _ => True) (okp := fun _ => True) rfl (fun _ hk => hk) trivial (of_decide_eq_true (by first | (with_reducible assumption) | assumption)) (Nat.le_trans (Nat.mul_le_mul_right _ (of_decide_eq_true (by first | (with_reducible assumption) | assumption) : t373.toNat ≤ 35184372088832)) (by omega)) (Below.refl _ _) (Nat.le_refl _) ?_; intro v375 w11 ho12 hb hg_ hnew_; clear hg_ hnew_; (first | rw [← Ny374.out] at ho12 | (simp only [Int.reduceToNat] at ho12; rw [← Ny374.out] at ho12)); have n0_ := Aside0.mk (Kd.R_below (zr_ HO372.out) hb); have n1_ := Aside0.mk (Kd.R_lower ho12 (below_size (zw1_ HB GE366))); have n2_ := Aside0.mk (zl_ BK366 hb); have n3_ := Aside0.mk (below_step (zw1_ HB GE366) hb); clear HO372 BK366 HB; have HO372 := n0_; have HO376 := n1_; have BK366 := n2_; have HB := n3_; clear n0_ n1_ n2_ n3_; clear hb ho12; obtain ⟨Ao13, co13, eo13⟩ := Kd.R_slice HO376.out; subst eo13; obtain ⟨Ao14, co14, eo14⟩ := Kd.R_slice HO372.out; subst eo14) | ((with_reducible refine gate_dst (N := 5) rfl ?_); refine box_event ?hg (N := 5) ?hd (cs := #[.slice none 0 0, .slice none 0 0]) (t := 27) ?hr ?_; (case hd => rfl); (case hg => rfl); (case hr => first | (go_simp; done) | (go_simp; rfl)); intro gb377 hg w15 hbox hb; have n0_ := Aside0.mk (Kd.R_below (zr_ HO372.out) hb); have n1_ := Aside0.mk (Kd.R_below (zr_ HO376.out) hb); have n2_ := Aside0.mk (zl_ BK366 hb); have n3_ := Aside0.mk (below_step (zw1_ HB GE366) hb); have n4_ := Aside0.mk (hbox); have n5_ := Aside0.mk (zs_ hg (zw1_ HB GE366)); have n6_ := Aside0.mk (zs_ hg (zw1_ HB GE366)); have n7_ := Aside0.mk (zn_ hg BK366); have n8_ := Aside0.mk (zm_ hg BK366); clear HO372 HO376 BK366 HB; have HO372 := n0_; have HO376 := n1_; have BK366 := n2_; have HB := n3_; have BK377 := n4_; have GW377 := n5_; have GE377 := n6_; have NB366_377 := n7_; have NB377_366 := n8_; clear n0_ n1_ n2_ n3_ n4_ n5_ n6_ n7_ n8_; clear hb hbox hg; have hnb16 := NB377_366.out; have hnc16 := NB366_377.out; have hcz17_0 := zx_ (v := .slice none 0 0) BK377 0; have hcz17_1 := zx_ (v := .slice none 0 0) BK377 1; have hfz17_0 := blk_frozen BK377.out 0; have hfz17_1 := blk_frozen BK377.out 1))
    go_loopg [6] k (fun kq v6 w' => ∃ (x6_1 : Int) (x378001_1 : List Int) (u378001 : Value), v6 = .int .i64 x6_1 ∧ Aside0 (carouselref5_New.l0 kq a1 x6_1 y370 x378001_1 = some (r1, r2)) ∧ Aside0 (kq ≤ k) ∧ Aside0 (Kd.R (Kd.int .i64) 3 w' w.heap.size (fun _ => True) (.slice Ao14 y370.length co14) y370) ∧ Aside0 (Kd.R (Kd.int .i64) 23 w' w.heap.size (fun _ => True) u378001 x378001_1) ∧ Aside0 (w'.heap[gb366]? = some (.cells #[(.slice none 0 0), (.slice none 0 0)] 27 (0, 0))) ∧ Aside0 (w'.heap[gb377]? = some (.cells #[(.slice Ao14 y370.length co14), u378001] 27 (0, 0))) ∧ Aside0 (Below w.heap.size w w'))
    case atStart => exact ⟨(0), (y374), (.slice Ao13 y374.length co13), (by first | rfl | (simp; done) | (simp [*]; done)), H', ⟨Nat.le_refl _⟩, ⟨zr_ (Kd.R_mono (Kd.R_far (p := ⟨gb377, 1, none⟩) (Kd.R_far (p := ⟨gb377, 0, none⟩) (Kd.R_types HO372.out BK377.out (by decide)) (fun _ hk => hk.2) (.slice Ao14 y370.length co14)) (fun _ hk => hk.2) (.slice Ao13 y374.length co13)) (fun _ hk => trivial))⟩, ⟨zr_ (Kd.R_mono (Kd.R_far (p := ⟨gb377, 1, none⟩) (Kd.R_far (p := ⟨gb377, 0, none⟩) (Kd.R_types HO376.out BK377.out (by decide)) (fun _ hk => hk.2) (.slice Ao14 y370.length co14)) (fun _ hk => hk.2) (.slice Ao13 y374.length co13)) (fun _ hk => trivial))⟩, ⟨by (with_reducible repeat (first | refine blk_drewN ?_ _ | refine blk_drew ?_ | refine blk_alloc ?_ _)); refine blk_far ?_ NB366_377.out _; (with_reducible repeat (first | refine blk_drewN ?_ _ | refine blk_drew ?_ | refine blk_alloc ?_ _)); refine blk_far ?_ NB366_377.out _; (with_reducible repeat (first | refine blk_drewN ?_ _ | refine blk_drew ?_ | refine blk_alloc ?_ _)); exact BK366.out⟩, ⟨by (with_reducible repeat (first | refine blk_drewN ?_ _ | refine blk_drew ?_ | refine blk_alloc ?_ _)); refine blk_put (cs := #[.slice Ao14 y370.length co14, .slice none 0 0]) ?_ 1 _ rfl; (with_reducible repeat (first | refine blk_drewN ?_ _ | refine blk_drew ?_ | refine blk_alloc ?_ _)); refine blk_put (cs := #[.slice none 0 0, .slice none 0 0]) ?_ 0 _ rfl; (with_reducible repeat (first | refine blk_drewN ?_ _ | refine blk_drew ?_ | refine blk_alloc ?_ _)); exact BK377.out⟩, ⟨zw2_ HB GE366 GE377⟩⟩
    case round =>
     clear H'
     try clear c1
     try clear p2
     try clear c3
     try clear c5
     try clear c5b0
     try clear c5b1
     try clear c6
     try clear c6b0
     try clear c6b1
     try clear c15
     try clear c16
     try clear hcz17_0
     try clear hcz17_1
     try clear hfz17_0
     try clear hfz17_1
     obtain ⟨x6_1, x378001_1, u378001, rfl, HA, HK1, HO_378000, HO_378001, BK366, BK377, HB⟩ := hrel
     cases gk with
     | zero => exact absurd HA.out (by simp [carouselref5_New.l0])
     | succ k1 =>
      have H := HA.out
      clear HA
      simp only [carouselref5_New.l0] at H
      by_cases c18 : x6_1 < (x378001_1.length : Int)
      ·rw [if_pos c18] at H
       have c18b0 : decide (x6_1 < (x378001_1.length : Int)) = true := decide_eq_true c18
       clear c18
       by_cases c19 : 0 ≤ x6_1
       ·rw [if_pos c19] at H
        have c19b0 : decide (0 ≤ x6_1) = true := decide_eq_true c19
        clear c19
        obtain ⟨y378, hy378⟩ : ∃ y_ : List Int, y_ = (x378001_1.set (x6_1 : Int).toNat a1) := ⟨_, rfl⟩
        replace H : (carouselref5_New.l0 k1 a1 (wrap64 (x6_1 + 1)) y370 y378) = some (r1, r2) := by first | (rw [hy378]; with_reducible exact H) | (have H2_ := (Option.bind_some _ _).symm.trans H; rw [hy378]; with_reducible exact H2_) | (have H2_ := (Option.bind_some _ _).symm.trans H; with_reducible exact H2_) | with_reducible exact H | (rw [hy378]; exact H) | exact H
        have Ny378 := Aside0.mk hy378
        clear hy378
        have H' := Aside0.mk H
        clear H
        have hnb21 := NB377_366.out
        have hnc21 := NB366_377.out
        have hcz22_0 := zx_ (v := .slice Ao14 y370.length co14) BK377 0
        have hcz22_1 := zx_ (v := u378001) BK377 1
        have hfz22_0 := blk_frozen BK377.out 0
        have hfz22_1 := blk_frozen BK377.out 1
        obtain ⟨Ao23, co23, eo23⟩ := Kd.R_slice HO_378001.out
        subst eo23
        have p20 : 0 ≤ (x6_1 : Int) := of_decide_eq_true (by first | (with_reducible assumption) | assumption)
        have q20 : (x6_1 : Int) < ((x378001_1.length : Int) : Int) := of_decide_eq_true (by first | (with_reducible assumption) | assumption)
        obtain ⟨go20, co20, eo20, gb20, gl20, cl20, HG20⟩ := Kd.R_form HO_378001.out (by omega)
        (first | cases eo20 | (injection eo20 with ea_ en_ ec_; (first | subst ea_ | (injection ea_ with ea_; subst ea_)); subst ec_; clear en_))
        have GB20 := Aside0.mk gb20
        have GG20 := Aside0.mk HG20
        clear gb20 gl20 HG20
        obtain ⟨hx20_0, hf20_0⟩ := Kd.R_celln 0 HO_378001.out (x6_1 : Int) p20 q20
        replace p20 := eq_true p20
        replace q20 := eq_true q20
        have HP24 := Kd.R_putg HO_378001.out (x6_1 : Int) a1
        go_wp2_with (first | ((with_reducible refine gate_store (t := 23) (p := 25) rfl ?_); refine store_event (t := 23) (p := 25) (v := ?vo_w25) (w1 := (wr.setCell ⟨go20, (x6_1 : Int).toNat, none⟩ (.int .i64 a1))) ?hg ?ho ?hn ?hr ?_; (case ho => rfl); (case hg => rfl); (case hn => rfl); (case hr => first | (go_simp; done) | (go_simp; rfl)); intro w25 hw; have hg : wr.grownBy w25 (some go20) := (by rw [hw]; exact HP24.2); have hp_ : Kd.R (Kd.int .i64) 23 w25 w.heap.size (fun _ => True) (.slice (some ⟨go20, 0, none⟩) x378001_1.length co23) y378 := (by rw [hw, Ny378.out]; exact HP24.1); clear HP24; have n0_ := Aside0.mk (Kd.R_over' (v := (.slice (some ⟨go20, 0, none⟩) x378001_1.length co23)) (zr_ HO_378000.out) (Kd.R_typed HO_378001.out) (by decide) hg); have n1_ := Aside0.mk (hp_); have n2_ := Aside0.mk (blk_grown (g := gb366) (o := .cells #[.slice none 0 0, .slice none 0 0] 27 (0, 0)) (zb_ BK366) hg (Kd.R_ne HO_378001.out BK366.out (by decide))); have n3_ := Aside0.mk (blk_grown (g := gb377) (o := .cells #[.slice Ao14 y370.length co14, .slice (some ⟨go20, 0, none⟩) x378001_1.length co23] 27 (0, 0)) (zb_ BK377) hg (Kd.R_ne HO_378001.out BK377.out (by decide))); have n4_ := Aside0.mk ((by rw [hw]; exact below_set (HB.out) GB20.out : Below w.heap.size w w25)); clear HO_378000 HO_378001 BK366 BK377 HB; have HO_378000 := n0_; have HO_378001 := n1_; have BK366 := n2_; have BK377 := n3_; have HB := n4_; clear n0_ n1_ n2_ n3_ n4_; clear hg hw hp_))
        go_roundg k1
        case measure => have := HK1.out; omega
        case rel => exact ⟨(wrap64 (x6_1 + 1)), (y378), (.slice (some ⟨go20, 0, none⟩) x378001_1.length co23), (by first | rfl | (simp; done) | (simp [*]; done)), H', ⟨by have := HK1.out; omega⟩, ⟨zr_ HO_378000.out⟩, ⟨zr_ HO_378001.out⟩, ⟨zb_ BK366⟩, ⟨zb_ BK377⟩, ⟨zw2_ HB GE366 GE377⟩⟩
       ·rw [if_neg c19] at H
        exact absurd H (by simp)
      ·rw [if_neg c18] at H
       have c18b0 : decide (x6_1 < (x378001_1.length : Int)) = false := decide_eq_false c18
       clear c18
       simp only [Option.some.injEq, Prod.mk.injEq] at H
       obtain ⟨rfl, rfl⟩ := H
       have hnb26 := NB377_366.out
       have hnc26 := NB366_377.out
       have hcz27_0 := zx_ (v := .slice Ao14 y370.length co14) BK377 0
       have hcz27_1 := zx_ (v := u378001) BK377 1
       have hfz27_0 := blk_frozen BK377.out 0
       have hfz27_1 := blk_frozen BK377.out 1
       obtain ⟨Ao28, co28, eo28⟩ := Kd.R_slice HO_378001.out
       subst eo28
       have hcz29_0 := zx_ (v := .slice none 0 0) BK366 0
       have hcz29_1 := zx_ (v := .slice none 0 0) BK366 1
       have hfz29_0 := blk_frozen BK366.out 0
       have hfz29_1 := blk_frozen BK366.out 1
       go_wp2
       refine bodyPost_ret (results_cell_row rfl _ _ gb366 27 #[.slice Ao14 y370.length co14, .slice Ao28 x378001_1.length co28] (0, 0) _ rfl (by (with_reducible repeat (first | refine blk_drewN ?_ _ | refine blk_drew ?_ | refine blk_alloc ?_ _)); refine blk_put (cs := #[.slice Ao14 y370.length co14, .slice none 0 0]) ?_ 1 _ rfl; (with_reducible repeat (first | refine blk_drewN ?_ _ | refine blk_drew ?_ | refine blk_alloc ?_ _)); refine blk_put (cs := #[.slice none 0 0, .slice none 0 0]) ?_ 0 _ rfl; (with_reducible repeat (first | refine blk_drewN ?_ _ | refine blk_drew ?_ | refine blk_alloc ?_ _)); exact BK366.out) Try.underlying27 rfl (by kernel_rfl)) rfl ?_
       exact ⟨_, _, by first | rfl | (simp [errW_none, errW_some] <;> rfl) | (simp [*, errW_none, errW_some] <;> rfl), zr_ (Kd.R_mono (Kd.R_far (p := ⟨gb366, 1, none⟩) (Kd.R_far (p := ⟨gb366, 0, none⟩) (Kd.R_types HO_378000.out BK366.out (by decide)) (fun _ hk => hk.2) (.slice Ao14 y370.length co14)) (fun _ hk => hk.2) (.slice Ao28 x378001_1.length co28)) (fun _ hk => trivial)), zr_ (Kd.R_mono (Kd.R_far (p := ⟨gb366, 1, none⟩) (Kd.R_far (p := ⟨gb366, 0, none⟩) (Kd.R_types HO_378001.out BK366.out (by decide)) (fun _ hk => hk.2) (.slice Ao14 y370.length co14)) (fun _ hk => hk.2) (.slice Ao28 x378001_1.length co28)) (fun _ hk => trivial)), zw2_ HB GE366 GE377⟩
   ·rw [if_neg c6] at H
    exact absurd H (by simp)
  ·rw [if_neg c5] at H
   exact absurd H (by simp)
 ·rw [if_neg c3] at H
  exact absurd H (by simp)

end Go.Proofs.Ytbdhabpplidgfaa.PTensEach
