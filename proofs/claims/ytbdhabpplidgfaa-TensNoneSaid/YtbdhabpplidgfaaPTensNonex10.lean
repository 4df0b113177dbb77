/- The functions that the law TensNone reaches, as Lean functions, and that each call of the Go function does what its Lean function says, wherever that one answers. Written by a program of mine over the print of the kit; Lean checks it. -/
import Derived.Test.YtbdhabpplidgfaaPTensNonex0
import Derived.Test.YtbdhabpplidgfaaPTensNonex1
import Derived.Test.YtbdhabpplidgfaaPTensNonex6
import Derived.Test.YtbdhabpplidgfaaPTensNonex7
import Derived.Test.YtbdhabpplidgfaaPTensNonex8
import Derived.Test.YtbdhabpplidgfaaPTensNonex9
namespace Go.Proofs.Ytbdhabpplidgfaa.PTensNone
open Go.RowKit Go.Proofs.YtbdhabpplidgfaaW.PrintWords Go.Proofs.YtbdhabpplidgfaaW.PrintLast Go.Proofs.YtbdhabpplidgfaaW.PrintMore
attribute [local go_sem] max2_int min2_int max_two min_two max_three min_three max_four min_four   -- for this text's walks alone
set_option linter.unusedVariables false
set_option linter.unusedSimpArgs false

/-! ### tens_Add: function 19 -/
def tens_Add.f (k : Nat) (l0_0 : List Int) (l0_1 : List Int) (l1_0 : List Int) (l1_1 : List Int) : Option (List Int × List Int × Int) := (tens_both_Add.f k l0_0 l0_1 l1_0 l1_1).bind fun bt324 => (some (bt324.1, bt324.2.1, bt324.2.2))
theorem tens_Add.mono : ∀ a0 a1 a2 a3 k, LeO (tens_Add.f k a0 a1 a2 a3) (tens_Add.f (k + 1) a0 a1 a2 a3) := by
 intro a0 a1 a2 a3 k
 unfold tens_Add.f
 repeat' first
   | (with_reducible exact tens_both_Add.mono _ _ _ _ _)
   | (with_reducible exact LeO.refl _)
   | (with_reducible exact LeO.none _)
   | (with_reducible refine LeO.ite ?_ ?_)
   | (with_reducible refine LeO.bind ?_ (fun _ => ?_))
   | exact tens_both_Add.mono _ _ _ _ _
   | exact LeO.none _
   | refine LeO.ite ?_ ?_
   | refine LeO.bind ?_ (fun _ => ?_)
set_option maxHeartbeats 8000000 in
set_option maxRecDepth 100000 in
theorem tens_Add.calls (k : Nat) (A0_0 : Option Addr) (c0_0 : Nat) (l0_0 : List Int) (A0_1 : Option Addr) (c0_1 : Nat) (l0_1 : List Int) (A1_0 : Option Addr) (c1_0 : Nat) (l1_0 : List Int) (A1_1 : Option Addr) (c1_1 : Nat) (l1_1 : List Int) (r1 : List Int) (r2 : List Int) (r3 : Int) (w : World) (hr0_0 : Kd.C (Kd.int .i64) w A0_0 l0_0.length l0_0) (hc0_0 : l0_0.length ≤ c0_0) (hr0_1 : Kd.C (Kd.int .i64) w A0_1 l0_1.length l0_1) (hc0_1 : l0_1.length ≤ c0_1) (hr1_0 : Kd.C (Kd.int .i64) w A1_0 l1_0.length l1_0) (hc1_0 : l1_0.length ≤ c1_0) (hr1_1 : Kd.C (Kd.int .i64) w A1_1 l1_1.length l1_1) (hc1_1 : l1_1.length ≤ c1_1) (h : tens_Add.f k l0_0 l0_1 l1_0 l1_1 = some (r1, r2, r3)) :
  Calls Try.prog 19 #[.agg #[.slice A0_0 l0_0.length c0_0, .slice A0_1 l0_1.length c0_1], .agg #[.slice A1_0 l1_0.length c1_0, .slice A1_1 l1_1.length c1_1]] w fun e w' => ∃ v0_ v1_ : Value, e = .returned (.tuple #[.agg #[v0_, v1_], .int .i64 r3]) ∧ Kd.R (Kd.int .i64) 3 w' w.heap.size (fun _ => True) v0_ r1 ∧ Kd.R (Kd.int .i64) 23 w' w.heap.size (fun _ => True) v1_ r2 ∧ Below w.heap.size w w' := by
 have hu27 := Try.underlying27
 have HR0_0 := Aside0.mk hr0_0
 have HC0_0 := Aside0.mk hc0_0
 clear hr0_0 hc0_0
 have HR0_1 := Aside0.mk hr0_1
 have HC0_1 := Aside0.mk hc0_1
 clear hr0_1 hc0_1
 have HR1_0 := Aside0.mk hr1_0
 have HC1_0 := Aside0.mk hc1_0
 clear hr1_0 hc1_0
 have HR1_1 := Aside0.mk hr1_1
 have HC1_1 := Aside0.mk hc1_1
 clear hr1_1 hc1_1
 have HB := Aside0.mk (Below.refl w.heap.size w)
 have H : ((tens_both_Add.f k l0_0 l0_1 l1_0 l1_1).bind fun bt324 => (some (bt324.1, bt324.2.1, bt324.2.2))) = some (r1, r2, r3) := h
 clear h
 replace H := Option.bind_eq_some_iff.mp H
 obtain ⟨⟨t324, t327, t330⟩, A30, H⟩ := H
 replace H : (some (t324, t327, t330)) = some (r1, r2, r3) := H
 have A3 := Aside0.mk A30
 clear A30
 simp only [Option.some.injEq, Prod.mk.injEq] at H
 obtain ⟨rfl, rfl, rfl⟩ := H
 go_enter Try.func19, Try.ntmps19
 go_wp2_with (first | ((with_reducible refine gate_dst (N := 2) rfl ?_); refine box_event ?hg (N := 2) ?hd (cs := #[.slice A0_0 l0_0.length c0_0, .slice A0_1 l0_1.length c0_1]) (t := 27) ?hr ?_; (case hd => rfl); (case hg => rfl); (case hr => first | (go_simp; done) | (go_simp; rfl)); intro gb321 hg w4 hbox hb; have BK321 := Aside0.mk (hbox); have GW321 := Aside0.mk (zs_ hg (zw0_ HB)); have GE321 := Aside0.mk (zs_ hg (zw0_ HB)); replace HB := Aside0.mk (below_step (zw0_ HB) hb); clear hb hbox hg) | ((with_reducible refine gate_dst (N := 3) rfl ?_); refine box_event ?hg (N := 3) ?hd (cs := #[.slice A1_0 l1_0.length c1_0, .slice A1_1 l1_1.length c1_1]) (t := 27) ?hr ?_; (case hd => rfl); (case hg => rfl); (case hr => first | (go_simp; done) | (go_simp; rfl)); intro gb322 hg w5 hbox hb; have BK322 := Aside0.mk (hbox); have GW322 := Aside0.mk (zs_ hg (zw1_ HB GE321)); have GE322 := Aside0.mk (zs_ hg (zw1_ HB GE321)); replace HB := Aside0.mk (below_step (zw1_ HB GE321) hb); have NB321_322 := Aside0.mk (zn_ hg BK321); have NB322_321 := Aside0.mk (zm_ hg BK321); replace BK321 := Aside0.mk (zl_ BK321 hb); clear hb hbox hg) | ((with_reducible refine gate_dst (N := 4) rfl ?_); refine box_event ?hg (N := 4) ?hd (cs := #[.slice none 0 0, .slice none 0 0]) (t := 27) ?hr ?_; (case hd => rfl); (case hg => rfl); (case hr => first | (go_simp; done) | (go_simp; rfl)); intro gb323 hg w6 hbox hb; have BK323 := Aside0.mk (hbox); have GW323 := Aside0.mk (zs_ hg (zw2_ HB GE321 GE322)); have GE323 := Aside0.mk (zs_ hg (zw2_ HB GE321 GE322)); replace HB := Aside0.mk (below_step (zw2_ HB GE321 GE322) hb); have NB321_323 := Aside0.mk (zn_ hg BK321); have NB323_321 := Aside0.mk (zm_ hg BK321); replace BK321 := Aside0.mk (zl_ BK321 hb); have NB322_323 := Aside0.mk (zn_ hg BK322); have NB323_322 := Aside0.mk (zm_ hg BK322); replace BK322 := Aside0.mk (zl_ BK322 hb); clear hb hbox hg; have hnb7 := NB321_322.out; have hnc7 := NB322_321.out; have hnb8 := NB321_323.out; have hnc8 := NB323_321.out; have hcz9_0 := zx_ (v := .slice A0_0 l0_0.length c0_0) BK321 0; have hcz9_1 := zx_ (v := .slice A0_1 l0_1.length c0_1) BK321 1; have hfz9_0 := blk_frozen BK321.out 0; have hfz9_1 := blk_frozen BK321.out 1; have hnb10 := NB322_323.out; have hnc10 := NB323_322.out; have hcz11_0 := zx_ (v := .slice A1_0 l1_0.length c1_0) BK322 0; have hcz11_1 := zx_ (v := .slice A1_1 l1_1.length c1_1) BK322 1; have hfz11_0 := blk_frozen BK322.out 0; have hfz11_1 := blk_frozen BK322.out 1) | ((with_reducible refine gate_callee (f := 39) rfl ?_); refine zg_ (some 8) Try.func39 #[.agg #[.slice A0_0 l0_0.length c0_0, .slice A0_1 l0_1.length c0_1], .agg #[.slice A1_0 l1_0.length c1_0, .slice A1_1 l1_1.length c1_1], .func (.func 40) #[] #[]] (h := ?_); (with_reducible refine (tens_both_Add.calls k _ _ l0_0 _ _ l0_1 _ _ l1_0 _ _ l1_1 t324 t327 t330 _ ?side1 ?side2 ?side3 ?side4 ?side5 ?side6 ?side7 ?side8 A3.out).mono ?_); (case side1 => exact zk_ (Kd.C_below HR0_0.out HB.out)); (case side2 => exact HC0_0.out); (case side3 => exact zk_ (Kd.C_below HR0_1.out HB.out)); (case side4 => exact HC0_1.out); (case side5 => exact zk_ (Kd.C_below HR1_0.out HB.out)); (case side6 => exact HC1_0.out); (case side7 => exact zk_ (Kd.C_below HR1_1.out HB.out)); (case side8 => exact HC1_1.out); rintro e w12 ⟨v325, v328, rfl, ho0, ho1, hb⟩; refine ⟨_, rfl, ?_⟩; have HO326 := Aside0.mk (Kd.R_lower ho0 (below_size (zw3_ HB GE321 GE322 GE323))); have HO329 := Aside0.mk (Kd.R_lower ho1 (below_size (zw3_ HB GE321 GE322 GE323))); replace BK321 := Aside0.mk (zl_ BK321 hb); replace BK322 := Aside0.mk (zl_ BK322 hb); replace BK323 := Aside0.mk (zl_ BK323 hb); replace HB := Aside0.mk (below_step (zw3_ HB GE321 GE322 GE323) hb); (try clear hb); (try clear ho0); (try clear ho1); obtain ⟨Ao13, co13, eo13⟩ := Kd.R_slice HO326.out; subst eo13; have hcz14_0 := zx_ (v := .slice none 0 0) BK323 0; have hcz14_1 := zx_ (v := .slice none 0 0) BK323 1; have hfz14_0 := blk_frozen BK323.out 0; have hfz14_1 := blk_frozen BK323.out 1; obtain ⟨Ao15, co15, eo15⟩ := Kd.R_slice HO329.out; subst eo15))
 refine bodyPost_ret (results_ct rfl _ _ gb323 27 #[.slice Ao13 t324.length co13, .slice Ao15 t327.length co15] (0, 0) _ rfl (by (with_reducible repeat (first | refine blk_drewN ?_ _ | refine blk_drew ?_ | refine blk_alloc ?_ _)); refine blk_put (cs := #[.slice Ao13 t324.length co13, .slice none 0 0]) ?_ 1 _ rfl; (with_reducible repeat (first | refine blk_drewN ?_ _ | refine blk_drew ?_ | refine blk_alloc ?_ _)); refine blk_put (cs := #[.slice none 0 0, .slice none 0 0]) ?_ 0 _ rfl; (with_reducible repeat (first | refine blk_drewN ?_ _ | refine blk_drew ?_ | refine blk_alloc ?_ _)); exact BK323.out) Try.underlying27 rfl (by kernel_rfl)) rfl ?_
 exact ⟨_, _, by first | rfl | (simp [errW_none, errW_some] <;> rfl) | (simp [*, errW_none, errW_some] <;> rfl), zr_ (Kd.R_mono (Kd.R_far (p := ⟨gb323, 1, none⟩) (Kd.R_far (p := ⟨gb323, 0, none⟩) (Kd.R_types HO326.out BK323.out (by decide)) (fun _ hk => hk.2) (.slice Ao13 t324.length co13)) (fun _ hk => hk.2) (.slice Ao15 t327.length co15)) (fun _ hk => trivial)), zr_ (Kd.R_mono (Kd.R_far (p := ⟨gb323, 1, none⟩) (Kd.R_far (p := ⟨gb323, 0, none⟩) (Kd.R_types HO329.out BK323.out (by decide)) (fun _ hk => hk.2) (.slice Ao13 t324.length co13)) (fun _ hk => hk.2) (.slice Ao15 t327.length co15)) (fun _ hk => trivial)), zw3_ HB GE321 GE322 GE323⟩

/-! ### tens_Mul: function 22 -/
def tens_Mul.f (k : Nat) (l0_0 : List Int) (l0_1 : List Int) (l1_0 : List Int) (l1_1 : List Int) : Option (List Int × List Int × Int) := (tens_both_Mul.f k l0_0 l0_1 l1_0 l1_1).bind fun bt334 => (some (bt334.1, bt334.2.1, bt334.2.2))
theorem tens_Mul.mono : ∀ a0 a1 a2 a3 k, LeO (tens_Mul.f k a0 a1 a2 a3) (tens_Mul.f (k + 1) a0 a1 a2 a3) := by
 intro a0 a1 a2 a3 k
 unfold tens_Mul.f
 repeat' first
   | (with_reducible exact tens_both_Mul.mono _ _ _ _ _)
   | (with_reducible exact LeO.refl _)
   | (with_reducible exact LeO.none _)
   | (with_reducible refine LeO.ite ?_ ?_)
   | (with_reducible refine LeO.bind ?_ (fun _ => ?_))
   | exact tens_both_Mul.mono _ _ _ _ _
   | exact LeO.none _
   | refine LeO.ite ?_ ?_
   | refine LeO.bind ?_ (fun _ => ?_)
set_option maxHeartbeats 8000000 in
set_option maxRecDepth 100000 in
theorem tens_Mul.calls (k : Nat) (A0_0 : Option Addr) (c0_0 : Nat) (l0_0 : List Int) (A0_1 : Option Addr) (c0_1 : Nat) (l0_1 : List Int) (A1_0 : Option Addr) (c1_0 : Nat) (l1_0 : List Int) (A1_1 : Option Addr) (c1_1 : Nat) (l1_1 : List Int) (r1 : List Int) (r2 : List Int) (r3 : Int) (w : World) (hr0_0 : Kd.C (Kd.int .i64) w A0_0 l0_0.length l0_0) (hc0_0 : l0_0.length ≤ c0_0) (hr0_1 : Kd.C (Kd.int .i64) w A0_1 l0_1.length l0_1) (hc0_1 : l0_1.length ≤ c0_1) (hr1_0 : Kd.C (Kd.int .i64) w A1_0 l1_0.length l1_0) (hc1_0 : l1_0.length ≤ c1_0) (hr1_1 : Kd.C (Kd.int .i64) w A1_1 l1_1.length l1_1) (hc1_1 : l1_1.length ≤ c1_1) (h : tens_Mul.f k l0_0 l0_1 l1_0 l1_1 = some (r1, r2, r3)) :
  Calls Try.prog 22 #[.agg #[.slice A0_0 l0_0.length c0_0, .slice A0_1 l0_1.length c0_1], .agg #[.slice A1_0 l1_0.length c1_0, .slice A1_1 l1_1.length c1_1]] w fun e w' => ∃ v0_ v1_ : Value, e = .returned (.tuple #[.agg #[v0_, v1_], .int .i64 r3]) ∧ Kd.R (Kd.int .i64) 3 w' w.heap.size (fun _ => True) v0_ r1 ∧ Kd.R (Kd.int .i64) 23 w' w.heap.size (fun _ => True) v1_ r2 ∧ Below w.heap.size w w' := by
 have hu27 := Try.underlying27
 have HR0_0 := Aside0.mk hr0_0
 have HC0_0 := Aside0.mk hc0_0
 clear hr0_0 hc0_0
 have HR0_1 := Aside0.mk hr0_1
 have HC0_1 := Aside0.mk hc0_1
 clear hr0_1 hc0_1
 have HR1_0 := Aside0.mk hr1_0
 have HC1_0 := Aside0.mk hc1_0
 clear hr1_0 hc1_0
 have HR1_1 := Aside0.mk hr1_1
 have HC1_1 := Aside0.mk hc1_1
 clear hr1_1 hc1_1
 have HB := Aside0.mk (Below.refl w.heap.size w)
 have H : ((tens_both_Mul.f k l0_0 l0_1 l1_0 l1_1).bind fun bt334 => (some (bt334.1, bt334.2.1, bt334.2.2))) = some (r1, r2, r3) := h
 clear h
 replace H := Option.bind_eq_some_iff.mp H
 obtain ⟨⟨t334, t337, t340⟩, A30, H⟩ := H
 replace H : (some (t334, t337, t340)) = some (r1, r2, r3) := H
 have A3 := Aside0.mk A30
 clear A30
 simp only [Option.some.injEq, Prod.mk.injEq] at H
 obtain ⟨rfl, rfl, rfl⟩ := H
 go_enter Try.func22, Try.ntmps22
 go_wp2_with (first | ((with_reducible refine gate_dst (N := 2) rfl ?_); refine box_event ?hg (N := 2) ?hd (cs := #[.slice A0_0 l0_0.length c0_0, .slice A0_1 l0_1.length c0_1]) (t := 27) ?hr ?_; (case hd => rfl); (case hg => rfl); (case hr => first | (go_simp; done) | (go_simp; rfl)); intro gb331 hg w4 hbox hb; have BK331 := Aside0.mk (hbox); have GW331 := Aside0.mk (zs_ hg (zw0_ HB)); have GE331 := Aside0.mk (zs_ hg (zw0_ HB)); replace HB := Aside0.mk (below_step (zw0_ HB) hb); clear hb hbox hg) | ((with_reducible refine gate_dst (N := 3) rfl ?_); refine box_event ?hg (N := 3) ?hd (cs := #[.slice A1_0 l1_0.length c1_0, .slice A1_1 l1_1.length c1_1]) (t := 27) ?hr ?_; (case hd => rfl); (case hg => rfl); (case hr => first | (go_simp; done) | (go_simp; rfl)); intro gb332 hg w5 hbox hb; have BK332 := Aside0.mk (hbox); have GW332 := Aside0.mk (zs_ hg (zw1_ HB GE331)); have GE332 := Aside0.mk (zs_ hg (zw1_ HB GE331)); replace HB := Aside0.mk (below_step (zw1_ HB GE331) hb); have NB331_332 := Aside0.mk (zn_ hg BK331); have NB332_331 := Aside0.mk (zm_ hg BK331); replace BK331 := Aside0.mk (zl_ BK331 hb); clear hb hbox hg) | ((with_reducible refine gate_dst (N := 4) rfl ?_); refine box_event ?hg (N := 4) ?hd (cs := #[.slice none 0 0, .slice none 0 0]) (t := 27) ?hr ?_; (case hd => rfl); (case hg => rfl); (case hr => first | (go_simp; done) | (go_simp; rfl)); intro gb333 hg w6 hbox hb; have BK333 := Aside0.mk (hbox); have GW333 := Aside0.mk (zs_ hg (zw2_ HB GE331 GE332)); have GE333 := Aside0.mk (zs_ hg (zw2_ HB GE331 GE332)); replace HB := Aside0.mk (below_step (zw2_ HB GE331 GE332) hb); have NB331_333 := Aside0.mk (zn_ hg BK331); have NB333_331 := Aside0.mk (zm_ hg BK331); replace BK331 := Aside0.mk (zl_ BK331 hb); have NB332_333 := Aside0.mk (zn_ hg BK332); have NB333_332 := Aside0.mk (zm_ hg BK332); replace BK332 := Aside0.mk (zl_ BK332 hb); clear hb hbox hg; have hnb7 := NB331_332.out; have hnc7 := NB332_331.out; have hnb8 := NB331_333.out; have hnc8 := NB333_331.out; have hcz9_0 := zx_ (v := .slice A0_0 l0_0.length c0_0) BK331 0; have hcz9_1 := zx_ (v := .slice A0_1 l0_1.length c0_1) BK331 1; have hfz9_0 := blk_frozen BK331.out 0; have hfz9_1 := blk_frozen BK331.out 1; have hnb10 := NB332_333.out; have hnc10 := NB333_332.out; have hcz11_0 := zx_ (v := .slice A1_0 l1_0.length c1_0) BK332 0; have hcz11_1 := zx_ (v := .slice A1_1 l1_1.length c1_1) BK332 1; have hfz11_0 := blk_frozen BK332.out 0; have hfz11_1 := blk_frozen BK332.out 1) | ((with_reducible refine gate_callee (f := 39) rfl ?_); refine zg_ (some 8) Try.func39 #[.agg #[.slice A0_0 l0_0.length c0_0, .slice A0_1 l0_1.length c0_1], .agg #[.slice A1_0 l1_0.length c1_0, .slice A1_1 l1_1.length c1_1], .func (.func 44) #[] #[]] (h := ?_); (with_reducible refine (tens_both_Mul.calls k _ _ l0_0 _ _ l0_1 _ _ l1_0 _ _ l1_1 t334 t337 t340 _ ?side1 ?side2 ?side3 ?side4 ?side5 ?side6 ?side7 ?side8 A3.out).mono ?_); (case side1 => exact zk_ (Kd.C_below HR0_0.out HB.out)); (case side2 => exact HC0_0.out); (case side3 => exact zk_ (Kd.C_below HR0_1.out HB.out)); (case side4 => exact HC0_1.out); (case side5 => exact zk_ (Kd.C_below HR1_0.out HB.out)); (case side6 => exact HC1_0.out); (case side7 => exact zk_ (Kd.C_below HR1_1.out HB.out)); (case side8 => exact HC1_1.out); rintro e w12 ⟨v335, v338, rfl, ho0, ho1, hb⟩; refine ⟨_, rfl, ?_⟩; have HO336 := Aside0.mk (Kd.R_lower ho0 (below_size (zw3_ HB GE331 GE332 GE333))); have HO339 := Aside0.mk (Kd.R_lower ho1 (below_size (zw3_ HB GE331 GE332 GE333))); replace BK331 := Aside0.mk (zl_ BK331 hb); replace BK332 := Aside0.mk (zl_ BK332 hb); replace BK333 := Aside0.mk (zl_ BK333 hb); replace HB := Aside0.mk (below_step (zw3_ HB GE331 GE332 GE333) hb); (try clear hb); (try clear ho0); (try clear ho1); obtain ⟨Ao13, co13, eo13⟩ := Kd.R_slice HO336.out; subst eo13; have hcz14_0 := zx_ (v := .slice none 0 0) BK333 0; have hcz14_1 := zx_ (v := .slice none 0 0) BK333 1; have hfz14_0 := blk_frozen BK333.out 0; have hfz14_1 := blk_frozen BK333.out 1; obtain ⟨Ao15, co15, eo15⟩ := Kd.R_slice HO339.out; subst eo15))
 refine bodyPost_ret (results_ct rfl _ _ gb333 27 #[.slice Ao13 t334.length co13, .slice Ao15 t337.length co15] (0, 0) _ rfl (by (with_reducible repeat (first | refine blk_drewN ?_ _ | refine blk_drew ?_ | refine blk_alloc ?_ _)); refine blk_put (cs := #[.slice Ao13 t334.length co13, .slice none 0 0]) ?_ 1 _ rfl; (with_reducible repeat (first | refine blk_drewN ?_ _ | refine blk_drew ?_ | refine blk_alloc ?_ _)); refine blk_put (cs := #[.slice none 0 0, .slice none 0 0]) ?_ 0 _ rfl; (with_reducible repeat (first | refine blk_drewN ?_ _ | refine blk_drew ?_ | refine blk_alloc ?_ _)); exact BK333.out) Try.underlying27 rfl (by kernel_rfl)) rfl ?_
 exact ⟨_, _, by first | rfl | (simp [errW_none, errW_some] <;> rfl) | (simp [*, errW_none, errW_some] <;> rfl), zr_ (Kd.R_mono (Kd.R_far (p := ⟨gb333, 1, none⟩) (Kd.R_far (p := ⟨gb333, 0, none⟩) (Kd.R_types HO336.out BK333.out (by decide)) (fun _ hk => hk.2) (.slice Ao13 t334.length co13)) (fun _ hk => hk.2) (.slice Ao15 t337.length co15)) (fun _ hk => trivial)), zr_ (Kd.R_mono (Kd.R_far (p := ⟨gb333, 1, none⟩) (Kd.R_far (p := ⟨gb333, 0, none⟩) (Kd.R_types HO339.out BK333.out (by decide)) (fun _ hk => hk.2) (.slice Ao13 t334.length co13)) (fun _ hk => hk.2) (.slice Ao15 t337.length co15)) (fun _ hk => trivial)), zw3_ HB GE331 GE332 GE333⟩

/-! ### tens_Sub: function 23 -/
def tens_Sub.f (k : Nat) (l0_0 : List Int) (l0_1 : List Int) (l1_0 : List Int) (l1_1 : List Int) : Option (List Int × List Int × Int) := (tens_both_Sub.f k l0_0 l0_1 l1_0 l1_1).bind fun bt344 => (some (bt344.1, bt344.2.1, bt344.2.2))
theorem tens_Sub.mono : ∀ a0 a1 a2 a3 k, LeO (tens_Sub.f k a0 a1 a2 a3) (tens_Sub.f (k + 1) a0 a1 a2 a3) := by
 intro a0 a1 a2 a3 k
 unfold tens_Sub.f
 repeat' first
   | (with_reducible exact tens_both_Sub.mono _ _ _ _ _)
   | (with_reducible exact LeO.refl _)
   | (with_reducible exact LeO.none _)
   | (with_reducible refine LeO.ite ?_ ?_)
   | (with_reducible refine LeO.bind ?_ (fun _ => ?_))
   | exact tens_both_Sub.mono _ _ _ _ _
   | exact LeO.none _
   | refine LeO.ite ?_ ?_
   | refine LeO.bind ?_ (fun _ => ?_)
set_option maxHeartbeats 8000000 in
set_option maxRecDepth 100000 in
theorem tens_Sub.calls (k : Nat) (A0_0 : Option Addr) (c0_0 : Nat) (l0_0 : List Int) (A0_1 : Option Addr) (c0_1 : Nat) (l0_1 : List Int) (A1_0 : Option Addr) (c1_0 : Nat) (l1_0 : List Int) (A1_1 : Option Addr) (c1_1 : Nat) (l1_1 : List Int) (r1 : List Int) (r2 : List Int) (r3 : Int) (w : World) (hr0_0 : Kd.C (Kd.int .i64) w A0_0 l0_0.length l0_0) (hc0_0 : l0_0.length ≤ c0_0) (hr0_1 : Kd.C (Kd.int .i64) w A0_1 l0_1.length l0_1) (hc0_1 : l0_1.length ≤ c0_1) (hr1_0 : Kd.C (Kd.int .i64) w A1_0 l1_0.length l1_0) (hc1_0 : l1_0.length ≤ c1_0) (hr1_1 : Kd.C (Kd.int .i64) w A1_1 l1_1.length l1_1) (hc1_1 : l1_1.length ≤ c1_1) (h : tens_Sub.f k l0_0 l0_1 l1_0 l1_1 = some (r1, r2, r3)) :
  Calls Try.prog 23 #[.agg #[.slice A0_0 l0_0.length c0_0, .slice A0_1 l0_1.length c0_1], .agg #[.slice A1_0 l1_0.length c1_0, .slice A1_1 l1_1.length c1_1]] w fun e w' => ∃ v0_ v1_ : Value, e = .returned (.tuple #[.agg #[v0_, v1_], .int .i64 r3]) ∧ Kd.R (Kd.int .i64) 3 w' w.heap.size (fun _ => True) v0_ r1 ∧ Kd.R (Kd.int .i64) 23 w' w.heap.size (fun _ => True) v1_ r2 ∧ Below w.heap.size w w' := by
 have hu27 := Try.underlying27
 have HR0_0 := Aside0.mk hr0_0
 have HC0_0 := Aside0.mk hc0_0
 clear hr0_0 hc0_0
 have HR0_1 := Aside0.mk hr0_1
 have HC0_1 := Aside0.mk hc0_1
 clear hr0_1 hc0_1
 have HR1_0 := Aside0.mk hr1_0
 have HC1_0 := Aside0.mk hc1_0
 clear hr1_0 hc1_0
 have HR1_1 := Aside0.mk hr1_1
 have HC1_1 := Aside0.mk hc1_1
 clear hr1_1 hc1_1
 have HB := Aside0.mk (Below.refl w.heap.size w)
 have H : ((tens_both_Sub.f k l0_0 l0_1 l1_0 l1_1).bind fun bt344 => (some (bt344.1, bt344.2.1, bt344.2.2))) = some (r1, r2, r3) := h
 clear h
 replace H := Option.bind_eq_some_iff.mp H
 obtain ⟨⟨t344, t347, t350⟩, A30, H⟩ := H
 replace H : (some (t344, t347, t350)) = some (r1, r2, r3) := H
 have A3 := Aside0.mk A30
 clear A30
 simp only [Option.some.injEq, Prod.mk.injEq] at H
 obtain ⟨rfl, rfl, rfl⟩ := H
 go_enter Try.func23, Try.ntmps23
 go_wp2_with (first | ((with_reducible refine gate_dst (N := 2) rfl ?_); refine box_event ?hg (N := 2) ?hd (cs := #[.slice A0_0 l0_0.length c0_0, .slice A0_1 l0_1.length c0_1]) (t := 27) ?hr ?_; (case hd => rfl); (case hg => rfl); (case hr => first | (go_simp; done) | (go_simp; rfl)); intro gb341 hg w4 hbox hb; have BK341 := Aside0.mk (hbox); have GW341 := Aside0.mk (zs_ hg (zw0_ HB)); have GE341 := Aside0.mk (zs_ hg (zw0_ HB)); replace HB := Aside0.mk (below_step (zw0_ HB) hb); clear hb hbox hg) | ((with_reducible refine gate_dst (N := 3) rfl ?_); refine box_event ?hg (N := 3) ?hd (cs := #[.slice A1_0 l1_0.length c1_0, .slice A1_1 l1_1.length c1_1]) (t := 27) ?hr ?_; (case hd => rfl); (case hg => rfl); (case hr => first | (go_simp; done) | (go_simp; rfl)); intro gb342 hg w5 hbox hb; have BK342 := Aside0.mk (hbox); have GW342 := Aside0.mk (zs_ hg (zw1_ HB GE341)); have GE342 := Aside0.mk (zs_ hg (zw1_ HB GE341)); replace HB := Aside0.mk (below_step (zw1_ HB GE341) hb); have NB341_342 := Aside0.mk (zn_ hg BK341); have NB342_341 := Aside0.mk (zm_ hg BK341); replace BK341 := Aside0.mk (zl_ BK341 hb); clear hb hbox hg) | ((with_reducible refine gate_dst (N := 4) rfl ?_); refine box_event ?hg (N := 4) ?hd (cs := #[.slice none 0 0, .slice none 0 0]) (t := 27) ?hr ?_; (case hd => rfl); (case hg => rfl); (case hr => first | (go_simp; done) | (go_simp; rfl)); intro gb343 hg w6 hbox hb; have BK343 := Aside0.mk (hbox); have GW343 := Aside0.mk (zs_ hg (zw2_ HB GE341 GE342)); have GE343 := Aside0.mk (zs_ hg (zw2_ HB GE341 GE342)); replace HB := Aside0.mk (below_step (zw2_ HB GE341 GE342) hb); have NB341_343 := Aside0.mk (zn_ hg BK341); have NB343_341 := Aside0.mk (zm_ hg BK341); replace BK341 := Aside0.mk (zl_ BK341 hb); have NB342_343 := Aside0.mk (zn_ hg BK342); have NB343_342 := Aside0.mk (zm_ hg BK342); replace BK342 := Aside0.mk (zl_ BK342 hb); clear hb hbox hg; have hnb7 := NB341_342.out; have hnc7 := NB342_341.out; have hnb8 := NB341_343.out; have hnc8 := NB343_341.out; have hcz9_0 := zx_ (v := .slice A0_0 l0_0.length c0_0) BK341 0; have hcz9_1 := zx_ (v := .slice A0_1 l0_1.length c0_1) BK341 1; have hfz9_0 := blk_frozen BK341.out 0; have hfz9_1 := blk_frozen BK341.out 1; have hnb10 := NB342_343.out; have hnc10 := NB343_342.out; have hcz11_0 := zx_ (v := .slice A1_0 l1_0.length c1_0) BK342 0; have hcz11_1 := zx_ (v := .slice A1_1 l1_1.length c1_1) BK342 1; have hfz11_0 := blk_frozen BK342.out 0; have hfz11_1 := blk_frozen BK342.out 1) | ((with_reducible refine gate_callee (f := 39) rfl ?_); refine zg_ (some 8) Try.func39 #[.agg #[.slice A0_0 l0_0.length c0_0, .slice A0_1 l0_1.length c0_1], .agg #[.slice A1_0 l1_0.length c1_0, .slice A1_1 l1_1.length c1_1], .func (.func 45) #[] #[]] (h := ?_); (with_reducible refine (tens_both_Sub.calls k _ _ l0_0 _ _ l0_1 _ _ l1_0 _ _ l1_1 t344 t347 t350 _ ?side1 ?side2 ?side3 ?side4 ?side5 ?side6 ?side7 ?side8 A3.out).mono ?_); (case side1 => exact zk_ (Kd.C_below HR0_0.out HB.out)); (case side2 => exact HC0_0.out); (case side3 => exact zk_ (Kd.C_below HR0_1.out HB.out)); (case side4 => exact HC0_1.out); (case side5 => exact zk_ (Kd.C_below HR1_0.out HB.out)); (case side6 => exact HC1_0.out); (case side7 => exact zk_ (Kd.C_below HR1_1.out HB.out)); (case side8 => exact HC1_1.out); rintro e w12 ⟨v345, v348, rfl, ho0, ho1, hb⟩; refine ⟨_, rfl, ?_⟩; have HO346 := Aside0.mk (Kd.R_lower ho0 (below_size (zw3_ HB GE341 GE342 GE343))); have HO349 := Aside0.mk (Kd.R_lower ho1 (below_size (zw3_ HB GE341 GE342 GE343))); replace BK341 := Aside0.mk (zl_ BK341 hb); replace BK342 := Aside0.mk (zl_ BK342 hb); replace BK343 := Aside0.mk (zl_ BK343 hb); replace HB := Aside0.mk (below_step (zw3_ HB GE341 GE342 GE343) hb); (try clear hb); (try clear ho0); (try clear ho1); obtain ⟨Ao13, co13, eo13⟩ := Kd.R_slice HO346.out; subst eo13; have hcz14_0 := zx_ (v := .slice none 0 0) BK343 0; have hcz14_1 := zx_ (v := .slice none 0 0) BK343 1; have hfz14_0 := blk_frozen BK343.out 0; have hfz14_1 := blk_frozen BK343.out 1; obtain ⟨Ao15, co15, eo15⟩ := Kd.R_slice HO349.out; subst eo15))
 refine bodyPost_ret (results_ct rfl _ _ gb343 27 #[.slice Ao13 t344.length co13, .slice Ao15 t347.length co15] (0, 0) _ rfl (by (with_reducible repeat (first | refine blk_drewN ?_ _ | refine blk_drew ?_ | refine blk_alloc ?_ _)); refine blk_put (cs := #[.slice Ao13 t344.length co13, .slice none 0 0]) ?_ 1 _ rfl; (with_reducible repeat (first | refine blk_drewN ?_ _ | refine blk_drew ?_ | refine blk_alloc ?_ _)); refine blk_put (cs := #[.slice none 0 0, .slice none 0 0]) ?_ 0 _ rfl; (with_reducible repeat (first | refine blk_drewN ?_ _ | refine blk_drew ?_ | refine blk_alloc ?_ _)); exact BK343.out) Try.underlying27 rfl (by kernel_rfl)) rfl ?_
 exact ⟨_, _, by first | rfl | (simp [errW_none, errW_some] <;> rfl) | (simp [*, errW_none, errW_some] <;> rfl), zr_ (Kd.R_mono (Kd.R_far (p := ⟨gb343, 1, none⟩) (Kd.R_far (p := ⟨gb343, 0, none⟩) (Kd.R_types HO346.out BK343.out (by decide)) (fun _ hk => hk.2) (.slice Ao13 t344.length co13)) (fun _ hk => hk.2) (.slice Ao15 t347.length co15)) (fun _ hk => trivial)), zr_ (Kd.R_mono (Kd.R_far (p := ⟨gb343, 1, none⟩) (Kd.R_far (p := ⟨gb343, 0, none⟩) (Kd.R_types HO349.out BK343.out (by decide)) (fun _ hk => hk.2) (.slice Ao13 t344.length co13)) (fun _ hk => hk.2) (.slice Ao15 t347.length co15)) (fun _ hk => trivial)), zw3_ HB GE341 GE342 GE343⟩

/-! ### slices_Clone_Fix: function 41 -/
def slices_Clone_Fix.f (l0 : List Int) : Option (List Int) := if l0.length < 17592186044416 then some l0 else none
set_option maxHeartbeats 8000000 in
set_option maxRecDepth 100000 in
theorem slices_Clone_Fix.calls (A0 : Option Addr) (c0 : Nat) (l0 : List Int) (r : List Int) (w : World) (hr0 : Kd.C (Kd.int .i64) w A0 l0.length l0) (hc0 : l0.length ≤ c0) (h : slices_Clone_Fix.f l0 = some r) :
  Calls Try.prog 41 #[.slice A0 l0.length c0] w fun e w' => ∃ v0_ : Value, e = .returned (v0_) ∧ Kd.R (Kd.int .i64) 23 w' w.heap.size (fun _ => True) v0_ r ∧ Below w.heap.size w w' := by
 have HR0 := Aside0.mk hr0
 have HC0 := Aside0.mk hc0
 clear hc0
 have HB := Aside0.mk (Below.refl w.heap.size w)
 have heq : ∀ (w : World) (a : Option Addr) (n c n' c' : Nat), (binOp .eql 25 (.slice a n c) (.slice none n' c')).run Try.prog w = .ok (.bool a.isNone) w := fun w a n c n' c' => Lib.run_eql_slice_nil w _ _ a n c n' c' Try.underlying25
 unfold slices_Clone_Fix.f at h
 by_cases c3 : l0.length < 17592186044416
 ·rw [if_pos c3] at h
  obtain rfl := Option.some.inj h
  have LMc3 := Aside0.mk c3
  clear c3 h
  cases A0 with
  | none =>
   have e0 : l0 = [] := by
    cases l0 with
    | nil => rfl
    | cons x xs => obtain ⟨ad, e, _⟩ := hr0.2.2 (by simp); cases e
   subst e0
   clear hr0
   go_enter Try.func41, Try.ntmps41
   go_wp2
   go_ret
   exact ⟨_, rfl, Kd.R_nil _ _ _ _ _, Below.refl _ _⟩
  | some a0 =>
   clear hr0
   obtain ⟨y0, hy0⟩ : ∃ y_ : List Int, y_ = (([] : List Int)) := ⟨_, rfl⟩
   have Ny0 := Aside0.mk hy0
   have LMc4 : Aside0 (y0.length + l0.length < 17592186044416) := ⟨by rw [hy0]; simpa using LMc3.out⟩
   obtain ⟨y1, hy1⟩ : ∃ y_ : List Int, y_ = y0 ++ l0 := ⟨_, rfl⟩
   have e1 : y1 = l0 := by rw [hy1, hy0]; rfl
   have Ny1 := Aside0.mk hy1
   have E1 := Aside0.mk e1
   clear hy0 hy1 e1
   go_enter Try.func41, Try.ntmps41
   go_wp2_with (first | ((with_reducible refine gate_dst (N := 5) rfl ?_); refine Kd.R_lit (Kd.int .i64) _ 23 ?hg (N := 5) ?hd (xs := ([] : List Int)) (inner := []) (ok := fun _ => True) (okp := fun _ => True) ?hr ?hp (fun _ hk => hk) trivial (Below.refl _ _) (Nat.le_refl _) (by simp) ?_; (case hd => rfl); (case hg => rfl); (case hr => first | (go_simp; done) | (go_simp; rfl)); (case hp => exact (Reps.none _ _)); intro v182 w8 ho9 hb hg_ hnew_; clear hg_ hnew_; rw [← Ny0.out] at ho9; have n0_ := Aside0.mk (Kd.R_lower ho9 (below_size (zw0_ HB))); have n2_ := Aside0.mk (below_step (zw0_ HB) hb); clear HB; have HO183 := n0_; have HB := n2_; clear n0_ n2_; clear hb ho9) | ((with_reducible refine gate_builtin (b := .append) (xs := #[.tmp 5, .tmp 6]) rfl ?_); at_builtin; refine Kd.R_append_rows (Kd.int .i64) (w0 := w) w.heap.size rfl (.tmp 5) (.tmp 6) 25 23 (.int .i64 0) 8 rfl Try.underlying25 info23 rfl (by decide) (by omega) v182 y0 l0 _ _ _ (fun _ => True) (fun _ => False) rfl rfl ?aO ?aR (fun _ _ h => h) (fun _ h => h.elim) ?aF ?aB ?aS ?aL ?_; (case aR => exact zk_ (Kd.C_below HR0.out HB.out)); (case aB => exact (zw0_ HB)); (case aF => exact (fun _ _ => trivial)); (case aO => exact (zr_ HO183.out)); (case aS => exact (below_size (zw0_ HB))); (case aL => have := LMc4.out; omega); intro v185 w10 ho hb hg hat; rw [← Ny1.out] at ho; have n1_ := Aside0.mk (hb); have n2_ := Aside0.mk (ho); clear HB HO183; have HB := n1_; have HO186 := n2_; clear n1_ n2_; clear ho hb hg hat))
   go_ret
   exact ⟨_, rfl, by rw [← E1.out]; exact HO186.out, HB.out⟩
 ·rw [if_neg c3] at h
  cases h

/-! ### tens_Copy: function 56 -/
def tens_Copy.f (l0_0 : List Int) (l0_1 : List Int) : Option (List Int × List Int) := (slices_Clone_int_int.f l0_0).bind fun t353 => ((slices_Clone_Fix.f l0_1).bind fun t356 => (some (t353, t356)))
def tens_Copy.T1 : Bool × List (List Nat × List Nat) := (true, [([], []), ([0], [0]), ([1], [1]), ([], []), ([3], [3]), ([4, 2], [4]), ([2, 5], [2, 5]), ([6, 5, 0, 1, 2, 3, 4, 5, 6], [6])])
def tens_Copy.B1 : List Nat := [0, 1, 3, 0, 8, 31, 63, 127]
theorem tens_Copy.tab1 : rtab .any (opsOf Try.f56 1) = tens_Copy.T1 := by kernel_rfl
theorem tens_Copy.bits1 : waitsOk tens_Copy.T1.2 tens_Copy.B1 = true := by kernel_rfl
set_option maxHeartbeats 8000000 in
set_option maxRecDepth 100000 in
theorem tens_Copy.calls (A0_0 : Option Addr) (c0_0 : Nat) (l0_0 : List Int) (A0_1 : Option Addr) (c0_1 : Nat) (l0_1 : List Int) (r1 : List Int) (r2 : List Int) (w : World) (hr0_0 : Kd.C (Kd.int .i64) w A0_0 l0_0.length l0_0) (hc0_0 : l0_0.length ≤ c0_0) (hr0_1 : Kd.C (Kd.int .i64) w A0_1 l0_1.length l0_1) (hc0_1 : l0_1.length ≤ c0_1) (h : tens_Copy.f l0_0 l0_1 = some (r1, r2)) :
  Calls Try.prog 56 #[.agg #[.slice A0_0 l0_0.length c0_0, .slice A0_1 l0_1.length c0_1]] w fun e w' => ∃ v0_ v1_ : Value, e = .returned (.agg #[v0_, v1_]) ∧ Kd.R (Kd.int .i64) 3 w' w.heap.size (fun _ => True) v0_ r1 ∧ Kd.R (Kd.int .i64) 23 w' w.heap.size (fun _ => True) v1_ r2 ∧ Below w.heap.size w w' := by
 have hu27 := Try.underlying27
 have HR0_0 := Aside0.mk hr0_0
 have HC0_0 := Aside0.mk hc0_0
 clear hr0_0 hc0_0
 have HR0_1 := Aside0.mk hr0_1
 have HC0_1 := Aside0.mk hc0_1
 clear hr0_1 hc0_1
 have HB := Aside0.mk (Below.refl w.heap.size w)
 have H : ((slices_Clone_int_int.f l0_0).bind fun t353 => ((slices_Clone_Fix.f l0_1).bind fun t356 => (some (t353, t356)))) = some (r1, r2) := h
 clear h
 replace H := Option.bind_eq_some_iff.mp H
 obtain ⟨t353, A20, H⟩ := H
 replace H : ((slices_Clone_Fix.f l0_1).bind fun t356 => (some (t353, t356))) = some (r1, r2) := H
 have A2 := Aside0.mk A20
 clear A20
 replace H := Option.bind_eq_some_iff.mp H
 obtain ⟨t356, A30, H⟩ := H
 replace H : (some (t353, t356)) = some (r1, r2) := H
 have A3 := Aside0.mk A30
 clear A30
 simp only [Option.some.injEq, Prod.mk.injEq] at H
 obtain ⟨rfl, rfl⟩ := H
 go_enter Try.func56, Try.ntmps56
 try go_wp2_with (first | ((with_reducible refine gate_dst (N := 1) rfl ?_); refine box_event ?hg (N := 1) ?hd (cs := #[.slice A0_0 l0_0.length c0_0, .slice A0_1 l0_1.length c0_1]) (t := 27) ?hr ?_; (case hd => rfl); (case hg => rfl); (case hr => first | (go_simp; done) | (go_simp; rfl)); intro gb351 hg w4 hbox hb; have BK351 := Aside0.mk (hbox); have GW351 := Aside0.mk (zs_ hg (zw0_ HB)); have GE351 := Aside0.mk (zs_ hg (zw0_ HB)); replace HB := Aside0.mk (below_step (zw0_ HB) hb); clear hb hbox hg) | ((with_reducible refine gate_dst (N := 2) rfl ?_); refine box_event ?hg (N := 2) ?hd (cs := #[.slice none 0 0, .slice none 0 0]) (t := 27) ?hr ?_; (case hd => rfl); (case hg => rfl); (case hr => first | (go_simp; done) | (go_simp; rfl)); intro gb352 hg w5 hbox hb; have BK352 := Aside0.mk (hbox); have GW352 := Aside0.mk (zs_ hg (zw1_ HB GE351)); have GE352 := Aside0.mk (zs_ hg (zw1_ HB GE351)); replace HB := Aside0.mk (below_step (zw1_ HB GE351) hb); have NB351_352 := Aside0.mk (zn_ hg BK351); have NB352_351 := Aside0.mk (zm_ hg BK351); replace BK351 := Aside0.mk (zl_ BK351 hb); clear hb hbox hg))
 replace BK351 := Aside0.mk (blk_drew BK351.out)
 replace BK352 := Aside0.mk (blk_drew BK352.out)
 replace HB := Aside0.mk (below_drew1 HB.out)
 refine start_ (n := 8) (S := fun w' => w'.cell? ⟨gb351, 0, none⟩ = some (.slice A0_0 l0_0.length c0_0) ∧ w'.cell? ⟨gb351, 1, none⟩ = some (.slice A0_1 l0_1.length c0_1)) (ds := []) #[false, false, false, false, false, false, false, false] (by kernel_rfl) rfl rfl ⟨(blk_cell BK351.out 0).trans rfl, (blk_cell BK351.out 1).trans rfl⟩ (fun hHeld => ?_); refine with_tabW tens_Copy.tab1 tens_Copy.bits1 (fun HT_ HW_ => ?_)
 generalize w5.drew = w6 at BK351 BK352 HB hHeld ⊢
 refine zp_ 0 (some 3) (h := ?_)
 refine zp_ 3 (some 6) (h := ?_)
 refine zt_ 1 (some 4) (hr := by rintro w' ⟨s0, s1⟩; go_simp; with_reducible rfl) (h := ?_)
 refine zt_ 4 (some 7) (hr := by rintro w' ⟨s0, s1⟩; go_simp; with_reducible rfl) (h := ?_)
 refine one_ (i := 2) (N := some 5) #[true, true, true, true, true, false, false, false] rfl rfl (one_of HT_.out (by kernel_rfl)) (by decide) (fun K hK => ?_)
 refine goes_ Try.func34 (by kernel_rfl) rfl #[.slice A0_0 l0_0.length c0_0] (by rfl) rfl rfl (by (try simp only [List.map_toArray, List.map_cons, List.map_nil]); first | done | rfl | (simp only [List.length_drop, List.length_take]; rfl)) ?_
 with_reducible refine (slices_Clone_int_int.calls _ _ l0_0 t353 _ ?side1 ?side2 A2.out).mono ?_
 (case side1 => exact zk_ (Kd.C_below HR0_0.out HB.out))
 (case side2 => exact HC0_0.out)
 rintro e w7 ⟨v354, rfl, ho0, hb⟩
 refine ⟨_, rfl, ?_⟩
 have HO355 := Aside0.mk (Kd.R_lower ho0 (below_size (zw2_ HB GE351 GE352)))
 replace BK351 := Aside0.mk (zl_ BK351 hb)
 replace BK352 := Aside0.mk (zl_ BK352 hb)
 replace HB := Aside0.mk (below_step (zw2_ HB GE351 GE352) hb)
 (try clear hb)
 (try clear hb2)
 (try clear hk)
 (try clear hi)
 (try clear ho0)
 refine hK.out _ _ ⟨(blk_cell BK351.out 0).trans rfl, (blk_cell BK351.out 1).trans rfl⟩ (fun hHeld => ?_)
 clear hK K
 refine zq_ (some 5) (h := ?_)
 refine one_ (i := 5) (N := some 8) #[true, true, true, true, true, true, false, false] rfl rfl (one_of HT_.out (by kernel_rfl)) (by decide) (fun K hK => ?_)
 refine goes_ Try.func41 (by kernel_rfl) rfl #[.slice A0_1 l0_1.length c0_1] (by rfl) rfl rfl (by (try simp only [List.map_toArray, List.map_cons, List.map_nil]); first | done | rfl | (simp only [List.length_drop, List.length_take]; rfl)) ?_
 with_reducible refine (slices_Clone_Fix.calls _ _ l0_1 t356 _ ?side1 ?side2 A3.out).mono ?_
 (case side1 => exact zk_ (Kd.C_below HR0_1.out HB.out))
 (case side2 => exact HC0_1.out)
 rintro e w8 ⟨v357, rfl, ho0, hb⟩
 refine ⟨_, rfl, ?_⟩
 replace HO355 := Aside0.mk (Kd.R_below (zr_ HO355.out) hb)
 have HO358 := Aside0.mk (Kd.R_lower ho0 (below_size (zw2_ HB GE351 GE352)))
 replace BK351 := Aside0.mk (zl_ BK351 hb)
 replace BK352 := Aside0.mk (zl_ BK352 hb)
 replace HB := Aside0.mk (below_step (zw2_ HB GE351 GE352) hb)
 (try clear hb)
 (try clear hb2)
 (try clear hk)
 (try clear hi)
 (try clear ho0)
 obtain ⟨Ao9, co9, eo9⟩ := Kd.R_slice HO358.out
 (first | subst eo9 | (injection eo9 with f1_ f2_ f3_; have f4_ := f1_.symm; have f5_ := f3_.symm; clear f1_ f2_ f3_; subst f4_; subst f5_))
 obtain ⟨Ao10, co10, eo10⟩ := Kd.R_slice HO355.out
 (first | subst eo10 | (injection eo10 with f1_ f2_ f3_; have f4_ := f1_.symm; have f5_ := f3_.symm; clear f1_ f2_ f3_; subst f4_; subst f5_))
 refine hK.out _ _ ⟨(blk_cell BK351.out 0).trans rfl, (blk_cell BK351.out 1).trans rfl⟩ (fun hHeld => ?_)
 clear hK K
 refine zq_ (some 8) (h := ?_)
 refine zp_ 6 (some 9) (h := ?_)
 refine one_ (i := 7) (N := none) #[true, true, true, true, true, true, true, true] rfl rfl (one_of HT_.out (by kernel_rfl)) (by decide) (fun K hK => ?_)
 have hs11 := zx_ (v := .slice none 0 0) BK352 0
 have hfs11 := blk_frozen BK352.out 0
 have hns11_0 := NB351_352.out
 have hms11_0 := NB352_351.out
 have hs12 := zx_ (v := .slice none 0 0) BK352 1
 have hfs12 := blk_frozen BK352.out 1
 have hns12_0 := NB351_352.out
 have hms12_0 := NB352_351.out
 refine skip_ (w1 := ?_) (by rfl) rfl ?_ ?_
 rotate_left
 ·go_simp
  rfl
 refine hK.out _ _ ⟨((cell_far (p := ⟨gb352, _, none⟩) NB351_352.out _).trans (((cell_far (p := ⟨gb352, _, none⟩) NB351_352.out _).trans (hHeld.1)))), ((cell_far (p := ⟨gb352, _, none⟩) NB351_352.out _).trans (((cell_far (p := ⟨gb352, _, none⟩) NB351_352.out _).trans (hHeld.2))))⟩ (fun hHeld => ?_)
 clear hK K
 refine done_ (done_of HT_.out (by kernel_rfl)) ?_
 try go_wp2
 refine bodyPost_ret (results_cell_row rfl _ _ gb352 27 #[.slice Ao10 t353.length co10, .slice Ao9 t356.length co9] (0, 0) _ rfl (by (with_reducible repeat (first | refine blk_drewN ?_ _ | refine blk_drew ?_ | refine blk_alloc ?_ _)); refine blk_put (cs := #[.slice Ao10 t353.length co10, .slice none 0 0]) ?_ 1 _ rfl; (with_reducible repeat (first | refine blk_drewN ?_ _ | refine blk_drew ?_ | refine blk_alloc ?_ _)); refine blk_put (cs := #[.slice none 0 0, .slice none 0 0]) ?_ 0 _ rfl; (with_reducible repeat (first | refine blk_drewN ?_ _ | refine blk_drew ?_ | refine blk_alloc ?_ _)); exact BK352.out) Try.underlying27 rfl (by kernel_rfl)) rfl ?_
 exact ⟨_, _, by first | rfl | (simp [errW_none, errW_some] <;> rfl) | (simp [*, errW_none, errW_some] <;> rfl), zr_ (Kd.R_mono (Kd.R_far (p := ⟨gb352, 1, none⟩) (Kd.R_far (p := ⟨gb352, 0, none⟩) (Kd.R_types HO355.out BK352.out (by decide)) (fun _ hk => hk.2) (.slice Ao10 t353.length co10)) (fun _ hk => hk.2) (.slice Ao9 t356.length co9)) (fun _ hk => trivial)), zr_ (Kd.R_mono (Kd.R_far (p := ⟨gb352, 1, none⟩) (Kd.R_far (p := ⟨gb352, 0, none⟩) (Kd.R_types HO358.out BK352.out (by decide)) (fun _ hk => hk.2) (.slice Ao10 t353.length co10)) (fun _ hk => hk.2) (.slice Ao9 t356.length co9)) (fun _ hk => trivial)), zw2_ HB GE351 GE352⟩

/-! ### tens_Scale: function 27 -/
def tens_Scale.l0 : Nat → Int → Int → Int → List Int → List Int → Option (List Int × List Int × Int)
 | 0, _, _, _, _, _ => none
 | k + 1, x1, x17, x18, x369000, x369001 => if x18 < x17 then (if 0 ≤ x18 then (if x18 < (x369001.length : Int) then ((fix_Mul.f k (rd x369001 x18) x1).bind fun t370 => (tens_Scale.l0 k x1 x17 (wrap64 (x18 + 1)) x369000 (x369001.set (x18 : Int).toNat t370))) else (none)) else (none)) else (some (x369000, x369001, 0))
def tens_Scale.f (k : Nat) (l0_0 : List Int) (l0_1 : List Int) (a1 : Int) : Option (List Int × List Int × Int) := (tens_Good.f k l0_0 l0_1).bind fun t361 => (if t361 = true then ((tens_Copy.f l0_0 l0_1).bind fun bt362 => (tens_Scale.l0 k a1 (bt362.2.length : Int) 0 bt362.1 bt362.2)) else (some (([] : List Int), ([] : List Int), 1)))
theorem tens_Scale.mono_l : ∀ k, (∀ y0 y1 y2 y3 y4, LeO (tens_Scale.l0 k y0 y1 y2 y3 y4) (tens_Scale.l0 (k + 1) y0 y1 y2 y3 y4))
 | 0 => fun _ _ _ _ _ r h => by simp [tens_Scale.l0] at h
 | k + 1 => by
  have ih0 := tens_Scale.mono_l k
  ·intro y0 y1 y2 y3 y4
   unfold tens_Scale.l0
   repeat' first
   | (with_reducible exact ih0 _ _ _ _ _)
   | (with_reducible exact fix_Mul.mono _ _ _)
   | (with_reducible exact LeO.refl _)
   | (with_reducible exact LeO.none _)
   | (with_reducible refine LeO.ite ?_ ?_)
   | (with_reducible refine LeO.bind ?_ (fun _ => ?_))
   | exact ih0 _ _ _ _ _
   | exact fix_Mul.mono _ _ _
   | exact LeO.none _
   | refine LeO.ite ?_ ?_
   | refine LeO.bind ?_ (fun _ => ?_)
theorem tens_Scale.mono : ∀ a0 a1 a2 k, LeO (tens_Scale.f k a0 a1 a2) (tens_Scale.f (k + 1) a0 a1 a2) := by
 intro a0 a1 a2 k
 have ih0 := tens_Scale.mono_l k
 unfold tens_Scale.f
 repeat' first
   | (with_reducible exact ih0 _ _ _ _ _)
   | (with_reducible exact tens_Good.mono _ _ _)
   | (with_reducible exact LeO.refl _)
   | (with_reducible exact LeO.none _)
   | (with_reducible refine LeO.ite ?_ ?_)
   | (with_reducible refine LeO.bind ?_ (fun _ => ?_))
   | exact ih0 _ _ _ _ _
   | exact tens_Good.mono _ _ _
   | exact LeO.none _
   | refine LeO.ite ?_ ?_
   | refine LeO.bind ?_ (fun _ => ?_)
def tens_Scale.T7 : Bool × List (List Nat × List Nat) := (true, [([], []), ([0], [0]), ([], []), ([], []), ([], []), ([3, 4], [3, 4]), ([1, 2, 0, 1, 2, 3, 4, 5], [1, 2]), ([6, 5, 5, 0, 1, 2, 3, 4, 5], [5, 6])])
def tens_Scale.B7 : List Nat := [0, 1, 0, 0, 0, 24, 63, 127]
theorem tens_Scale.tab7 : rtab .any (opsOf Try.f27 7) = tens_Scale.T7 := by kernel_rfl
theorem tens_Scale.bits7 : waitsOk tens_Scale.T7.2 tens_Scale.B7 = true := by kernel_rfl
set_option maxHeartbeats 8000000 in
set_option maxRecDepth 100000 in
theorem tens_Scale.calls (k : Nat) (A0_0 : Option Addr) (c0_0 : Nat) (l0_0 : List Int) (A0_1 : Option Addr) (c0_1 : Nat) (l0_1 : List Int) (a1 : Int) (r1 : List Int) (r2 : List Int) (r3 : Int) (w : World) (hr0_0 : Kd.C (Kd.int .i64) w A0_0 l0_0.length l0_0) (hc0_0 : l0_0.length ≤ c0_0) (hr0_1 : Kd.C (Kd.int .i64) w A0_1 l0_1.length l0_1) (hc0_1 : l0_1.length ≤ c0_1) (h : tens_Scale.f k l0_0 l0_1 a1 = some (r1, r2, r3)) :
  Calls Try.prog 27 #[.agg #[.slice A0_0 l0_0.length c0_0, .slice A0_1 l0_1.length c0_1], .int .i64 a1] w fun e w' => ∃ v0_ v1_ : Value, e = .returned (.tuple #[.agg #[v0_, v1_], .int .i64 r3]) ∧ Kd.R (Kd.int .i64) 3 w' w.heap.size (fun _ => True) v0_ r1 ∧ Kd.R (Kd.int .i64) 23 w' w.heap.size (fun _ => True) v1_ r2 ∧ Below w.heap.size w w' := by
 have hu27 := Try.underlying27
 have HR0_0 := Aside0.mk hr0_0
 have HC0_0 := Aside0.mk hc0_0
 clear hr0_0 hc0_0
 have HR0_1 := Aside0.mk hr0_1
 have HC0_1 := Aside0.mk hc0_1
 clear hr0_1 hc0_1
 have HB := Aside0.mk (Below.refl w.heap.size w)
 have H : ((tens_Good.f k l0_0 l0_1).bind fun t361 => (if t361 = true then ((tens_Copy.f l0_0 l0_1).bind fun bt362 => (tens_Scale.l0 k a1 (bt362.2.length : Int) 0 bt362.1 bt362.2)) else (some (([] : List Int), ([] : List Int), 1)))) = some (r1, r2, r3) := h
 clear h
 replace H := Option.bind_eq_some_iff.mp H
 obtain ⟨t361, A30, H⟩ := H
 (try dsimp only at H)
 have A3 := Aside0.mk A30
 clear A30
 by_cases c4 : t361 = true
 ·subst c4
  have H1 := H
  rw [if_pos rfl] at H1
  clear H
  have H := H1
  clear H1
  replace H := Option.bind_eq_some_iff.mp H
  obtain ⟨⟨t362, t365⟩, A50, H⟩ := H
  replace H : (tens_Scale.l0 k a1 (t365.length : Int) 0 t362 t365) = some (r1, r2, r3) := H
  have A5 := Aside0.mk A50
  clear A50
  have H' := Aside0.mk H
  clear H
  go_enter Try.func27, Try.ntmps27
  go_wp2_with (first | ((with_reducible refine gate_dst (N := 2) rfl ?_); refine box_event ?hg (N := 2) ?hd (cs := #[.slice A0_0 l0_0.length c0_0, .slice A0_1 l0_1.length c0_1]) (t := 27) ?hr ?_; (case hd => rfl); (case hg => rfl); (case hr => first | (go_simp; done) | (go_simp; rfl)); intro gb359 hg w6 hbox hb; have BK359 := Aside0.mk (hbox); have GW359 := Aside0.mk (zs_ hg (zw0_ HB)); have GE359 := Aside0.mk (zs_ hg (zw0_ HB)); replace HB := Aside0.mk (below_step (zw0_ HB) hb); clear hb hbox hg) | ((with_reducible refine gate_dst (N := 4) rfl ?_); refine box_event ?hg (N := 4) ?hd (cs := #[.slice none 0 0, .slice none 0 0]) (t := 27) ?hr ?_; (case hd => rfl); (case hg => rfl); (case hr => first | (go_simp; done) | (go_simp; rfl)); intro gb360 hg w7 hbox hb; have BK360 := Aside0.mk (hbox); have GW360 := Aside0.mk (zs_ hg (zw1_ HB GE359)); have GE360 := Aside0.mk (zs_ hg (zw1_ HB GE359)); replace HB := Aside0.mk (below_step (zw1_ HB GE359) hb); have NB359_360 := Aside0.mk (zn_ hg BK359); have NB360_359 := Aside0.mk (zm_ hg BK359); replace BK359 := Aside0.mk (zl_ BK359 hb); clear hb hbox hg; have hnb8 := NB359_360.out; have hnc8 := NB360_359.out; have hcz9_0 := zx_ (v := .slice A0_0 l0_0.length c0_0) BK359 0; have hcz9_1 := zx_ (v := .slice A0_1 l0_1.length c0_1) BK359 1; have hfz9_0 := blk_frozen BK359.out 0; have hfz9_1 := blk_frozen BK359.out 1) | ((with_reducible refine gate_callee (f := 16) rfl ?_); refine zg_ (some 10) Try.func16 #[.agg #[.slice A0_0 l0_0.length c0_0, .slice A0_1 l0_1.length c0_1]] (h := ?_); (with_reducible refine (tens_Good.calls k _ _ l0_0 _ _ l0_1 true _ ?side1 ?side2 ?side3 ?side4 A3.out).mono ?_); (case side1 => exact zk_ (Kd.C_below HR0_0.out HB.out)); (case side2 => exact HC0_0.out); (case side3 => exact zk_ (Kd.C_below HR0_1.out HB.out)); (case side4 => exact HC0_1.out); rintro e w10 ⟨rfl, hb⟩; refine ⟨_, rfl, ?_⟩; replace BK359 := Aside0.mk (zl_ BK359 hb); replace BK360 := Aside0.mk (zl_ BK360 hb); replace HB := Aside0.mk (below_step (zw2_ HB GE359 GE360) hb); (try clear hb); have hcz11_0 := zx_ (v := .slice A0_0 l0_0.length c0_0) BK359 0; have hcz11_1 := zx_ (v := .slice A0_1 l0_1.length c0_1) BK359 1; have hfz11_0 := blk_frozen BK359.out 0; have hfz11_1 := blk_frozen BK359.out 1) | ((with_reducible refine gate_callee (f := 56) rfl ?_); refine zg_ (some 14) Try.func56 #[.agg #[.slice A0_0 l0_0.length c0_0, .slice A0_1 l0_1.length c0_1]] (h := ?_); (with_reducible refine (tens_Copy.calls _ _ l0_0 _ _ l0_1 t362 t365 _ ?side1 ?side2 ?side3 ?side4 A5.out).mono ?_); (case side1 => exact zk_ (Kd.C_below HR0_0.out HB.out)); (case side2 => exact HC0_0.out); (case side3 => exact zk_ (Kd.C_below HR0_1.out HB.out)); (case side4 => exact HC0_1.out); rintro e w12 ⟨v363, v366, rfl, ho0, ho1, hb⟩; refine ⟨_, rfl, ?_⟩; have HO364 := Aside0.mk (Kd.R_lower ho0 (below_size (zw2_ HB GE359 GE360))); have HO367 := Aside0.mk (Kd.R_lower ho1 (below_size (zw2_ HB GE359 GE360))); replace BK359 := Aside0.mk (zl_ BK359 hb); replace BK360 := Aside0.mk (zl_ BK360 hb); replace HB := Aside0.mk (below_step (zw2_ HB GE359 GE360) hb); (try clear hb); (try clear ho0); (try clear ho1)) | ((with_reducible refine gate_dst (N := 6) rfl ?_); refine box_event ?hg (N := 6) ?hd (cs := #[.slice none 0 0, .slice none 0 0]) (t := 27) ?hr ?_; (case hd => rfl); (case hg => rfl); (case hr => first | (go_simp; done) | (go_simp; rfl)); intro gb368 hg w13 hbox hb; replace HO364 := Aside0.mk (Kd.R_below (zr_ HO364.out) hb); replace HO367 := Aside0.mk (Kd.R_below (zr_ HO367.out) hb); have BK368 := Aside0.mk (hbox); have GW368 := Aside0.mk (zs_ hg (zw2_ HB GE359 GE360)); have GE368 := Aside0.mk (zs_ hg (zw2_ HB GE359 GE360)); replace HB := Aside0.mk (below_step (zw2_ HB GE359 GE360) hb); have NB359_368 := Aside0.mk (zn_ hg BK359); have NB368_359 := Aside0.mk (zm_ hg BK359); replace BK359 := Aside0.mk (zl_ BK359 hb); have NB360_368 := Aside0.mk (zn_ hg BK360); have NB368_360 := Aside0.mk (zm_ hg BK360); replace BK360 := Aside0.mk (zl_ BK360 hb); clear hb hbox hg; obtain ⟨Ao14, co14, eo14⟩ := Kd.R_slice HO364.out; subst eo14; have hnb15 := NB368_359.out; have hnc15 := NB359_368.out; have hnb16 := NB368_360.out; have hnc16 := NB360_368.out; have hcz17_0 := zx_ (v := .slice none 0 0) BK368 0; have hcz17_1 := zx_ (v := .slice none 0 0) BK368 1; have hfz17_0 := blk_frozen BK368.out 0; have hfz17_1 := blk_frozen BK368.out 1; obtain ⟨Ao18, co18, eo18⟩ := Kd.R_slice HO367.out; subst eo18))
  go_loopg [18] k (fun kq v18 w' => ∃ (x18_1 : Int) (x369001_1 : List Int) (u369001 : Value), v18 = .int .i64 x18_1 ∧ Aside0 (u369001 = .slice Ao18 t365.length co18) ∧ Aside0 (x369001_1.length = t365.length) ∧ Aside0 (tens_Scale.l0 kq a1 (t365.length : Int) x18_1 t362 x369001_1 = some (r1, r2, r3)) ∧ Aside0 (kq ≤ k) ∧ Aside0 (Kd.R (Kd.int .i64) 3 w' w.heap.size (fun _ => True) (.slice Ao14 t362.length co14) t362) ∧ Aside0 (Kd.R (Kd.int .i64) 23 w' w.heap.size (fun _ => True) u369001 x369001_1) ∧ Aside0 (w'.heap[gb359]? = some (.cells #[(.slice A0_0 l0_0.length c0_0), (.slice A0_1 l0_1.length c0_1)] 27 (0, 0))) ∧ Aside0 (w'.heap[gb360]? = some (.cells #[(.slice none 0 0), (.slice none 0 0)] 27 (0, 0))) ∧ Aside0 (w'.heap[gb368]? = some (.cells #[(.slice Ao14 t362.length co14), u369001] 27 (0, 0))) ∧ Aside0 (Below w.heap.size w w'))
  case atStart => exact ⟨(0), (t365), (.slice Ao18 t365.length co18), (by first | rfl | (simp; done) | (simp [*]; done)), ⟨rfl⟩, ⟨rfl⟩, H', ⟨Nat.le_refl _⟩, ⟨zr_ (Kd.R_mono (Kd.R_far (p := ⟨gb368, 1, none⟩) (Kd.R_far (p := ⟨gb368, 0, none⟩) (Kd.R_types HO364.out BK368.out (by decide)) (fun _ hk => hk.2) (.slice Ao14 t362.length co14)) (fun _ hk => hk.2) (.slice Ao18 t365.length co18)) (fun _ hk => trivial))⟩, ⟨zr_ (Kd.R_mono (Kd.R_far (p := ⟨gb368, 1, none⟩) (Kd.R_far (p := ⟨gb368, 0, none⟩) (Kd.R_types HO367.out BK368.out (by decide)) (fun _ hk => hk.2) (.slice Ao14 t362.length co14)) (fun _ hk => hk.2) (.slice Ao18 t365.length co18)) (fun _ hk => trivial))⟩, ⟨by (with_reducible repeat (first | refine blk_drewN ?_ _ | refine blk_drew ?_ | refine blk_alloc ?_ _)); refine blk_far ?_ NB359_368.out _; (with_reducible repeat (first | refine blk_drewN ?_ _ | refine blk_drew ?_ | refine blk_alloc ?_ _)); refine blk_far ?_ NB359_368.out _; (with_reducible repeat (first | refine blk_drewN ?_ _ | refine blk_drew ?_ | refine blk_alloc ?_ _)); exact BK359.out⟩, ⟨by (with_reducible repeat (first | refine blk_drewN ?_ _ | refine blk_drew ?_ | refine blk_alloc ?_ _)); refine blk_far ?_ NB360_368.out _; (with_reducible repeat (first | refine blk_drewN ?_ _ | refine blk_drew ?_ | refine blk_alloc ?_ _)); refine blk_far ?_ NB360_368.out _; (with_reducible repeat (first | refine blk_drewN ?_ _ | refine blk_drew ?_ | refine blk_alloc ?_ _)); exact BK360.out⟩, ⟨by (with_reducible repeat (first | refine blk_drewN ?_ _ | refine blk_drew ?_ | refine blk_alloc ?_ _)); refine blk_put (cs := #[.slice Ao14 t362.length co14, .slice none 0 0]) ?_ 1 _ rfl; (with_reducible repeat (first | refine blk_drewN ?_ _ | refine blk_drew ?_ | refine blk_alloc ?_ _)); refine blk_put (cs := #[.slice none 0 0, .slice none 0 0]) ?_ 0 _ rfl; (with_reducible repeat (first | refine blk_drewN ?_ _ | refine blk_drew ?_ | refine blk_alloc ?_ _)); exact BK368.out⟩, ⟨zw3_ HB GE359 GE360 GE368⟩⟩
  case round =>
   clear H'
   try clear c1
   try clear c2
   try clear p2
   try clear c4
   try clear c5
   try clear c8
   try clear c15
   try clear c16
   try clear hcz11_0
   try clear hcz11_1
   try clear hcz17_0
   try clear hcz17_1
   try clear hcz9_0
   try clear hcz9_1
   try clear hfz11_0
   try clear hfz11_1
   try clear hfz17_0
   try clear hfz17_1
   try clear hfz9_0
   try clear hfz9_1
   obtain ⟨x18_1, x369001_1, u369001, rfl, hu_, hl_, HA, HK1, HO_369000, HO_369001, BK359, BK360, BK368, HB⟩ := hrel
   cases gk with
   | zero => exact absurd HA.out (by simp [tens_Scale.l0])
   | succ k1 =>
    have H := HA.out
    clear HA
    simp only [tens_Scale.l0] at H
    by_cases c19 : x18_1 < (t365.length : Int)
    ·rw [if_pos c19] at H
     have c19b0 : decide (x18_1 < (t365.length : Int)) = true := decide_eq_true c19
     clear c19
     by_cases c20 : 0 ≤ x18_1
     ·rw [if_pos c20] at H
      have c20b0 : decide (0 ≤ x18_1) = true := decide_eq_true c20
      clear c20
      by_cases c21 : x18_1 < (x369001_1.length : Int)
      ·rw [if_pos c21] at H
       have c21b0 : decide (x18_1 < (x369001_1.length : Int)) = true := decide_eq_true c21
       clear c21
       replace H := Option.bind_eq_some_iff.mp H
       obtain ⟨t370, A220, H⟩ := H
       replace H : (tens_Scale.l0 k1 a1 (t365.length : Int) (wrap64 (x18_1 + 1)) t362 (x369001_1.set (x18_1 : Int).toNat t370)) = some (r1, r2, r3) := H
       have A22 := Aside0.mk A220
       clear A220
       obtain ⟨y371, hy371⟩ : ∃ y_ : List Int, y_ = (x369001_1.set (x18_1 : Int).toNat t370) := ⟨_, rfl⟩
       replace H : (tens_Scale.l0 k1 a1 (t365.length : Int) (wrap64 (x18_1 + 1)) t362 y371) = some (r1, r2, r3) := by first | (rw [hy371]; with_reducible exact H) | (have H2_ := (Option.bind_some _ _).symm.trans H; rw [hy371]; with_reducible exact H2_) | (have H2_ := (Option.bind_some _ _).symm.trans H; with_reducible exact H2_) | with_reducible exact H | (rw [hy371]; exact H) | exact H
       have Ny371 := Aside0.mk hy371
       clear hy371
       have H' := Aside0.mk H
       clear H
       have hnb24 := NB368_359.out
       have hnc24 := NB359_368.out
       have hnb25 := NB368_360.out
       have hnc25 := NB360_368.out
       have hcz26_0 := zx_ (v := .slice Ao14 t362.length co14) BK368 0
       have hcz26_1 := zx_ (v := u369001) BK368 1
       have hfz26_0 := blk_frozen BK368.out 0
       have hfz26_1 := blk_frozen BK368.out 1
       obtain ⟨Ao27, co27, eo27⟩ := Kd.R_slice HO_369001.out
       have eq_ := eo27.symm.trans hu_.out
       subst eo27
       injection eq_ with ea_ en_ ec_
       clear en_ hu_
       subst ea_
       subst ec_
       have p369 : 0 ≤ (x18_1 : Int) := of_decide_eq_true (by first | (with_reducible assumption) | assumption)
       have q369 : x18_1 < (x369001_1.length : Int) := of_decide_eq_true (by first | (with_reducible assumption) | assumption)
       obtain ⟨ad369, e369, hx369_0⟩ := Kd.at_int (Kd.R_reads' HO_369001.out).2.2 x18_1 p369 q369
       cases e369
       replace p369 := eq_true p369
       rw [hl_.out] at q369
       replace q369 := eq_true q369
       try go_wp2
       replace HO_369000 := Aside0.mk (Kd.R_drew HO_369000.out)
       replace HO_369001 := Aside0.mk (Kd.R_drew HO_369001.out)
       replace BK359 := Aside0.mk (blk_drew BK359.out)
       replace BK360 := Aside0.mk (blk_drew BK360.out)
       replace BK368 := Aside0.mk (blk_drew BK368.out)
       replace HB := Aside0.mk (below_drew1 HB.out)
       refine start_ (n := 8) (S := fun w' => w'.cell? ⟨gb368, 0, none⟩ = some (.slice Ao14 t362.length co14) ∧ w'.cell? ⟨gb368, 1, none⟩ = some (.slice (some ad369) x369001_1.length co27)) (ds := [7]) #[false, false, false, false, false, false, false, false] (by kernel_rfl) rfl rfl ⟨(blk_cell BK368.out 0).trans rfl, (blk_cell BK368.out 1).trans rfl⟩ (fun hHeld => ?_); refine with_tabW tens_Scale.tab7 tens_Scale.bits7 (fun HT_ HW_ => ?_)
       generalize wr.drew = w28 at HO_369000 HO_369001 BK359 BK360 BK368 HB hHeld ⊢
       refine zp_ 0 (some 23) (h := ?_)
       refine zp_ 2 (some 25) (h := ?_)
       refine zp_ 3 (some 26) (h := ?_)
       refine zp_ 4 (some 27) (h := ?_)
       refine zt_ 1 (some 24) (hr := by rintro w' ⟨s0, s1⟩; go_simp; with_reducible rfl) (h := ?_)
       refine one_ (i := 5) (N := some 28) #[true, true, true, true, true, true, false, false] rfl rfl (one_of HT_.out (by kernel_rfl)) (by decide) (fun K hK => ?_)
       refine goes_ Try.func44 (by kernel_rfl) rfl #[.int .i64 (rd x369001_1 x18_1), .int .i64 a1] (by rfl) rfl rfl (by (try simp only [List.map_toArray, List.map_cons, List.map_nil]); first | done | rfl | (simp only [List.length_drop, List.length_take]; rfl)) ?_
       with_reducible refine (fix_Mul.calls k1 (rd x369001_1 x18_1) a1 t370 _ A22.out).mono ?_
       rintro e w' ⟨rfl, ⟨nd, rfl⟩⟩
       refine ⟨_, rfl, ?_⟩
       have p23 : 0 ≤ (x18_1 : Int) := of_decide_eq_true (by first | (with_reducible assumption) | assumption)
       have q23 : (x18_1 : Int) < ((x369001_1.length : Int) : Int) := of_decide_eq_true (by first | (with_reducible assumption) | assumption)
       obtain ⟨go23, co23, eo23, gb23, gl23, cl23, HG23⟩ := Kd.R_form HO_369001.out (by omega)
       (first | cases eo23 | (injection eo23 with ea_ en_ ec_; (first | subst ea_ | (injection ea_ with ea_; subst ea_)); subst ec_; clear en_))
       have GB23 := Aside0.mk gb23
       have GG23 := Aside0.mk HG23
       clear gb23 gl23 HG23
       (first | simp only [add_plain] at hx369_0 | skip)
       obtain ⟨hx23_0, hf23_0⟩ := Kd.R_celln 0 HO_369001.out (x18_1 : Int) p23 q23
       replace p23 := eq_true p23
       replace q23 := eq_true q23
       have HP29 := Kd.R_putn HO_369001.out (x18_1 : Int) t370
       rw [← Ny371.out] at HP29
       have HQ29 := Aside0.mk HP29
       clear HP29
       refine hK.out _ _ ⟨(blk_cell BK368.out 0).trans rfl, (blk_cell BK368.out 1).trans rfl⟩ (fun hHeld => ?_)
       clear hK K
       refine zq_ (some 28) (h := ?_)
       refine zp_ 6 (some 29) (h := ?_)
       refine last_ (i := 7) (N := none) #[true, true, true, true, true, true, true, true] rfl rfl (one_of HT_.out (by kernel_rfl)) (by decide) (fun K hK => ?_)
       refine skip_ (w1 := ?_) (by rfl) rfl ?_ ?_
       rotate_left
       ·go_simp
        rfl
       refine hK.out _ _ ?_
       clear hK K
       refine done_ (done_of HT_.out (by kernel_rfl)) ?_
       try go_wp2
       go_roundg k1
       case measure => have := HK1.out; omega
       case rel => exact ⟨(wrap64 (x18_1 + 1)), (y371), (.slice (some ⟨go23, 0, none⟩) x369001_1.length co27), (by first | rfl | (simp; done) | (simp [*]; done)), ⟨by rw [hl_.out]⟩, ⟨by rw [Ny371.out, List.length_set]; exact hl_.out⟩, H', ⟨by have := HK1.out; omega⟩, ⟨zr_ (Kd.R_mono (Kd.R_far (p := ⟨go23, (x18_1 : Int).toNat, none⟩) (Kd.R_types HO_369000.out GG23.out (by decide)) (fun _ hk => hk.2) (.int .i64 t370)) (fun _ hk => trivial))⟩, ⟨zr_ HQ29.out⟩, ⟨by (with_reducible repeat (first | refine blk_drewN ?_ _ | refine blk_drew ?_ | refine blk_alloc ?_ _)); refine blk_far ?_ (by have h_ := Kd.R_ne HO_369001.out BK359.out (by decide); intro e_; exact h_ (by rw [e_]; rfl)) _; (with_reducible repeat (first | refine blk_drewN ?_ _ | refine blk_drew ?_ | refine blk_alloc ?_ _)); exact BK359.out⟩, ⟨by (with_reducible repeat (first | refine blk_drewN ?_ _ | refine blk_drew ?_ | refine blk_alloc ?_ _)); refine blk_far ?_ (by have h_ := Kd.R_ne HO_369001.out BK360.out (by decide); intro e_; exact h_ (by rw [e_]; rfl)) _; (with_reducible repeat (first | refine blk_drewN ?_ _ | refine blk_drew ?_ | refine blk_alloc ?_ _)); exact BK360.out⟩, ⟨by (with_reducible repeat (first | refine blk_drewN ?_ _ | refine blk_drew ?_ | refine blk_alloc ?_ _)); refine blk_far ?_ (by have h_ := Kd.R_ne HO_369001.out BK368.out (by decide); intro e_; exact h_ (by rw [e_]; rfl)) _; (with_reducible repeat (first | refine blk_drewN ?_ _ | refine blk_drew ?_ | refine blk_alloc ?_ _)); exact BK368.out⟩, ⟨by repeat (first | (with_reducible first | exact HB.out | apply below_alloc | apply pw_below_drewN | apply below_drew1 | refine below_set ?_ GB23.out | refine below_set ?_ GE359.out | refine below_set ?_ GE360.out | refine below_set ?_ GE368.out) | exact HB.out)⟩⟩
      ·rw [if_neg c21] at H
       exact absurd H (by simp)
     ·rw [if_neg c20] at H
      exact absurd H (by simp)
    ·rw [if_neg c19] at H
     have c19b0 : decide (x18_1 < (t365.length : Int)) = false := decide_eq_false c19
     clear c19
     simp only [Option.some.injEq, Prod.mk.injEq] at H
     obtain ⟨rfl, rfl, rfl⟩ := H
     have hnb30 := NB368_359.out
     have hnc30 := NB359_368.out
     have hnb31 := NB368_360.out
     have hnc31 := NB360_368.out
     have hcz32_0 := zx_ (v := .slice Ao14 t362.length co14) BK368 0
     have hcz32_1 := zx_ (v := u369001) BK368 1
     have hfz32_0 := blk_frozen BK368.out 0
     have hfz32_1 := blk_frozen BK368.out 1
     have hnb33 := NB360_359.out
     have hnc33 := NB359_360.out
     have hcz34_0 := zx_ (v := .slice none 0 0) BK360 0
     have hcz34_1 := zx_ (v := .slice none 0 0) BK360 1
     have hfz34_0 := blk_frozen BK360.out 0
     have hfz34_1 := blk_frozen BK360.out 1
     obtain ⟨Ao35, co35, eo35⟩ := Kd.R_slice HO_369001.out
     subst eo35
     go_wp2
     refine bodyPost_ret (results_ct rfl _ _ gb360 27 #[.slice Ao14 t362.length co14, .slice Ao35 x369001_1.length co35] (0, 0) _ rfl (by (with_reducible repeat (first | refine blk_drewN ?_ _ | refine blk_drew ?_ | refine blk_alloc ?_ _)); refine blk_put (cs := #[.slice Ao14 t362.length co14, .slice none 0 0]) ?_ 1 _ rfl; (with_reducible repeat (first | refine blk_drewN ?_ _ | refine blk_drew ?_ | refine blk_alloc ?_ _)); refine blk_put (cs := #[.slice none 0 0, .slice none 0 0]) ?_ 0 _ rfl; (with_reducible repeat (first | refine blk_drewN ?_ _ | refine blk_drew ?_ | refine blk_alloc ?_ _)); exact BK360.out) Try.underlying27 rfl (by kernel_rfl)) rfl ?_
     exact ⟨_, _, by first | rfl | (simp [errW_none, errW_some] <;> rfl) | (simp [*, errW_none, errW_some] <;> rfl), zr_ (Kd.R_mono (Kd.R_far (p := ⟨gb360, 1, none⟩) (Kd.R_far (p := ⟨gb360, 0, none⟩) (Kd.R_types HO_369000.out BK360.out (by decide)) (fun _ hk => hk.2) (.slice Ao14 t362.length co14)) (fun _ hk => hk.2) (.slice Ao35 x369001_1.length co35)) (fun _ hk => trivial)), zr_ (Kd.R_mono (Kd.R_far (p := ⟨gb360, 1, none⟩) (Kd.R_far (p := ⟨gb360, 0, none⟩) (Kd.R_types HO_369001.out BK360.out (by decide)) (fun _ hk => hk.2) (.slice Ao14 t362.length co14)) (fun _ hk => hk.2) (.slice Ao35 x369001_1.length co35)) (fun _ hk => trivial)), zw3_ HB GE359 GE360 GE368⟩
 ·replace c4 := Bool.eq_false_iff.mpr c4
  subst c4
  have H1 : (some (([] : List Int), ([] : List Int), 1)) = some (r1, r2, r3) := by rw [if_neg (show ¬ (false = true) by decide)] at H; exact H
  clear H
  have H := H1
  clear H1
  simp only [Option.some.injEq, Prod.mk.injEq] at H
  obtain ⟨rfl, rfl, rfl⟩ := H
  go_enter Try.func27, Try.ntmps27
  go_wp2_with (first | ((with_reducible refine gate_dst (N := 2) rfl ?_); refine box_event ?hg (N := 2) ?hd (cs := #[.slice A0_0 l0_0.length c0_0, .slice A0_1 l0_1.length c0_1]) (t := 27) ?hr ?_; (case hd => rfl); (case hg => rfl); (case hr => first | (go_simp; done) | (go_simp; rfl)); intro gb359 hg w36 hbox hb; have BK359 := Aside0.mk (hbox); have GW359 := Aside0.mk (zs_ hg (zw0_ HB)); have GE359 := Aside0.mk (zs_ hg (zw0_ HB)); replace HB := Aside0.mk (below_step (zw0_ HB) hb); clear hb hbox hg) | ((with_reducible refine gate_dst (N := 4) rfl ?_); refine box_event ?hg (N := 4) ?hd (cs := #[.slice none 0 0, .slice none 0 0]) (t := 27) ?hr ?_; (case hd => rfl); (case hg => rfl); (case hr => first | (go_simp; done) | (go_simp; rfl)); intro gb360 hg w37 hbox hb; have BK360 := Aside0.mk (hbox); have GW360 := Aside0.mk (zs_ hg (zw1_ HB GE359)); have GE360 := Aside0.mk (zs_ hg (zw1_ HB GE359)); replace HB := Aside0.mk (below_step (zw1_ HB GE359) hb); have NB359_360 := Aside0.mk (zn_ hg BK359); have NB360_359 := Aside0.mk (zm_ hg BK359); replace BK359 := Aside0.mk (zl_ BK359 hb); clear hb hbox hg; have hnb38 := NB359_360.out; have hnc38 := NB360_359.out; have hcz39_0 := zx_ (v := .slice A0_0 l0_0.length c0_0) BK359 0; have hcz39_1 := zx_ (v := .slice A0_1 l0_1.length c0_1) BK359 1; have hfz39_0 := blk_frozen BK359.out 0; have hfz39_1 := blk_frozen BK359.out 1) | ((with_reducible refine gate_callee (f := 16) rfl ?_); refine zg_ (some 10) Try.func16 #[.agg #[.slice A0_0 l0_0.length c0_0, .slice A0_1 l0_1.length c0_1]] (h := ?_); (with_reducible refine (tens_Good.calls k _ _ l0_0 _ _ l0_1 false _ ?side1 ?side2 ?side3 ?side4 A3.out).mono ?_); (case side1 => exact zk_ (Kd.C_below HR0_0.out HB.out)); (case side2 => exact HC0_0.out); (case side3 => exact zk_ (Kd.C_below HR0_1.out HB.out)); (case side4 => exact HC0_1.out); rintro e w40 ⟨rfl, hb⟩; refine ⟨_, rfl, ?_⟩; replace BK359 := Aside0.mk (zl_ BK359 hb); replace BK360 := Aside0.mk (zl_ BK360 hb); replace HB := Aside0.mk (below_step (zw2_ HB GE359 GE360) hb); (try clear hb); have hcz41_0 := zx_ (v := .slice none 0 0) BK360 0; have hcz41_1 := zx_ (v := .slice none 0 0) BK360 1; have hfz41_0 := blk_frozen BK360.out 0; have hfz41_1 := blk_frozen BK360.out 1))
  refine bodyPost_ret (results_ct rfl _ _ gb360 27 #[.slice none 0 0, .slice none 0 0] (0, 0) _ rfl (by (with_reducible repeat (first | refine blk_drewN ?_ _ | refine blk_drew ?_ | refine blk_alloc ?_ _)); refine blk_put (cs := #[.slice none 0 0, .slice none 0 0]) ?_ 1 _ rfl; (with_reducible repeat (first | refine blk_drewN ?_ _ | refine blk_drew ?_ | refine blk_alloc ?_ _)); refine blk_put (cs := #[.slice none 0 0, .slice none 0 0]) ?_ 0 _ rfl; (with_reducible repeat (first | refine blk_drewN ?_ _ | refine blk_drew ?_ | refine blk_alloc ?_ _)); exact BK360.out) Try.underlying27 rfl (by kernel_rfl)) rfl ?_
  exact ⟨_, _, by first | rfl | (simp [errW_none, errW_some] <;> rfl) | (simp [*, errW_none, errW_some] <;> rfl), by first | exact Kd.R_nil _ _ _ _ _ | exact Kd.N_nil _ _ _ _ _ | exact Kd.V_nil _ _ _ _ _ | exact Kd.Q_nil _ _ _ _ _ | exact Kd.S_nil _ _ _ _ _, by first | exact Kd.R_nil _ _ _ _ _ | exact Kd.N_nil _ _ _ _ _ | exact Kd.V_nil _ _ _ _ _ | exact Kd.Q_nil _ _ _ _ _ | exact Kd.S_nil _ _ _ _ _, zw2_ HB GE359 GE360⟩

end Go.Proofs.Ytbdhabpplidgfaa.PTensNone
