/- The functions that the law ConvPools reaches, as Lean functions, and that each call of the Go function does what its Lean function says, wherever that one answers. Written by a program of mine over the print of the kit; Lean checks it. -/
import Derived.Test.YtcipfhlcgnomaaaPConvPoolsx0
import Derived.Test.YtcipfhlcgnomaaaPConvPoolsx6
import Derived.Test.YtcipfhlcgnomaaaPConvPoolsx7
import Derived.Test.YtcipfhlcgnomaaaPConvPoolsx8
import Derived.Test.YtcipfhlcgnomaaaPConvPoolsx10
namespace Go.Proofs.Ytcipfhlcgnomaaa.PConvPools
open Go.RowKit Go.Proofs.YtcipfhlcgnomaaaW.PrintWords Go.Proofs.YtcipfhlcgnomaaaW.PrintLast Go.Proofs.YtcipfhlcgnomaaaW.PrintMore
attribute [local go_sem] max2_int min2_int max_two min_two max_three min_three max_four min_four   -- for this text's walks alone
set_option linter.unusedVariables false
set_option linter.unusedSimpArgs false

/-! ### carousellaw8_ConvPools: function 6 -/
def carousellaw8_ConvPools.f (k : Nat) (l0_0 : List Int) (l0_1 : List Int) (a1 : Int) : Option (Bool) := (carousellaw8_awake.f k).bind fun t328 => (if t328 = true then ((carousellaw8_great.f l0_0 l0_1 300).bind fun t329 => (if t329 = true then (some true) else ((conv_Pool.f k l0_0 l0_1 a1).bind fun bt330 => ((carouselref5_Pool.f k l0_0 l0_1 a1).bind fun bt341 => (if bt330.2.2.2 = bt341.2.2.2 then ((carouselref5_Alike.f k bt330.1 bt330.2.1 bt341.1 bt341.2.1).bind fun t352 => (if t352 = true then ((carouselref5_Same.f k bt330.2.2.1 bt341.2.2.1).bind fun t353 => (some t353)) else (none))) else (none)))))) else (none))
theorem carousellaw8_ConvPools.mono : ∀ a0 a1 a2 k, LeO (carousellaw8_ConvPools.f k a0 a1 a2) (carousellaw8_ConvPools.f (k + 1) a0 a1 a2) := by
 intro a0 a1 a2 k
 unfold carousellaw8_ConvPools.f
 repeat' first
   | (with_reducible exact carousellaw8_awake.mono _)
   | (with_reducible exact carouselref5_Alike.mono _ _ _ _ _)
   | (with_reducible exact carouselref5_Pool.mono _ _ _ _)
   | (with_reducible exact carouselref5_Same.mono _ _ _)
   | (with_reducible exact conv_Pool.mono _ _ _ _)
   | (with_reducible exact LeO.refl _)
   | (with_reducible exact LeO.none _)
   | (with_reducible refine LeO.ite ?_ ?_)
   | (with_reducible refine LeO.bind ?_ (fun _ => ?_))
   | exact carousellaw8_awake.mono _
   | exact carouselref5_Alike.mono _ _ _ _ _
   | exact carouselref5_Pool.mono _ _ _ _
   | exact carouselref5_Same.mono _ _ _
   | exact conv_Pool.mono _ _ _ _
   | exact LeO.none _
   | refine LeO.ite ?_ ?_
   | refine LeO.bind ?_ (fun _ => ?_)
set_option maxHeartbeats 8000000 in
set_option maxRecDepth 100000 in
theorem carousellaw8_ConvPools.calls (k : Nat) (A0_0 : Option Addr) (c0_0 : Nat) (l0_0 : List Int) (A0_1 : Option Addr) (c0_1 : Nat) (l0_1 : List Int) (a1 : Int) (r : Bool) (w : World) (hr0_0 : Kd.C (Kd.int .i64) w A0_0 l0_0.length l0_0) (hc0_0 : l0_0.length ≤ c0_0) (hr0_1 : Kd.C (Kd.int .i64) w A0_1 l0_1.length l0_1) (hc0_1 : l0_1.length ≤ c0_1) (h : carousellaw8_ConvPools.f k l0_0 l0_1 a1 = some r) :
  Calls Try.prog 6 #[.agg #[.slice A0_0 l0_0.length c0_0, .slice A0_1 l0_1.length c0_1], .int .i64 a1] w fun e w' => e = .returned (.bool r) ∧ Below w.heap.size w w' := by
 have hu25 := Try.underlying25
 have HR0_0 := Aside0.mk hr0_0
 have HC0_0 := Aside0.mk hc0_0
 clear hr0_0 hc0_0
 have HR0_1 := Aside0.mk hr0_1
 have HC0_1 := Aside0.mk hc0_1
 clear hr0_1 hc0_1
 have HB := Aside0.mk (Below.refl w.heap.size w)
 have H : ((carousellaw8_awake.f k).bind fun t328 => (if t328 = true then ((carousellaw8_great.f l0_0 l0_1 300).bind fun t329 => (if t329 = true then (some true) else ((conv_Pool.f k l0_0 l0_1 a1).bind fun bt330 => ((carouselref5_Pool.f k l0_0 l0_1 a1).bind fun bt341 => (if bt330.2.2.2 = bt341.2.2.2 then ((carouselref5_Alike.f k bt330.1 bt330.2.1 bt341.1 bt341.2.1).bind fun t352 => (if t352 = true then ((carouselref5_Same.f k bt330.2.2.1 bt341.2.2.1).bind fun t353 => (some t353)) else (none))) else (none)))))) else (none))) = some r := h
 clear h
 replace H := Option.bind_eq_some_iff.mp H
 obtain ⟨t328, A30, H⟩ := H
 (try dsimp only at H)
 have A3 := Aside0.mk A30
 clear A30
 by_cases c4 : t328 = true
 ·subst c4
  have H1 := H
  rw [if_pos rfl] at H1
  clear H
  have H := H1
  clear H1
  replace H := Option.bind_eq_some_iff.mp H
  obtain ⟨t329, A50, H⟩ := H
  (try dsimp only at H)
  have A5 := Aside0.mk A50
  clear A50
  by_cases c6 : t329 = true
  ·subst c6
   have H1 : (some true) = some r := by rw [if_pos rfl] at H; exact H
   clear H
   have H := H1
   clear H1
   obtain rfl := Option.some.inj H
   go_enter Try.func6, Try.ntmps6
   go_wp2_with (first | ((with_reducible refine gate_dst (N := 2) rfl ?_); refine box_event ?hg (N := 2) ?hd (cs := #[.slice A0_0 l0_0.length c0_0, .slice A0_1 l0_1.length c0_1]) (t := 25) ?hr ?_; (case hd => rfl); (case hg => rfl); (case hr => first | (go_simp; done) | (go_simp; rfl)); intro gb327 hg w7 hbox hb; have BK327 := Aside0.mk (hbox); have GW327 := Aside0.mk (zs_ hg (zw0_ HB)); have GE327 := Aside0.mk (zs_ hg (zw0_ HB)); replace HB := Aside0.mk (below_step (zw0_ HB) hb); clear hb hbox hg) | ((with_reducible refine gate_callee (f := 11) rfl ?_); refine zg_ (some 11) Try.func11 #[] (h := ?_); (with_reducible refine (carousellaw8_awake.calls k  true _ A3.out).mono ?_); rintro e w8 ⟨rfl, hb⟩; refine ⟨_, rfl, ?_⟩; replace BK327 := Aside0.mk (zl_ BK327 hb); replace HB := Aside0.mk (below_step (zw1_ HB GE327) hb); (try clear hb); have hcz9_0 := zx_ (v := .slice A0_0 l0_0.length c0_0) BK327 0; have hcz9_1 := zx_ (v := .slice A0_1 l0_1.length c0_1) BK327 1; have hfz9_0 := blk_frozen BK327.out 0; have hfz9_1 := blk_frozen BK327.out 1) | ((with_reducible refine gate_callee (f := 12) rfl ?_); refine zg_ (some 14) Try.func12 #[.agg #[.slice A0_0 l0_0.length c0_0, .slice A0_1 l0_1.length c0_1], .int .i64 300] (h := ?_); (with_reducible refine (carousellaw8_great.calls _ _ l0_0 _ _ l0_1 300 true _ ?side1 ?side2 ?side3 ?side4 A5.out).mono ?_); (case side1 => exact zk_ (Kd.C_below HR0_0.out HB.out)); (case side2 => exact HC0_0.out); (case side3 => exact zk_ (Kd.C_below HR0_1.out HB.out)); (case side4 => exact HC0_1.out); rintro e w10 ⟨rfl, hb⟩; refine ⟨_, rfl, ?_⟩; replace BK327 := Aside0.mk (zl_ BK327 hb); replace HB := Aside0.mk (below_step (zw1_ HB GE327) hb); (try clear hb)))
   go_ret
   exact ⟨by first | rfl | (simp [errW_none, errW_some] <;> rfl) | (simp [*, errW_none, errW_some] <;> rfl), zw1_ HB GE327⟩
  ·replace c6 := Bool.eq_false_iff.mpr c6
   subst c6
   have H1 := H
   rw [if_neg (show ¬ (false = true) by decide)] at H1
   clear H
   have H := H1
   clear H1
   replace H := Option.bind_eq_some_iff.mp H
   obtain ⟨⟨t330, t333, t336, t339⟩, A110, H⟩ := H
   (try dsimp only at H)
   have A11 := Aside0.mk A110
   clear A110
   replace H := Option.bind_eq_some_iff.mp H
   obtain ⟨⟨t341, t344, t347, t350⟩, A120, H⟩ := H
   (try dsimp only at H)
   have A12 := Aside0.mk A120
   clear A120
   by_cases c13 : t339 = t350
   ·rw [if_pos c13] at H
    have c13b0 : (t339 == t350) = true := beq_iff_eq.mpr c13
    have c13b1 : (t339 != t350) = false := bne_eq_false_iff_eq.mpr c13
    clear c13
    replace H := Option.bind_eq_some_iff.mp H
    obtain ⟨t352, A140, H⟩ := H
    replace H : (if t352 = true then ((carouselref5_Same.f k t336 t347).bind fun t353 => (some t353)) else (none)) = some r := H
    have A14 := Aside0.mk A140
    clear A140
    by_cases c15 : t352 = true
    ·subst c15
     have H1 : ((carouselref5_Same.f k t336 t347).bind fun t353 => (some t353)) = some r := by rw [if_pos rfl] at H; exact H
     clear H
     have H := H1
     clear H1
     replace H := Option.bind_eq_some_iff.mp H
     obtain ⟨t353, A160, H⟩ := H
     replace H : (some t353) = some r := H
     have A16 := Aside0.mk A160
     clear A160
     obtain rfl := Option.some.inj H
     go_enter Try.func6, Try.ntmps6
     go_wp2_with (first | ((with_reducible refine gate_dst (N := 2) rfl ?_); refine box_event ?hg (N := 2) ?hd (cs := #[.slice A0_0 l0_0.length c0_0, .slice A0_1 l0_1.length c0_1]) (t := 25) ?hr ?_; (case hd => rfl); (case hg => rfl); (case hr => first | (go_simp; done) | (go_simp; rfl)); intro gb327 hg w17 hbox hb; have BK327 := Aside0.mk (hbox); have GW327 := Aside0.mk (zs_ hg (zw0_ HB)); have GE327 := Aside0.mk (zs_ hg (zw0_ HB)); replace HB := Aside0.mk (below_step (zw0_ HB) hb); clear hb hbox hg) | ((with_reducible refine gate_callee (f := 11) rfl ?_); refine zg_ (some 11) Try.func11 #[] (h := ?_); (with_reducible refine (carousellaw8_awake.calls k  true _ A3.out).mono ?_); rintro e w18 ⟨rfl, hb⟩; refine ⟨_, rfl, ?_⟩; replace BK327 := Aside0.mk (zl_ BK327 hb); replace HB := Aside0.mk (below_step (zw1_ HB GE327) hb); (try clear hb); have hcz19_0 := zx_ (v := .slice A0_0 l0_0.length c0_0) BK327 0; have hcz19_1 := zx_ (v := .slice A0_1 l0_1.length c0_1) BK327 1; have hfz19_0 := blk_frozen BK327.out 0; have hfz19_1 := blk_frozen BK327.out 1) | ((with_reducible refine gate_callee (f := 12) rfl ?_); refine zg_ (some 14) Try.func12 #[.agg #[.slice A0_0 l0_0.length c0_0, .slice A0_1 l0_1.length c0_1], .int .i64 300] (h := ?_); (with_reducible refine (carousellaw8_great.calls _ _ l0_0 _ _ l0_1 300 false _ ?side1 ?side2 ?side3 ?side4 A5.out).mono ?_); (case side1 => exact zk_ (Kd.C_below HR0_0.out HB.out)); (case side2 => exact HC0_0.out); (case side3 => exact zk_ (Kd.C_below HR0_1.out HB.out)); (case side4 => exact HC0_1.out); rintro e w20 ⟨rfl, hb⟩; refine ⟨_, rfl, ?_⟩; replace BK327 := Aside0.mk (zl_ BK327 hb); replace HB := Aside0.mk (below_step (zw1_ HB GE327) hb); (try clear hb); have hcz21_0 := zx_ (v := .slice A0_0 l0_0.length c0_0) BK327 0; have hcz21_1 := zx_ (v := .slice A0_1 l0_1.length c0_1) BK327 1; have hfz21_0 := blk_frozen BK327.out 0; have hfz21_1 := blk_frozen BK327.out 1) | ((with_reducible refine gate_callee (f := 19) rfl ?_); refine zg_ (some 18) Try.func19 #[.agg #[.slice A0_0 l0_0.length c0_0, .slice A0_1 l0_1.length c0_1], .int .i64 a1] (h := ?_); (with_reducible refine (conv_Pool.calls k _ _ l0_0 _ _ l0_1 a1 t330 t333 t336 t339 _ ?side1 ?side2 ?side3 ?side4 A11.out).mono ?_); (case side1 => exact zk_ (Kd.C_below HR0_0.out HB.out)); (case side2 => exact HC0_0.out); (case side3 => exact zk_ (Kd.C_below HR0_1.out HB.out)); (case side4 => exact HC0_1.out); rintro e w22 ⟨v331, v334, v337, rfl, ho0, ho1, ho2, hb⟩; refine ⟨_, rfl, ?_⟩; have HO332 := Aside0.mk (Kd.R_lower ho0 (below_size (zw1_ HB GE327))); have HO335 := Aside0.mk (Kd.R_lower ho1 (below_size (zw1_ HB GE327))); have HO338 := Aside0.mk (Kd.R_lower ho2 (below_size (zw1_ HB GE327))); replace BK327 := Aside0.mk (zl_ BK327 hb); replace HB := Aside0.mk (below_step (zw1_ HB GE327) hb); (try clear hb); (try clear ho0); (try clear ho1); (try clear ho2)) | ((with_reducible refine gate_dst (N := 5) rfl ?_); refine box_event ?hg (N := 5) ?hd (cs := #[.slice none 0 0, .slice none 0 0]) (t := 25) ?hr ?_; (case hd => rfl); (case hg => rfl); (case hr => first | (go_simp; done) | (go_simp; rfl)); intro gb340 hg w23 hbox hb; replace HO332 := Aside0.mk (Kd.R_below (zr_ HO332.out) hb); replace HO335 := Aside0.mk (Kd.R_below (zr_ HO335.out) hb); replace HO338 := Aside0.mk (Kd.R_below (zr_ HO338.out) hb); have BK340 := Aside0.mk (hbox); have GW340 := Aside0.mk (zs_ hg (zw1_ HB GE327)); have GE340 := Aside0.mk (zs_ hg (zw1_ HB GE327)); replace HB := Aside0.mk (below_step (zw1_ HB GE327) hb); have NB327_340 := Aside0.mk (zn_ hg BK327); have NB340_327 := Aside0.mk (zm_ hg BK327); replace BK327 := Aside0.mk (zl_ BK327 hb); clear hb hbox hg; obtain ⟨Ao24, co24, eo24⟩ := Kd.R_slice HO332.out; subst eo24; have hnb25 := NB340_327.out; have hnc25 := NB327_340.out; have hcz26_0 := zx_ (v := .slice none 0 0) BK340 0; have hcz26_1 := zx_ (v := .slice none 0 0) BK340 1; have hfz26_0 := blk_frozen BK340.out 0; have hfz26_1 := blk_frozen BK340.out 1; obtain ⟨Ao27, co27, eo27⟩ := Kd.R_slice HO335.out; subst eo27; have hcz28_0 := zx_ (v := .slice A0_0 l0_0.length c0_0) BK327 0; have hcz28_1 := zx_ (v := .slice A0_1 l0_1.length c0_1) BK327 1; have hfz28_0 := blk_frozen BK327.out 0; have hfz28_1 := blk_frozen BK327.out 1) | ((with_reducible refine gate_callee (f := 20) rfl ?_); refine zg_ (some 25) Try.func20 #[.agg #[.slice A0_0 l0_0.length c0_0, .slice A0_1 l0_1.length c0_1], .int .i64 a1] (h := ?_); (with_reducible refine (carouselref5_Pool.calls k _ _ l0_0 _ _ l0_1 a1 t341 t344 t347 t350 _ ?side1 ?side2 ?side3 ?side4 A12.out).mono ?_); (case side1 => exact Kd.C_below HR0_0.out (zw2_ HB GE327 GE340)); (case side2 => exact HC0_0.out); (case side3 => exact Kd.C_below HR0_1.out (zw2_ HB GE327 GE340)); (case side4 => exact HC0_1.out); rintro e w29 ⟨v342, v345, v348, rfl, ho0, ho1, ho2, hb⟩; refine ⟨_, rfl, ?_⟩; have HO343 := Aside0.mk (Kd.R_lower (Kd.R_new' (Kd.R_new' ho0 (Kd.R_lt (zr_ ((Kd.R_mono (Kd.R_far (p := ⟨gb340, 1, none⟩) (Kd.R_far (p := ⟨gb340, 0, none⟩) (Kd.R_types HO332.out BK340.out (by decide)) (fun _ hk => hk.2) (.slice Ao24 t330.length co24)) (fun _ hk => hk.2) (.slice Ao27 t333.length co27)) (fun _ h_ => h_.1)))))) (Kd.R_lt (zr_ ((Kd.R_mono (Kd.R_far (p := ⟨gb340, 1, none⟩) (Kd.R_far (p := ⟨gb340, 0, none⟩) (Kd.R_types HO338.out BK340.out (by decide)) (fun _ hk => hk.2) (.slice Ao24 t330.length co24)) (fun _ hk => hk.2) (.slice Ao27 t333.length co27)) (fun _ h_ => h_.1)))))) (below_size (zw2_ HB GE327 GE340))); have HO346 := Aside0.mk (Kd.R_lower (Kd.R_new' ho1 (Kd.R_lt (zr_ ((Kd.R_mono (Kd.R_far (p := ⟨gb340, 1, none⟩) (Kd.R_far (p := ⟨gb340, 0, none⟩) (Kd.R_types HO335.out BK340.out (by decide)) (fun _ hk => hk.2) (.slice Ao24 t330.length co24)) (fun _ hk => hk.2) (.slice Ao27 t333.length co27)) (fun _ h_ => h_.1)))))) (below_size (zw2_ HB GE327 GE340))); replace HO335 := Aside0.mk (Kd.R_elder' (zr_ ((Kd.R_mono (Kd.R_far (p := ⟨gb340, 1, none⟩) (Kd.R_far (p := ⟨gb340, 0, none⟩) (Kd.R_types HO335.out BK340.out (by decide)) (fun _ hk => hk.2) (.slice Ao24 t330.length co24)) (fun _ hk => hk.2) (.slice Ao27 t333.length co27)) (fun _ h_ => h_.1)))) (Kd.R_base ho1) hb); have HO349 := Aside0.mk (Kd.R_lower (Kd.R_new' (Kd.R_new' ho2 (Kd.R_lt (zr_ ((Kd.R_mono (Kd.R_far (p := ⟨gb340, 1, none⟩) (Kd.R_far (p := ⟨gb340, 0, none⟩) (Kd.R_types HO332.out BK340.out (by decide)) (fun _ hk => hk.2) (.slice Ao24 t330.length co24)) (fun _ hk => hk.2) (.slice Ao27 t333.length co27)) (fun _ h_ => h_.1)))))) (Kd.R_lt (zr_ ((Kd.R_mono (Kd.R_far (p := ⟨gb340, 1, none⟩) (Kd.R_far (p := ⟨gb340, 0, none⟩) (Kd.R_types HO338.out BK340.out (by decide)) (fun _ hk => hk.2) (.slice Ao24 t330.length co24)) (fun _ hk => hk.2) (.slice Ao27 t333.length co27)) (fun _ h_ => h_.1)))))) (below_size (zw2_ HB GE327 GE340))); replace HO332 := Aside0.mk (Kd.R_mono (Kd.R_told (Kd.R_told (Kd.R_old (zr_ ((Kd.R_mono (Kd.R_far (p := ⟨gb340, 1, none⟩) (Kd.R_far (p := ⟨gb340, 0, none⟩) (Kd.R_types HO332.out BK340.out (by decide)) (fun _ hk => hk.2) (.slice Ao24 t330.length co24)) (fun _ hk => hk.2) (.slice Ao27 t333.length co27)) (fun _ h_ => h_.1)))) hb) (Kd.R_base ho0)) (Kd.R_base ho2)) (fun _ h_ => h_.1)); replace HO338 := Aside0.mk (Kd.R_mono (Kd.R_told (Kd.R_told (Kd.R_old (zr_ ((Kd.R_mono (Kd.R_far (p := ⟨gb340, 1, none⟩) (Kd.R_far (p := ⟨gb340, 0, none⟩) (Kd.R_types HO338.out BK340.out (by decide)) (fun _ hk => hk.2) (.slice Ao24 t330.length co24)) (fun _ hk => hk.2) (.slice Ao27 t333.length co27)) (fun _ h_ => h_.1)))) hb) (Kd.R_base ho0)) (Kd.R_base ho2)) (fun _ h_ => h_.1)); replace BK327 := Aside0.mk (blk_below (g := gb327) (o := .cells #[.slice A0_0 l0_0.length c0_0, .slice A0_1 l0_1.length c0_1] 25 (0, 0)) (by (with_reducible repeat (first | refine blk_drewN ?_ _ | refine blk_drew ?_ | refine blk_alloc ?_ _)); refine blk_far ?_ NB327_340.out _; (with_reducible repeat (first | refine blk_drewN ?_ _ | refine blk_drew ?_ | refine blk_alloc ?_ _)); refine blk_far ?_ NB327_340.out _; (with_reducible repeat (first | refine blk_drewN ?_ _ | refine blk_drew ?_ | refine blk_alloc ?_ _)); exact BK327.out) hb); replace BK340 := Aside0.mk (blk_below (g := gb340) (o := .cells #[.slice Ao24 t330.length co24, .slice Ao27 t333.length co27] 25 (0, 0)) (by (with_reducible repeat (first | refine blk_drewN ?_ _ | refine blk_drew ?_ | refine blk_alloc ?_ _)); refine blk_put (cs := #[.slice Ao24 t330.length co24, .slice none 0 0]) ?_ 1 _ rfl; (with_reducible repeat (first | refine blk_drewN ?_ _ | refine blk_drew ?_ | refine blk_alloc ?_ _)); refine blk_put (cs := #[.slice none 0 0, .slice none 0 0]) ?_ 0 _ rfl; (with_reducible repeat (first | refine blk_drewN ?_ _ | refine blk_drew ?_ | refine blk_alloc ?_ _)); exact BK340.out) hb); replace HB := Aside0.mk (below_step (zw2_ HB GE327 GE340) hb); (try clear hb); (try clear hk); (try clear ho0); (try clear ho1); (try clear ho2)) | ((with_reducible refine gate_dst (N := 8) rfl ?_); refine box_event ?hg (N := 8) ?hd (cs := #[.slice none 0 0, .slice none 0 0]) (t := 25) ?hr ?_; (case hd => rfl); (case hg => rfl); (case hr => first | (go_simp; done) | (go_simp; rfl)); intro gb351 hg w30 hbox hb; replace HO332 := Aside0.mk (Kd.R_below (zr_ HO332.out) hb); replace HO335 := Aside0.mk (Kd.R_below (zr_ HO335.out) hb); replace HO338 := Aside0.mk (Kd.R_below (zr_ HO338.out) hb); replace HO343 := Aside0.mk (Kd.R_below (zr_ HO343.out) hb); replace HO346 := Aside0.mk (Kd.R_below (zr_ HO346.out) hb); replace HO349 := Aside0.mk (Kd.R_below (zr_ HO349.out) hb); have BK351 := Aside0.mk (hbox); have GW351 := Aside0.mk (zs_ hg (zw2_ HB GE327 GE340)); have GE351 := Aside0.mk (zs_ hg (zw2_ HB GE327 GE340)); replace HB := Aside0.mk (below_step (zw2_ HB GE327 GE340) hb); have NB327_351 := Aside0.mk (zn_ hg BK327); have NB351_327 := Aside0.mk (zm_ hg BK327); replace BK327 := Aside0.mk (zl_ BK327 hb); have NB340_351 := Aside0.mk (zn_ hg BK340); have NB351_340 := Aside0.mk (zm_ hg BK340); replace BK340 := Aside0.mk (zl_ BK340 hb); clear hb hbox hg; obtain ⟨Ao31, co31, eo31⟩ := Kd.R_slice HO343.out; subst eo31; have hnb32 := NB351_327.out; have hnc32 := NB327_351.out; have hnb33 := NB351_340.out; have hnc33 := NB340_351.out; have hcz34_0 := zx_ (v := .slice none 0 0) BK351 0; have hcz34_1 := zx_ (v := .slice none 0 0) BK351 1; have hfz34_0 := blk_frozen BK351.out 0; have hfz34_1 := blk_frozen BK351.out 1; obtain ⟨Ao35, co35, eo35⟩ := Kd.R_slice HO346.out; subst eo35; have hcz36_0 := zx_ (v := .slice Ao24 t330.length co24) BK340 0; have hcz36_1 := zx_ (v := .slice Ao27 t333.length co27) BK340 1; have hfz36_0 := blk_frozen BK340.out 0; have hfz36_1 := blk_frozen BK340.out 1) | (go_at_call 15; (with_reducible refine (carouselref5_Alike.calls k _ _ t330 _ _ t333 _ _ t341 _ _ t344 true _ ?side1 ?side2 ?side3 ?side4 ?side5 ?side6 ?side7 ?side8 A14.out).mono ?_); (case side1 => refine (Kd.R_reads' (e := 3) (base := w.heap.size) (ok := fun k_ => ((some k_ ≠ (v337 : Value).ownBlock ∧ some k_ ≠ (.slice Ao31 t341.length co31 : Value).ownBlock) ∧ some k_ ≠ (v348 : Value).ownBlock)) (n := t330.length) (c := co24) ?_).2.2; exact (zr_ ((Kd.R_mono (Kd.R_far (p := ⟨gb351, 1, none⟩) (Kd.R_far (p := ⟨gb351, 0, none⟩) (Kd.R_types HO332.out BK351.out (by decide)) (fun _ hk => hk.2) (.slice Ao31 t341.length co31)) (fun _ hk => hk.2) (.slice Ao35 t344.length co35)) (fun _ h_ => h_.1))))); (case side2 => exact (Kd.R_reads' HO332.out).2.1); (case side3 => refine (Kd.R_reads' (e := 33) (base := w.heap.size) (ok := fun k_ => (True ∧ some k_ ≠ (.slice Ao35 t344.length co35 : Value).ownBlock)) (n := t333.length) (c := co27) ?_).2.2; exact (zr_ ((Kd.R_mono (Kd.R_far (p := ⟨gb351, 1, none⟩) (Kd.R_far (p := ⟨gb351, 0, none⟩) (Kd.R_types HO335.out BK351.out (by decide)) (fun _ hk => hk.2) (.slice Ao31 t341.length co31)) (fun _ hk => hk.2) (.slice Ao35 t344.length co35)) (fun _ h_ => h_.1))))); (case side4 => exact (Kd.R_reads' HO335.out).2.1); (case side5 => refine (Kd.R_reads' (e := 3) (base := w.heap.size) (ok := fun k_ => ((some k_ ≠ (v348 : Value).ownBlock ∧ some k_ ≠ (.slice Ao24 t330.length co24 : Value).ownBlock) ∧ some k_ ≠ (v337 : Value).ownBlock)) (n := t341.length) (c := co31) ?_).2.2; exact (zr_ ((Kd.R_mono (Kd.R_far (p := ⟨gb351, 1, none⟩) (Kd.R_far (p := ⟨gb351, 0, none⟩) (Kd.R_types HO343.out BK351.out (by decide)) (fun _ hk => hk.2) (.slice Ao31 t341.length co31)) (fun _ hk => hk.2) (.slice Ao35 t344.length co35)) (fun _ h_ => h_.1))))); (case side6 => exact (Kd.R_reads' HO343.out).2.1); (case side7 => refine (Kd.R_reads' (e := 33) (base := w.heap.size) (ok := fun k_ => (True ∧ some k_ ≠ (.slice Ao27 t333.length co27 : Value).ownBlock)) (n := t344.length) (c := co35) ?_).2.2; exact (zr_ ((Kd.R_mono (Kd.R_far (p := ⟨gb351, 1, none⟩) (Kd.R_far (p := ⟨gb351, 0, none⟩) (Kd.R_types HO346.out BK351.out (by decide)) (fun _ hk => hk.2) (.slice Ao31 t341.length co31)) (fun _ hk => hk.2) (.slice Ao35 t344.length co35)) (fun _ h_ => h_.1))))); (case side8 => exact (Kd.R_reads' HO346.out).2.1); rintro e w37 ⟨rfl, hb⟩; replace HO332 := Aside0.mk (Kd.R_below (zr_ ((Kd.R_mono (Kd.R_far (p := ⟨gb351, 1, none⟩) (Kd.R_far (p := ⟨gb351, 0, none⟩) (Kd.R_types HO332.out BK351.out (by decide)) (fun _ hk => hk.2) (.slice Ao31 t341.length co31)) (fun _ hk => hk.2) (.slice Ao35 t344.length co35)) (fun _ h_ => h_.1)))) hb); replace HO335 := Aside0.mk (Kd.R_below (zr_ ((Kd.R_mono (Kd.R_far (p := ⟨gb351, 1, none⟩) (Kd.R_far (p := ⟨gb351, 0, none⟩) (Kd.R_types HO335.out BK351.out (by decide)) (fun _ hk => hk.2) (.slice Ao31 t341.length co31)) (fun _ hk => hk.2) (.slice Ao35 t344.length co35)) (fun _ h_ => h_.1)))) hb); replace HO338 := Aside0.mk (Kd.R_below (zr_ ((Kd.R_mono (Kd.R_far (p := ⟨gb351, 1, none⟩) (Kd.R_far (p := ⟨gb351, 0, none⟩) (Kd.R_types HO338.out BK351.out (by decide)) (fun _ hk => hk.2) (.slice Ao31 t341.length co31)) (fun _ hk => hk.2) (.slice Ao35 t344.length co35)) (fun _ h_ => h_.1)))) hb); replace HO343 := Aside0.mk (Kd.R_below (zr_ ((Kd.R_mono (Kd.R_far (p := ⟨gb351, 1, none⟩) (Kd.R_far (p := ⟨gb351, 0, none⟩) (Kd.R_types HO343.out BK351.out (by decide)) (fun _ hk => hk.2) (.slice Ao31 t341.length co31)) (fun _ hk => hk.2) (.slice Ao35 t344.length co35)) (fun _ h_ => h_.1)))) hb); replace HO346 := Aside0.mk (Kd.R_below (zr_ ((Kd.R_mono (Kd.R_far (p := ⟨gb351, 1, none⟩) (Kd.R_far (p := ⟨gb351, 0, none⟩) (Kd.R_types HO346.out BK351.out (by decide)) (fun _ hk => hk.2) (.slice Ao31 t341.length co31)) (fun _ hk => hk.2) (.slice Ao35 t344.length co35)) (fun _ h_ => h_.1)))) hb); replace HO349 := Aside0.mk (Kd.R_below (zr_ ((Kd.R_mono (Kd.R_far (p := ⟨gb351, 1, none⟩) (Kd.R_far (p := ⟨gb351, 0, none⟩) (Kd.R_types HO349.out BK351.out (by decide)) (fun _ hk => hk.2) (.slice Ao31 t341.length co31)) (fun _ hk => hk.2) (.slice Ao35 t344.length co35)) (fun _ h_ => h_.1)))) hb); replace BK327 := Aside0.mk (blk_below (g := gb327) (o := .cells #[.slice A0_0 l0_0.length c0_0, .slice A0_1 l0_1.length c0_1] 25 (0, 0)) (by (with_reducible repeat (first | refine blk_drewN ?_ _ | refine blk_drew ?_ | refine blk_alloc ?_ _)); refine blk_far ?_ NB327_351.out _; (with_reducible repeat (first | refine blk_drewN ?_ _ | refine blk_drew ?_ | refine blk_alloc ?_ _)); refine blk_far ?_ NB327_351.out _; (with_reducible repeat (first | refine blk_drewN ?_ _ | refine blk_drew ?_ | refine blk_alloc ?_ _)); exact BK327.out) hb); replace BK340 := Aside0.mk (blk_below (g := gb340) (o := .cells #[.slice Ao24 t330.length co24, .slice Ao27 t333.length co27] 25 (0, 0)) (by (with_reducible repeat (first | refine blk_drewN ?_ _ | refine blk_drew ?_ | refine blk_alloc ?_ _)); refine blk_far ?_ NB340_351.out _; (with_reducible repeat (first | refine blk_drewN ?_ _ | refine blk_drew ?_ | refine blk_alloc ?_ _)); refine blk_far ?_ NB340_351.out _; (with_reducible repeat (first | refine blk_drewN ?_ _ | refine blk_drew ?_ | refine blk_alloc ?_ _)); exact BK340.out) hb); replace BK351 := Aside0.mk (blk_below (g := gb351) (o := .cells #[.slice Ao31 t341.length co31, .slice Ao35 t344.length co35] 25 (0, 0)) (by (with_reducible repeat (first | refine blk_drewN ?_ _ | refine blk_drew ?_ | refine blk_alloc ?_ _)); refine blk_put (cs := #[.slice Ao31 t341.length co31, .slice none 0 0]) ?_ 1 _ rfl; (with_reducible repeat (first | refine blk_drewN ?_ _ | refine blk_drew ?_ | refine blk_alloc ?_ _)); refine blk_put (cs := #[.slice none 0 0, .slice none 0 0]) ?_ 0 _ rfl; (with_reducible repeat (first | refine blk_drewN ?_ _ | refine blk_drew ?_ | refine blk_alloc ?_ _)); exact BK351.out) hb); replace HB := Aside0.mk (below_step (zw3_ HB GE327 GE340 GE351) hb); (try clear hb); (try clear hk); obtain ⟨Ao38, co38, eo38⟩ := Kd.R_slice HO338.out; subst eo38; obtain ⟨Ao39, co39, eo39⟩ := Kd.R_slice HO349.out; subst eo39) | (go_at_call 21; (with_reducible refine (carouselref5_Same.calls k _ _ t336 _ _ t347 t353 _ ?side1 ?side2 ?side3 ?side4 A16.out).mono ?_); (case side1 => exact zk_ ((Kd.R_reads' HO338.out).2.2)); (case side2 => exact (Kd.R_reads' HO338.out).2.1); (case side3 => exact zk_ ((Kd.R_reads' HO349.out).2.2)); (case side4 => exact (Kd.R_reads' HO349.out).2.1); rintro e w' ⟨rfl, ⟨nd, rfl⟩⟩))
     go_ret
     exact ⟨by first | rfl | (simp [errW_none, errW_some] <;> rfl) | (simp [*, errW_none, errW_some] <;> rfl), zw3_ HB GE327 GE340 GE351⟩
    ·replace c15 := Bool.eq_false_iff.mpr c15
     subst c15
     have H1 : (none) = some r := by rw [if_neg (show ¬ (false = true) by decide)] at H; exact H
     clear H
     have H := H1
     clear H1
     exact absurd H (by simp)
   ·rw [if_neg c13] at H
    exact absurd H (by simp)
 ·replace c4 := Bool.eq_false_iff.mpr c4
  subst c4
  have H1 : (none) = some r := by rw [if_neg (show ¬ (false = true) by decide)] at H; exact H
  clear H
  have H := H1
  clear H1
  exact absurd H (by simp)

/-- THE ONE PURE STATEMENT of carousellaw8_ConvPools. -/
def carousellaw8_ConvPools.Pure : Prop := ∀ (l0_0 : List Int) (l0_1 : List Int) (a1 : Int), l0_0.length ≤ maxLen → (∀ x ∈ l0_0, (Lit.int .i64 x).wf = true) → l0_1.length ≤ maxLen → (∀ x ∈ l0_1, (Lit.int .i64 x).wf = true) → (Lit.int .i64 a1).wf = true → ∃ k, carousellaw8_ConvPools.f k l0_0 l0_1 a1 = some true

end Go.Proofs.Ytcipfhlcgnomaaa.PConvPools
