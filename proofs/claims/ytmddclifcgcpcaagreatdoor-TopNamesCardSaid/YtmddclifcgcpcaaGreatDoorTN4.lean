/- Texts of the proof of TopNames, part 4: the walks through the program and what they lean on, pruned to what is used. Plain theorems and definitions. -/
import Derived.Test.YtmddclifcgcpcaaGreatDoorTN3
import Derived.Maps.OwnSet
set_option linter.unusedVariables false
set_option linter.unusedSimpArgs false
set_option maxHeartbeats 8000000
set_option maxRecDepth 100000
namespace Go.Proofs.YtmddclifcgcpcaaGreatDoor.PTopNames
open Go.RowKit Go.Proofs.YtmddclifcgcpcaaGreatDoorW.PrintWords Go.Proofs.YtmddclifcgcpcaaGreatDoorW.PrintLast Go.Proofs.YtmddclifcgcpcaaGreatDoorW.PrintMore
attribute [local go_sem] max2_int min2_int max_two min_two max_three min_three max_four min_four
def back_forB.f (k : Nat) (a0_0 : Int) (a0_1 : Int) (a0_2 : Int) (a0_3 : Int) (l0_4 : List Int) (l0_5 : List Int) (l1_0 : List Int) (l1_1 : List Int) (l2_0 : List Int) (l2_1 : List Int) (l3_0 : List Int) (l3_1 : List Int) : Option (List Int × List Int × Int) := if a0_0 = 2 then ((tens_Fold.f k l3_0 l3_1 l2_0).bind fun bt1290 => (some (bt1290.1, bt1290.2.1, bt1290.2.2))) else (if a0_0 = 3 then ((tens_Scale.f k l3_0 l3_1 (-4294967296)).bind fun bt1297 => ((back_folded.f k bt1297.1 bt1297.2.1 bt1297.2.2 l2_0).bind fun bt1305 => (some (bt1305.1, bt1305.2.1, bt1305.2.2)))) else (if a0_0 = 4 then ((tens_Mul.f k l3_0 l3_1 l1_0 l1_1).bind fun bt1312 => ((back_folded.f k bt1312.1 bt1312.2.1 bt1312.2.2 l2_0).bind fun bt1320 => (some (bt1320.1, bt1320.2.1, bt1320.2.2)))) else (if a0_0 = 6 then (none) else (if a0_0 = 12 then (none) else (some (([] : List Int), ([] : List Int), 0))))))
theorem back_forB.calls (k : Nat) (a0_0 : Int) (a0_1 : Int) (a0_2 : Int) (a0_3 : Int) (A0_4 : Option Addr) (c0_4 : Nat) (l0_4 : List Int) (A0_5 : Option Addr) (c0_5 : Nat) (l0_5 : List Int) (A1_0 : Option Addr) (c1_0 : Nat) (l1_0 : List Int) (A1_1 : Option Addr) (c1_1 : Nat) (l1_1 : List Int) (A2_0 : Option Addr) (c2_0 : Nat) (l2_0 : List Int) (A2_1 : Option Addr) (c2_1 : Nat) (l2_1 : List Int) (A3_0 : Option Addr) (c3_0 : Nat) (l3_0 : List Int) (A3_1 : Option Addr) (c3_1 : Nat) (l3_1 : List Int) (r1 : List Int) (r2 : List Int) (r3 : Int) (w : World) (hr0_4 : Kd.C (Kd.int .i64) w A0_4 l0_4.length l0_4) (hc0_4 : l0_4.length ≤ c0_4) (hr0_5 : Kd.C (Kd.int .i64) w A0_5 l0_5.length l0_5) (hc0_5 : l0_5.length ≤ c0_5) (hr1_0 : Kd.C (Kd.int .i64) w A1_0 l1_0.length l1_0) (hc1_0 : l1_0.length ≤ c1_0) (hr1_1 : Kd.C (Kd.int .i64) w A1_1 l1_1.length l1_1) (hc1_1 : l1_1.length ≤ c1_1) (hr2_0 : Kd.C (Kd.int .i64) w A2_0 l2_0.length l2_0) (hc2_0 : l2_0.length ≤ c2_0) (hr2_1 : Kd.C (Kd.int .i64) w A2_1 l2_1.length l2_1) (hc2_1 : l2_1.length ≤ c2_1) (hr3_0 : Kd.C (Kd.int .i64) w A3_0 l3_0.length l3_0) (hc3_0 : l3_0.length ≤ c3_0) (hr3_1 : Kd.C (Kd.int .i64) w A3_1 l3_1.length l3_1) (hc3_1 : l3_1.length ≤ c3_1) (h : back_forB.f k a0_0 a0_1 a0_2 a0_3 l0_4 l0_5 l1_0 l1_1 l2_0 l2_1 l3_0 l3_1 = some (r1, r2, r3)) :
  Calls Tryz.prog 311 #[.agg #[.int .i64 a0_0, .int .i64 a0_1, .int .i64 a0_2, .int .i64 a0_3, .slice A0_4 l0_4.length c0_4, .slice A0_5 l0_5.length c0_5], .agg #[.slice A1_0 l1_0.length c1_0, .slice A1_1 l1_1.length c1_1], .agg #[.slice A2_0 l2_0.length c2_0, .slice A2_1 l2_1.length c2_1], .agg #[.slice A3_0 l3_0.length c3_0, .slice A3_1 l3_1.length c3_1]] w fun e w' => ∃ v0_ v1_ : Value, e = .returned (.tuple #[.agg #[v0_, v1_], .int .i64 r3]) ∧ Kd.R (Kd.int .i64) 3 w' w.heap.size (fun _ => True) v0_ r1 ∧ Kd.R (Kd.int .i64) 36 w' w.heap.size (fun _ => True) v1_ r2 ∧ Below w.heap.size w w' := by
 have hu358 := Tryz.underlying358
 have hu273 := Tryz.underlying273
 have HR0_4 := zA_ hr0_4
 have HC0_4 := zA_ hc0_4
 clear hr0_4 hc0_4
 have HR0_5 := zA_ hr0_5
 have HC0_5 := zA_ hc0_5
 clear hr0_5 hc0_5
 have HR1_0 := zA_ hr1_0
 have HC1_0 := zA_ hc1_0
 clear hr1_0 hc1_0
 have HR1_1 := zA_ hr1_1
 have HC1_1 := zA_ hc1_1
 clear hr1_1 hc1_1
 have HR2_0 := zA_ hr2_0
 have HC2_0 := zA_ hc2_0
 clear hr2_0 hc2_0
 have HR2_1 := zA_ hr2_1
 have HC2_1 := zA_ hc2_1
 clear hr2_1 hc2_1
 have HR3_0 := zA_ hr3_0
 have HC3_0 := zA_ hc3_0
 clear hr3_0 hc3_0
 have HR3_1 := zA_ hr3_1
 have HC3_1 := zA_ hc3_1
 clear hr3_1 hc3_1
 have HB := zA_ (Below.refl w.heap.size w)
 have H : (if a0_0 = 2 then ((tens_Fold.f k l3_0 l3_1 l2_0).bind fun bt1290 => (some (bt1290.1, bt1290.2.1, bt1290.2.2))) else (if a0_0 = 3 then ((tens_Scale.f k l3_0 l3_1 (-4294967296)).bind fun bt1297 => ((back_folded.f k bt1297.1 bt1297.2.1 bt1297.2.2 l2_0).bind fun bt1305 => (some (bt1305.1, bt1305.2.1, bt1305.2.2)))) else (if a0_0 = 4 then ((tens_Mul.f k l3_0 l3_1 l1_0 l1_1).bind fun bt1312 => ((back_folded.f k bt1312.1 bt1312.2.1 bt1312.2.2 l2_0).bind fun bt1320 => (some (bt1320.1, bt1320.2.1, bt1320.2.2)))) else (if a0_0 = 6 then (none) else (if a0_0 = 12 then (none) else (some (([] : List Int), ([] : List Int), 0))))))) = some (r1, r2, r3) := h
 clear h
 by_cases c5 : a0_0 = 2
 ·rw [if_pos c5] at H
  have c5b0 : (a0_0 == 2) = true := beq_iff_eq.mpr c5
  have c5b1 : (a0_0 != 2) = false := bne_eq_false_iff_eq.mpr c5
  clear c5
  replace H := zO_ H
  obtain ⟨⟨t1290, t1293, t1296⟩, A60, H⟩ := H
  replace H : (some (t1290, t1293, t1296)) = some (r1, r2, r3) := H
  have A6 := zA_ A60
  clear A60
  simp only [Option.some.injEq, Prod.mk.injEq] at H
  obtain ⟨rfl, rfl, rfl⟩ := H
  go_enter Tryz.func311, Tryz.ntmps311
  go_wp2_with (first | ((with_reducible refine gate_dst (N := 4) rfl ?_); refine zB_ (#[.int .i64 a0_0, .int .i64 a0_1, .int .i64 a0_2, .int .i64 a0_3, .slice A0_4 l0_4.length c0_4, .slice A0_5 l0_5.length c0_5]) 358 ?_; intro gb1285 hg w7 hbox hb; have BK1285 := zA_ (hbox); have GW1285 := zA_ (zs_ hg (zw0_ HB)); have GE1285 := zA_ (zs_ hg (zw0_ HB)); replace HB := zA_ (below_step (zw0_ HB) hb); clear hb hbox hg) | ((with_reducible refine gate_dst (N := 5) rfl ?_); refine zB_ (#[.slice A1_0 l1_0.length c1_0, .slice A1_1 l1_1.length c1_1]) 273 ?_; intro gb1286 hg w8 hbox hb; have BK1286 := zA_ (hbox); have GW1286 := zA_ (zs_ hg (zw1_ HB GE1285)); have GE1286 := zA_ (zs_ hg (zw1_ HB GE1285)); replace HB := zA_ (below_step (zw1_ HB GE1285) hb); have NB1285_1286 := zA_ (zn_ hg BK1285); have NB1286_1285 := zA_ (zm_ hg BK1285); replace BK1285 := za_ BK1285 hb; clear hb hbox hg) | ((with_reducible refine gate_dst (N := 6) rfl ?_); refine zB_ (#[.slice A2_0 l2_0.length c2_0, .slice A2_1 l2_1.length c2_1]) 273 ?_; intro gb1287 hg w9 hbox hb; have BK1287 := zA_ (hbox); have GW1287 := zA_ (zs_ hg (zw2_ HB GE1285 GE1286)); have GE1287 := zA_ (zs_ hg (zw2_ HB GE1285 GE1286)); replace HB := zA_ (below_step (zw2_ HB GE1285 GE1286) hb); have NB1285_1287 := zA_ (zn_ hg BK1285); have NB1287_1285 := zA_ (zm_ hg BK1285); replace BK1285 := za_ BK1285 hb; have NB1286_1287 := zA_ (zn_ hg BK1286); have NB1287_1286 := zA_ (zm_ hg BK1286); replace BK1286 := za_ BK1286 hb; clear hb hbox hg) | ((with_reducible refine gate_dst (N := 7) rfl ?_); refine zB_ (#[.slice A3_0 l3_0.length c3_0, .slice A3_1 l3_1.length c3_1]) 273 ?_; intro gb1288 hg w10 hbox hb; have BK1288 := zA_ (hbox); have GW1288 := zA_ (zs_ hg (zw3_ HB GE1285 GE1286 GE1287)); have GE1288 := zA_ (zs_ hg (zw3_ HB GE1285 GE1286 GE1287)); replace HB := zA_ (below_step (zw3_ HB GE1285 GE1286 GE1287) hb); have NB1285_1288 := zA_ (zn_ hg BK1285); have NB1288_1285 := zA_ (zm_ hg BK1285); replace BK1285 := za_ BK1285 hb; have NB1286_1288 := zA_ (zn_ hg BK1286); have NB1288_1286 := zA_ (zm_ hg BK1286); replace BK1286 := za_ BK1286 hb; have NB1287_1288 := zA_ (zn_ hg BK1287); have NB1288_1287 := zA_ (zm_ hg BK1287); replace BK1287 := za_ BK1287 hb; clear hb hbox hg) | ((with_reducible refine gate_dst (N := 8) rfl ?_); refine zB_ (#[.slice none 0 0, .slice none 0 0]) 273 ?_; intro gb1289 hg w11 hbox hb; have BK1289 := zA_ (hbox); have GW1289 := zA_ (zs_ hg (zw4_ HB GE1285 GE1286 GE1287 GE1288)); have GE1289 := zA_ (zs_ hg (zw4_ HB GE1285 GE1286 GE1287 GE1288)); replace HB := zA_ (below_step (zw4_ HB GE1285 GE1286 GE1287 GE1288) hb); have NB1285_1289 := zA_ (zn_ hg BK1285); have NB1289_1285 := zA_ (zm_ hg BK1285); replace BK1285 := za_ BK1285 hb; have NB1286_1289 := zA_ (zn_ hg BK1286); have NB1289_1286 := zA_ (zm_ hg BK1286); replace BK1286 := za_ BK1286 hb; have NB1287_1289 := zA_ (zn_ hg BK1287); have NB1289_1287 := zA_ (zm_ hg BK1287); replace BK1287 := za_ BK1287 hb; have NB1288_1289 := zA_ (zn_ hg BK1288); have NB1289_1288 := zA_ (zm_ hg BK1288); replace BK1288 := za_ BK1288 hb; clear hb hbox hg; have hnb12 := NB1285_1286.out; have hnc12 := NB1286_1285.out; have hnb13 := NB1285_1287.out; have hnc13 := NB1287_1285.out; have hnb14 := NB1285_1288.out; have hnc14 := NB1288_1285.out; have hnb15 := NB1285_1289.out; have hnc15 := NB1289_1285.out; have hcz16_0 := zx_ (v := .int .i64 a0_0) BK1285 0; have hcz16_1 := zx_ (v := .int .i64 a0_1) BK1285 1; have hcz16_2 := zx_ (v := .int .i64 a0_2) BK1285 2; have hcz16_3 := zx_ (v := .int .i64 a0_3) BK1285 3; have hcz16_4 := zx_ (v := .slice A0_4 l0_4.length c0_4) BK1285 4; have hcz16_5 := zx_ (v := .slice A0_5 l0_5.length c0_5) BK1285 5; have hfz16_0 := blk_frozen BK1285.out 0; have hfz16_1 := blk_frozen BK1285.out 1; have hfz16_2 := blk_frozen BK1285.out 2; have hfz16_3 := blk_frozen BK1285.out 3; have hfz16_4 := blk_frozen BK1285.out 4; have hfz16_5 := blk_frozen BK1285.out 5; have hnb17 := NB1288_1286.out; have hnc17 := NB1286_1288.out; have hnb18 := NB1288_1287.out; have hnc18 := NB1287_1288.out; have hnb19 := NB1288_1289.out; have hnc19 := NB1289_1288.out; have hcz20_0 := zx_ (v := .slice A3_0 l3_0.length c3_0) BK1288 0; have hcz20_1 := zx_ (v := .slice A3_1 l3_1.length c3_1) BK1288 1; have hfz20_0 := blk_frozen BK1288.out 0; have hfz20_1 := blk_frozen BK1288.out 1; have hnb21 := NB1287_1286.out; have hnc21 := NB1286_1287.out; have hnb22 := NB1287_1289.out; have hnc22 := NB1289_1287.out; have hcz23_0 := zx_ (v := .slice A2_0 l2_0.length c2_0) BK1287 0; have hcz23_1 := zx_ (v := .slice A2_1 l2_1.length c2_1) BK1287 1; have hfz23_0 := blk_frozen BK1287.out 0; have hfz23_1 := blk_frozen BK1287.out 1) | ((with_reducible refine gate_callee (f := 340) rfl ?_); refine zg_ (some 21) Tryz.func340 #[.agg #[.slice A3_0 l3_0.length c3_0, .slice A3_1 l3_1.length c3_1], .slice A2_0 l2_0.length c2_0] (h := ?_); (with_reducible refine (tens_Fold.calls k _ _ l3_0 _ _ l3_1 _ _ l2_0 t1290 t1293 t1296 _ ?side1 ?side2 ?side3 ?side4 ?side5 ?side6 A6.out).mono ?_); (case side1 => exact zk_ (Kd.C_below HR3_0.out HB.out)); (case side2 => exact HC3_0.out); (case side3 => exact zk_ (Kd.C_below HR3_1.out HB.out)); (case side4 => exact HC3_1.out); (case side5 => exact zk_ (Kd.C_below HR2_0.out HB.out)); (case side6 => exact HC2_0.out); rintro e w24 ⟨v1291, v1294, rfl, ho0, ho1, hb⟩; refine ⟨_, rfl, ?_⟩; have HO1292 := zA_ (Kd.R_lower ho0 (below_size (zw5_ HB GE1285 GE1286 GE1287 GE1288 GE1289))); have HO1295 := zA_ (Kd.R_lower ho1 (below_size (zw5_ HB GE1285 GE1286 GE1287 GE1288 GE1289))); replace BK1285 := za_ BK1285 hb; replace BK1286 := za_ BK1286 hb; replace BK1287 := za_ BK1287 hb; replace BK1288 := za_ BK1288 hb; replace BK1289 := za_ BK1289 hb; replace HB := zA_ (below_step (zw5_ HB GE1285 GE1286 GE1287 GE1288 GE1289) hb); (try clear hb); (try clear ho0); (try clear ho1); obtain ⟨Ao25, co25, eo25⟩ := Kd.R_slice HO1292.out; subst eo25; have hnb26 := NB1289_1286.out; have hnc26 := NB1286_1289.out; have hcz27_0 := zx_ (v := .slice none 0 0) BK1289 0; have hcz27_1 := zx_ (v := .slice none 0 0) BK1289 1; have hfz27_0 := blk_frozen BK1289.out 0; have hfz27_1 := blk_frozen BK1289.out 1; obtain ⟨Ao28, co28, eo28⟩ := Kd.R_slice HO1295.out; subst eo28))
  refine bodyPost_ret (results_ct rfl _ _ gb1289 273 #[.slice Ao25 t1290.length co25, .slice Ao28 t1293.length co28] (0, 0) _ rfl (zo2_ BK1289) Tryz.underlying273 rfl (by kernel_rfl)) rfl ?_
  exact ⟨_, _, z0_, zr_ (Kd.R_mono (Kd.R_far (p := ⟨gb1289, 1, none⟩) (Kd.R_far (p := ⟨gb1289, 0, none⟩) (Kd.R_types HO1292.out BK1289.out (by decide)) (fun _ hk => hk.2) (.slice Ao25 t1290.length co25)) (fun _ hk => hk.2) (.slice Ao28 t1293.length co28)) (fun _ hk => trivial)), zr_ (Kd.R_mono (Kd.R_far (p := ⟨gb1289, 1, none⟩) (Kd.R_far (p := ⟨gb1289, 0, none⟩) (Kd.R_types HO1295.out BK1289.out (by decide)) (fun _ hk => hk.2) (.slice Ao25 t1290.length co25)) (fun _ hk => hk.2) (.slice Ao28 t1293.length co28)) (fun _ hk => trivial)), zw5_ HB GE1285 GE1286 GE1287 GE1288 GE1289⟩
 rw [if_neg c5] at H
 have c5b0 : (a0_0 == 2) = false := beq_eq_false_iff_ne.mpr c5
 have c5b1 : (a0_0 != 2) = true := bne_iff_ne.mpr c5
 by_cases c29 : a0_0 = 3
 ·rw [if_pos c29] at H
  have c29b0 : (a0_0 == 3) = true := beq_iff_eq.mpr c29
  have c29b1 : (a0_0 != 3) = false := bne_eq_false_iff_eq.mpr c29
  clear c29
  replace H := zO_ H
  obtain ⟨⟨t1297, t1300, t1303⟩, A300, H⟩ := H
  replace H : ((back_folded.f k t1297 t1300 t1303 l2_0).bind fun bt1305 => (some (bt1305.1, bt1305.2.1, bt1305.2.2))) = some (r1, r2, r3) := H
  have A30 := zA_ A300
  clear A300
  replace H := zO_ H
  obtain ⟨⟨t1305, t1308, t1311⟩, A310, H⟩ := H
  replace H : (some (t1305, t1308, t1311)) = some (r1, r2, r3) := H
  have A31 := zA_ A310
  clear A310
  simp only [Option.some.injEq, Prod.mk.injEq] at H
  obtain ⟨rfl, rfl, rfl⟩ := H
  go_enter Tryz.func311, Tryz.ntmps311
  go_wp2_with (first | ((with_reducible refine gate_dst (N := 4) rfl ?_); refine zB_ (#[.int .i64 a0_0, .int .i64 a0_1, .int .i64 a0_2, .int .i64 a0_3, .slice A0_4 l0_4.length c0_4, .slice A0_5 l0_5.length c0_5]) 358 ?_; intro gb1285 hg w32 hbox hb; have BK1285 := zA_ (hbox); have GW1285 := zA_ (zs_ hg (zw0_ HB)); have GE1285 := zA_ (zs_ hg (zw0_ HB)); replace HB := zA_ (below_step (zw0_ HB) hb); clear hb hbox hg) | ((with_reducible refine gate_dst (N := 5) rfl ?_); refine zB_ (#[.slice A1_0 l1_0.length c1_0, .slice A1_1 l1_1.length c1_1]) 273 ?_; intro gb1286 hg w33 hbox hb; have BK1286 := zA_ (hbox); have GW1286 := zA_ (zs_ hg (zw1_ HB GE1285)); have GE1286 := zA_ (zs_ hg (zw1_ HB GE1285)); replace HB := zA_ (below_step (zw1_ HB GE1285) hb); have NB1285_1286 := zA_ (zn_ hg BK1285); have NB1286_1285 := zA_ (zm_ hg BK1285); replace BK1285 := za_ BK1285 hb; clear hb hbox hg) | ((with_reducible refine gate_dst (N := 6) rfl ?_); refine zB_ (#[.slice A2_0 l2_0.length c2_0, .slice A2_1 l2_1.length c2_1]) 273 ?_; intro gb1287 hg w34 hbox hb; have BK1287 := zA_ (hbox); have GW1287 := zA_ (zs_ hg (zw2_ HB GE1285 GE1286)); have GE1287 := zA_ (zs_ hg (zw2_ HB GE1285 GE1286)); replace HB := zA_ (below_step (zw2_ HB GE1285 GE1286) hb); have NB1285_1287 := zA_ (zn_ hg BK1285); have NB1287_1285 := zA_ (zm_ hg BK1285); replace BK1285 := za_ BK1285 hb; have NB1286_1287 := zA_ (zn_ hg BK1286); have NB1287_1286 := zA_ (zm_ hg BK1286); replace BK1286 := za_ BK1286 hb; clear hb hbox hg) | ((with_reducible refine gate_dst (N := 7) rfl ?_); refine zB_ (#[.slice A3_0 l3_0.length c3_0, .slice A3_1 l3_1.length c3_1]) 273 ?_; intro gb1288 hg w35 hbox hb; have BK1288 := zA_ (hbox); have GW1288 := zA_ (zs_ hg (zw3_ HB GE1285 GE1286 GE1287)); have GE1288 := zA_ (zs_ hg (zw3_ HB GE1285 GE1286 GE1287)); replace HB := zA_ (below_step (zw3_ HB GE1285 GE1286 GE1287) hb); have NB1285_1288 := zA_ (zn_ hg BK1285); have NB1288_1285 := zA_ (zm_ hg BK1285); replace BK1285 := za_ BK1285 hb; have NB1286_1288 := zA_ (zn_ hg BK1286); have NB1288_1286 := zA_ (zm_ hg BK1286); replace BK1286 := za_ BK1286 hb; have NB1287_1288 := zA_ (zn_ hg BK1287); have NB1288_1287 := zA_ (zm_ hg BK1287); replace BK1287 := za_ BK1287 hb; clear hb hbox hg) | ((with_reducible refine gate_dst (N := 8) rfl ?_); refine zB_ (#[.slice none 0 0, .slice none 0 0]) 273 ?_; intro gb1289 hg w36 hbox hb; have BK1289 := zA_ (hbox); have GW1289 := zA_ (zs_ hg (zw4_ HB GE1285 GE1286 GE1287 GE1288)); have GE1289 := zA_ (zs_ hg (zw4_ HB GE1285 GE1286 GE1287 GE1288)); replace HB := zA_ (below_step (zw4_ HB GE1285 GE1286 GE1287 GE1288) hb); have NB1285_1289 := zA_ (zn_ hg BK1285); have NB1289_1285 := zA_ (zm_ hg BK1285); replace BK1285 := za_ BK1285 hb; have NB1286_1289 := zA_ (zn_ hg BK1286); have NB1289_1286 := zA_ (zm_ hg BK1286); replace BK1286 := za_ BK1286 hb; have NB1287_1289 := zA_ (zn_ hg BK1287); have NB1289_1287 := zA_ (zm_ hg BK1287); replace BK1287 := za_ BK1287 hb; have NB1288_1289 := zA_ (zn_ hg BK1288); have NB1289_1288 := zA_ (zm_ hg BK1288); replace BK1288 := za_ BK1288 hb; clear hb hbox hg; have hnb37 := NB1285_1286.out; have hnc37 := NB1286_1285.out; have hnb38 := NB1285_1287.out; have hnc38 := NB1287_1285.out; have hnb39 := NB1285_1288.out; have hnc39 := NB1288_1285.out; have hnb40 := NB1285_1289.out; have hnc40 := NB1289_1285.out; have hcz41_0 := zx_ (v := .int .i64 a0_0) BK1285 0; have hcz41_1 := zx_ (v := .int .i64 a0_1) BK1285 1; have hcz41_2 := zx_ (v := .int .i64 a0_2) BK1285 2; have hcz41_3 := zx_ (v := .int .i64 a0_3) BK1285 3; have hcz41_4 := zx_ (v := .slice A0_4 l0_4.length c0_4) BK1285 4; have hcz41_5 := zx_ (v := .slice A0_5 l0_5.length c0_5) BK1285 5; have hfz41_0 := blk_frozen BK1285.out 0; have hfz41_1 := blk_frozen BK1285.out 1; have hfz41_2 := blk_frozen BK1285.out 2; have hfz41_3 := blk_frozen BK1285.out 3; have hfz41_4 := blk_frozen BK1285.out 4; have hfz41_5 := blk_frozen BK1285.out 5; have hnb42 := NB1288_1286.out; have hnc42 := NB1286_1288.out; have hnb43 := NB1288_1287.out; have hnc43 := NB1287_1288.out; have hnb44 := NB1288_1289.out; have hnc44 := NB1289_1288.out; have hcz45_0 := zx_ (v := .slice A3_0 l3_0.length c3_0) BK1288 0; have hcz45_1 := zx_ (v := .slice A3_1 l3_1.length c3_1) BK1288 1; have hfz45_0 := blk_frozen BK1288.out 0; have hfz45_1 := blk_frozen BK1288.out 1) | ((with_reducible refine gate_callee (f := 343) rfl ?_); refine zg_ (some 28) Tryz.func343 #[.agg #[.slice A3_0 l3_0.length c3_0, .slice A3_1 l3_1.length c3_1], .int .i64 (-4294967296)] (h := ?_); (with_reducible refine (tens_Scale.calls k _ _ l3_0 _ _ l3_1 (-4294967296) t1297 t1300 t1303 _ ?side1 ?side2 ?side3 ?side4 A30.out).mono ?_); (case side1 => exact zk_ (Kd.C_below HR3_0.out HB.out)); (case side2 => exact HC3_0.out); (case side3 => exact zk_ (Kd.C_below HR3_1.out HB.out)); (case side4 => exact HC3_1.out); rintro e w46 ⟨v1298, v1301, rfl, ho0, ho1, hb⟩; refine ⟨_, rfl, ?_⟩; have HO1299 := zA_ (Kd.R_lower ho0 (below_size (zw5_ HB GE1285 GE1286 GE1287 GE1288 GE1289))); have HO1302 := zA_ (Kd.R_lower ho1 (below_size (zw5_ HB GE1285 GE1286 GE1287 GE1288 GE1289))); replace BK1285 := za_ BK1285 hb; replace BK1286 := za_ BK1286 hb; replace BK1287 := za_ BK1287 hb; replace BK1288 := za_ BK1288 hb; replace BK1289 := za_ BK1289 hb; replace HB := zA_ (below_step (zw5_ HB GE1285 GE1286 GE1287 GE1288 GE1289) hb); (try clear hb); (try clear ho0); (try clear ho1)) | ((with_reducible refine gate_dst (N := 10) rfl ?_); refine zB_ (#[.slice none 0 0, .slice none 0 0]) 273 ?_; intro gb1304 hg w47 hbox hb; replace HO1299 := zy_ HO1299 hb; replace HO1302 := zy_ HO1302 hb; have BK1304 := zA_ (hbox); have GW1304 := zA_ (zs_ hg (zw5_ HB GE1285 GE1286 GE1287 GE1288 GE1289)); have GE1304 := zA_ (zs_ hg (zw5_ HB GE1285 GE1286 GE1287 GE1288 GE1289)); replace HB := zA_ (below_step (zw5_ HB GE1285 GE1286 GE1287 GE1288 GE1289) hb); have NB1285_1304 := zA_ (zn_ hg BK1285); have NB1304_1285 := zA_ (zm_ hg BK1285); replace BK1285 := za_ BK1285 hb; have NB1286_1304 := zA_ (zn_ hg BK1286); have NB1304_1286 := zA_ (zm_ hg BK1286); replace BK1286 := za_ BK1286 hb; have NB1287_1304 := zA_ (zn_ hg BK1287); have NB1304_1287 := zA_ (zm_ hg BK1287); replace BK1287 := za_ BK1287 hb; have NB1288_1304 := zA_ (zn_ hg BK1288); have NB1304_1288 := zA_ (zm_ hg BK1288); replace BK1288 := za_ BK1288 hb; have NB1289_1304 := zA_ (zn_ hg BK1289); have NB1304_1289 := zA_ (zm_ hg BK1289); replace BK1289 := za_ BK1289 hb; clear hb hbox hg; obtain ⟨Ao48, co48, eo48⟩ := Kd.R_slice HO1299.out; subst eo48; have hnb49 := NB1304_1285.out; have hnc49 := NB1285_1304.out; have hnb50 := NB1304_1286.out; have hnc50 := NB1286_1304.out; have hnb51 := NB1304_1287.out; have hnc51 := NB1287_1304.out; have hnb52 := NB1304_1288.out; have hnc52 := NB1288_1304.out; have hnb53 := NB1304_1289.out; have hnc53 := NB1289_1304.out; have hcz54_0 := zx_ (v := .slice none 0 0) BK1304 0; have hcz54_1 := zx_ (v := .slice none 0 0) BK1304 1; have hfz54_0 := blk_frozen BK1304.out 0; have hfz54_1 := blk_frozen BK1304.out 1; obtain ⟨Ao55, co55, eo55⟩ := Kd.R_slice HO1302.out; subst eo55; have hnb56 := NB1287_1286.out; have hnc56 := NB1286_1287.out; have hnb57 := NB1287_1289.out; have hnc57 := NB1289_1287.out; have hcz58_0 := zx_ (v := .slice A2_0 l2_0.length c2_0) BK1287 0; have hcz58_1 := zx_ (v := .slice A2_1 l2_1.length c2_1) BK1287 1; have hfz58_0 := blk_frozen BK1287.out 0; have hfz58_1 := blk_frozen BK1287.out 1) | ((with_reducible refine gate_callee (f := 342) rfl ?_); refine zg_ (some 35) Tryz.func342 #[.agg #[.slice Ao48 t1297.length co48, .slice Ao55 t1300.length co55], .int .i64 t1303, .slice A2_0 l2_0.length c2_0] (h := ?_); (with_reducible refine (back_folded.calls k _ _ t1297 _ _ t1300 t1303 _ _ l2_0 t1305 t1308 t1311 _ ?side1 ?side2 ?side3 ?side4 ?side5 ?side6 A31.out).mono ?_); (case side1 => refine (Kd.R_reads' (e := 3) (base := w.heap.size) (ok := fun k_ => True) (n := t1297.length) (c := co48) ?_).2.2; exact (zr_ ((zf_ HO1299 BK1304 (.slice Ao48 t1297.length co48) (.slice Ao55 t1300.length co55))))); (case side2 => exact (Kd.R_reads' HO1299.out).2.1); (case side3 => refine (Kd.R_reads' (e := 36) (base := w.heap.size) (ok := fun k_ => True) (n := t1300.length) (c := co55) ?_).2.2; exact (zr_ ((zf_ HO1302 BK1304 (.slice Ao48 t1297.length co48) (.slice Ao55 t1300.length co55))))); (case side4 => exact (Kd.R_reads' HO1302.out).2.1); (case side5 => exact Kd.C_below HR2_0.out (zw6_ HB GE1285 GE1286 GE1287 GE1288 GE1289 GE1304)); (case side6 => exact HC2_0.out); rintro e w59 ⟨v1306, v1309, rfl, ho0, ho1, hb⟩; refine ⟨_, rfl, ?_⟩; have HO1307 := zA_ (Kd.R_lower (Kd.R_new' ho0 (Kd.R_lt (zr_ ((zf_ HO1299 BK1304 (.slice Ao48 t1297.length co48) (.slice Ao55 t1300.length co55)))))) (below_size (zw6_ HB GE1285 GE1286 GE1287 GE1288 GE1289 GE1304))); replace HO1299 := zA_ (Kd.R_elder' (zr_ ((zf_ HO1299 BK1304 (.slice Ao48 t1297.length co48) (.slice Ao55 t1300.length co55)))) (Kd.R_base ho0) hb); have HO1310 := zA_ (Kd.R_lower (Kd.R_new' ho1 (Kd.R_lt (zr_ ((zf_ HO1302 BK1304 (.slice Ao48 t1297.length co48) (.slice Ao55 t1300.length co55)))))) (below_size (zw6_ HB GE1285 GE1286 GE1287 GE1288 GE1289 GE1304))); replace HO1302 := zA_ (Kd.R_elder' (zr_ ((zf_ HO1302 BK1304 (.slice Ao48 t1297.length co48) (.slice Ao55 t1300.length co55)))) (Kd.R_base ho1) hb); replace BK1285 := zA_ (blk_below (g := gb1285) (o := .cells #[.int .i64 a0_0, .int .i64 a0_1, .int .i64 a0_2, .int .i64 a0_3, .slice A0_4 l0_4.length c0_4, .slice A0_5 l0_5.length c0_5] 358 (0, 0)) (zv1_ BK1285 NB1285_1304) hb); replace BK1286 := zA_ (blk_below (g := gb1286) (o := .cells #[.slice A1_0 l1_0.length c1_0, .slice A1_1 l1_1.length c1_1] 273 (0, 0)) (zv1_ BK1286 NB1286_1304) hb); replace BK1287 := zA_ (blk_below (g := gb1287) (o := .cells #[.slice A2_0 l2_0.length c2_0, .slice A2_1 l2_1.length c2_1] 273 (0, 0)) (zv1_ BK1287 NB1287_1304) hb); replace BK1288 := zA_ (blk_below (g := gb1288) (o := .cells #[.slice A3_0 l3_0.length c3_0, .slice A3_1 l3_1.length c3_1] 273 (0, 0)) (zv1_ BK1288 NB1288_1304) hb); replace BK1289 := zA_ (blk_below (g := gb1289) (o := .cells #[.slice none 0 0, .slice none 0 0] 273 (0, 0)) (zv1_ BK1289 NB1289_1304) hb); replace BK1304 := zA_ (blk_below (g := gb1304) (o := .cells #[.slice Ao48 t1297.length co48, .slice Ao55 t1300.length co55] 273 (0, 0)) (zo2_ BK1304) hb); replace HB := zA_ (below_step (zw6_ HB GE1285 GE1286 GE1287 GE1288 GE1289 GE1304) hb); (try clear hb); (try clear hk); (try clear ho0); (try clear ho1); obtain ⟨Ao60, co60, eo60⟩ := Kd.R_slice HO1307.out; subst eo60; have hnb61 := NB1289_1286.out; have hnc61 := NB1286_1289.out; have hcz62_0 := zx_ (v := .slice none 0 0) BK1289 0; have hcz62_1 := zx_ (v := .slice none 0 0) BK1289 1; have hfz62_0 := blk_frozen BK1289.out 0; have hfz62_1 := blk_frozen BK1289.out 1; obtain ⟨Ao63, co63, eo63⟩ := Kd.R_slice HO1310.out; subst eo63))
  refine bodyPost_ret (results_ct rfl _ _ gb1289 273 #[.slice Ao60 t1305.length co60, .slice Ao63 t1308.length co63] (0, 0) _ rfl (zo2_ BK1289) Tryz.underlying273 rfl (by kernel_rfl)) rfl ?_
  exact ⟨_, _, z0_, zr_ (Kd.R_mono (Kd.R_far (p := ⟨gb1289, 1, none⟩) (Kd.R_far (p := ⟨gb1289, 0, none⟩) (Kd.R_types HO1307.out BK1289.out (by decide)) (fun _ hk => hk.2) (.slice Ao60 t1305.length co60)) (fun _ hk => hk.2) (.slice Ao63 t1308.length co63)) (fun _ hk => trivial)), zr_ (Kd.R_mono (Kd.R_far (p := ⟨gb1289, 1, none⟩) (Kd.R_far (p := ⟨gb1289, 0, none⟩) (Kd.R_types HO1310.out BK1289.out (by decide)) (fun _ hk => hk.2) (.slice Ao60 t1305.length co60)) (fun _ hk => hk.2) (.slice Ao63 t1308.length co63)) (fun _ hk => trivial)), zw6_ HB GE1285 GE1286 GE1287 GE1288 GE1289 GE1304⟩
 rw [if_neg c29] at H
 have c29b0 : (a0_0 == 3) = false := beq_eq_false_iff_ne.mpr c29
 have c29b1 : (a0_0 != 3) = true := bne_iff_ne.mpr c29
 by_cases c64 : a0_0 = 4
 ·rw [if_pos c64] at H
  have c64b0 : (a0_0 == 4) = true := beq_iff_eq.mpr c64
  have c64b1 : (a0_0 != 4) = false := bne_eq_false_iff_eq.mpr c64
  clear c64
  replace H := zO_ H
  obtain ⟨⟨t1312, t1315, t1318⟩, A650, H⟩ := H
  replace H : ((back_folded.f k t1312 t1315 t1318 l2_0).bind fun bt1320 => (some (bt1320.1, bt1320.2.1, bt1320.2.2))) = some (r1, r2, r3) := H
  have A65 := zA_ A650
  clear A650
  replace H := zO_ H
  obtain ⟨⟨t1320, t1323, t1326⟩, A660, H⟩ := H
  replace H : (some (t1320, t1323, t1326)) = some (r1, r2, r3) := H
  have A66 := zA_ A660
  clear A660
  simp only [Option.some.injEq, Prod.mk.injEq] at H
  obtain ⟨rfl, rfl, rfl⟩ := H
  go_enter Tryz.func311, Tryz.ntmps311
  go_wp2_with (first | ((with_reducible refine gate_dst (N := 4) rfl ?_); refine zB_ (#[.int .i64 a0_0, .int .i64 a0_1, .int .i64 a0_2, .int .i64 a0_3, .slice A0_4 l0_4.length c0_4, .slice A0_5 l0_5.length c0_5]) 358 ?_; intro gb1285 hg w67 hbox hb; have BK1285 := zA_ (hbox); have GW1285 := zA_ (zs_ hg (zw0_ HB)); have GE1285 := zA_ (zs_ hg (zw0_ HB)); replace HB := zA_ (below_step (zw0_ HB) hb); clear hb hbox hg) | ((with_reducible refine gate_dst (N := 5) rfl ?_); refine zB_ (#[.slice A1_0 l1_0.length c1_0, .slice A1_1 l1_1.length c1_1]) 273 ?_; intro gb1286 hg w68 hbox hb; have BK1286 := zA_ (hbox); have GW1286 := zA_ (zs_ hg (zw1_ HB GE1285)); have GE1286 := zA_ (zs_ hg (zw1_ HB GE1285)); replace HB := zA_ (below_step (zw1_ HB GE1285) hb); have NB1285_1286 := zA_ (zn_ hg BK1285); have NB1286_1285 := zA_ (zm_ hg BK1285); replace BK1285 := za_ BK1285 hb; clear hb hbox hg) | ((with_reducible refine gate_dst (N := 6) rfl ?_); refine zB_ (#[.slice A2_0 l2_0.length c2_0, .slice A2_1 l2_1.length c2_1]) 273 ?_; intro gb1287 hg w69 hbox hb; have BK1287 := zA_ (hbox); have GW1287 := zA_ (zs_ hg (zw2_ HB GE1285 GE1286)); have GE1287 := zA_ (zs_ hg (zw2_ HB GE1285 GE1286)); replace HB := zA_ (below_step (zw2_ HB GE1285 GE1286) hb); have NB1285_1287 := zA_ (zn_ hg BK1285); have NB1287_1285 := zA_ (zm_ hg BK1285); replace BK1285 := za_ BK1285 hb; have NB1286_1287 := zA_ (zn_ hg BK1286); have NB1287_1286 := zA_ (zm_ hg BK1286); replace BK1286 := za_ BK1286 hb; clear hb hbox hg) | ((with_reducible refine gate_dst (N := 7) rfl ?_); refine zB_ (#[.slice A3_0 l3_0.length c3_0, .slice A3_1 l3_1.length c3_1]) 273 ?_; intro gb1288 hg w70 hbox hb; have BK1288 := zA_ (hbox); have GW1288 := zA_ (zs_ hg (zw3_ HB GE1285 GE1286 GE1287)); have GE1288 := zA_ (zs_ hg (zw3_ HB GE1285 GE1286 GE1287)); replace HB := zA_ (below_step (zw3_ HB GE1285 GE1286 GE1287) hb); have NB1285_1288 := zA_ (zn_ hg BK1285); have NB1288_1285 := zA_ (zm_ hg BK1285); replace BK1285 := za_ BK1285 hb; have NB1286_1288 := zA_ (zn_ hg BK1286); have NB1288_1286 := zA_ (zm_ hg BK1286); replace BK1286 := za_ BK1286 hb; have NB1287_1288 := zA_ (zn_ hg BK1287); have NB1288_1287 := zA_ (zm_ hg BK1287); replace BK1287 := za_ BK1287 hb; clear hb hbox hg) | ((with_reducible refine gate_dst (N := 8) rfl ?_); refine zB_ (#[.slice none 0 0, .slice none 0 0]) 273 ?_; intro gb1289 hg w71 hbox hb; have BK1289 := zA_ (hbox); have GW1289 := zA_ (zs_ hg (zw4_ HB GE1285 GE1286 GE1287 GE1288)); have GE1289 := zA_ (zs_ hg (zw4_ HB GE1285 GE1286 GE1287 GE1288)); replace HB := zA_ (below_step (zw4_ HB GE1285 GE1286 GE1287 GE1288) hb); have NB1285_1289 := zA_ (zn_ hg BK1285); have NB1289_1285 := zA_ (zm_ hg BK1285); replace BK1285 := za_ BK1285 hb; have NB1286_1289 := zA_ (zn_ hg BK1286); have NB1289_1286 := zA_ (zm_ hg BK1286); replace BK1286 := za_ BK1286 hb; have NB1287_1289 := zA_ (zn_ hg BK1287); have NB1289_1287 := zA_ (zm_ hg BK1287); replace BK1287 := za_ BK1287 hb; have NB1288_1289 := zA_ (zn_ hg BK1288); have NB1289_1288 := zA_ (zm_ hg BK1288); replace BK1288 := za_ BK1288 hb; clear hb hbox hg; have hnb72 := NB1285_1286.out; have hnc72 := NB1286_1285.out; have hnb73 := NB1285_1287.out; have hnc73 := NB1287_1285.out; have hnb74 := NB1285_1288.out; have hnc74 := NB1288_1285.out; have hnb75 := NB1285_1289.out; have hnc75 := NB1289_1285.out; have hcz76_0 := zx_ (v := .int .i64 a0_0) BK1285 0; have hcz76_1 := zx_ (v := .int .i64 a0_1) BK1285 1; have hcz76_2 := zx_ (v := .int .i64 a0_2) BK1285 2; have hcz76_3 := zx_ (v := .int .i64 a0_3) BK1285 3; have hcz76_4 := zx_ (v := .slice A0_4 l0_4.length c0_4) BK1285 4; have hcz76_5 := zx_ (v := .slice A0_5 l0_5.length c0_5) BK1285 5; have hfz76_0 := blk_frozen BK1285.out 0; have hfz76_1 := blk_frozen BK1285.out 1; have hfz76_2 := blk_frozen BK1285.out 2; have hfz76_3 := blk_frozen BK1285.out 3; have hfz76_4 := blk_frozen BK1285.out 4; have hfz76_5 := blk_frozen BK1285.out 5; have hnb77 := NB1288_1286.out; have hnc77 := NB1286_1288.out; have hnb78 := NB1288_1287.out; have hnc78 := NB1287_1288.out; have hnb79 := NB1288_1289.out; have hnc79 := NB1289_1288.out; have hcz80_0 := zx_ (v := .slice A3_0 l3_0.length c3_0) BK1288 0; have hcz80_1 := zx_ (v := .slice A3_1 l3_1.length c3_1) BK1288 1; have hfz80_0 := blk_frozen BK1288.out 0; have hfz80_1 := blk_frozen BK1288.out 1; have hnb81 := NB1286_1287.out; have hnc81 := NB1287_1286.out; have hnb82 := NB1286_1289.out; have hnc82 := NB1289_1286.out; have hcz83_0 := zx_ (v := .slice A1_0 l1_0.length c1_0) BK1286 0; have hcz83_1 := zx_ (v := .slice A1_1 l1_1.length c1_1) BK1286 1; have hfz83_0 := blk_frozen BK1286.out 0; have hfz83_1 := blk_frozen BK1286.out 1) | ((with_reducible refine gate_callee (f := 341) rfl ?_); refine zg_ (some 43) Tryz.func341 #[.agg #[.slice A3_0 l3_0.length c3_0, .slice A3_1 l3_1.length c3_1], .agg #[.slice A1_0 l1_0.length c1_0, .slice A1_1 l1_1.length c1_1]] (h := ?_); (with_reducible refine (tens_Mul.calls k _ _ l3_0 _ _ l3_1 _ _ l1_0 _ _ l1_1 t1312 t1315 t1318 _ ?side1 ?side2 ?side3 ?side4 ?side5 ?side6 ?side7 ?side8 A65.out).mono ?_); (case side1 => exact zk_ (Kd.C_below HR3_0.out HB.out)); (case side2 => exact HC3_0.out); (case side3 => exact zk_ (Kd.C_below HR3_1.out HB.out)); (case side4 => exact HC3_1.out); (case side5 => exact zk_ (Kd.C_below HR1_0.out HB.out)); (case side6 => exact HC1_0.out); (case side7 => exact zk_ (Kd.C_below HR1_1.out HB.out)); (case side8 => exact HC1_1.out); rintro e w84 ⟨v1313, v1316, rfl, ho0, ho1, hb⟩; refine ⟨_, rfl, ?_⟩; have HO1314 := zA_ (Kd.R_lower ho0 (below_size (zw5_ HB GE1285 GE1286 GE1287 GE1288 GE1289))); have HO1317 := zA_ (Kd.R_lower ho1 (below_size (zw5_ HB GE1285 GE1286 GE1287 GE1288 GE1289))); replace BK1285 := za_ BK1285 hb; replace BK1286 := za_ BK1286 hb; replace BK1287 := za_ BK1287 hb; replace BK1288 := za_ BK1288 hb; replace BK1289 := za_ BK1289 hb; replace HB := zA_ (below_step (zw5_ HB GE1285 GE1286 GE1287 GE1288 GE1289) hb); (try clear hb); (try clear ho0); (try clear ho1)) | ((with_reducible refine gate_dst (N := 12) rfl ?_); refine zB_ (#[.slice none 0 0, .slice none 0 0]) 273 ?_; intro gb1319 hg w85 hbox hb; replace HO1314 := zy_ HO1314 hb; replace HO1317 := zy_ HO1317 hb; have BK1319 := zA_ (hbox); have GW1319 := zA_ (zs_ hg (zw5_ HB GE1285 GE1286 GE1287 GE1288 GE1289)); have GE1319 := zA_ (zs_ hg (zw5_ HB GE1285 GE1286 GE1287 GE1288 GE1289)); replace HB := zA_ (below_step (zw5_ HB GE1285 GE1286 GE1287 GE1288 GE1289) hb); have NB1285_1319 := zA_ (zn_ hg BK1285); have NB1319_1285 := zA_ (zm_ hg BK1285); replace BK1285 := za_ BK1285 hb; have NB1286_1319 := zA_ (zn_ hg BK1286); have NB1319_1286 := zA_ (zm_ hg BK1286); replace BK1286 := za_ BK1286 hb; have NB1287_1319 := zA_ (zn_ hg BK1287); have NB1319_1287 := zA_ (zm_ hg BK1287); replace BK1287 := za_ BK1287 hb; have NB1288_1319 := zA_ (zn_ hg BK1288); have NB1319_1288 := zA_ (zm_ hg BK1288); replace BK1288 := za_ BK1288 hb; have NB1289_1319 := zA_ (zn_ hg BK1289); have NB1319_1289 := zA_ (zm_ hg BK1289); replace BK1289 := za_ BK1289 hb; clear hb hbox hg; obtain ⟨Ao86, co86, eo86⟩ := Kd.R_slice HO1314.out; subst eo86; have hnb87 := NB1319_1285.out; have hnc87 := NB1285_1319.out; have hnb88 := NB1319_1286.out; have hnc88 := NB1286_1319.out; have hnb89 := NB1319_1287.out; have hnc89 := NB1287_1319.out; have hnb90 := NB1319_1288.out; have hnc90 := NB1288_1319.out; have hnb91 := NB1319_1289.out; have hnc91 := NB1289_1319.out; have hcz92_0 := zx_ (v := .slice none 0 0) BK1319 0; have hcz92_1 := zx_ (v := .slice none 0 0) BK1319 1; have hfz92_0 := blk_frozen BK1319.out 0; have hfz92_1 := blk_frozen BK1319.out 1; obtain ⟨Ao93, co93, eo93⟩ := Kd.R_slice HO1317.out; subst eo93; have hnb94 := NB1287_1289.out; have hnc94 := NB1289_1287.out; have hcz95_0 := zx_ (v := .slice A2_0 l2_0.length c2_0) BK1287 0; have hcz95_1 := zx_ (v := .slice A2_1 l2_1.length c2_1) BK1287 1; have hfz95_0 := blk_frozen BK1287.out 0; have hfz95_1 := blk_frozen BK1287.out 1) | ((with_reducible refine gate_callee (f := 342) rfl ?_); refine zg_ (some 50) Tryz.func342 #[.agg #[.slice Ao86 t1312.length co86, .slice Ao93 t1315.length co93], .int .i64 t1318, .slice A2_0 l2_0.length c2_0] (h := ?_); (with_reducible refine (back_folded.calls k _ _ t1312 _ _ t1315 t1318 _ _ l2_0 t1320 t1323 t1326 _ ?side1 ?side2 ?side3 ?side4 ?side5 ?side6 A66.out).mono ?_); (case side1 => refine (Kd.R_reads' (e := 3) (base := w.heap.size) (ok := fun k_ => True) (n := t1312.length) (c := co86) ?_).2.2; exact (zr_ ((zf_ HO1314 BK1319 (.slice Ao86 t1312.length co86) (.slice Ao93 t1315.length co93))))); (case side2 => exact (Kd.R_reads' HO1314.out).2.1); (case side3 => refine (Kd.R_reads' (e := 36) (base := w.heap.size) (ok := fun k_ => True) (n := t1315.length) (c := co93) ?_).2.2; exact (zr_ ((zf_ HO1317 BK1319 (.slice Ao86 t1312.length co86) (.slice Ao93 t1315.length co93))))); (case side4 => exact (Kd.R_reads' HO1317.out).2.1); (case side5 => exact Kd.C_below HR2_0.out (zw6_ HB GE1285 GE1286 GE1287 GE1288 GE1289 GE1319)); (case side6 => exact HC2_0.out); rintro e w96 ⟨v1321, v1324, rfl, ho0, ho1, hb⟩; refine ⟨_, rfl, ?_⟩; have HO1322 := zA_ (Kd.R_lower (Kd.R_new' ho0 (Kd.R_lt (zr_ ((zf_ HO1314 BK1319 (.slice Ao86 t1312.length co86) (.slice Ao93 t1315.length co93)))))) (below_size (zw6_ HB GE1285 GE1286 GE1287 GE1288 GE1289 GE1319))); replace HO1314 := zA_ (Kd.R_elder' (zr_ ((zf_ HO1314 BK1319 (.slice Ao86 t1312.length co86) (.slice Ao93 t1315.length co93)))) (Kd.R_base ho0) hb); have HO1325 := zA_ (Kd.R_lower (Kd.R_new' ho1 (Kd.R_lt (zr_ ((zf_ HO1317 BK1319 (.slice Ao86 t1312.length co86) (.slice Ao93 t1315.length co93)))))) (below_size (zw6_ HB GE1285 GE1286 GE1287 GE1288 GE1289 GE1319))); replace HO1317 := zA_ (Kd.R_elder' (zr_ ((zf_ HO1317 BK1319 (.slice Ao86 t1312.length co86) (.slice Ao93 t1315.length co93)))) (Kd.R_base ho1) hb); replace BK1285 := zA_ (blk_below (g := gb1285) (o := .cells #[.int .i64 a0_0, .int .i64 a0_1, .int .i64 a0_2, .int .i64 a0_3, .slice A0_4 l0_4.length c0_4, .slice A0_5 l0_5.length c0_5] 358 (0, 0)) (zv1_ BK1285 NB1285_1319) hb); replace BK1286 := zA_ (blk_below (g := gb1286) (o := .cells #[.slice A1_0 l1_0.length c1_0, .slice A1_1 l1_1.length c1_1] 273 (0, 0)) (zv1_ BK1286 NB1286_1319) hb); replace BK1287 := zA_ (blk_below (g := gb1287) (o := .cells #[.slice A2_0 l2_0.length c2_0, .slice A2_1 l2_1.length c2_1] 273 (0, 0)) (zv1_ BK1287 NB1287_1319) hb); replace BK1288 := zA_ (blk_below (g := gb1288) (o := .cells #[.slice A3_0 l3_0.length c3_0, .slice A3_1 l3_1.length c3_1] 273 (0, 0)) (zv1_ BK1288 NB1288_1319) hb); replace BK1289 := zA_ (blk_below (g := gb1289) (o := .cells #[.slice none 0 0, .slice none 0 0] 273 (0, 0)) (zv1_ BK1289 NB1289_1319) hb); replace BK1319 := zA_ (blk_below (g := gb1319) (o := .cells #[.slice Ao86 t1312.length co86, .slice Ao93 t1315.length co93] 273 (0, 0)) (zo2_ BK1319) hb); replace HB := zA_ (below_step (zw6_ HB GE1285 GE1286 GE1287 GE1288 GE1289 GE1319) hb); (try clear hb); (try clear hk); (try clear ho0); (try clear ho1); obtain ⟨Ao97, co97, eo97⟩ := Kd.R_slice HO1322.out; subst eo97; have hcz98_0 := zx_ (v := .slice none 0 0) BK1289 0; have hcz98_1 := zx_ (v := .slice none 0 0) BK1289 1; have hfz98_0 := blk_frozen BK1289.out 0; have hfz98_1 := blk_frozen BK1289.out 1; obtain ⟨Ao99, co99, eo99⟩ := Kd.R_slice HO1325.out; subst eo99))
  refine bodyPost_ret (results_ct rfl _ _ gb1289 273 #[.slice Ao97 t1320.length co97, .slice Ao99 t1323.length co99] (0, 0) _ rfl (zo2_ BK1289) Tryz.underlying273 rfl (by kernel_rfl)) rfl ?_
  exact ⟨_, _, z0_, zr_ (Kd.R_mono (Kd.R_far (p := ⟨gb1289, 1, none⟩) (Kd.R_far (p := ⟨gb1289, 0, none⟩) (Kd.R_types HO1322.out BK1289.out (by decide)) (fun _ hk => hk.2) (.slice Ao97 t1320.length co97)) (fun _ hk => hk.2) (.slice Ao99 t1323.length co99)) (fun _ hk => trivial)), zr_ (Kd.R_mono (Kd.R_far (p := ⟨gb1289, 1, none⟩) (Kd.R_far (p := ⟨gb1289, 0, none⟩) (Kd.R_types HO1325.out BK1289.out (by decide)) (fun _ hk => hk.2) (.slice Ao97 t1320.length co97)) (fun _ hk => hk.2) (.slice Ao99 t1323.length co99)) (fun _ hk => trivial)), zw6_ HB GE1285 GE1286 GE1287 GE1288 GE1289 GE1319⟩
 rw [if_neg c64] at H
 have c64b0 : (a0_0 == 4) = false := beq_eq_false_iff_ne.mpr c64
 have c64b1 : (a0_0 != 4) = true := bne_iff_ne.mpr c64
 by_cases c100 : a0_0 = 6
 ·rw [if_pos c100] at H
  exact zN_ H
 rw [if_neg c100] at H
 have c100b0 : (a0_0 == 6) = false := beq_eq_false_iff_ne.mpr c100
 have c100b1 : (a0_0 != 6) = true := bne_iff_ne.mpr c100
 by_cases c101 : a0_0 = 12
 ·rw [if_pos c101] at H
  have c101b0 : (a0_0 == 12) = true := beq_iff_eq.mpr c101
  have c101b1 : (a0_0 != 12) = false := bne_eq_false_iff_eq.mpr c101
  clear c101
  exact zN_ H
 rw [if_neg c101] at H
 have c101b0 : (a0_0 == 12) = false := beq_eq_false_iff_ne.mpr c101
 have c101b1 : (a0_0 != 12) = true := bne_iff_ne.mpr c101
 simp only [Option.some.injEq, Prod.mk.injEq] at H
 obtain ⟨rfl, rfl, rfl⟩ := H
 go_enter Tryz.func311, Tryz.ntmps311
 go_wp2_with (first | ((with_reducible refine gate_dst (N := 4) rfl ?_); refine zB_ (#[.int .i64 a0_0, .int .i64 a0_1, .int .i64 a0_2, .int .i64 a0_3, .slice A0_4 l0_4.length c0_4, .slice A0_5 l0_5.length c0_5]) 358 ?_; intro gb1285 hg w102 hbox hb; have BK1285 := zA_ (hbox); have GW1285 := zA_ (zs_ hg (zw0_ HB)); have GE1285 := zA_ (zs_ hg (zw0_ HB)); replace HB := zA_ (below_step (zw0_ HB) hb); clear hb hbox hg) | ((with_reducible refine gate_dst (N := 5) rfl ?_); refine zB_ (#[.slice A1_0 l1_0.length c1_0, .slice A1_1 l1_1.length c1_1]) 273 ?_; intro gb1286 hg w103 hbox hb; have BK1286 := zA_ (hbox); have GW1286 := zA_ (zs_ hg (zw1_ HB GE1285)); have GE1286 := zA_ (zs_ hg (zw1_ HB GE1285)); replace HB := zA_ (below_step (zw1_ HB GE1285) hb); have NB1285_1286 := zA_ (zn_ hg BK1285); have NB1286_1285 := zA_ (zm_ hg BK1285); replace BK1285 := za_ BK1285 hb; clear hb hbox hg) | ((with_reducible refine gate_dst (N := 6) rfl ?_); refine zB_ (#[.slice A2_0 l2_0.length c2_0, .slice A2_1 l2_1.length c2_1]) 273 ?_; intro gb1287 hg w104 hbox hb; have BK1287 := zA_ (hbox); have GW1287 := zA_ (zs_ hg (zw2_ HB GE1285 GE1286)); have GE1287 := zA_ (zs_ hg (zw2_ HB GE1285 GE1286)); replace HB := zA_ (below_step (zw2_ HB GE1285 GE1286) hb); have NB1285_1287 := zA_ (zn_ hg BK1285); have NB1287_1285 := zA_ (zm_ hg BK1285); replace BK1285 := za_ BK1285 hb; have NB1286_1287 := zA_ (zn_ hg BK1286); have NB1287_1286 := zA_ (zm_ hg BK1286); replace BK1286 := za_ BK1286 hb; clear hb hbox hg) | ((with_reducible refine gate_dst (N := 7) rfl ?_); refine zB_ (#[.slice A3_0 l3_0.length c3_0, .slice A3_1 l3_1.length c3_1]) 273 ?_; intro gb1288 hg w105 hbox hb; have BK1288 := zA_ (hbox); have GW1288 := zA_ (zs_ hg (zw3_ HB GE1285 GE1286 GE1287)); have GE1288 := zA_ (zs_ hg (zw3_ HB GE1285 GE1286 GE1287)); replace HB := zA_ (below_step (zw3_ HB GE1285 GE1286 GE1287) hb); have NB1285_1288 := zA_ (zn_ hg BK1285); have NB1288_1285 := zA_ (zm_ hg BK1285); replace BK1285 := za_ BK1285 hb; have NB1286_1288 := zA_ (zn_ hg BK1286); have NB1288_1286 := zA_ (zm_ hg BK1286); replace BK1286 := za_ BK1286 hb; have NB1287_1288 := zA_ (zn_ hg BK1287); have NB1288_1287 := zA_ (zm_ hg BK1287); replace BK1287 := za_ BK1287 hb; clear hb hbox hg) | ((with_reducible refine gate_dst (N := 8) rfl ?_); refine zB_ (#[.slice none 0 0, .slice none 0 0]) 273 ?_; intro gb1289 hg w106 hbox hb; have BK1289 := zA_ (hbox); have GW1289 := zA_ (zs_ hg (zw4_ HB GE1285 GE1286 GE1287 GE1288)); have GE1289 := zA_ (zs_ hg (zw4_ HB GE1285 GE1286 GE1287 GE1288)); replace HB := zA_ (below_step (zw4_ HB GE1285 GE1286 GE1287 GE1288) hb); have NB1285_1289 := zA_ (zn_ hg BK1285); have NB1289_1285 := zA_ (zm_ hg BK1285); replace BK1285 := za_ BK1285 hb; have NB1286_1289 := zA_ (zn_ hg BK1286); have NB1289_1286 := zA_ (zm_ hg BK1286); replace BK1286 := za_ BK1286 hb; have NB1287_1289 := zA_ (zn_ hg BK1287); have NB1289_1287 := zA_ (zm_ hg BK1287); replace BK1287 := za_ BK1287 hb; have NB1288_1289 := zA_ (zn_ hg BK1288); have NB1289_1288 := zA_ (zm_ hg BK1288); replace BK1288 := za_ BK1288 hb; clear hb hbox hg; have hnb107 := NB1285_1286.out; have hnc107 := NB1286_1285.out; have hnb108 := NB1285_1287.out; have hnc108 := NB1287_1285.out; have hnb109 := NB1285_1288.out; have hnc109 := NB1288_1285.out; have hnb110 := NB1285_1289.out; have hnc110 := NB1289_1285.out; have hcz111_0 := zx_ (v := .int .i64 a0_0) BK1285 0; have hcz111_1 := zx_ (v := .int .i64 a0_1) BK1285 1; have hcz111_2 := zx_ (v := .int .i64 a0_2) BK1285 2; have hcz111_3 := zx_ (v := .int .i64 a0_3) BK1285 3; have hcz111_4 := zx_ (v := .slice A0_4 l0_4.length c0_4) BK1285 4; have hcz111_5 := zx_ (v := .slice A0_5 l0_5.length c0_5) BK1285 5; have hfz111_0 := blk_frozen BK1285.out 0; have hfz111_1 := blk_frozen BK1285.out 1; have hfz111_2 := blk_frozen BK1285.out 2; have hfz111_3 := blk_frozen BK1285.out 3; have hfz111_4 := blk_frozen BK1285.out 4; have hfz111_5 := blk_frozen BK1285.out 5; have hnb112 := NB1289_1286.out; have hnc112 := NB1286_1289.out; have hnb113 := NB1289_1287.out; have hnc113 := NB1287_1289.out; have hnb114 := NB1289_1288.out; have hnc114 := NB1288_1289.out; have hcz115_0 := zx_ (v := .slice none 0 0) BK1289 0; have hcz115_1 := zx_ (v := .slice none 0 0) BK1289 1; have hfz115_0 := blk_frozen BK1289.out 0; have hfz115_1 := blk_frozen BK1289.out 1))
 refine bodyPost_ret (results_ct rfl _ _ gb1289 273 #[.slice none 0 0, .slice none 0 0] (0, 0) _ rfl (zo2_ BK1289) Tryz.underlying273 rfl (by kernel_rfl)) rfl ?_
 exact ⟨_, _, z0_, z2_, z2_, zw5_ HB GE1285 GE1286 GE1287 GE1288 GE1289⟩
end Go.Proofs.YtmddclifcgcpcaaGreatDoor.PTopNames
namespace Go.Proofs.YtmddclifcgcpcaaGreatDoor.PTopNames
open Go.RowKit Go.Proofs.YtmddclifcgcpcaaGreatDoorW.PrintWords Go.Proofs.YtmddclifcgcpcaaGreatDoorW.PrintLast Go.Proofs.YtmddclifcgcpcaaGreatDoorW.PrintMore
def tape_add.T1 : Bool × List (List Nat × List Nat) := (true, [([], []), ([], []), ([1], [1]), ([2], [2]), ([3], [3]), ([], []), ([5], [5]), ([4, 6], [4, 6]), ([0, 0, 1, 2, 3, 4, 5, 6, 7], [0]), ([8, 0, 1, 2, 3, 4, 5, 6, 7], [8]), ([9, 7, 7, 0, 1, 2, 3, 4, 5, 6, 7], [7, 9])])
def tape_add.B1 : List Nat := [0, 0, 2, 6, 14, 0, 32, 126, 255, 511, 1023]
theorem tape_add.tab1 : rtab .any (opsOf Tryz.f337 1) = tape_add.T1 := by kernel_rfl
theorem tape_add.bits1 : waitsOk tape_add.T1.2 tape_add.B1 = true := by kernel_rfl
def TF (w w' : World) : Prop := w.heap.size ≤ w'.heap.size ∧ ∀ k, k < w.heap.size → (∀ c f, w.heap[k]? ≠ some (.cells c 344 f)) → (∀ c f, w.heap[k]? ≠ some (.cells c 358 f)) → w'.heap[k]? = w.heap[k]?
theorem TF.of_below {w w' : World} (h : Below w.heap.size w w') : TF w w' := ⟨h.size, fun k hk _ _ => h.block k hk⟩
theorem TF.trans {a b c : World} (h : TF a b) (k : TF b c) : TF a c := ⟨Nat.le_trans h.1 k.1, fun q hq h1 h2 => (k.2 q (Nat.lt_of_lt_of_le hq h.1) (by rw [h.2 q hq h1 h2]; exact h1) (by rw [h.2 q hq h1 h2]; exact h2)).trans (h.2 q hq h1 h2)⟩
theorem TF.set {w : World} {g i : Nat} {c : Array Value} {f : Nat × Nat} (h : w.heap[g]? = some (.cells c 344 f)) (v : Value) : TF w (w.setCell ⟨g, i, none⟩ v) := ⟨Nat.le_of_eq (World.size_setCell w _ _).symm, fun k hk h1 h2 => Below.heap_setCell w ⟨g, i, none⟩ v k (fun e => h1 c f (by rw [e]; exact h))⟩
theorem TF.grown {w w1 : World} {v : Value} (hg : w.grownBy w1 v.ownBlock) (hs : w.heap.size ≤ w1.heap.size) (hv : ∀ k, v.ownBlock = some k → ∃ cells, w.heap[k]? = some (.cells cells 358 (0, 0))) : TF w w1 := ⟨hs, fun k hk h1 h2 => hg.block k hk (fun e => by obtain ⟨c, hc⟩ := hv k e.symm; exact h2 c _ hc)⟩
theorem TF.blk {w w' : World} {k t : Nat} {c : Array Value} (h : TF w w') (hb : w.heap[k]? = some (.cells c t (0, 0))) (h1 : t ≠ 344) (h2 : t ≠ 358) : w'.heap[k]? = some (.cells c t (0, 0)) := (h.2 k (blk_lt hb) (fun c' f e => by rw [hb] at e; injection e with e; injection e with _ e; exact h1 e) (fun c' f e => by rw [hb] at e; injection e with e; injection e with _ e; exact h2 e)).trans hb
theorem TF.R {α : Type} {d : Kd α} {e base : Nat} {ok : Nat → Prop} {v : Value} {xs : List α} {w w' : World} (h : TF w w') (hr : d.R e w base ok v xs) (h1 : ∀ q, q ∈ e :: d.E → q ≠ 344) (h2 : ∀ q, q ∈ e :: d.E → q ≠ 358) : d.R e w' base ok v xs :=
  Kd.R_mono (Kd.R_move (Kd.R_bound hr) (fun k hk => by
    obtain ⟨_, _, hlt, q, hq, c, hc⟩ := hk
    exact (TF.blk h hc (h1 q hq) (h2 q hq)).trans hc.symm)) (fun _ hk => hk.1)
theorem info358 : (Tryz.prog.info? 358).map (fun i => (i.zero, i.size, i.bytes)) = some (some (.agg #[.int .i64 0, .int .i64 0, .int .i64 0, .int .i64 0, .slice none 0 0, .slice none 0 0]), 6, 80) := by kernel_rfl
theorem tens_Copy_eq {l m : List Int} (h : l.length < 17592186044416) (h' : m.length < 17592186044416) : tens_Copy.f l m = some (l, m) := by unfold tens_Copy.f slices_Clone_int_int.f slices_Clone_Fix.f; rw [if_pos h, if_pos h']; rfl
theorem tape_has_no (g : Nat) (i : Int) (w : World) (h0 : i < 0) :
  Calls Tryz.prog 306 #[.pointer (some ⟨g, 0, none⟩), .int .i64 i] w fun e w' => e = .returned (.bool false) ∧ Below w.heap.size w w' := by
 have c3b0 : decide (0 ≤ i) = false := decide_eq_false (by omega)
 have HB := zA_ (Below.refl w.heap.size w)
 clear h0
 go_enter Tryz.func306, Tryz.ntmps306
 go_wp2
 go_ret
 exact ⟨rfl, zw0_ HB⟩
theorem tape_At_no (g : Nat) (i : Int) (w : World) (h0 : i < 0) :
  Calls Tryz.prog 251 #[.pointer (some ⟨g, 0, none⟩), .int .i64 i] w fun e w' => e = .returned (.tuple #[.agg #[.int .i64 0, .int .i64 0, .int .i64 0, .int .i64 0, .slice none 0 0, .slice none 0 0], .bool false]) ∧ Below w.heap.size w w' := by
 have HB := zA_ (Below.refl w.heap.size w)
 go_enter Tryz.func251, Tryz.ntmps251
 go_wp2_with (first | ((with_reducible refine gate_dst (N := 4) rfl ?_); refine zB_ (#[.int .i64 0, .int .i64 0, .int .i64 0, .int .i64 0, .slice none 0 0, .slice none 0 0]) 358 ?_; intro gb4 hg wgb4 hbox hb; have BKgb4 := zA_ (hbox); have GEgb4 := zA_ (zs_ hg (zw0_ HB));  replace HB := zA_ (below_step (zw0_ HB) hb); clear hb hbox hg) | (go_at_call 306; refine (tape_has_no g i _ h0).mono ?_; rintro e w7 ⟨rfl, hb⟩; replace BKgb4 := zA_ (blk_below BKgb4.out hb); replace HB := zA_ (below_step (zw0_ HB) hb); clear hb; have cz0 := (blk_cell BKgb4.out 0).trans rfl; have cz1 := (blk_cell BKgb4.out 1).trans rfl; have cz2 := (blk_cell BKgb4.out 2).trans rfl; have cz3 := (blk_cell BKgb4.out 3).trans rfl; have cz4 := (blk_cell BKgb4.out 4).trans rfl; have cz5 := (blk_cell BKgb4.out 5).trans rfl; have cf0 := blk_frozen BKgb4.out 0; have cf1 := blk_frozen BKgb4.out 1; have cf2 := blk_frozen BKgb4.out 2; have cf3 := blk_frozen BKgb4.out 3; have cf4 := blk_frozen BKgb4.out 4; have cf5 := blk_frozen BKgb4.out 5))
 have x0 := HB.out
 have u0 := BKgb4.out
 have x1 := x0.setCell (p := ⟨gb4, 0, none⟩) GEgb4.out (.int .i64 0)
 have u1 := blk_put u0 0 (.int .i64 0) rfl
 have x2 := x1.setCell (p := ⟨gb4, 1, none⟩) GEgb4.out (.int .i64 0)
 have u2 := blk_put u1 1 (.int .i64 0) rfl
 have x3 := x2.setCell (p := ⟨gb4, 2, none⟩) GEgb4.out (.int .i64 0)
 have u3 := blk_put u2 2 (.int .i64 0) rfl
 have x4 := x3.setCell (p := ⟨gb4, 3, none⟩) GEgb4.out (.int .i64 0)
 have u4 := blk_put u3 3 (.int .i64 0) rfl
 have x5 := x4.setCell (p := ⟨gb4, 4, none⟩) GEgb4.out (.slice none 0 0)
 have u5 := blk_put u4 4 (.slice none 0 0) rfl
 have x6 := x5.setCell (p := ⟨gb4, 5, none⟩) GEgb4.out (.slice none 0 0)
 have u6 := blk_put u5 5 (.slice none 0 0) rfl
 refine bodyPost_ret (results_ct rfl _ _ gb4 358 #[.int .i64 0, .int .i64 0, .int .i64 0, .int .i64 0, .slice none 0 0, .slice none 0 0] (0, 0) _ rfl u6 Tryz.underlying358 rfl (by kernel_rfl)) rfl ?_
 exact ⟨rfl, x6⟩
theorem tape_Value_no (g : Nat) (i : Int) (w : World) (h0 : i < 0) :
  Calls Tryz.prog 171 #[.pointer (some ⟨g, 0, none⟩), .int .i64 i] w fun e w' => e = .returned (.tuple #[.agg #[.slice none 0 0, .slice none 0 0], .bool false]) ∧ Below w.heap.size w w' := by
 have HB := zA_ (Below.refl w.heap.size w)
 go_enter Tryz.func171, Tryz.ntmps171
 go_wp2_with (first | ((with_reducible refine gate_dst (N := 4) rfl ?_); refine zB_ (#[.slice none 0 0, .slice none 0 0]) 273 ?_; intro gb4 hg wgb4 hbox hb; have BKgb4 := zA_ (hbox); have GEgb4 := zA_ (zs_ hg (zw0_ HB));  replace HB := zA_ (below_step (zw0_ HB) hb); clear hb hbox hg) | (go_at_call 251; refine (tape_At_no g i _ h0).mono ?_; rintro e w7 ⟨rfl, hb⟩; replace BKgb4 := zA_ (blk_below BKgb4.out hb); replace HB := zA_ (below_step (zw0_ HB) hb); clear hb; have cz0 := (blk_cell BKgb4.out 0).trans rfl; have cf0 := blk_frozen BKgb4.out 0; have cz1 := (blk_cell BKgb4.out 1).trans rfl; have cf1 := blk_frozen BKgb4.out 1) | ((with_reducible refine gate_dst (N := 6) rfl ?_); refine zB_ (#[.int .i64 0, .int .i64 0, .int .i64 0, .int .i64 0, .slice none 0 0, .slice none 0 0]) 358 ?_; intro gb6 hg wgb6 hbox hb; have BKgb6 := zA_ (hbox); have GEgb6 := zA_ (zs_ hg (zw0_ HB)); have NB := zA_ (zn_ hg BKgb4); replace BKgb4 := zA_ (blk_below BKgb4.out hb); have dz0 := (blk_cell BKgb6.out 0).trans rfl; have df0 := blk_frozen BKgb6.out 0; have dz1 := (blk_cell BKgb6.out 1).trans rfl; have df1 := blk_frozen BKgb6.out 1; have dz2 := (blk_cell BKgb6.out 2).trans rfl; have df2 := blk_frozen BKgb6.out 2; have dz3 := (blk_cell BKgb6.out 3).trans rfl; have df3 := blk_frozen BKgb6.out 3; have dz4 := (blk_cell BKgb6.out 4).trans rfl; have df4 := blk_frozen BKgb6.out 4; have dz5 := (blk_cell BKgb6.out 5).trans rfl; have df5 := blk_frozen BKgb6.out 5; clear cz0 cz1 cf0 cf1; have cz0 := (blk_cell BKgb4.out 0).trans rfl; have cf0 := blk_frozen BKgb4.out 0; have cz1 := (blk_cell BKgb4.out 1).trans rfl; have cf1 := blk_frozen BKgb4.out 1; have hne := NB.out; have hne2 := Ne.symm NB.out; replace HB := zA_ (below_step (zw0_ HB) hb); clear hb hbox hg))
 clear cz0 cf0 cz1 cf1 dz0 df0 dz1 df1 dz2 df2 dz3 df3 dz4 df4 dz5 df5 hne hne2
 have x0 := HB.out
 have u0 := BKgb4.out
 have x1 := x0.setCell (p := ⟨gb6, 0, none⟩) GEgb6.out (.int .i64 0)
 have u1 := (Below.heap_setCell _ ⟨gb6, 0, none⟩ (.int .i64 0) gb4 NB.out).trans u0
 have x2 := x1.setCell (p := ⟨gb6, 1, none⟩) GEgb6.out (.int .i64 0)
 have u2 := (Below.heap_setCell _ ⟨gb6, 1, none⟩ (.int .i64 0) gb4 NB.out).trans u1
 have x3 := x2.setCell (p := ⟨gb6, 2, none⟩) GEgb6.out (.int .i64 0)
 have u3 := (Below.heap_setCell _ ⟨gb6, 2, none⟩ (.int .i64 0) gb4 NB.out).trans u2
 have x4 := x3.setCell (p := ⟨gb6, 3, none⟩) GEgb6.out (.int .i64 0)
 have u4 := (Below.heap_setCell _ ⟨gb6, 3, none⟩ (.int .i64 0) gb4 NB.out).trans u3
 have x5 := x4.setCell (p := ⟨gb6, 4, none⟩) GEgb6.out (.slice none 0 0)
 have u5 := (Below.heap_setCell _ ⟨gb6, 4, none⟩ (.slice none 0 0) gb4 NB.out).trans u4
 have x6 := x5.setCell (p := ⟨gb6, 5, none⟩) GEgb6.out (.slice none 0 0)
 have u6 := (Below.heap_setCell _ ⟨gb6, 5, none⟩ (.slice none 0 0) gb4 NB.out).trans u5
 have x7 := x6.setCell (p := ⟨gb4, 0, none⟩) GEgb4.out (.slice none 0 0)
 have u7 := blk_put u6 0 (.slice none 0 0) rfl
 have x8 := x7.setCell (p := ⟨gb4, 1, none⟩) GEgb4.out (.slice none 0 0)
 have u8 := blk_put u7 1 (.slice none 0 0) rfl
 refine bodyPost_ret (results_ct rfl _ _ gb4 273 #[.slice none 0 0, .slice none 0 0] (0, 0) _ rfl u8 Tryz.underlying273 rfl (by kernel_rfl)) rfl ?_
 exact ⟨rfl, x8⟩
theorem below_le {b b1 : Nat} {w w1 : World} (h : Below b1 w w1) (hb : b ≤ b1) : Below b w w1 := ⟨h.os, h.tape, h.output, h.size, fun k hk => h.block k (Nat.lt_of_lt_of_le hk hb)⟩
theorem tape_two_b (a : Int) (r : Bool) (w : World) (h : tape_two.f a = some r) : Calls Tryz.prog 358 #[.int .i64 a] w fun e w' => e = .returned (.bool r) ∧ Below w.heap.size w w' := (tape_two.calls a r w h).mono (by rintro e w' ⟨rfl, ⟨nd, rfl⟩⟩; have h2 := zA_ (Below.refl w.heap.size w); exact ⟨rfl, zw0_ h2⟩)
theorem tape_counts_b (a : Int) (r : Bool) (w : World) (h : tape_counts.f a = some r) : Calls Tryz.prog 359 #[.int .i64 a] w fun e w' => e = .returned (.bool r) ∧ Below w.heap.size w w' := (tape_counts.calls a r w h).mono (by rintro e w' ⟨rfl, ⟨nd, rfl⟩⟩; have h2 := zA_ (Below.refl w.heap.size w); exact ⟨rfl, zw0_ h2⟩)
theorem below_drewN1 {b : Nat} {w w1 : World} (h : Below b w w1) (n : Nat) : Below b w (w1.drewN n) := by have h2 := zA_ h; exact zw0_ h2
theorem TF.same {w : World} {q i t : Nat} {cs : Array Value} {v : Value} (h : w.heap[q]? = some (.cells cs t (0, 0))) (e : cs.setIfInBounds i v = cs) : TF w (w.setCell ⟨q, i, none⟩ v) := ⟨Nat.le_of_eq (World.size_setCell w _ _).symm, fun k hk _ _ => by
  by_cases hq : k = q
  · subst hq
    rw [h]
    exact blk_put h i v e
  · exact Below.heap_setCell w ⟨q, i, none⟩ v k hq⟩
theorem steps_told (q g : Nat) (was n : Int) (w : World) (hQ : w.heap[q]? = some (.cells #[.pointer (some ⟨g, 0, none⟩), .int .i64 was, .int .i64 0] 454 (0, 0))) :
  Calls Tryz.prog 303 #[.pointer (some ⟨q, 0, none⟩), .int .i64 n] w fun e w' => e = .returned (.tuple #[.int .i64 n, .int .i64 0]) ∧ Below w.heap.size w w' := by
 have hz2 := (blk_cell hQ 2).trans rfl
 have HB := zA_ (Below.refl w.heap.size w)
 clear hQ
 go_enter Tryz.func303, Tryz.ntmps303
 go_wp2
 go_ret2
 exact ⟨rfl, zw0_ HB⟩
theorem C_one_ {w : World} {b t : Nat} {x : Int} (h : w.heap[b]? = some (.cells #[.int .i64 x] t (0, 0))) : Kd.C (Kd.int .i64) w (some ⟨b, 0, none⟩) 1 [x] := by
  refine ⟨rfl, by decide, fun _ => ⟨_, rfl, fun j p hj => ?_⟩⟩
  match j, hj with
  | 0, hj =>
    obtain rfl := Option.some.inj hj
    refine ⟨[.int .i64 x], rfl, rfl, fun i u hu => ?_⟩
    match i, hu with
    | 0, hu =>
      obtain rfl := Option.some.inj hu
      exact (blk_cell h 0).trans rfl
structure HS (n0 : Nat) (w0 w : World) (L : List (Nat × Array Value × Nat)) : Prop where
  le : n0 ≤ w0.heap.size
  below : Below n0 w0 w
  blk : ∀ (i : Nat) (x : Nat × Array Value × Nat), L[i]? = some x → w.heap[x.1]? = some (.cells x.2.1 x.2.2 (0, 0))
  nd : ∀ (i j : Nat) (x y : Nat × Array Value × Nat), i < j → L[i]? = some x → L[j]? = some y → x.1 ≠ y.1
section
variable {n0 : Nat} {w0 w w' : World} {L L' : List (Nat × Array Value × Nat)} {b g t : Nat} {cs cs' : Array Value}
theorem HS.start (w : World) : HS w.heap.size w w [] := ⟨Nat.le_refl _, Below.refl _ _, fun i x h => by simp at h, fun i j x y _ h => by simp at h⟩
theorem HS.size (h : HS n0 w0 w L) : n0 ≤ w.heap.size := Nat.le_trans h.le h.below.size
theorem HS.step (h : HS n0 w0 w L) (hb : Below w.heap.size w w') : HS n0 w0 w' L := ⟨h.le, h.below.trans (below_le hb h.size), fun i x hx => blk_below (h.blk i x hx) hb, h.nd⟩
theorem HS.alloc (h : HS n0 w0 w L) (o : Obj) : HS n0 w0 (w.alloc o) L := h.step ((Below.refl w.heap.size w).alloc (Nat.le_refl _) o)
end
section
open Classical
noncomputable def Rg (good : Value → Prop) (v : Value) : Option (DataW Unit × List MemPlace) := if good v then some (.nil, []) else none
theorem Rg_some {good : Value → Prop} {v : Value} (h : good v) : Rg good v = some (.nil, []) := if_pos h
theorem Rg_inv {good : Value → Prop} {v : Value} {z : DataW Unit × List MemPlace} (h : Rg good v = some z) : good v := by
  unfold Rg at h
  split at h
  · assumption
  · cases h
end
def WM (w : World) (b n : Nat) (good : Value → Prop) : Prop := ∃ D, w.ownsMap Tryz.prog 3 (Rg good) b n D
theorem law3 : Go.Maps.Keyed Tryz.prog 3 := Go.Maps.int_keyed Tryz.underlying3
theorem WM.blk {w : World} {b n : Nat} {good : Value → Prop} (h : WM w b n good) : ∃ es clock, w.heap[b]? = some (.map es clock) := by
  obtain ⟨D, es, clock, hb, _⟩ := h
  exact ⟨es, clock, hb⟩
theorem WM.lt {w : World} {b n : Nat} {good : Value → Prop} (h : WM w b n good) : b < w.heap.size := by
  obtain ⟨es, clock, hb⟩ := h.blk
  exact (Array.getElem?_eq_some_iff.1 hb).1
theorem WM.made (w : World) (good : Value → Prop) : WM (w.alloc (.map #[] 0)) w.heap.size 0 good := ⟨_, World.ownsMap_made w Tryz.prog 3 (Rg good)⟩
theorem WM.below {w w' : World} {b n : Nat} {good : Value → Prop} (h : WM w b n good) (hb : Below w.heap.size w w') : WM w' b n good := by
  have hlt := h.lt
  obtain ⟨D, es, clock, h1, F, hs, hD⟩ := h
  exact ⟨D, es, clock, (hb.block b hlt).trans h1, F, hs, hD⟩
theorem WM.set {w : World} {b n : Nat} {good : Value → Prop} (h : WM w b n good) (p : Addr) (hne : b ≠ p.block) (v : Value) : WM (w.setCell p v) b n good := by
  have hlt := h.lt
  obtain ⟨D, es, clock, h1, F, hs, hD⟩ := h
  exact ⟨D, es, clock, (Below.heap_setCell w p v b hne).trans h1, F, hs, hD⟩
theorem WM.look {w : World} {b n t e : Nat} {good : Value → Prop} (h : WM w b n good) (ht : Tryz.prog.underlying t = some (.map 3 e)) {z : Value} (hz : (zeroValue e).run Tryz.prog w = .ok z w) (hg : good z) (x : Int) (hx : (Lit.int .i64 x).wf = true) :
    ∃ v, good v ∧ (Instr.lookup t (.map (some b)) (.int .i64 x) false).run Tryz.prog w = .ok v w := by
  obtain ⟨D, h⟩ := h
  obtain ⟨v, ps, hrun, hv⟩ := h.lookup law3 ht hz (Rg_some hg) (Go.Maps.keyOf_int_mk Tryz.underlying3 hx)
  exact ⟨v, Rg_inv hv, hrun⟩
theorem WM.put {w w1 : World} {ops : Array Oper} {rest : List Oper} {o : Oper} {a : Act} {Q : Exit → Act → World → Prop} {b n t e : Nat} {good : Value → Prop}
    (h : WM w b n good) (hg : o.guard = none) (m x v : Operand) (hop : o.op = Op.mapUpdate t m x v) (ht : Tryz.prog.underlying t = some (.map 3 e))
    (hm : a.eval m = .map (some b)) (hn : n < maxLen) (key : Int) (val : Value) (hx : a.eval x = .int .i64 key) (hv : a.eval v = val) (hk : (Lit.int .i64 key).wf = true) (hval : good val)
    (hK : ∀ w', WM w' b (n + 1) good → w.grownBy w' (some b) → wpList Tryz.prog ops Q rest (a.put o.dst undef) w') : wpList Tryz.prog ops Q (o :: rest) a w := by
  obtain ⟨D, h⟩ := h
  exact wpList_mapUpdate_own w hg m x v t hop 3 e law3 ht (Rg good) b n D hm h hn _ val _ hx hv (Go.Maps.keyOf_int_mk Tryz.underlying3 hk) _ _ (Rg_some hval) (fun w' h1 h2 => hK w' ⟨_, h1⟩ h2)
theorem WM.mono {w : World} {b n : Nat} {g1 g2 : Value → Prop} (h : WM w b n g1) (hm : ∀ v, g1 v → g2 v) : WM w b n g2 := by
  obtain ⟨D, es, clock, hb, F, hs, hD⟩ := h
  refine ⟨_, es, clock, hb, ⟨F.size, F.stamped, fun x hx => ?_⟩, hs, rfl⟩
  obtain ⟨y, hy⟩ := F.reads x hx
  unfold Go.WideElems.rd at hy ⊢
  cases hk : keyOf Tryz.prog 3 x.key with
  | none => rw [hk] at hy; simp at hy
  | some kl =>
    rw [hk] at hy
    cases hr : Rg g1 x.val with
    | none => rw [hr] at hy; simp at hy
    | some z => exact ⟨(kl, .nil), by rw [Rg_some (hm _ (Rg_inv hr))]; rfl⟩
def goodW (w : World) (v : Value) : Prop := v = .pointer none ∨ ∃ b cs, v = .pointer (some ⟨b, 0, none⟩) ∧ w.heap[b]? = some (.cells cs 155 (0, 0)) ∧ cs[14]? = some (.int .i64 0)
theorem goodW.below {w w' : World} {v : Value} (h : goodW w v) (hb : Below w.heap.size w w') : goodW w' v := by
  rcases h with h | ⟨b, cs, h1, h2, h3⟩
  · exact Or.inl h
  · exact Or.inr ⟨b, cs, h1, blk_below h2 hb, h3⟩
def WF (w : World) (k : Nat) : Prop := ∃ (c0 c1 c2 c3 c5 c6 c7 : Value) (lm n : Nat), w.heap[k]? = some (.cells #[c0, c1, c2, c3, .map (some lm), c5, c6, c7] 80 (0, 0)) ∧ WM w lm n (goodW w)
theorem WF.below {w w' : World} {k : Nat} (h : WF w k) (hb : Below w.heap.size w w') : WF w' k := by
  obtain ⟨c0, c1, c2, c3, c5, c6, c7, lm, n, h1, h2⟩ := h
  exact ⟨c0, c1, c2, c3, c5, c6, c7, lm, n, blk_below h1 hb, (h2.below hb).mono fun v hv => hv.below hb⟩
theorem worker_Steps (b : Nat) (cs : Array Value) (w : World) (hB : w.heap[b]? = some (.cells cs 155 (0, 0))) (h14 : cs[14]? = some (.int .i64 0)) :
  Calls Tryz.prog 85 #[.pointer (some ⟨b, 0, none⟩)] w fun e w' => e = .returned (.int .i64 0) ∧ Below w.heap.size w w' := by
 have hz := (blk_cell hB 14).trans h14
 have HB := zA_ (Below.refl w.heap.size w)
 clear hB
 go_enter Tryz.func85, Tryz.ntmps85
 go_wp2
 go_ret
 exact ⟨rfl, zw0_ HB⟩
theorem world_Steps (k : Nat) (n : Int) (w : World) (hW : WF w k) (hn : (Lit.int .i64 n).wf = true) :
  Calls Tryz.prog 45 #[.pointer (some ⟨k, 0, none⟩), .int .i64 n] w fun e w' => ∃ b : Bool, e = .returned (.tuple #[.int .i64 0, .bool b]) ∧ Below w.heap.size w w' := by
 obtain ⟨c0, c1, c2, c3, c5, c6, c7, lm, m, hk, hm⟩ := hW
 have hz := (blk_cell hk 4).trans rfl
 have hze : (zeroValue 102).run Tryz.prog w = .ok (.pointer none) w := by kernel_rfl
 obtain ⟨v, hv, hrun⟩ := hm.look (t := 61) (e := 102) Tryz.underlying61 hze (Or.inl rfl) n hn
 have HB := zA_ (Below.refl w.heap.size w)
 clear hk hm hze
 rcases hv with rfl | ⟨b, cs, rfl, hb, h14⟩
 · go_enter Tryz.func45, Tryz.ntmps45
   go_wp2
   go_ret2
   exact ⟨_, rfl, zw0_ HB⟩
 · have BB := zA_ hb
   have H14 := zA_ h14
   clear hb h14
   go_enter Tryz.func45, Tryz.ntmps45
   go_wp2_with (first | (go_at_call 85; refine (worker_Steps b cs _ BB.out H14.out).mono ?_; rintro e w7 ⟨rfl, hb⟩; replace HB := zA_ (below_step (zw0_ HB) hb); clear hb))
   go_ret2
   exact ⟨_, rfl, zw0_ HB⟩
theorem count_nl (w : World) : (callFunc 89 #[(.string ⟨#[115, 116, 101, 112, 115]⟩), .int .u8 10]).run Tryz.prog w = .ok (.value (.int .i64 0)) w := by kernel_rfl
theorem count_sp (w : World) : (callFunc 89 #[(.string ⟨#[115, 116, 101, 112, 115]⟩), .int .u8 32]).run Tryz.prog w = .ok (.value (.int .i64 0)) w := by kernel_rfl
theorem strings_Count_nl (w : World) :
  Calls Tryz.prog 48 #[(.string ⟨#[115, 116, 101, 112, 115]⟩), .string ⟨#[10]⟩] w fun e w' => e = .returned (.int .i64 0) ∧ Below w.heap.size w w' := by
 have hc := count_nl
 have hi : (⟨#[10]⟩ : ByteArray)[0].toNat = 10 := rfl
 have HB := zA_ (Below.refl w.heap.size w)
 go_enter Tryz.func48, Tryz.ntmps48
 go_wp2
 go_ret
 exact ⟨rfl, zw0_ HB⟩
theorem strings_genSplit_nl (w : World) :
  Calls Tryz.prog 25 #[(.string ⟨#[115, 116, 101, 112, 115]⟩), .string ⟨#[10]⟩, .int .i64 0, .int .i64 (-1)] w fun e w' => ∃ g, e = .returned (.slice (some ⟨g, 0, none⟩) 1 1) ∧ w'.heap[g]? = some (.cells #[(.string ⟨#[115, 116, 101, 112, 115]⟩)] 9 (0, 0)) ∧ Below w.heap.size w w' := by
 have H := zA_ (HS.start w)
 have hms : ∀ w : World, (Instr.makeSlice 56 (.int .i64 1) (.int .i64 1)).run Tryz.prog w = .ok (.slice (some ⟨w.heap.size, 0, none⟩) 1 1) (w.alloc (.cells #[.string ⟨#[]⟩] 9)) := fun _ => by kernel_rfl
 go_enter Tryz.func25, Tryz.ntmps25
 go_wp2_with (first | (go_at_call 48; refine (strings_Count_nl _).mono ?_; rintro e w7 ⟨rfl, hb⟩; replace H := zA_ ((show HS _ _ _ [] from (by (repeat (first | exact H.out | with_reducible refine HS.drewN ?_ _ | with_reducible refine HS.drew ?_ | with_reducible refine HS.alloc ?_ _)); all_goals rfl)).step hb); clear hb))
 refine wp_loop_rounds 1 ?_
 rw [rounds_succ]
 go_wp2
 go_ret
 exact ⟨_, rfl, heap_alloc_new _ _, (H.out.alloc _).below⟩
theorem strings_Split_nl (w : World) :
  Calls Tryz.prog 12 #[(.string ⟨#[115, 116, 101, 112, 115]⟩), .string ⟨#[10]⟩] w fun e w' => ∃ g, e = .returned (.slice (some ⟨g, 0, none⟩) 1 1) ∧ w'.heap[g]? = some (.cells #[(.string ⟨#[115, 116, 101, 112, 115]⟩)] 9 (0, 0)) ∧ Below w.heap.size w w' := by
 go_enter Tryz.func12, Tryz.ntmps12
 go_wp2_with (first | (go_at_call 25; refine (strings_genSplit_nl _).mono ?_; rintro e w7 ⟨g, rfl, hk, hb⟩; have HK := zA_ hk; have HB := zA_ hb; clear hk hb))
 go_ret
 exact ⟨_, rfl, HK.out, HB.out⟩
theorem strings_Count_sp (w : World) :
  Calls Tryz.prog 48 #[(.string ⟨#[115, 116, 101, 112, 115]⟩), .string ⟨#[32]⟩] w fun e w' => e = .returned (.int .i64 0) ∧ Below w.heap.size w w' := by
 have hc := count_sp
 have hi : (⟨#[32]⟩ : ByteArray)[0].toNat = 32 := rfl
 have HB := zA_ (Below.refl w.heap.size w)
 go_enter Tryz.func48, Tryz.ntmps48
 go_wp2
 go_ret
 exact ⟨rfl, zw0_ HB⟩
theorem strings_genSplit_sp (w : World) :
  Calls Tryz.prog 25 #[(.string ⟨#[115, 116, 101, 112, 115]⟩), .string ⟨#[32]⟩, .int .i64 0, .int .i64 (-1)] w fun e w' => ∃ g, e = .returned (.slice (some ⟨g, 0, none⟩) 1 1) ∧ w'.heap[g]? = some (.cells #[(.string ⟨#[115, 116, 101, 112, 115]⟩)] 9 (0, 0)) ∧ Below w.heap.size w w' := by
 have H := zA_ (HS.start w)
 have hms : ∀ w : World, (Instr.makeSlice 56 (.int .i64 1) (.int .i64 1)).run Tryz.prog w = .ok (.slice (some ⟨w.heap.size, 0, none⟩) 1 1) (w.alloc (.cells #[.string ⟨#[]⟩] 9)) := fun _ => by kernel_rfl
 go_enter Tryz.func25, Tryz.ntmps25
 go_wp2_with (first | (go_at_call 48; refine (strings_Count_sp _).mono ?_; rintro e w7 ⟨rfl, hb⟩; replace H := zA_ ((show HS _ _ _ [] from (by (repeat (first | exact H.out | with_reducible refine HS.drewN ?_ _ | with_reducible refine HS.drew ?_ | with_reducible refine HS.alloc ?_ _)); all_goals rfl)).step hb); clear hb))
 refine wp_loop_rounds 1 ?_
 rw [rounds_succ]
 go_wp2
 go_ret
 exact ⟨_, rfl, heap_alloc_new _ _, (H.out.alloc _).below⟩
theorem strings_Split_sp (w : World) :
  Calls Tryz.prog 12 #[(.string ⟨#[115, 116, 101, 112, 115]⟩), .string ⟨#[32]⟩] w fun e w' => ∃ g, e = .returned (.slice (some ⟨g, 0, none⟩) 1 1) ∧ w'.heap[g]? = some (.cells #[(.string ⟨#[115, 116, 101, 112, 115]⟩)] 9 (0, 0)) ∧ Below w.heap.size w w' := by
 go_enter Tryz.func12, Tryz.ntmps12
 go_wp2_with (first | (go_at_call 25; refine (strings_genSplit_sp _).mono ?_; rintro e w7 ⟨g, rfl, hk, hb⟩; have HK := zA_ hk; have HB := zA_ hb; clear hk hb))
 go_ret
 exact ⟨_, rfl, HK.out, HB.out⟩
section
variable {P : Program} {ops : Array Oper} {rest : List Oper} {o : Oper} {a : Act} {Q : Exit → Act → World → Prop}
theorem append1 {W : World} (hgd : o.guard = none) (s x : Operand) (t e : TypeId) (z : Value) (size bytes : Nat)
    (ho : o.op = .call { callee := .builtin .append, args := #[s, x], argTypes := #[t, t] })
    (ht : P.underlying t = some (.slice e)) (hinfo : (P.info? e).map (fun i => (i.zero, i.size, i.bytes)) = some (some z, size, bytes)) (hz : z.cells.size = size) (hs0 : 0 < size) (hb0 : 0 < bytes)
    (ys : List Value) (hs : a.eval s = .slice none 0 0) (hx : a.eval x = .slice (some ⟨W.heap.size, 0, none⟩) 1 1) (hys : ys.length = size) (h1 : ∀ u ∈ ys, u.oneCell' = true) (hl : bytes ≤ 140737488355328)
    (h : ∀ (g c : Nat) (cur : Array Value) (w1 : World), W.heap.size ≤ g → 1 ≤ c → w1.heap[g]? = some (.cells cur e (0, 0)) → cur.toList.take size = ys → Below W.heap.size W w1 → wpList P ops Q rest (a.put o.dst (.slice (some ⟨g, 0, none⟩) 1 c)) w1) :
    wpList P ops Q (o :: rest) a (W.alloc (.cells ys.toArray e)) := by
  refine print_append_cells (w0 := W) W.heap.size hgd s x t e z size bytes ho ht hinfo hz hs0 hb0 (.slice none 0 0) 0 [] ys hs hx hys h1 ⟨by simp, Or.inl ⟨rfl, rfl⟩⟩ (Below.refl _ _) (Nat.le_refl _) (by omega) ?_
  intro v1 w1 hown hb hg hat
  obtain ⟨hlen, h2⟩ := hown
  rcases h2 with ⟨_, h2⟩ | ⟨g, cap, cur, rfl, hbg, hk, hc, _, _, htk⟩
  · cases h2
  · exact h g cap cur w1 hbg hc hk (by simpa using htk) hb
end
theorem cell_taken {w : World} {g e q n : Nat} {cur : Array Value} {ys : List Value} {u : Value} (hk : w.heap[g]? = some (.cells cur e (0, 0))) (ht : cur.toList.take n = ys) (hq : ys[q]? = some u) : w.cell? ⟨g, q, none⟩ = some u := by
  refine (blk_cell hk q).trans ?_
  rw [← ht, List.getElem?_take] at hq
  split at hq
  · rw [← hq]; simp
  · cases hq
theorem script_forms (w : World) :
  Calls Tryz.prog 26 #[(.string ⟨#[115, 116, 101, 112, 115]⟩)] w fun e w' => e = .returned (.tuple #[.slice none 0 0, .slice none 0 0, .bool true]) ∧ w' = w := by
 go_enter Tryz.func26, Tryz.ntmps26
 go_wp2
 refine bodyPost_ret (results_tmp3 rfl _ _ _) rfl ?_
 exact ⟨rfl, rfl⟩
theorem script_read (g c : Nat) (w : World) (hc : 1 ≤ c) (hg : w.cell? ⟨g, 0, none⟩ = some (.string ⟨#[115, 116, 101, 112, 115]⟩)) :
  Calls Tryz.prog 13 #[.slice (some ⟨g, 0, none⟩) 1 c] w fun e w' => e = .returned (.tuple #[.agg #[(.string ⟨#[115, 116, 101, 112, 115]⟩), .slice none 0 0], .bool true]) ∧ Below w.heap.size w w' := by
 have HB := zA_ (Below.refl w.heap.size w)
 have HG := zA_ hg
 have HL := zA_ (World.block_lt_of_cell? w _ hg)
 have hg1 : ∀ o, (w.alloc o).cell? ⟨g, 0, none⟩ = some (.string ⟨#[115, 116, 101, 112, 115]⟩) := fun o => (World.cell?_alloc_past _ _ _ HL.out).trans HG.out
 have hnot : ∀ (x : Bool) (w : World), (Op.unary .not (.bool x)).run Tryz.prog w = .ok (.bool (!x)) w := fun _ _ => rfl
 have c1 : (1 ≤ (c : Int)) = True := eq_true (by omega)
 go_enter Tryz.func13, Tryz.ntmps13
 go_wp2_with (first | (go_at_call 26; refine (script_forms _).mono ?_; rintro e w7 ⟨rfl, rfl⟩))
 all_goals
  refine wp_loop_rounds 1 ?_
  rw [rounds_succ]
  go_wp2
  refine bodyPost_ret (results_ct rfl _ _ w.heap.size 49 #[(.string ⟨#[115, 116, 101, 112, 115]⟩), .slice none 0 0] (0, 0) _ rfl (blk_alloc (heap_alloc_new _ _) _) Tryz.underlying49 rfl (by kernel_rfl)) rfl ?_
  exact ⟨rfl, below_alloc (below_alloc HB.out _) _⟩
theorem script_parse (w : World) :
  Calls Tryz.prog 6 #[(.string ⟨#[115, 116, 101, 112, 115]⟩)] w fun e w' => ∃ g c, e = .returned (.tuple #[.slice (some ⟨g, 0, none⟩) 1 c, .int .i64 0]) ∧ w'.cell? ⟨g, 0, none⟩ = some (.string ⟨#[115, 116, 101, 112, 115]⟩) ∧ w'.cell? ⟨g, 1, none⟩ = some (.slice none 0 0) ∧ Below w.heap.size w w' := by
 have hnot : ∀ (x : Bool) (w : World), (Op.unary .not (.bool x)).run Tryz.prog w = .ok (.bool (!x)) w := fun _ _ => rfl
 go_enter Tryz.func6, Tryz.ntmps6
 go_wp2_with (first | (go_at_call 12; refine (strings_Split_nl _).mono ?_; rintro e w7 ⟨g0, rfl, hk, hb⟩; have HB := zA_ hb; have HK := zA_ hk; have hz0 := (blk_cell hk 0).trans rfl; clear hb hk))
 refine wp_loop_rounds 2 ?_
 rw [rounds_succ]
 go_wp2_with (first | (go_at_call 12; refine (strings_Split_sp _).mono ?_; rintro e w8 ⟨g1, rfl, hk, hb⟩; replace HB := zA_ (below_step HB.out hb); clear hz0; have HK1 := zA_ hk; have hz0 := (blk_cell hk 0).trans rfl; clear hb hk))
 refine wp_loop_rounds 2 ?_
 rw [rounds_succ]
 go_wp2_with (first | ((with_reducible refine gate_builtin (b := .append) (xs := #[.tmp 50, .tmp 52]) rfl ?_); at_builtin; refine append1 rfl (.tmp 50) (.tmp 52) 56 9 (.string ByteArray.empty) 1 16 rfl Tryz.underlying56 (by kernel_rfl) rfl (by decide) (by decide) [(.string ⟨#[115, 116, 101, 112, 115]⟩)] (by first | (go_simp; done) | (go_simp; rfl)) (by first | (go_simp; done) | (go_simp; rfl)) rfl (by decide) (by decide) ?_; intro g2 c2 cur w9 hg2 hc2 hk ht hb; have HR2 := zA_ (cell_taken hk ht (q := 0) rfl); replace HB := zA_ (below_step HB.out hb); clear hb hk ht hz0))
 rw [rounds_succ]
 go_wp2_with (first | (go_at_call 13; refine (script_read g2 c2 _ hc2 HR2.out).mono ?_; rintro e w10 ⟨rfl, hb⟩; replace HB := zA_ (below_step HB.out hb); clear hb) | ((with_reducible refine gate_builtin (b := .append) (xs := #[.tmp 65, .tmp 67]) rfl ?_); at_builtin; refine append1 rfl (.tmp 65) (.tmp 67) 26 49 (.agg #[.string ByteArray.empty, .slice none 0 0]) 2 40 rfl Tryz.underlying26 (by kernel_rfl) rfl (by decide) (by decide) [(.string ⟨#[115, 116, 101, 112, 115]⟩), .slice none 0 0] (by first | (go_simp; done) | (go_simp; rfl)) (by first | (go_simp; done) | (go_simp; rfl)) rfl (by decide) (by decide) ?_; intro g3 c3 cur w11 hg3 hc3 hk ht hb; have HR3 := zA_ (cell_taken hk ht (q := 0) rfl); have HR4 := zA_ (cell_taken hk ht (q := 1) rfl); replace HB := zA_ (below_step (below_alloc HB.out _) hb); clear hb hk ht))
 rw [rounds_succ]
 go_wp2
 go_ret2
 exact ⟨_, _, rfl, HR3.out, HR4.out, HB.out⟩
end Go.Proofs.YtmddclifcgcpcaaGreatDoor.PTopNames
