/- The functions that the law TensEach reaches, as Lean functions, and that each call of the Go function does what its Lean function says, wherever that one answers. Written by a program of mine over the print of the kit; Lean checks it. -/
import Derived.Test.YtbdhabpplidgfaaPTensEachx0
import Derived.Test.YtbdhabpplidgfaaPTensEachx1
import Derived.Test.YtbdhabpplidgfaaPTensEachx2
import Derived.Test.YtbdhabpplidgfaaPTensEachx3
import Derived.Test.YtbdhabpplidgfaaPTensEachx7
namespace Go.Proofs.Ytbdhabpplidgfaa.PTensEach
open Go.RowKit Go.Proofs.YtbdhabpplidgfaaW.PrintWords Go.Proofs.YtbdhabpplidgfaaW.PrintLast Go.Proofs.YtbdhabpplidgfaaW.PrintMore
attribute [local go_sem] max2_int min2_int max_two min_two max_three min_three max_four min_four   -- for this text's walks alone
set_option linter.unusedVariables false
set_option linter.unusedSimpArgs false
theorem goesT100_ {P : Program} {ops : Array Oper} {Q : Exit → Act → World → Prop} {oi : Oper} {N : Option Tmp} {a : Act} {w : World} {K : Act → World → Prop} {f : FuncId} {fn : Func} {t : Operand} {xs : Array Operand} {ts : Array TypeId} (hf : P.funcs[f]? = some fn) (hname : (fn.name == "runtime.NumGoroutine") = false) (hb : fn.body.isSome = true) (args : Array Value)
  (hw : Region.wanted oi (yielded ops a.tmps) = true) (hN : oi.dst = N) (hop : oi.op = .call { callee := .value t, args := xs, argTypes := ts }) (hcal : a.eval t = .func (.func f) #[] #[]) (hargs : xs.map a.eval = args)
  (h : Calls P f args w fun e w' => ∃ v, e = .returned v ∧ K (a.put N v) w') : if Region.wanted oi (yielded ops a.tmps) = true then Oper.wp P oi a w K Q else K (a.put N undef) w := by
 refine call_ f args hw hN ?_ h
 have he := enters_ hf hname hb args w
 unfold execOp
 simp [hop, resolve, Deferred.ofValue, invoke, hcal, hargs, he]

/-! ### tens_both_Mul: function 100 -/
mutual
def tens_both_Mul.j0 : Nat → Bool → List Int → List Int → List Int → List Int → Option (List Int × List Int × Int)
 | 0, _, _, _, _, _ => none
 | k + 1, x22, x279000, x279001, x280000, x280001 => if x22 = true then (some (([] : List Int), ([] : List Int), 1)) else ((shape_Join.f k x279000 x280000).bind fun bt283 => (if bt283.2 = 0 then ((tens_New.f k bt283.1 0).bind fun bt287 => ((shape_Spread.f k x279000 bt283.1).bind fun t295 => ((shape_Spread.f k x280000 bt283.1).bind fun t298 => (tens_both_Mul.l0 k t295 t298 (bt287.2.1.length : Int) 0 x279000 x279001 x280000 x280001 bt287.1 bt287.2.1)))) else (some (([] : List Int), ([] : List Int), bt283.2))))
def tens_both_Mul.l0 : Nat → List Int → List Int → Int → Int → List Int → List Int → List Int → List Int → List Int → List Int → Option (List Int × List Int × Int)
 | 0, _, _, _, _, _, _, _, _, _, _ => none
 | k + 1, x12, x13, x51, x52, x279000, x279001, x280000, x280001, x295000, x295001 => if x52 < x51 then (if 0 ≤ x52 then (if x52 < (x12.length : Int) then (if 0 ≤ (rd x12 x52) then (if (rd x12 x52) < (x279001.length : Int) then (if x52 < (x13.length : Int) then (if 0 ≤ (rd x13 x52) then (if (rd x13 x52) < (x280001.length : Int) then ((fix_Mul.f k (rd x279001 (rd x12 x52)) (rd x280001 (rd x13 x52))).bind fun t305 => (if x52 < (x295001.length : Int) then (tens_both_Mul.l0 k x12 x13 x51 (wrap64 (x52 + 1)) x279000 x279001 x280000 x280001 x295000 (x295001.set (x52 : Int).toNat t305)) else (none))) else (none)) else (none)) else (none)) else (none)) else (none)) else (none)) else (none)) else (some (x295000, x295001, 0))
end
def tens_both_Mul.f (k : Nat) (l0_0 : List Int) (l0_1 : List Int) (l1_0 : List Int) (l1_1 : List Int) : Option (List Int × List Int × Int) := (tens_Good.f k l0_0 l0_1).bind fun t281 => (if t281 = true then ((tens_Good.f k l1_0 l1_1).bind fun t282 => (tens_both_Mul.j0 k (!t282) l0_0 l0_1 l1_0 l1_1)) else (tens_both_Mul.j0 k true l0_0 l0_1 l1_0 l1_1))
theorem tens_both_Mul.mono_l : ∀ k, (∀ y0 y1 y2 y3 y4, LeO (tens_both_Mul.j0 k y0 y1 y2 y3 y4) (tens_both_Mul.j0 (k + 1) y0 y1 y2 y3 y4)) ∧ (∀ y0 y1 y2 y3 y4 y5 y6 y7 y8 y9, LeO (tens_both_Mul.l0 k y0 y1 y2 y3 y4 y5 y6 y7 y8 y9) (tens_both_Mul.l0 (k + 1) y0 y1 y2 y3 y4 y5 y6 y7 y8 y9))
 | 0 => ⟨fun _ _ _ _ _ r h => by simp [tens_both_Mul.j0] at h, fun _ _ _ _ _ _ _ _ _ _ r h => by simp [tens_both_Mul.l0] at h⟩
 | k + 1 => by
  obtain ⟨ih0, ih1⟩ := tens_both_Mul.mono_l k
  refine ⟨?_, ?_⟩
  ·intro y0 y1 y2 y3 y4
   unfold tens_both_Mul.j0
   repeat' first
   | (with_reducible exact ih0 _ _ _ _ _)
   | (with_reducible exact ih1 _ _ _ _ _ _ _ _ _ _)
   | (with_reducible exact shape_Join.mono _ _ _)
   | (with_reducible exact shape_Spread.mono _ _ _)
   | (with_reducible exact tens_New.mono _ _ _)
   | (with_reducible exact LeO.refl _)
   | (with_reducible exact LeO.none _)
   | (with_reducible refine LeO.ite ?_ ?_)
   | (with_reducible refine LeO.bind ?_ (fun _ => ?_))
   | exact ih0 _ _ _ _ _
   | exact ih1 _ _ _ _ _ _ _ _ _ _
   | exact shape_Join.mono _ _ _
   | exact shape_Spread.mono _ _ _
   | exact tens_New.mono _ _ _
   | exact LeO.none _
   | refine LeO.ite ?_ ?_
   | refine LeO.bind ?_ (fun _ => ?_)
  ·intro y0 y1 y2 y3 y4 y5 y6 y7 y8 y9
   unfold tens_both_Mul.l0
   repeat' first
   | (with_reducible exact ih0 _ _ _ _ _)
   | (with_reducible exact ih1 _ _ _ _ _ _ _ _ _ _)
   | (with_reducible exact fix_Mul.mono _ _ _)
   | (with_reducible exact LeO.refl _)
   | (with_reducible exact LeO.none _)
   | (with_reducible refine LeO.ite ?_ ?_)
   | (with_reducible refine LeO.bind ?_ (fun _ => ?_))
   | exact ih0 _ _ _ _ _
   | exact ih1 _ _ _ _ _ _ _ _ _ _
   | exact fix_Mul.mono _ _ _
   | exact LeO.none _
   | refine LeO.ite ?_ ?_
   | refine LeO.bind ?_ (fun _ => ?_)
theorem tens_both_Mul.mono : ∀ a0 a1 a2 a3 k, LeO (tens_both_Mul.f k a0 a1 a2 a3) (tens_both_Mul.f (k + 1) a0 a1 a2 a3) := by
 intro a0 a1 a2 a3 k
 obtain ⟨ih0, ih1⟩ := tens_both_Mul.mono_l k
 unfold tens_both_Mul.f
 repeat' first
   | (with_reducible exact ih0 _ _ _ _ _)
   | (with_reducible exact ih1 _ _ _ _ _ _ _ _ _ _)
   | (with_reducible exact tens_Good.mono _ _ _)
   | (with_reducible exact LeO.refl _)
   | (with_reducible exact LeO.none _)
   | (with_reducible refine LeO.ite ?_ ?_)
   | (with_reducible refine LeO.bind ?_ (fun _ => ?_))
   | exact ih0 _ _ _ _ _
   | exact ih1 _ _ _ _ _ _ _ _ _ _
   | exact tens_Good.mono _ _ _
   | exact LeO.none _
   | refine LeO.ite ?_ ?_
   | refine LeO.bind ?_ (fun _ => ?_)
def tens_both_Mul.T7 : Bool × List (List Nat × List Nat) := (true, [([], []), ([0], [0]), ([], []), ([1, 2], [1, 2]), ([], []), ([4], [4]), ([], []), ([5, 6, 3], [5, 6]), ([3, 7, 0, 1, 2, 3], [3]), ([7, 8, 0, 1, 2, 3, 4, 5, 6, 7, 8], [7])])
def tens_both_Mul.B7 : List Nat := [0, 1, 0, 7, 0, 16, 0, 127, 255, 511]
theorem tens_both_Mul.tab7 : rtab .any (opsOf Try.f39 7) = tens_both_Mul.T7 := by kernel_rfl
theorem tens_both_Mul.bits7 : waitsOk tens_both_Mul.T7.2 tens_both_Mul.B7 = true := by kernel_rfl
def tens_both_Mul.T11 : Bool × List (List Nat × List Nat) := (true, [([], []), ([0], [0]), ([], []), ([], []), ([], []), ([4], [4]), ([], []), ([], []), ([6, 7], [6, 7]), ([8], [8]), ([5, 9], [5, 9]), ([10], [10]), ([], []), ([12], [12]), ([], []), ([], []), ([14, 15], [14, 15]), ([16], [16]), ([13, 17], [13, 17]), ([18], [18]), ([3, 11, 19], [3, 11, 19]), ([1, 2, 0, 1, 2, 3, 4, 5, 6, 7, 8, 9, 10, 11, 12, 13, 14, 15, 16, 17, 18, 19, 20], [1, 2]), ([21, 20, 20, 0, 1, 2, 3, 4, 5, 6, 7, 8, 9, 10, 11, 12, 13, 14, 15, 16, 17, 18, 19, 20], [20, 21])])
def tens_both_Mul.B11 : List Nat := [0, 1, 0, 0, 0, 16, 0, 0, 192, 448, 1008, 2032, 0, 4096, 0, 0, 49152, 114688, 258048, 520192, 1048568, 2097151, 4194303]
theorem tens_both_Mul.tab11 : rtab .any (opsOf Try.f39 11) = tens_both_Mul.T11 := by kernel_rfl
theorem tens_both_Mul.bits11 : waitsOk tens_both_Mul.T11.2 tens_both_Mul.B11 = true := by kernel_rfl
set_option maxHeartbeats 8000000 in
set_option maxRecDepth 100000 in
theorem tens_both_Mul.calls (k : Nat) (A0_0 : Option Addr) (c0_0 : Nat) (l0_0 : List Int) (A0_1 : Option Addr) (c0_1 : Nat) (l0_1 : List Int) (A1_0 : Option Addr) (c1_0 : Nat) (l1_0 : List Int) (A1_1 : Option Addr) (c1_1 : Nat) (l1_1 : List Int) (r1 : List Int) (r2 : List Int) (r3 : Int) (w : World) (hr0_0 : Kd.C (Kd.int .i64) w A0_0 l0_0.length l0_0) (hc0_0 : l0_0.length ≤ c0_0) (hr0_1 : Kd.C (Kd.int .i64) w A0_1 l0_1.length l0_1) (hc0_1 : l0_1.length ≤ c0_1) (hr1_0 : Kd.C (Kd.int .i64) w A1_0 l1_0.length l1_0) (hc1_0 : l1_0.length ≤ c1_0) (hr1_1 : Kd.C (Kd.int .i64) w A1_1 l1_1.length l1_1) (hc1_1 : l1_1.length ≤ c1_1) (h : tens_both_Mul.f k l0_0 l0_1 l1_0 l1_1 = some (r1, r2, r3)) :
  Calls Try.prog 39 #[.agg #[.slice A0_0 l0_0.length c0_0, .slice A0_1 l0_1.length c0_1], .agg #[.slice A1_0 l1_0.length c1_0, .slice A1_1 l1_1.length c1_1], .func (.func 44) #[] #[]] w fun e w' => ∃ v0_ v1_ : Value, e = .returned (.tuple #[.agg #[v0_, v1_], .int .i64 r3]) ∧ Kd.R (Kd.int .i64) 3 w' w.heap.size (fun _ => True) v0_ r1 ∧ Kd.R (Kd.int .i64) 23 w' w.heap.size (fun _ => True) v1_ r2 ∧ Below w.heap.size w w' := by
 have hu27 := Try.underlying27
 have HR0_0 := Aside0.mk hr0_0
 have HC0_0 := Aside0.mk hc0_0
 clear hr0_0 hc0_0
 have HR0_1 := Aside0.mk hr0_1
 have HC0_1 := Aside0.mk hc0_1
 clear hr0_1 hc0_1
 have HR1_0 := Aside0.mk hr1_0
 have HC1_0 := Aside0.mk hc1_0
 clear hr1_0 hc1_0
 have HR1_1 := Aside0.mk hr1_1
 have HC1_1 := Aside0.mk hc1_1
 clear hr1_1 hc1_1
 have HB := Aside0.mk (Below.refl w.heap.size w)
 have H : ((tens_Good.f k l0_0 l0_1).bind fun t281 => (if t281 = true then ((tens_Good.f k l1_0 l1_1).bind fun t282 => (tens_both_Mul.j0 k (!t282) l0_0 l0_1 l1_0 l1_1)) else (tens_both_Mul.j0 k true l0_0 l0_1 l1_0 l1_1))) = some (r1, r2, r3) := h
 clear h
 have HC3 := Aside0.mk H
 clear H
 go_enter Try.func39, Try.ntmps39
 go_upto_region 1 with (first | ((with_reducible refine gate_dst (N := 3) rfl ?_); refine box_event ?hg (N := 3) ?hd (cs := #[.slice A0_0 l0_0.length c0_0, .slice A0_1 l0_1.length c0_1]) (t := 27) ?hr ?_; (case hd => rfl); (case hg => rfl); (case hr => first | (go_simp; done) | (go_simp; rfl)); intro gb278 hg w4 hbox hb; have n0_ := Aside0.mk (below_step (zw0_ HB) hb); have n1_ := Aside0.mk (hbox); have n2_ := Aside0.mk (zs_ hg (zw0_ HB)); have n3_ := Aside0.mk (zs_ hg (zw0_ HB)); clear HB; have HB := n0_; have BK278 := n1_; have GW278 := n2_; have GE278 := n3_; clear n0_ n1_ n2_ n3_; clear hb hbox hg) | ((with_reducible refine gate_dst (N := 4) rfl ?_); refine box_event ?hg (N := 4) ?hd (cs := #[.slice A1_0 l1_0.length c1_0, .slice A1_1 l1_1.length c1_1]) (t := 27) ?hr ?_; (case hd => rfl); (case hg => rfl); (case hr => first | (go_simp; done) | (go_simp; rfl)); intro gb279 hg w5 hbox hb; have n0_ := Aside0.mk (zl_ BK278 hb); have n1_ := Aside0.mk (below_step (zw1_ HB GE278) hb); have n2_ := Aside0.mk (hbox); have n3_ := Aside0.mk (zs_ hg (zw1_ HB GE278)); have n4_ := Aside0.mk (zs_ hg (zw1_ HB GE278)); have n5_ := Aside0.mk (zn_ hg BK278); have n6_ := Aside0.mk (zm_ hg BK278); clear BK278 HB; have BK278 := n0_; have HB := n1_; have BK279 := n2_; have GW279 := n3_; have GE279 := n4_; have NB278_279 := n5_; have NB279_278 := n6_; clear n0_ n1_ n2_ n3_ n4_ n5_ n6_; clear hb hbox hg) | ((with_reducible refine gate_dst (N := 6) rfl ?_); refine box_event ?hg (N := 6) ?hd (cs := #[.slice none 0 0, .slice none 0 0]) (t := 27) ?hr ?_; (case hd => rfl); (case hg => rfl); (case hr => first | (go_simp; done) | (go_simp; rfl)); intro gb280 hg w6 hbox hb; have n0_ := Aside0.mk (zl_ BK278 hb); have n1_ := Aside0.mk (zl_ BK279 hb); have n2_ := Aside0.mk (below_step (zw2_ HB GE278 GE279) hb); have n3_ := Aside0.mk (hbox); have n4_ := Aside0.mk (zs_ hg (zw2_ HB GE278 GE279)); have n5_ := Aside0.mk (zs_ hg (zw2_ HB GE278 GE279)); have n6_ := Aside0.mk (zn_ hg BK278); have n7_ := Aside0.mk (zm_ hg BK278); have n8_ := Aside0.mk (zn_ hg BK279); have n9_ := Aside0.mk (zm_ hg BK279); clear BK278 BK279 HB; have BK278 := n0_; have BK279 := n1_; have HB := n2_; have BK280 := n3_; have GW280 := n4_; have GE280 := n5_; have NB278_280 := n6_; have NB280_278 := n7_; have NB279_280 := n8_; have NB280_279 := n9_; clear n0_ n1_ n2_ n3_ n4_ n5_ n6_ n7_ n8_ n9_; clear hb hbox hg))
 (try simp only [Act.put, List.setIfInBounds_toArray, List.set_cons_zero, List.set_cons_succ])
 go_cut [22] (fun v22 wc => ∃ (kq : Nat) (x22_2 : Bool), v22 = .bool x22_2 ∧ Aside0 (tens_both_Mul.j0 kq x22_2 l0_0 l0_1 l1_0 l1_1 = some (r1, r2, r3)) ∧ Aside0 (kq ≤ k) ∧ Aside0 (wc.heap[gb278]? = some (.cells #[(.slice A0_0 l0_0.length c0_0), (.slice A0_1 l0_1.length c0_1)] 27 (0, 0))) ∧ Aside0 (wc.heap[gb279]? = some (.cells #[(.slice A1_0 l1_0.length c1_0), (.slice A1_1 l1_1.length c1_1)] 27 (0, 0))) ∧ Aside0 (wc.heap[gb280]? = some (.cells #[(.slice none 0 0), (.slice none 0 0)] 27 (0, 0))) ∧ Aside0 (Below w.heap.size w wc))
 case first =>
  have H := HC3.out
  clear HC3
  replace H := Option.bind_eq_some_iff.mp H
  obtain ⟨t281, A70, H⟩ := H
  (try dsimp only at H)
  have A7 := Aside0.mk A70
  clear A70
  by_cases c8 : t281 = true
  ·subst c8
   have H1 := H
   rw [if_pos rfl] at H1
   clear H
   have H := H1
   clear H1
   replace H := Option.bind_eq_some_iff.mp H
   obtain ⟨t282, A90, H⟩ := H
   replace H : (tens_both_Mul.j0 k (!t282) l0_0 l0_1 l1_0 l1_1) = some (r1, r2, r3) := H
   have A9 := Aside0.mk A90
   clear A90
   have H' := Aside0.mk H
   clear H
   have hnb10 := NB278_279.out
   have hnc10 := NB279_278.out
   have hnb11 := NB278_280.out
   have hnc11 := NB280_278.out
   have hcz12_0 := zx_ (v := .slice A0_0 l0_0.length c0_0) BK278 0
   have hcz12_1 := zx_ (v := .slice A0_1 l0_1.length c0_1) BK278 1
   have hfz12_0 := blk_frozen BK278.out 0
   have hfz12_1 := blk_frozen BK278.out 1
   go_wp2_with (first | ((with_reducible refine gate_callee (f := 16) rfl ?_); refine zg_ (some 16) Try.func16 #[.agg #[.slice A0_0 l0_0.length c0_0, .slice A0_1 l0_1.length c0_1]] (h := ?_); (with_reducible refine (tens_Good.calls k _ _ l0_0 _ _ l0_1 true _ ?side1 ?side2 ?side3 ?side4 A7.out).mono ?_); (case side1 => exact zk_ (Kd.C_below HR0_0.out HB.out)); (case side2 => exact HC0_0.out); (case side3 => exact zk_ (Kd.C_below HR0_1.out HB.out)); (case side4 => exact HC0_1.out); rintro e w13 ⟨rfl, hb⟩; refine ⟨_, rfl, ?_⟩; have n0_ := Aside0.mk (zl_ BK278 hb); have n1_ := Aside0.mk (zl_ BK279 hb); have n2_ := Aside0.mk (zl_ BK280 hb); have n3_ := Aside0.mk (below_step (zw3_ HB GE278 GE279 GE280) hb); clear BK278 BK279 BK280 HB; have BK278 := n0_; have BK279 := n1_; have BK280 := n2_; have HB := n3_; clear n0_ n1_ n2_ n3_; (try clear hb); (try clear hb2); (try clear hk); (try clear hi); have hnb14 := NB279_280.out; have hnc14 := NB280_279.out; have hcz15_0 := zx_ (v := .slice A1_0 l1_0.length c1_0) BK279 0; have hcz15_1 := zx_ (v := .slice A1_1 l1_1.length c1_1) BK279 1; have hfz15_0 := blk_frozen BK279.out 0; have hfz15_1 := blk_frozen BK279.out 1) | (go_at_call 16; (with_reducible refine (tens_Good.calls k _ _ l1_0 _ _ l1_1 t282 _ ?side1 ?side2 ?side3 ?side4 A9.out).mono ?_); (case side1 => exact zk_ (Kd.C_below HR1_0.out HB.out)); (case side2 => exact HC1_0.out); (case side3 => exact zk_ (Kd.C_below HR1_1.out HB.out)); (case side4 => exact HC1_1.out); rintro e w16 ⟨rfl, hb⟩; have n0_ := Aside0.mk (zl_ BK278 hb); have n1_ := Aside0.mk (zl_ BK279 hb); have n2_ := Aside0.mk (zl_ BK280 hb); have n3_ := Aside0.mk (below_step (zw3_ HB GE278 GE279 GE280) hb); clear BK278 BK279 BK280 HB; have BK278 := n0_; have BK279 := n1_; have BK280 := n2_; have HB := n3_; clear n0_ n1_ n2_ n3_; (try clear hb); (try clear hb2); (try clear hk); (try clear hi)))
   go_meet
   case rel => exact ⟨_, (!t282), (by first | rfl | (simp; done) | (simp [*]; done)), H', ⟨by first | omega | exact Nat.le_refl _⟩, ⟨zb_ BK278⟩, ⟨zb_ BK279⟩, ⟨zb_ BK280⟩, ⟨zw3_ HB GE278 GE279 GE280⟩⟩
  ·replace c8 := Bool.eq_false_iff.mpr c8
   subst c8
   have H1 : (tens_both_Mul.j0 k true l0_0 l0_1 l1_0 l1_1) = some (r1, r2, r3) := by rw [if_neg (show ¬ (false = true) by decide)] at H; exact H
   clear H
   have H := H1
   clear H1
   have H' := Aside0.mk H
   clear H
   have hnb17 := NB278_279.out
   have hnc17 := NB279_278.out
   have hnb18 := NB278_280.out
   have hnc18 := NB280_278.out
   have hcz19_0 := zx_ (v := .slice A0_0 l0_0.length c0_0) BK278 0
   have hcz19_1 := zx_ (v := .slice A0_1 l0_1.length c0_1) BK278 1
   have hfz19_0 := blk_frozen BK278.out 0
   have hfz19_1 := blk_frozen BK278.out 1
   go_wp2_with (first | ((with_reducible refine gate_callee (f := 16) rfl ?_); refine zg_ (some 16) Try.func16 #[.agg #[.slice A0_0 l0_0.length c0_0, .slice A0_1 l0_1.length c0_1]] (h := ?_); (with_reducible refine (tens_Good.calls k _ _ l0_0 _ _ l0_1 false _ ?side1 ?side2 ?side3 ?side4 A7.out).mono ?_); (case side1 => exact zk_ (Kd.C_below HR0_0.out HB.out)); (case side2 => exact HC0_0.out); (case side3 => exact zk_ (Kd.C_below HR0_1.out HB.out)); (case side4 => exact HC0_1.out); rintro e w20 ⟨rfl, hb⟩; refine ⟨_, rfl, ?_⟩; have n0_ := Aside0.mk (zl_ BK278 hb); have n1_ := Aside0.mk (zl_ BK279 hb); have n2_ := Aside0.mk (zl_ BK280 hb); have n3_ := Aside0.mk (below_step (zw3_ HB GE278 GE279 GE280) hb); clear BK278 BK279 BK280 HB; have BK278 := n0_; have BK279 := n1_; have BK280 := n2_; have HB := n3_; clear n0_ n1_ n2_ n3_; (try clear hb); (try clear hb2); (try clear hk); (try clear hi)))
   go_meet
   case rel => exact ⟨_, (true), (by first | rfl | (simp; done) | (simp [*]; done)), H', ⟨by first | omega | exact Nat.le_refl _⟩, ⟨zb_ BK278⟩, ⟨zb_ BK279⟩, ⟨zb_ BK280⟩, ⟨zw3_ HB GE278 GE279 GE280⟩⟩
 case rest =>
  clear HC3
  try clear c1
  try clear p2
  try clear c8
  try clear c10
  try clear c11
  try clear c14
  try clear c16
  try clear c17
  try clear c18
  try clear hcz12_0
  try clear hcz12_1
  try clear hcz15_0
  try clear hcz15_1
  try clear hcz19_0
  try clear hcz19_1
  try clear hfz12_0
  try clear hfz12_1
  try clear hfz15_0
  try clear hfz15_1
  try clear hfz19_0
  try clear hfz19_1
  obtain ⟨kq, x22_2, rfl, HA, HJ2, BK278, BK279, BK280, HB⟩ := hcut
  cases kq with
  | zero => exact absurd HA.out (by simp [tens_both_Mul.j0])
  | succ kj2 =>
   have H := HA.out
   clear HA
   simp only [tens_both_Mul.j0] at H
   by_cases c21 : x22_2 = true
   ·subst c21
    have H1 : (some (([] : List Int), ([] : List Int), 1)) = some (r1, r2, r3) := by rw [if_pos rfl] at H; exact H
    clear H
    have H := H1
    clear H1
    simp only [Option.some.injEq, Prod.mk.injEq] at H
    obtain ⟨rfl, rfl, rfl⟩ := H
    have hnb22 := NB280_278.out
    have hnc22 := NB278_280.out
    have hnb23 := NB280_279.out
    have hnc23 := NB279_280.out
    have hcz24_0 := zx_ (v := .slice none 0 0) BK280 0
    have hcz24_1 := zx_ (v := .slice none 0 0) BK280 1
    have hfz24_0 := blk_frozen BK280.out 0
    have hfz24_1 := blk_frozen BK280.out 1
    go_wp2
    refine bodyPost_ret (results_ct rfl _ _ gb280 27 #[.slice none 0 0, .slice none 0 0] (0, 0) _ rfl (by (with_reducible repeat (first | refine blk_drewN ?_ _ | refine blk_drew ?_ | refine blk_alloc ?_ _)); refine blk_put (cs := #[.slice none 0 0, .slice none 0 0]) ?_ 1 _ rfl; (with_reducible repeat (first | refine blk_drewN ?_ _ | refine blk_drew ?_ | refine blk_alloc ?_ _)); refine blk_put (cs := #[.slice none 0 0, .slice none 0 0]) ?_ 0 _ rfl; (with_reducible repeat (first | refine blk_drewN ?_ _ | refine blk_drew ?_ | refine blk_alloc ?_ _)); exact BK280.out) Try.underlying27 rfl (by kernel_rfl)) rfl ?_
    exact ⟨_, _, by first | rfl | (simp [errW_none, errW_some] <;> rfl) | (simp [*, errW_none, errW_some] <;> rfl), by first | exact Kd.R_nil _ _ _ _ _ | exact Kd.N_nil _ _ _ _ _ | exact Kd.V_nil _ _ _ _ _ | exact Kd.Q_nil _ _ _ _ _ | exact Kd.S_nil _ _ _ _ _, by first | exact Kd.R_nil _ _ _ _ _ | exact Kd.N_nil _ _ _ _ _ | exact Kd.V_nil _ _ _ _ _ | exact Kd.Q_nil _ _ _ _ _ | exact Kd.S_nil _ _ _ _ _, zw3_ HB GE278 GE279 GE280⟩
   ·replace c21 := Bool.eq_false_iff.mpr c21
    subst c21
    have H1 := H
    rw [if_neg (show ¬ (false = true) by decide)] at H1
    clear H
    have H := H1
    clear H1
    replace H := Option.bind_eq_some_iff.mp H
    obtain ⟨⟨t283, t284⟩, A250, H⟩ := H
    (try dsimp only at H)
    have A25 := Aside0.mk A250
    clear A250
    by_cases c26 : t284 = 0
    ·rw [if_pos c26] at H
     have c26b0 : (t284 == 0) = true := beq_iff_eq.mpr c26
     have c26b1 : (t284 != 0) = false := bne_eq_false_iff_eq.mpr c26
     clear c26
     replace H := Option.bind_eq_some_iff.mp H
     obtain ⟨⟨t287, t290, t293⟩, A270, H⟩ := H
     (try dsimp only at H)
     have A27 := Aside0.mk A270
     clear A270
     replace H := Option.bind_eq_some_iff.mp H
     obtain ⟨t295, A280, H⟩ := H
     (try dsimp only at H)
     have A28 := Aside0.mk A280
     clear A280
     replace H := Option.bind_eq_some_iff.mp H
     obtain ⟨t298, A290, H⟩ := H
     replace H : (tens_both_Mul.l0 kj2 t295 t298 (t290.length : Int) 0 l0_0 l0_1 l1_0 l1_1 t287 t290) = some (r1, r2, r3) := H
     have A29 := Aside0.mk A290
     clear A290
     have H' := Aside0.mk H
     clear H
     have hnb30 := NB278_279.out
     have hnc30 := NB279_278.out
     have hnb31 := NB278_280.out
     have hnc31 := NB280_278.out
     have hcz32_0 := zx_ (v := .slice A0_0 l0_0.length c0_0) BK278 0
     have hcz32_1 := zx_ (v := .slice A0_1 l0_1.length c0_1) BK278 1
     have hfz32_0 := blk_frozen BK278.out 0
     have hfz32_1 := blk_frozen BK278.out 1
     have hnb33 := NB279_280.out
     have hnc33 := NB280_279.out
     have hcz34_0 := zx_ (v := .slice A1_0 l1_0.length c1_0) BK279 0
     have hcz34_1 := zx_ (v := .slice A1_1 l1_1.length c1_1) BK279 1
     have hfz34_0 := blk_frozen BK279.out 0
     have hfz34_1 := blk_frozen BK279.out 1
     try go_wp2_with (first | ((with_reducible refine gate_callee (f := 54) rfl ?_); refine zg_ (some 29) Try.func54 #[.slice A0_0 l0_0.length c0_0, .slice A1_0 l1_0.length c1_0] (h := ?_); (with_reducible refine (shape_Join.calls kj2 _ _ l0_0 _ _ l1_0 t283 t284 _ ?side1 ?side2 ?side3 ?side4 A25.out).mono ?_); (case side1 => exact zk_ (Kd.C_below HR0_0.out HB.out)); (case side2 => exact HC0_0.out); (case side3 => exact zk_ (Kd.C_below HR1_0.out HB.out)); (case side4 => exact HC1_0.out); rintro e w35 ⟨v285, rfl, ho0, hb⟩; refine ⟨_, rfl, ?_⟩; have n0_ := Aside0.mk (Kd.R_lower ho0 (below_size (zw3_ HB GE278 GE279 GE280))); have n1_ := Aside0.mk (zl_ BK278 hb); have n2_ := Aside0.mk (zl_ BK279 hb); have n3_ := Aside0.mk (zl_ BK280 hb); have n4_ := Aside0.mk (below_step (zw3_ HB GE278 GE279 GE280) hb); clear BK278 BK279 BK280 HB; have HO286 := n0_; have BK278 := n1_; have BK279 := n2_; have BK280 := n3_; have HB := n4_; clear n0_ n1_ n2_ n3_ n4_; (try clear hb); (try clear hb2); (try clear hk); (try clear hi); (try clear ho0); obtain ⟨Ao36, co36, eo36⟩ := Kd.R_slice HO286.out; subst eo36) | ((with_reducible refine gate_callee (f := 12) rfl ?_); refine zg_ (some 38) Try.func12 #[.slice Ao36 t283.length co36, .int .i64 0] (h := ?_); (with_reducible refine (tens_New.calls kj2 _ _ t283 0 t287 t290 t293 _ ?side1 ?side2 A27.out).mono ?_); (case side1 => exact zk_ ((Kd.R_reads' HO286.out).2.2)); (case side2 => exact (Kd.R_reads' HO286.out).2.1); rintro e w37 ⟨v288, v291, rfl, ho0, ho1, hb⟩; refine ⟨_, rfl, ?_⟩; have n0_ := Aside0.mk (Kd.R_elder' (zr_ HO286.out) (Kd.R_base ho0) hb); have n1_ := Aside0.mk (Kd.R_lower (Kd.R_new' ho0 (Kd.R_lt (zr_ HO286.out))) (below_size (zw3_ HB GE278 GE279 GE280))); have n2_ := Aside0.mk (Kd.R_lower ho1 (below_size (zw3_ HB GE278 GE279 GE280))); have n3_ := Aside0.mk (zl_ BK278 hb); have n4_ := Aside0.mk (zl_ BK279 hb); have n5_ := Aside0.mk (zl_ BK280 hb); have n6_ := Aside0.mk (below_step (zw3_ HB GE278 GE279 GE280) hb); clear HO286 BK278 BK279 BK280 HB; have HO286 := n0_; have HO289 := n1_; have HO292 := n2_; have BK278 := n3_; have BK279 := n4_; have BK280 := n5_; have HB := n6_; clear n0_ n1_ n2_ n3_ n4_ n5_ n6_; (try clear hb); (try clear hb2); (try clear hk); (try clear hi); (try clear ho0); (try clear ho1)) | ((with_reducible refine gate_dst (N := 10) rfl ?_); refine box_event ?hg (N := 10) ?hd (cs := #[.slice none 0 0, .slice none 0 0]) (t := 27) ?hr ?_; (case hd => rfl); (case hg => rfl); (case hr => first | (go_simp; done) | (go_simp; rfl)); intro gb294 hg w38 hbox hb; have n0_ := Aside0.mk (Kd.R_below (zr_ HO286.out) hb); have n1_ := Aside0.mk (Kd.R_below (zr_ HO289.out) hb); have n2_ := Aside0.mk (Kd.R_below (zr_ HO292.out) hb); have n3_ := Aside0.mk (zl_ BK278 hb); have n4_ := Aside0.mk (zl_ BK279 hb); have n5_ := Aside0.mk (zl_ BK280 hb); have n6_ := Aside0.mk (below_step (zw3_ HB GE278 GE279 GE280) hb); have n7_ := Aside0.mk (hbox); have n8_ := Aside0.mk (zs_ hg (zw3_ HB GE278 GE279 GE280)); have n9_ := Aside0.mk (zs_ hg (zw3_ HB GE278 GE279 GE280)); have n10_ := Aside0.mk (zn_ hg BK278); have n11_ := Aside0.mk (zm_ hg BK278); have n12_ := Aside0.mk (zn_ hg BK279); have n13_ := Aside0.mk (zm_ hg BK279); have n14_ := Aside0.mk (zn_ hg BK280); have n15_ := Aside0.mk (zm_ hg BK280); clear HO286 HO289 HO292 BK278 BK279 BK280 HB; have HO286 := n0_; have HO289 := n1_; have HO292 := n2_; have BK278 := n3_; have BK279 := n4_; have BK280 := n5_; have HB := n6_; have BK294 := n7_; have GW294 := n8_; have GE294 := n9_; have NB278_294 := n10_; have NB294_278 := n11_; have NB279_294 := n12_; have NB294_279 := n13_; have NB280_294 := n14_; have NB294_280 := n15_; clear n0_ n1_ n2_ n3_ n4_ n5_ n6_ n7_ n8_ n9_ n10_ n11_ n12_ n13_ n14_ n15_; clear hb hbox hg; obtain ⟨Ao39, co39, eo39⟩ := Kd.R_slice HO289.out; subst eo39; have hnb40 := NB294_278.out; have hnc40 := NB278_294.out; have hnb41 := NB294_279.out; have hnc41 := NB279_294.out; have hnb42 := NB294_280.out; have hnc42 := NB280_294.out; have hcz43_0 := zx_ (v := .slice none 0 0) BK294 0; have hcz43_1 := zx_ (v := .slice none 0 0) BK294 1; have hfz43_0 := blk_frozen BK294.out 0; have hfz43_1 := blk_frozen BK294.out 1; obtain ⟨Ao44, co44, eo44⟩ := Kd.R_slice HO292.out; subst eo44))
     have n0_ : Aside0 (Kd.R (Kd.int .i64) 3 ((w38.setCell ⟨gb294, 0, none⟩ (.slice Ao39 t287.length co39)).setCell ⟨gb294, 1, none⟩ (.slice Ao44 t290.length co44)) w.heap.size (fun k_ => some k_ ≠ (.slice Ao39 t287.length co39 : Value).ownBlock) (.slice Ao36 t283.length co36) t283) := ⟨zr_ (Kd.R_mono (Kd.R_far (p := ⟨gb294, 1, none⟩) (Kd.R_far (p := ⟨gb294, 0, none⟩) (Kd.R_types HO286.out BK294.out (by decide)) (fun _ hk => hk.2) (.slice Ao39 t287.length co39)) (fun _ hk => hk.2) (.slice Ao44 t290.length co44)) (fun _ hk => hk.1.2))⟩
     have n1_ : Aside0 (Kd.R (Kd.int .i64) 3 ((w38.setCell ⟨gb294, 0, none⟩ (.slice Ao39 t287.length co39)).setCell ⟨gb294, 1, none⟩ (.slice Ao44 t290.length co44)) w.heap.size (fun k_ => some k_ ≠ (.slice Ao36 t283.length co36 : Value).ownBlock) (.slice Ao39 t287.length co39) t287) := ⟨zr_ (Kd.R_mono (Kd.R_far (p := ⟨gb294, 1, none⟩) (Kd.R_far (p := ⟨gb294, 0, none⟩) (Kd.R_types HO289.out BK294.out (by decide)) (fun _ hk => hk.2) (.slice Ao39 t287.length co39)) (fun _ hk => hk.2) (.slice Ao44 t290.length co44)) (fun _ hk => hk.1.2))⟩
     have n2_ : Aside0 (Kd.R (Kd.int .i64) 23 ((w38.setCell ⟨gb294, 0, none⟩ (.slice Ao39 t287.length co39)).setCell ⟨gb294, 1, none⟩ (.slice Ao44 t290.length co44)) w.heap.size (fun _ => True) (.slice Ao44 t290.length co44) t290) := ⟨zr_ (Kd.R_mono (Kd.R_far (p := ⟨gb294, 1, none⟩) (Kd.R_far (p := ⟨gb294, 0, none⟩) (Kd.R_types HO292.out BK294.out (by decide)) (fun _ hk => hk.2) (.slice Ao39 t287.length co39)) (fun _ hk => hk.2) (.slice Ao44 t290.length co44)) (fun _ hk => trivial))⟩
     have n3_ : Aside0 (((w38.setCell ⟨gb294, 0, none⟩ (.slice Ao39 t287.length co39)).setCell ⟨gb294, 1, none⟩ (.slice Ao44 t290.length co44)).heap[gb278]? = some (.cells #[.slice A0_0 l0_0.length c0_0, .slice A0_1 l0_1.length c0_1] 27 (0, 0))) := ⟨by (with_reducible repeat (first | refine blk_drewN ?_ _ | refine blk_drew ?_ | refine blk_alloc ?_ _)); refine blk_far ?_ NB278_294.out _; (with_reducible repeat (first | refine blk_drewN ?_ _ | refine blk_drew ?_ | refine blk_alloc ?_ _)); refine blk_far ?_ NB278_294.out _; (with_reducible repeat (first | refine blk_drewN ?_ _ | refine blk_drew ?_ | refine blk_alloc ?_ _)); exact BK278.out⟩
     have n4_ : Aside0 (((w38.setCell ⟨gb294, 0, none⟩ (.slice Ao39 t287.length co39)).setCell ⟨gb294, 1, none⟩ (.slice Ao44 t290.length co44)).heap[gb279]? = some (.cells #[.slice A1_0 l1_0.length c1_0, .slice A1_1 l1_1.length c1_1] 27 (0, 0))) := ⟨by (with_reducible repeat (first | refine blk_drewN ?_ _ | refine blk_drew ?_ | refine blk_alloc ?_ _)); refine blk_far ?_ NB279_294.out _; (with_reducible repeat (first | refine blk_drewN ?_ _ | refine blk_drew ?_ | refine blk_alloc ?_ _)); refine blk_far ?_ NB279_294.out _; (with_reducible repeat (first | refine blk_drewN ?_ _ | refine blk_drew ?_ | refine blk_alloc ?_ _)); exact BK279.out⟩
     have n5_ : Aside0 (((w38.setCell ⟨gb294, 0, none⟩ (.slice Ao39 t287.length co39)).setCell ⟨gb294, 1, none⟩ (.slice Ao44 t290.length co44)).heap[gb280]? = some (.cells #[.slice none 0 0, .slice none 0 0] 27 (0, 0))) := ⟨by (with_reducible repeat (first | refine blk_drewN ?_ _ | refine blk_drew ?_ | refine blk_alloc ?_ _)); refine blk_far ?_ NB280_294.out _; (with_reducible repeat (first | refine blk_drewN ?_ _ | refine blk_drew ?_ | refine blk_alloc ?_ _)); refine blk_far ?_ NB280_294.out _; (with_reducible repeat (first | refine blk_drewN ?_ _ | refine blk_drew ?_ | refine blk_alloc ?_ _)); exact BK280.out⟩
     have n6_ : Aside0 (((w38.setCell ⟨gb294, 0, none⟩ (.slice Ao39 t287.length co39)).setCell ⟨gb294, 1, none⟩ (.slice Ao44 t290.length co44)).heap[gb294]? = some (.cells #[.slice Ao39 t287.length co39, .slice Ao44 t290.length co44] 27 (0, 0))) := ⟨by (with_reducible repeat (first | refine blk_drewN ?_ _ | refine blk_drew ?_ | refine blk_alloc ?_ _)); refine blk_put (cs := #[.slice Ao39 t287.length co39, .slice none 0 0]) ?_ 1 _ rfl; (with_reducible repeat (first | refine blk_drewN ?_ _ | refine blk_drew ?_ | refine blk_alloc ?_ _)); refine blk_put (cs := #[.slice none 0 0, .slice none 0 0]) ?_ 0 _ rfl; (with_reducible repeat (first | refine blk_drewN ?_ _ | refine blk_drew ?_ | refine blk_alloc ?_ _)); exact BK294.out⟩
     have n7_ : Aside0 (Below w.heap.size w ((w38.setCell ⟨gb294, 0, none⟩ (.slice Ao39 t287.length co39)).setCell ⟨gb294, 1, none⟩ (.slice Ao44 t290.length co44))) := ⟨zw4_ HB GE278 GE279 GE280 GE294⟩
     (try clear HO286)
     (try clear HO289)
     (try clear HO292)
     (try clear BK278)
     (try clear BK279)
     (try clear BK280)
     (try clear BK294)
     (try clear HB)
     generalize ((w38.setCell ⟨gb294, 0, none⟩ (.slice Ao39 t287.length co39)).setCell ⟨gb294, 1, none⟩ (.slice Ao44 t290.length co44)) = w45 at n0_ n1_ n2_ n3_ n4_ n5_ n6_ n7_ ⊢
     have HO286 := n0_
     have HO289 := n1_
     have HO292 := n2_
     have BK278 := n3_
     have BK279 := n4_
     have BK280 := n5_
     have BK294 := n6_
     have HB := n7_
     clear n0_ n1_ n2_ n3_ n4_ n5_ n6_ n7_
     have n0_ := Aside0.mk (Kd.R_drew HO286.out)
     have n1_ := Aside0.mk (Kd.R_drew HO289.out)
     have n2_ := Aside0.mk (Kd.R_drew HO292.out)
     have n3_ := Aside0.mk (blk_drew BK278.out)
     have n4_ := Aside0.mk (blk_drew BK279.out)
     have n5_ := Aside0.mk (blk_drew BK280.out)
     have n6_ := Aside0.mk (blk_drew BK294.out)
     have n7_ := Aside0.mk (below_drew1 HB.out)
     clear HO286
     clear HO289
     clear HO292
     clear BK278
     clear BK279
     clear BK280
     clear BK294
     clear HB
     have HO286 := n0_
     have HO289 := n1_
     have HO292 := n2_
     have BK278 := n3_
     have BK279 := n4_
     have BK280 := n5_
     have BK294 := n6_
     have HB := n7_
     clear n0_ n1_ n2_ n3_ n4_ n5_ n6_ n7_
     refine start_ (n := 10) (S := fun w' => w'.cell? ⟨gb278, 0, none⟩ = some (.slice A0_0 l0_0.length c0_0) ∧ w'.cell? ⟨gb278, 1, none⟩ = some (.slice A0_1 l0_1.length c0_1) ∧ w'.cell? ⟨gb279, 0, none⟩ = some (.slice A1_0 l1_0.length c1_0) ∧ w'.cell? ⟨gb279, 1, none⟩ = some (.slice A1_1 l1_1.length c1_1)) (ds := []) #[false, false, false, false, false, false, false, false, false, false] (by kernel_rfl) rfl rfl ⟨(blk_cell BK278.out 0).trans rfl, (blk_cell BK278.out 1).trans rfl, (blk_cell BK279.out 0).trans rfl, (blk_cell BK279.out 1).trans rfl⟩ (fun hHeld => ?_); refine with_tabW tens_both_Mul.tab7 tens_both_Mul.bits7 (fun HT_ HW_ => ?_)
     generalize w45.drew = w46 at HO286 HO289 HO292 BK278 BK279 BK280 BK294 HB hHeld ⊢
     refine zp_ 0 (some 41) (h := ?_)
     refine zp_ 2 (some 43) (h := ?_)
     refine zp_ 4 (some 45) (h := ?_)
     refine zp_ 6 (some 47) (h := ?_)
     refine zt_ 1 (some 42) (hr := by rintro w' ⟨s0, s1, s2, s3⟩; go_simp; with_reducible rfl) (h := ?_)
     refine zt_ 5 (some 46) (hr := by rintro w' ⟨s0, s1, s2, s3⟩; go_simp; with_reducible rfl) (h := ?_)
     refine one_ (i := 3) (N := some 44) #[true, true, true, true, true, true, true, false, false, false] rfl rfl (one_of HT_.out (by kernel_rfl)) (by decide) (fun K hK => ?_)
     refine goes_ Try.func55 (by kernel_rfl) rfl #[.slice A0_0 l0_0.length c0_0, .slice Ao36 t283.length co36] (by rfl) rfl rfl (by (try simp only [List.map_toArray, List.map_cons, List.map_nil]); first | done | rfl | (simp only [List.length_drop, List.length_take]; rfl)) ?_
     with_reducible refine (shape_Spread.calls kj2 _ _ l0_0 _ _ t283 t295 _ ?side1 ?side2 ?side3 ?side4 A28.out).mono ?_
     (case side1 => exact zk_ (Kd.C_below HR0_0.out HB.out))
     (case side2 => exact HC0_0.out)
     (case side3 => exact zk_ ((Kd.R_reads' HO286.out).2.2))
     (case side4 => exact (Kd.R_reads' HO286.out).2.1)
     rintro e w47 ⟨v296, rfl, ho0, hb⟩
     refine ⟨_, rfl, ?_⟩
     have n0_ := Aside0.mk (Kd.R_elder' (zr_ HO286.out) (Kd.R_base ho0) hb)
     have n1_ := Aside0.mk (Kd.R_elder' (zr_ HO289.out) (Kd.R_base ho0) hb)
     have n2_ := Aside0.mk (Kd.R_below (zr_ HO292.out) hb)
     have n3_ := Aside0.mk (Kd.R_lower (Kd.R_new' (Kd.R_new' ho0 (Kd.R_lt (zr_ HO286.out))) (Kd.R_lt (zr_ HO289.out))) (below_size (zw4_ HB GE278 GE279 GE280 GE294)))
     have n4_ := Aside0.mk (zl_ BK278 hb)
     have n5_ := Aside0.mk (zl_ BK279 hb)
     have n6_ := Aside0.mk (zl_ BK280 hb)
     have n7_ := Aside0.mk (zl_ BK294 hb)
     have n8_ := Aside0.mk (below_step (zw4_ HB GE278 GE279 GE280 GE294) hb)
     clear HO286
     clear HO289
     clear HO292
     clear BK278
     clear BK279
     clear BK280
     clear BK294
     clear HB
     have HO286 := n0_
     have HO289 := n1_
     have HO292 := n2_
     have HO297 := n3_
     have BK278 := n4_
     have BK279 := n5_
     have BK280 := n6_
     have BK294 := n7_
     have HB := n8_
     clear n0_ n1_ n2_ n3_ n4_ n5_ n6_ n7_ n8_
     (try clear hb)
     (try clear hb2)
     (try clear hk)
     (try clear hi)
     (try clear ho0)
     refine hK.out _ _ ⟨(blk_cell BK278.out 0).trans rfl, (blk_cell BK278.out 1).trans rfl, (blk_cell BK279.out 0).trans rfl, (blk_cell BK279.out 1).trans rfl⟩ (fun hHeld => ?_)
     clear hK K
     refine norm_ (a' := ?_) ?_ ?_
     rotate_left
     ·show Act.put _ (some 44) _ = _
      simp only [Act.put, List.setIfInBounds_toArray, List.set_cons_zero, List.set_cons_succ, i64_w, i32_w]
      rfl
     refine one_ (i := 7) (N := some 48) #[true, true, true, true, true, true, true, true, false, false] rfl rfl (one_of HT_.out (by kernel_rfl)) (by decide) (fun K hK => ?_)
     refine goes_ Try.func55 (by kernel_rfl) rfl #[.slice A1_0 l1_0.length c1_0, .slice Ao36 t283.length co36] (by rfl) rfl rfl (by (try simp only [List.map_toArray, List.map_cons, List.map_nil]); first | done | rfl | (simp only [List.length_drop, List.length_take]; rfl)) ?_
     with_reducible refine (shape_Spread.calls kj2 _ _ l1_0 _ _ t283 t298 _ ?side1 ?side2 ?side3 ?side4 A29.out).mono ?_
     (case side1 => exact zk_ (Kd.C_below HR1_0.out HB.out))
     (case side2 => exact HC1_0.out)
     (case side3 => exact zk_ ((Kd.R_reads' HO286.out).2.2))
     (case side4 => exact (Kd.R_reads' HO286.out).2.1)
     rintro e w48 ⟨v299, rfl, ho0, hb⟩
     refine ⟨_, rfl, ?_⟩
     have n0_ := Aside0.mk (Kd.R_elder' (zr_ HO286.out) (Kd.R_base ho0) hb)
     have n1_ := Aside0.mk (Kd.R_elder' (zr_ HO289.out) (Kd.R_base ho0) hb)
     have n2_ := Aside0.mk (Kd.R_below (zr_ HO292.out) hb)
     have n3_ := Aside0.mk (Kd.R_elder' (zr_ HO297.out) (Kd.R_base ho0) hb)
     have n4_ := Aside0.mk (Kd.R_lower (Kd.R_new' (Kd.R_new' (Kd.R_new' ho0 (Kd.R_lt (zr_ HO286.out))) (Kd.R_lt (zr_ HO289.out))) (Kd.R_lt (zr_ HO297.out))) (below_size (zw4_ HB GE278 GE279 GE280 GE294)))
     have n5_ := Aside0.mk (zl_ BK278 hb)
     have n6_ := Aside0.mk (zl_ BK279 hb)
     have n7_ := Aside0.mk (zl_ BK280 hb)
     have n8_ := Aside0.mk (zl_ BK294 hb)
     have n9_ := Aside0.mk (below_step (zw4_ HB GE278 GE279 GE280 GE294) hb)
     clear HO286
     clear HO289
     clear HO292
     clear HO297
     clear BK278
     clear BK279
     clear BK280
     clear BK294
     clear HB
     have HO286 := n0_
     have HO289 := n1_
     have HO292 := n2_
     have HO297 := n3_
     have HO300 := n4_
     have BK278 := n5_
     have BK279 := n6_
     have BK280 := n7_
     have BK294 := n8_
     have HB := n9_
     clear n0_ n1_ n2_ n3_ n4_ n5_ n6_ n7_ n8_ n9_
     (try clear hb)
     (try clear hb2)
     (try clear hk)
     (try clear hi)
     (try clear ho0)
     refine hK.out _ _ ⟨(blk_cell BK278.out 0).trans rfl, (blk_cell BK278.out 1).trans rfl, (blk_cell BK279.out 0).trans rfl, (blk_cell BK279.out 1).trans rfl⟩ (fun hHeld => ?_)
     clear hK K
     refine norm_ (a' := ?_) ?_ ?_
     rotate_left
     ·show Act.put _ (some 48) _ = _
      simp only [Act.put, List.setIfInBounds_toArray, List.set_cons_zero, List.set_cons_succ, i64_w, i32_w]
      rfl
     refine zp_ 8 (some 12) (h := ?_)
     refine zp_ 9 (some 13) (h := ?_)
     refine done_ (done_of HT_.out (by kernel_rfl)) ?_
     have hcz49_0 := zx_ (v := .slice Ao39 t287.length co39) BK294 0
     have hcz49_1 := zx_ (v := .slice Ao44 t290.length co44) BK294 1
     have hfz49_0 := blk_frozen BK294.out 0
     have hfz49_1 := blk_frozen BK294.out 1
     try go_wp2
     go_loopg [52] kj2 (fun kq v52 w' => ∃ (x52_2 : Int) (x295001_2 : List Int) (u295001 : Value), v52 = .int .i64 x52_2 ∧ Aside0 (tens_both_Mul.l0 kq t295 t298 (t290.length : Int) x52_2 l0_0 l0_1 l1_0 l1_1 t287 x295001_2 = some (r1, r2, r3)) ∧ Aside0 (kq ≤ kj2) ∧ Aside0 (Kd.R (Kd.int .i64) 3 w' w.heap.size (fun k_ => some k_ ≠ (v299 : Value).ownBlock ∧ some k_ ≠ ((.slice Ao39 t287.length co39) : Value).ownBlock) v296 t295) ∧ Aside0 (Kd.R (Kd.int .i64) 3 w' w.heap.size (fun k_ => some k_ ≠ (v296 : Value).ownBlock ∧ some k_ ≠ ((.slice Ao39 t287.length co39) : Value).ownBlock) v299 t298) ∧ Aside0 (Kd.R (Kd.int .i64) 3 w' w.heap.size (fun k_ => some k_ ≠ (v296 : Value).ownBlock ∧ some k_ ≠ (v299 : Value).ownBlock) (.slice Ao39 t287.length co39) t287) ∧ Aside0 (Kd.R (Kd.int .i64) 23 w' w.heap.size (fun _ => True) u295001 x295001_2) ∧ Aside0 (w'.heap[gb278]? = some (.cells #[(.slice A0_0 l0_0.length c0_0), (.slice A0_1 l0_1.length c0_1)] 27 (0, 0))) ∧ Aside0 (w'.heap[gb279]? = some (.cells #[(.slice A1_0 l1_0.length c1_0), (.slice A1_1 l1_1.length c1_1)] 27 (0, 0))) ∧ Aside0 (w'.heap[gb280]? = some (.cells #[(.slice none 0 0), (.slice none 0 0)] 27 (0, 0))) ∧ Aside0 (w'.heap[gb294]? = some (.cells #[(.slice Ao39 t287.length co39), u295001] 27 (0, 0))) ∧ Aside0 (Below w.heap.size w w'))
     case atStart => exact ⟨(0), (t290), (.slice Ao44 t290.length co44), (by first | rfl | (simp; done) | (simp [*]; done)), H', ⟨Nat.le_refl _⟩, ⟨zr_ (Kd.R_mono HO297.out (fun _ hk => ⟨hk.2, hk.1.2⟩))⟩, ⟨zr_ (Kd.R_mono HO300.out (fun _ hk => ⟨hk.2, hk.1.2⟩))⟩, ⟨zr_ (Kd.R_mono HO289.out (fun _ hk => ⟨hk.1.2, hk.2⟩))⟩, ⟨zr_ HO292.out⟩, ⟨zb_ BK278⟩, ⟨zb_ BK279⟩, ⟨zb_ BK280⟩, ⟨zb_ BK294⟩, ⟨zw4_ HB GE278 GE279 GE280 GE294⟩⟩
     case round =>
      clear H'
      try clear c1
      try clear c2
      try clear p2
      try clear c3
      try clear c4
      try clear c5
      try clear c8
      try clear c10
      try clear c11
      try clear c12
      try clear c14
      try clear c16
      try clear c17
      try clear c18
      try clear c21
      try clear c22
      try clear c23
      try clear c26
      try clear c26b0
      try clear c26b1
      try clear c30
      try clear c31
      try clear c33
      try clear c40
      try clear c41
      try clear c42
      try clear hcz12_0
      try clear hcz12_1
      try clear hcz15_0
      try clear hcz15_1
      try clear hcz19_0
      try clear hcz19_1
      try clear hcz24_0
      try clear hcz24_1
      try clear hcz32_0
      try clear hcz32_1
      try clear hcz34_0
      try clear hcz34_1
      try clear hcz43_0
      try clear hcz43_1
      try clear hcz49_0
      try clear hcz49_1
      try clear hfz12_0
      try clear hfz12_1
      try clear hfz15_0
      try clear hfz15_1
      try clear hfz19_0
      try clear hfz19_1
      try clear hfz24_0
      try clear hfz24_1
      try clear hfz32_0
      try clear hfz32_1
      try clear hfz34_0
      try clear hfz34_1
      try clear hfz43_0
      try clear hfz43_1
      try clear hfz49_0
      try clear hfz49_1
      try clear p2
      obtain ⟨x52_2, x295001_2, u295001, rfl, HA, HK2, HO_12, HO_13, HO_295000, HO_295001, BK278, BK279, BK280, BK294, HB⟩ := hrel
      cases gk with
      | zero => exact absurd HA.out (by simp [tens_both_Mul.l0])
      | succ k2 =>
       have H := HA.out
       clear HA
       simp only [tens_both_Mul.l0] at H
       by_cases c50 : x52_2 < (t290.length : Int)
       ·rw [if_pos c50] at H
        have c50b0 : decide (x52_2 < (t290.length : Int)) = true := decide_eq_true c50
        clear c50
        by_cases c51 : 0 ≤ x52_2
        ·rw [if_pos c51] at H
         have c51b0 : decide (0 ≤ x52_2) = true := decide_eq_true c51
         clear c51
         by_cases c52 : x52_2 < (t295.length : Int)
         ·rw [if_pos c52] at H
          have c52b0 : decide (x52_2 < (t295.length : Int)) = true := decide_eq_true c52
          clear c52
          by_cases c53 : 0 ≤ (rd t295 x52_2)
          ·rw [if_pos c53] at H
           have c53b0 : decide (0 ≤ (rd t295 x52_2)) = true := decide_eq_true c53
           clear c53
           by_cases c54 : (rd t295 x52_2) < (l0_1.length : Int)
           ·rw [if_pos c54] at H
            have c54b0 : decide ((rd t295 x52_2) < (l0_1.length : Int)) = true := decide_eq_true c54
            clear c54
            by_cases c55 : x52_2 < (t298.length : Int)
            ·rw [if_pos c55] at H
             have c55b0 : decide (x52_2 < (t298.length : Int)) = true := decide_eq_true c55
             clear c55
             by_cases c56 : 0 ≤ (rd t298 x52_2)
             ·rw [if_pos c56] at H
              have c56b0 : decide (0 ≤ (rd t298 x52_2)) = true := decide_eq_true c56
              clear c56
              by_cases c57 : (rd t298 x52_2) < (l1_1.length : Int)
              ·rw [if_pos c57] at H
               have c57b0 : decide ((rd t298 x52_2) < (l1_1.length : Int)) = true := decide_eq_true c57
               clear c57
               replace H := Option.bind_eq_some_iff.mp H
               obtain ⟨t305, A580, H⟩ := H
               (try dsimp only at H)
               have A58 := Aside0.mk A580
               clear A580
               by_cases c59 : x52_2 < (x295001_2.length : Int)
               ·rw [if_pos c59] at H
                have c59b0 : decide (x52_2 < (x295001_2.length : Int)) = true := decide_eq_true c59
                clear c59
                obtain ⟨y306, hy306⟩ : ∃ y_ : List Int, y_ = (x295001_2.set (x52_2 : Int).toNat t305) := ⟨_, rfl⟩
                replace H : (tens_both_Mul.l0 k2 t295 t298 (t290.length : Int) (wrap64 (x52_2 + 1)) l0_0 l0_1 l1_0 l1_1 t287 y306) = some (r1, r2, r3) := by first | (rw [hy306]; with_reducible exact H) | (have H2_ := (Option.bind_some _ _).symm.trans H; rw [hy306]; with_reducible exact H2_) | (have H2_ := (Option.bind_some _ _).symm.trans H; with_reducible exact H2_) | with_reducible exact H | (rw [hy306]; exact H) | exact H
                have Ny306 := Aside0.mk hy306
                clear hy306
                have H' := Aside0.mk H
                clear H
                try go_wp2
                have n0_ := Aside0.mk (Kd.R_drew HO_12.out)
                have n1_ := Aside0.mk (Kd.R_drew HO_13.out)
                have n2_ := Aside0.mk (Kd.R_drew HO_295000.out)
                have n3_ := Aside0.mk (Kd.R_drew HO_295001.out)
                have n4_ := Aside0.mk (blk_drew BK278.out)
                have n5_ := Aside0.mk (blk_drew BK279.out)
                have n6_ := Aside0.mk (blk_drew BK280.out)
                have n7_ := Aside0.mk (blk_drew BK294.out)
                have n8_ := Aside0.mk (below_drew1 HB.out)
                clear HO_12
                clear HO_13
                clear HO_295000
                clear HO_295001
                clear BK278
                clear BK279
                clear BK280
                clear BK294
                clear HB
                have HO_12 := n0_
                have HO_13 := n1_
                have HO_295000 := n2_
                have HO_295001 := n3_
                have BK278 := n4_
                have BK279 := n5_
                have BK280 := n6_
                have BK294 := n7_
                have HB := n8_
                clear n0_ n1_ n2_ n3_ n4_ n5_ n6_ n7_ n8_
                obtain ⟨Ao62, co62, eo62⟩ := Kd.R_slice HO_12.out
                (first | subst eo62 | (injection eo62 with f1_ f2_ f3_; have f4_ := f1_.symm; have f5_ := f3_.symm; clear f1_ f2_ f3_; subst f4_; subst f5_))
                have p301 : 0 ≤ (x52_2 : Int) := of_decide_eq_true (by first | (with_reducible assumption) | assumption)
                have q301 : x52_2 < (t295.length : Int) := of_decide_eq_true (by first | (with_reducible assumption) | assumption)
                obtain ⟨ad301, e301, hx301_0⟩ := Kd.at_int (Kd.R_reads' HO_12.out).2.2 x52_2 p301 q301
                cases e301
                replace p301 := eq_true p301
                replace q301 := eq_true q301
                have p302 : 0 ≤ ((rd t295 x52_2) : Int) := of_decide_eq_true (by first | (with_reducible assumption) | assumption)
                have q302 : (rd t295 x52_2) < (l0_1.length : Int) := of_decide_eq_true (by first | (with_reducible assumption) | assumption)
                obtain ⟨ad302, e302, hx302_0⟩ := Kd.at_int HR0_1.out (rd t295 x52_2) p302 q302
                have hw302_0 := hx302_0
                cases e302
                replace hx302_0 := (HB.out.cell (World.block_lt_of_cell? w _ hx302_0)).trans hx302_0
                replace p302 := eq_true p302
                replace q302 := eq_true q302
                obtain ⟨Ao63, co63, eo63⟩ := Kd.R_slice HO_13.out
                (first | subst eo63 | (injection eo63 with f1_ f2_ f3_; have f4_ := f1_.symm; have f5_ := f3_.symm; clear f1_ f2_ f3_; subst f4_; subst f5_))
                have p303 : 0 ≤ (x52_2 : Int) := of_decide_eq_true (by first | (with_reducible assumption) | assumption)
                have q303 : x52_2 < (t298.length : Int) := of_decide_eq_true (by first | (with_reducible assumption) | assumption)
                obtain ⟨ad303, e303, hx303_0⟩ := Kd.at_int (Kd.R_reads' HO_13.out).2.2 x52_2 p303 q303
                cases e303
                replace p303 := eq_true p303
                replace q303 := eq_true q303
                have p304 : 0 ≤ ((rd t298 x52_2) : Int) := of_decide_eq_true (by first | (with_reducible assumption) | assumption)
                have q304 : (rd t298 x52_2) < (l1_1.length : Int) := of_decide_eq_true (by first | (with_reducible assumption) | assumption)
                obtain ⟨ad304, e304, hx304_0⟩ := Kd.at_int HR1_1.out (rd t298 x52_2) p304 q304
                have hw304_0 := hx304_0
                cases e304
                replace hx304_0 := (HB.out.cell (World.block_lt_of_cell? w _ hx304_0)).trans hx304_0
                replace p304 := eq_true p304
                replace q304 := eq_true q304
                refine start_ (n := 23) (S := fun w' => w'.cell? ⟨gb294, 0, none⟩ = some (.slice Ao39 t287.length co39) ∧ w'.cell? ⟨gb294, 1, none⟩ = some (u295001) ∧ w'.cell? ⟨gb278, 0, none⟩ = some (.slice A0_0 l0_0.length c0_0) ∧ w'.cell? ⟨gb278, 1, none⟩ = some (.slice (some ad302) l0_1.length c0_1) ∧ w'.cell? ⟨gb279, 0, none⟩ = some (.slice A1_0 l1_0.length c1_0) ∧ w'.cell? ⟨gb279, 1, none⟩ = some (.slice (some ad304) l1_1.length c1_1) ∧ w'.cell? (ad301.add (x52_2).toNat) = some (.int .i64 (rd t295 x52_2)) ∧ w'.cell? (ad302.add ((rd t295 x52_2)).toNat) = some (.int .i64 (rd l0_1 (rd t295 x52_2))) ∧ w'.cell? (ad303.add (x52_2).toNat) = some (.int .i64 (rd t298 x52_2)) ∧ w'.cell? (ad304.add ((rd t298 x52_2)).toNat) = some (.int .i64 (rd l1_1 (rd t298 x52_2)))) (ds := [22]) #[false, false, false, false, false, false, false, false, false, false, false, false, false, false, false, false, false, false, false, false, false, false, false] (by kernel_rfl) rfl rfl ⟨(blk_cell BK294.out 0).trans rfl, (blk_cell BK294.out 1).trans rfl, (blk_cell BK278.out 0).trans rfl, (blk_cell BK278.out 1).trans rfl, (blk_cell BK279.out 0).trans rfl, (blk_cell BK279.out 1).trans rfl, hx301_0, ((HB.out.cell (World.block_lt_of_cell? w _ hw302_0)).trans hw302_0), hx303_0, ((HB.out.cell (World.block_lt_of_cell? w _ hw304_0)).trans hw304_0)⟩ (fun hHeld => ?_); refine with_tabW tens_both_Mul.tab11 tens_both_Mul.bits11 (fun HT_ HW_ => ?_)
                generalize wr.drew = w61 at HO_12 HO_13 HO_295000 HO_295001 BK278 BK279 BK280 BK294 HB hx301_0 hx302_0 hx303_0 hx304_0 hHeld ⊢
                refine zp_ 0 (some 55) (h := ?_)
                refine zp_ 2 (some 57) (h := ?_)
                refine zp_ 3 (some 58) (h := ?_)
                refine zp_ 4 (some 59) (h := ?_)
                refine zp_ 6 (some 61) (h := ?_)
                refine zp_ 7 (some 62) (h := ?_)
                refine zp_ 8 (some 63) (h := ?_)
                refine zp_ 12 (some 67) (h := ?_)
                refine zp_ 14 (some 69) (h := ?_)
                refine zp_ 15 (some 70) (h := ?_)
                refine zp_ 16 (some 71) (h := ?_)
                refine zt_ 1 (some 56) (hr := by rintro w' ⟨s0, s1, s2, s3, s4, s5, s6, s7, s8, s9⟩; go_simp; with_reducible rfl) (h := ?_)
                refine zt_ 5 (some 60) (hr := by rintro w' ⟨s0, s1, s2, s3, s4, s5, s6, s7, s8, s9⟩; go_simp; with_reducible rfl) (h := ?_)
                refine zt_ 9 (some 64) (hr := by rintro w' ⟨s0, s1, s2, s3, s4, s5, s6, s7, s8, s9⟩; go_simp; with_reducible rfl) (h := ?_)
                refine zp_ 10 (some 65) (h := ?_)
                refine zt_ 11 (some 66) (hr := by rintro w' ⟨s0, s1, s2, s3, s4, s5, s6, s7, s8, s9⟩; go_simp; with_reducible rfl) (h := ?_)
                refine zt_ 13 (some 68) (hr := by rintro w' ⟨s0, s1, s2, s3, s4, s5, s6, s7, s8, s9⟩; go_simp; with_reducible rfl) (h := ?_)
                refine zt_ 17 (some 72) (hr := by rintro w' ⟨s0, s1, s2, s3, s4, s5, s6, s7, s8, s9⟩; go_simp; with_reducible rfl) (h := ?_)
                refine zp_ 18 (some 73) (h := ?_)
                refine zt_ 19 (some 74) (hr := by rintro w' ⟨s0, s1, s2, s3, s4, s5, s6, s7, s8, s9⟩; go_simp; with_reducible rfl) (h := ?_)
                refine one_ (i := 20) (N := some 75) #[true, true, true, true, true, true, true, true, true, true, true, true, true, true, true, true, true, true, true, true, true, false, false] rfl rfl (one_of HT_.out (by kernel_rfl)) (by decide) (fun K hK => ?_)
                refine goesT100_ (t := .tmp 58) Try.func44 (by kernel_rfl) rfl #[.int .i64 (rd l0_1 (rd t295 x52_2)), .int .i64 (rd l1_1 (rd t298 x52_2))] (by rfl) rfl rfl (by first | rfl | (go_simp; done) | (go_simp; rfl)) (by (try simp only [List.map_toArray, List.map_cons, List.map_nil]); first | done | rfl | (simp only [List.length_drop, List.length_take]; rfl)) ?_
                with_reducible refine (fix_Mul.calls k2 (rd l0_1 (rd t295 x52_2)) (rd l1_1 (rd t298 x52_2)) t305 _ A58.out).mono ?_
                rintro e w' ⟨rfl, ⟨nd, rfl⟩⟩
                refine ⟨_, rfl, ?_⟩
                have p60 : 0 ≤ (x52_2 : Int) := of_decide_eq_true (by first | (with_reducible assumption) | assumption)
                have q60 : (x52_2 : Int) < ((x295001_2.length : Int) : Int) := of_decide_eq_true (by first | (with_reducible assumption) | assumption)
                obtain ⟨go60, co60, eo60, gb60, gl60, cl60, HG60⟩ := Kd.R_form HO_295001.out (by omega)
                (first | cases eo60 | (injection eo60 with ea_ en_ ec_; (first | subst ea_ | (injection ea_ with ea_; subst ea_)); subst ec_; clear en_))
                have GB60 := Aside0.mk gb60
                have GG60 := Aside0.mk HG60
                clear gb60 gl60 HG60
                obtain ⟨hx60_0, hf60_0⟩ := Kd.R_celln 0 HO_295001.out (x52_2 : Int) p60 q60
                replace p60 := eq_true p60
                replace q60 := eq_true q60
                have HP64 := Kd.R_putn HO_295001.out (x52_2 : Int) t305
                rw [← Ny306.out] at HP64
                have HQ64 := Aside0.mk HP64
                clear HP64
                refine hK.out _ _ ⟨(blk_cell BK294.out 0).trans rfl, (blk_cell BK294.out 1).trans rfl, (blk_cell BK278.out 0).trans rfl, (blk_cell BK278.out 1).trans rfl, (blk_cell BK279.out 0).trans rfl, (blk_cell BK279.out 1).trans rfl, hHeld.2.2.2.2.2.2.1, ((HB.out.cell (World.block_lt_of_cell? w _ hw302_0)).trans hw302_0), hHeld.2.2.2.2.2.2.2.2.1, ((HB.out.cell (World.block_lt_of_cell? w _ hw304_0)).trans hw304_0)⟩ (fun hHeld => ?_)
                clear hK K
                refine norm_ (a' := ?_) ?_ ?_
                rotate_left
                ·show Act.put _ (some 75) _ = _
                 simp only [Act.put, List.setIfInBounds_toArray, List.set_cons_zero, List.set_cons_succ, i64_w, i32_w]
                 rfl
                refine zp_ 21 (some 76) (h := ?_)
                refine last_ (i := 22) (N := none) #[true, true, true, true, true, true, true, true, true, true, true, true, true, true, true, true, true, true, true, true, true, true, true] rfl rfl (one_of HT_.out (by kernel_rfl)) (by decide) (fun K hK => ?_)
                refine skip_ (w1 := ?_) (by rfl) rfl ?_ ?_
                rotate_left
                ·go_simp
                 rfl
                refine hK.out _ _ ?_
                clear hK K
                refine done_ (done_of HT_.out (by kernel_rfl)) ?_
                try go_wp2
                go_roundg k2
                case measure => have := HJ2.out; have := HK2.out; omega
                case rel => exact ⟨(wrap64 (x52_2 + 1)), (y306), (.slice (some ⟨go60, 0, none⟩) x295001_2.length co60), (by first | rfl | (simp; done) | (simp [*]; done)), H', ⟨by have := HJ2.out; have := HK2.out; omega⟩, ⟨zr_ (Kd.R_mono (Kd.R_far (p := ⟨go60, (x52_2 : Int).toNat, none⟩) (Kd.R_types HO_12.out GG60.out (by decide)) (fun _ hk => hk.2) (.int .i64 t305)) (fun _ hk => ⟨hk.1.1, hk.1.2⟩))⟩, ⟨zr_ (Kd.R_mono (Kd.R_far (p := ⟨go60, (x52_2 : Int).toNat, none⟩) (Kd.R_types HO_13.out GG60.out (by decide)) (fun _ hk => hk.2) (.int .i64 t305)) (fun _ hk => ⟨hk.1.1, hk.1.2⟩))⟩, ⟨zr_ (Kd.R_mono (Kd.R_far (p := ⟨go60, (x52_2 : Int).toNat, none⟩) (Kd.R_types HO_295000.out GG60.out (by decide)) (fun _ hk => hk.2) (.int .i64 t305)) (fun _ hk => ⟨hk.1.1, hk.1.2⟩))⟩, ⟨zr_ HQ64.out⟩, ⟨by (with_reducible repeat (first | refine blk_drewN ?_ _ | refine blk_drew ?_ | refine blk_alloc ?_ _)); refine blk_far ?_ (by have h_ := Kd.R_ne HO_295001.out BK278.out (by decide); intro e_; exact h_ (by rw [e_]; rfl)) _; (with_reducible repeat (first | refine blk_drewN ?_ _ | refine blk_drew ?_ | refine blk_alloc ?_ _)); exact BK278.out⟩, ⟨by (with_reducible repeat (first | refine blk_drewN ?_ _ | refine blk_drew ?_ | refine blk_alloc ?_ _)); refine blk_far ?_ (by have h_ := Kd.R_ne HO_295001.out BK279.out (by decide); intro e_; exact h_ (by rw [e_]; rfl)) _; (with_reducible repeat (first | refine blk_drewN ?_ _ | refine blk_drew ?_ | refine blk_alloc ?_ _)); exact BK279.out⟩, ⟨by (with_reducible repeat (first | refine blk_drewN ?_ _ | refine blk_drew ?_ | refine blk_alloc ?_ _)); refine blk_far ?_ (by have h_ := Kd.R_ne HO_295001.out BK280.out (by decide); intro e_; exact h_ (by rw [e_]; rfl)) _; (with_reducible repeat (first | refine blk_drewN ?_ _ | refine blk_drew ?_ | refine blk_alloc ?_ _)); exact BK280.out⟩, ⟨by (with_reducible repeat (first | refine blk_drewN ?_ _ | refine blk_drew ?_ | refine blk_alloc ?_ _)); refine blk_far ?_ (by have h_ := Kd.R_ne HO_295001.out BK294.out (by decide); intro e_; exact h_ (by rw [e_]; rfl)) _; (with_reducible repeat (first | refine blk_drewN ?_ _ | refine blk_drew ?_ | refine blk_alloc ?_ _)); exact BK294.out⟩, ⟨by repeat (first | (with_reducible first | exact HB.out | apply below_alloc | apply pw_below_drewN | apply below_drew1 | refine below_set ?_ GB60.out | refine below_set ?_ GE278.out | refine below_set ?_ GE279.out | refine below_set ?_ GE280.out | refine below_set ?_ GE294.out) | exact HB.out)⟩⟩
               ·rw [if_neg c59] at H
                exact absurd H (by simp)
              ·rw [if_neg c57] at H
               exact absurd H (by simp)
             ·rw [if_neg c56] at H
              exact absurd H (by simp)
            ·rw [if_neg c55] at H
             exact absurd H (by simp)
           ·rw [if_neg c54] at H
            exact absurd H (by simp)
          ·rw [if_neg c53] at H
           exact absurd H (by simp)
         ·rw [if_neg c52] at H
          exact absurd H (by simp)
        ·rw [if_neg c51] at H
         exact absurd H (by simp)
       ·rw [if_neg c50] at H
        have c50b0 : decide (x52_2 < (t290.length : Int)) = false := decide_eq_false c50
        clear c50
        simp only [Option.some.injEq, Prod.mk.injEq] at H
        obtain ⟨rfl, rfl, rfl⟩ := H
        have hnb65 := NB294_278.out
        have hnc65 := NB278_294.out
        have hnb66 := NB294_279.out
        have hnc66 := NB279_294.out
        have hnb67 := NB294_280.out
        have hnc67 := NB280_294.out
        have hcz68_0 := zx_ (v := .slice Ao39 t287.length co39) BK294 0
        have hcz68_1 := zx_ (v := u295001) BK294 1
        have hfz68_0 := blk_frozen BK294.out 0
        have hfz68_1 := blk_frozen BK294.out 1
        have hnb69 := NB280_278.out
        have hnc69 := NB278_280.out
        have hnb70 := NB280_279.out
        have hnc70 := NB279_280.out
        have hcz71_0 := zx_ (v := .slice none 0 0) BK280 0
        have hcz71_1 := zx_ (v := .slice none 0 0) BK280 1
        have hfz71_0 := blk_frozen BK280.out 0
        have hfz71_1 := blk_frozen BK280.out 1
        obtain ⟨Ao72, co72, eo72⟩ := Kd.R_slice HO_295001.out
        subst eo72
        go_wp2
        refine bodyPost_ret (results_ct rfl _ _ gb280 27 #[.slice Ao39 t287.length co39, .slice Ao72 x295001_2.length co72] (0, 0) _ rfl (by (with_reducible repeat (first | refine blk_drewN ?_ _ | refine blk_drew ?_ | refine blk_alloc ?_ _)); refine blk_put (cs := #[.slice Ao39 t287.length co39, .slice none 0 0]) ?_ 1 _ rfl; (with_reducible repeat (first | refine blk_drewN ?_ _ | refine blk_drew ?_ | refine blk_alloc ?_ _)); refine blk_put (cs := #[.slice none 0 0, .slice none 0 0]) ?_ 0 _ rfl; (with_reducible repeat (first | refine blk_drewN ?_ _ | refine blk_drew ?_ | refine blk_alloc ?_ _)); exact BK280.out) Try.underlying27 rfl (by kernel_rfl)) rfl ?_
        exact ⟨_, _, by first | rfl | (simp [errW_none, errW_some] <;> rfl) | (simp [*, errW_none, errW_some] <;> rfl), zr_ (Kd.R_mono (Kd.R_far (p := ⟨gb280, 1, none⟩) (Kd.R_far (p := ⟨gb280, 0, none⟩) (Kd.R_types HO_295000.out BK280.out (by decide)) (fun _ hk => hk.2) (.slice Ao39 t287.length co39)) (fun _ hk => hk.2) (.slice Ao72 x295001_2.length co72)) (fun _ hk => trivial)), zr_ (Kd.R_mono (Kd.R_far (p := ⟨gb280, 1, none⟩) (Kd.R_far (p := ⟨gb280, 0, none⟩) (Kd.R_types HO_295001.out BK280.out (by decide)) (fun _ hk => hk.2) (.slice Ao39 t287.length co39)) (fun _ hk => hk.2) (.slice Ao72 x295001_2.length co72)) (fun _ hk => trivial)), zw4_ HB GE278 GE279 GE280 GE294⟩
    ·rw [if_neg c26] at H
     have c26b0 : (t284 == 0) = false := beq_eq_false_iff_ne.mpr c26
     have c26b1 : (t284 != 0) = true := bne_iff_ne.mpr c26
     simp only [Option.some.injEq, Prod.mk.injEq] at H
     obtain ⟨rfl, rfl, rfl⟩ := H
     have hnb73 := NB278_279.out
     have hnc73 := NB279_278.out
     have hnb74 := NB278_280.out
     have hnc74 := NB280_278.out
     have hcz75_0 := zx_ (v := .slice A0_0 l0_0.length c0_0) BK278 0
     have hcz75_1 := zx_ (v := .slice A0_1 l0_1.length c0_1) BK278 1
     have hfz75_0 := blk_frozen BK278.out 0
     have hfz75_1 := blk_frozen BK278.out 1
     have hnb76 := NB279_280.out
     have hnc76 := NB280_279.out
     have hcz77_0 := zx_ (v := .slice A1_0 l1_0.length c1_0) BK279 0
     have hcz77_1 := zx_ (v := .slice A1_1 l1_1.length c1_1) BK279 1
     have hfz77_0 := blk_frozen BK279.out 0
     have hfz77_1 := blk_frozen BK279.out 1
     go_wp2_with (first | ((with_reducible refine gate_callee (f := 54) rfl ?_); refine zg_ (some 29) Try.func54 #[.slice A0_0 l0_0.length c0_0, .slice A1_0 l1_0.length c1_0] (h := ?_); (with_reducible refine (shape_Join.calls kj2 _ _ l0_0 _ _ l1_0 t283 t284 _ ?side1 ?side2 ?side3 ?side4 A25.out).mono ?_); (case side1 => exact zk_ (Kd.C_below HR0_0.out HB.out)); (case side2 => exact HC0_0.out); (case side3 => exact zk_ (Kd.C_below HR1_0.out HB.out)); (case side4 => exact HC1_0.out); rintro e w78 ⟨v285, rfl, ho0, hb⟩; refine ⟨_, rfl, ?_⟩; have n0_ := Aside0.mk (Kd.R_lower ho0 (below_size (zw3_ HB GE278 GE279 GE280))); have n1_ := Aside0.mk (zl_ BK278 hb); have n2_ := Aside0.mk (zl_ BK279 hb); have n3_ := Aside0.mk (zl_ BK280 hb); have n4_ := Aside0.mk (below_step (zw3_ HB GE278 GE279 GE280) hb); clear BK278 BK279 BK280 HB; have HO286 := n0_; have BK278 := n1_; have BK279 := n2_; have BK280 := n3_; have HB := n4_; clear n0_ n1_ n2_ n3_ n4_; (try clear hb); (try clear hb2); (try clear hk); (try clear hi); (try clear ho0); have hcz79_0 := zx_ (v := .slice none 0 0) BK280 0; have hcz79_1 := zx_ (v := .slice none 0 0) BK280 1; have hfz79_0 := blk_frozen BK280.out 0; have hfz79_1 := blk_frozen BK280.out 1))
     refine bodyPost_ret (results_ct rfl _ _ gb280 27 #[.slice none 0 0, .slice none 0 0] (0, 0) _ rfl (by (with_reducible repeat (first | refine blk_drewN ?_ _ | refine blk_drew ?_ | refine blk_alloc ?_ _)); refine blk_put (cs := #[.slice none 0 0, .slice none 0 0]) ?_ 1 _ rfl; (with_reducible repeat (first | refine blk_drewN ?_ _ | refine blk_drew ?_ | refine blk_alloc ?_ _)); refine blk_put (cs := #[.slice none 0 0, .slice none 0 0]) ?_ 0 _ rfl; (with_reducible repeat (first | refine blk_drewN ?_ _ | refine blk_drew ?_ | refine blk_alloc ?_ _)); exact BK280.out) Try.underlying27 rfl (by kernel_rfl)) rfl ?_
     exact ⟨_, _, by first | rfl | (simp [errW_none, errW_some] <;> rfl) | (simp [*, errW_none, errW_some] <;> rfl), by first | exact Kd.R_nil _ _ _ _ _ | exact Kd.N_nil _ _ _ _ _ | exact Kd.V_nil _ _ _ _ _ | exact Kd.Q_nil _ _ _ _ _ | exact Kd.S_nil _ _ _ _ _, by first | exact Kd.R_nil _ _ _ _ _ | exact Kd.N_nil _ _ _ _ _ | exact Kd.V_nil _ _ _ _ _ | exact Kd.Q_nil _ _ _ _ _ | exact Kd.S_nil _ _ _ _ _, zw3_ HB GE278 GE279 GE280⟩

end Go.Proofs.Ytbdhabpplidgfaa.PTensEach
