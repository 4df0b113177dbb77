/- The functions that the law TensNone reaches, as Lean functions, and that each call of the Go function does what its Lean function says, wherever that one answers. Written by a program of mine over the print of the kit; Lean checks it. -/
import Derived.Test.YtbdhabpplidgfaaPTensNonex0
import Derived.Test.YtbdhabpplidgfaaPTensNonex1
import Derived.Test.YtbdhabpplidgfaaPTensNonex2
import Derived.Test.YtbdhabpplidgfaaPTensNonex3
import Derived.Test.YtbdhabpplidgfaaPTensNonex6
namespace Go.Proofs.Ytbdhabpplidgfaa.PTensNone
open Go.RowKit Go.Proofs.YtbdhabpplidgfaaW.PrintWords Go.Proofs.YtbdhabpplidgfaaW.PrintLast Go.Proofs.YtbdhabpplidgfaaW.PrintMore
attribute [local go_sem] max2_int min2_int max_two min_two max_three min_three max_four min_four   -- for this text's walks alone
set_option linter.unusedVariables false
set_option linter.unusedSimpArgs false
theorem goesT100_ {P : Program} {ops : Array Oper} {Q : Exit → Act → World → Prop} {oi : Oper} {N : Option Tmp} {a : Act} {w : World} {K : Act → World → Prop} {f : FuncId} {fn : Func} {t : Operand} {xs : Array Operand} {ts : Array TypeId} (hf : P.funcs[f]? = some fn) (hname : (fn.name == "runtime.NumGoroutine") = false) (hb : fn.body.isSome = true) (args : Array Value)
  (hw : Region.wanted oi (yielded ops a.tmps) = true) (hN : oi.dst = N) (hop : oi.op = .call { callee := .value t, args := xs, argTypes := ts }) (hcal : a.eval t = .func (.func f) #[] #[]) (hargs : xs.map a.eval = args)
  (h : Calls P f args w fun e w' => ∃ v, e = .returned v ∧ K (a.put N v) w') : if Region.wanted oi (yielded ops a.tmps) = true then Oper.wp P oi a w K Q else K (a.put N undef) w := by
 refine call_ f args hw hN ?_ h
 have he := enters_ hf hname hb args w
 unfold execOp
 simp [hop, resolve, Deferred.ofValue, invoke, hcal, hargs, he]

/-! ### tens_both_Mul: function 100 -/
mutual
def tens_both_Mul.j0 : Nat → Bool → List Int → List Int → List Int → List Int → Option (List Int × List Int × Int)
 | 0, _, _, _, _, _ => none
 | k + 1, x22, x264000, x264001, x265000, x265001 => if x22 = true then (some (([] : List Int), ([] : List Int), 1)) else ((shape_Join.f k x264000 x265000).bind fun bt268 => (if bt268.2 = 0 then ((tens_New.f k bt268.1 0).bind fun bt272 => ((shape_Spread.f k x264000 bt268.1).bind fun t280 => ((shape_Spread.f k x265000 bt268.1).bind fun t283 => (tens_both_Mul.l0 k t280 t283 (bt272.2.1.length : Int) 0 x264000 x264001 x265000 x265001 bt272.1 bt272.2.1)))) else (some (([] : List Int), ([] : List Int), bt268.2))))
def tens_both_Mul.l0 : Nat → List Int → List Int → Int → Int → List Int → List Int → List Int → List Int → List Int → List Int → Option (List Int × List Int × Int)
 | 0, _, _, _, _, _, _, _, _, _, _ => none
 | k + 1, x12, x13, x51, x52, x264000, x264001, x265000, x265001, x280000, x280001 => if x52 < x51 then (if 0 ≤ x52 then (if x52 < (x12.length : Int) then (if 0 ≤ (rd x12 x52) then (if (rd x12 x52) < (x264001.length : Int) then (if x52 < (x13.length : Int) then (if 0 ≤ (rd x13 x52) then (if (rd x13 x52) < (x265001.length : Int) then ((fix_Mul.f k (rd x264001 (rd x12 x52)) (rd x265001 (rd x13 x52))).bind fun t290 => (if x52 < (x280001.length : Int) then (tens_both_Mul.l0 k x12 x13 x51 (wrap64 (x52 + 1)) x264000 x264001 x265000 x265001 x280000 (x280001.set (x52 : Int).toNat t290)) else (none))) else (none)) else (none)) else (none)) else (none)) else (none)) else (none)) else (none)) else (some (x280000, x280001, 0))
end
def tens_both_Mul.f (k : Nat) (l0_0 : List Int) (l0_1 : List Int) (l1_0 : List Int) (l1_1 : List Int) : Option (List Int × List Int × Int) := (tens_Good.f k l0_0 l0_1).bind fun t266 => (if t266 = true then ((tens_Good.f k l1_0 l1_1).bind fun t267 => (tens_both_Mul.j0 k (!t267) l0_0 l0_1 l1_0 l1_1)) else (tens_both_Mul.j0 k true l0_0 l0_1 l1_0 l1_1))
theorem tens_both_Mul.mono_l : ∀ k, (∀ y0 y1 y2 y3 y4, LeO (tens_both_Mul.j0 k y0 y1 y2 y3 y4) (tens_both_Mul.j0 (k + 1) y0 y1 y2 y3 y4)) ∧ (∀ y0 y1 y2 y3 y4 y5 y6 y7 y8 y9, LeO (tens_both_Mul.l0 k y0 y1 y2 y3 y4 y5 y6 y7 y8 y9) (tens_both_Mul.l0 (k + 1) y0 y1 y2 y3 y4 y5 y6 y7 y8 y9))
 | 0 => ⟨fun _ _ _ _ _ r h => by simp [tens_both_Mul.j0] at h, fun _ _ _ _ _ _ _ _ _ _ r h => by simp [tens_both_Mul.l0] at h⟩
 | k + 1 => by
  obtain ⟨ih0, ih1⟩ := tens_both_Mul.mono_l k
  refine ⟨?_, ?_⟩
  ·intro y0 y1 y2 y3 y4
   unfold tens_both_Mul.j0
   repeat' first
   | (with_reducible exact ih0 _ _ _ _ _)
   | (with_reducible exact ih1 _ _ _ _ _ _ _ _ _ _)
   | (with_reducible exact shape_Join.mono _ _ _)
   | (with_reducible exact shape_Spread.mono _ _ _)
   | (with_reducible exact tens_New.mono _ _ _)
   | (with_reducible exact LeO.refl _)
   | (with_reducible exact LeO.none _)
   | (with_reducible refine LeO.ite ?_ ?_)
   | (with_reducible refine LeO.bind ?_ (fun _ => ?_))
   | exact ih0 _ _ _ _ _
   | exact ih1 _ _ _ _ _ _ _ _ _ _
   | exact shape_Join.mono _ _ _
   | exact shape_Spread.mono _ _ _
   | exact tens_New.mono _ _ _
   | exact LeO.none _
   | refine LeO.ite ?_ ?_
   | refine LeO.bind ?_ (fun _ => ?_)
  ·intro y0 y1 y2 y3 y4 y5 y6 y7 y8 y9
   unfold tens_both_Mul.l0
   repeat' first
   | (with_reducible exact ih0 _ _ _ _ _)
   | (with_reducible exact ih1 _ _ _ _ _ _ _ _ _ _)
   | (with_reducible exact fix_Mul.mono _ _ _)
   | (with_reducible exact LeO.refl _)
   | (with_reducible exact LeO.none _)
   | (with_reducible refine LeO.ite ?_ ?_)
   | (with_reducible refine LeO.bind ?_ (fun _ => ?_))
   | exact ih0 _ _ _ _ _
   | exact ih1 _ _ _ _ _ _ _ _ _ _
   | exact fix_Mul.mono _ _ _
   | exact LeO.none _
   | refine LeO.ite ?_ ?_
   | refine LeO.bind ?_ (fun _ => ?_)
theorem tens_both_Mul.mono : ∀ a0 a1 a2 a3 k, LeO (tens_both_Mul.f k a0 a1 a2 a3) (tens_both_Mul.f (k + 1) a0 a1 a2 a3) := by
 intro a0 a1 a2 a3 k
 obtain ⟨ih0, ih1⟩ := tens_both_Mul.mono_l k
 unfold tens_both_Mul.f
 repeat' first
   | (with_reducible exact ih0 _ _ _ _ _)
   | (with_reducible exact ih1 _ _ _ _ _ _ _ _ _ _)
   | (with_reducible exact tens_Good.mono _ _ _)
   | (with_reducible exact LeO.refl _)
   | (with_reducible exact LeO.none _)
   | (with_reducible refine LeO.ite ?_ ?_)
   | (with_reducible refine LeO.bind ?_ (fun _ => ?_))
   | exact ih0 _ _ _ _ _
   | exact ih1 _ _ _ _ _ _ _ _ _ _
   | exact tens_Good.mono _ _ _
   | exact LeO.none _
   | refine LeO.ite ?_ ?_
   | refine LeO.bind ?_ (fun _ => ?_)
def tens_both_Mul.T7 : Bool × List (List Nat × List Nat) := (true, [([], []), ([0], [0]), ([], []), ([1, 2], [1, 2]), ([], []), ([4], [4]), ([], []), ([5, 6, 3], [5, 6]), ([3, 7, 0, 1, 2, 3], [3]), ([7, 8, 0, 1, 2, 3, 4, 5, 6, 7, 8], [7])])
def tens_both_Mul.B7 : List Nat := [0, 1, 0, 7, 0, 16, 0, 127, 255, 511]
theorem tens_both_Mul.tab7 : rtab .any (opsOf Try.f39 7) = tens_both_Mul.T7 := by kernel_rfl
theorem tens_both_Mul.bits7 : waitsOk tens_both_Mul.T7.2 tens_both_Mul.B7 = true := by kernel_rfl
def tens_both_Mul.T11 : Bool × List (List Nat × List Nat) := (true, [([], []), ([0], [0]), ([], []), ([], []), ([], []), ([4], [4]), ([], []), ([], []), ([6, 7], [6, 7]), ([8], [8]), ([5, 9], [5, 9]), ([10], [10]), ([], []), ([12], [12]), ([], []), ([], []), ([14, 15], [14, 15]), ([16], [16]), ([13, 17], [13, 17]), ([18], [18]), ([3, 11, 19], [3, 11, 19]), ([1, 2, 0, 1, 2, 3, 4, 5, 6, 7, 8, 9, 10, 11, 12, 13, 14, 15, 16, 17, 18, 19, 20], [1, 2]), ([21, 20, 20, 0, 1, 2, 3, 4, 5, 6, 7, 8, 9, 10, 11, 12, 13, 14, 15, 16, 17, 18, 19, 20], [20, 21])])
def tens_both_Mul.B11 : List Nat := [0, 1, 0, 0, 0, 16, 0, 0, 192, 448, 1008, 2032, 0, 4096, 0, 0, 49152, 114688, 258048, 520192, 1048568, 2097151, 4194303]
theorem tens_both_Mul.tab11 : rtab .any (opsOf Try.f39 11) = tens_both_Mul.T11 := by kernel_rfl
theorem tens_both_Mul.bits11 : waitsOk tens_both_Mul.T11.2 tens_both_Mul.B11 = true := by kernel_rfl
set_option maxHeartbeats 8000000 in
set_option maxRecDepth 100000 in
theorem tens_both_Mul.calls (k : Nat) (A0_0 : Option Addr) (c0_0 : Nat) (l0_0 : List Int) (A0_1 : Option Addr) (c0_1 : Nat) (l0_1 : List Int) (A1_0 : Option Addr) (c1_0 : Nat) (l1_0 : List Int) (A1_1 : Option Addr) (c1_1 : Nat) (l1_1 : List Int) (r1 : List Int) (r2 : List Int) (r3 : Int) (w : World) (hr0_0 : Kd.C (Kd.int .i64) w A0_0 l0_0.length l0_0) (hc0_0 : l0_0.length ≤ c0_0) (hr0_1 : Kd.C (Kd.int .i64) w A0_1 l0_1.length l0_1) (hc0_1 : l0_1.length ≤ c0_1) (hr1_0 : Kd.C (Kd.int .i64) w A1_0 l1_0.length l1_0) (hc1_0 : l1_0.length ≤ c1_0) (hr1_1 : Kd.C (Kd.int .i64) w A1_1 l1_1.length l1_1) (hc1_1 : l1_1.length ≤ c1_1) (h : tens_both_Mul.f k l0_0 l0_1 l1_0 l1_1 = some (r1, r2, r3)) :
  Calls Try.prog 39 #[.agg #[.slice A0_0 l0_0.length c0_0, .slice A0_1 l0_1.length c0_1], .agg #[.slice A1_0 l1_0.length c1_0, .slice A1_1 l1_1.length c1_1], .func (.func 44) #[] #[]] w fun e w' => ∃ v0_ v1_ : Value, e = .returned (.tuple #[.agg #[v0_, v1_], .int .i64 r3]) ∧ Kd.R (Kd.int .i64) 3 w' w.heap.size (fun _ => True) v0_ r1 ∧ Kd.R (Kd.int .i64) 23 w' w.heap.size (fun _ => True) v1_ r2 ∧ Below w.heap.size w w' := by
 have hu27 := Try.underlying27
 have HR0_0 := Aside0.mk hr0_0
 have HC0_0 := Aside0.mk hc0_0
 clear hr0_0 hc0_0
 have HR0_1 := Aside0.mk hr0_1
 have HC0_1 := Aside0.mk hc0_1
 clear hr0_1 hc0_1
 have HR1_0 := Aside0.mk hr1_0
 have HC1_0 := Aside0.mk hc1_0
 clear hr1_0 hc1_0
 have HR1_1 := Aside0.mk hr1_1
 have HC1_1 := Aside0.mk hc1_1
 clear hr1_1 hc1_1
 have HB := Aside0.mk (Below.refl w.heap.size w)
 have H : ((tens_Good.f k l0_0 l0_1).bind fun t266 => (if t266 = true then ((tens_Good.f k l1_0 l1_1).bind fun t267 => (tens_both_Mul.j0 k (!t267) l0_0 l0_1 l1_0 l1_1)) else (tens_both_Mul.j0 k true l0_0 l0_1 l1_0 l1_1))) = some (r1, r2, r3) := h
 clear h
 have HC3 := Aside0.mk H
 clear H
 go_enter Try.func39, Try.ntmps39
 go_upto_region 1 with (first | ((with_reducible refine gate_dst (N := 3) rfl ?_); refine box_event ?hg (N := 3) ?hd (cs := #[.slice A0_0 l0_0.length c0_0, .slice A0_1 l0_1.length c0_1]) (t := 27) ?hr ?_; (case hd => rfl); (case hg => rfl); (case hr => first | (go_simp; done) | (go_simp; rfl)); intro gb263 hg w4 hbox hb; have BK263 := Aside0.mk (hbox); have GW263 := Aside0.mk (zs_ hg (zw0_ HB)); have GE263 := Aside0.mk (zs_ hg (zw0_ HB)); replace HB := Aside0.mk (below_step (zw0_ HB) hb); clear hb hbox hg) | ((with_reducible refine gate_dst (N := 4) rfl ?_); refine box_event ?hg (N := 4) ?hd (cs := #[.slice A1_0 l1_0.length c1_0, .slice A1_1 l1_1.length c1_1]) (t := 27) ?hr ?_; (case hd => rfl); (case hg => rfl); (case hr => first | (go_simp; done) | (go_simp; rfl)); intro gb264 hg w5 hbox hb; have BK264 := Aside0.mk (hbox); have GW264 := Aside0.mk (zs_ hg (zw1_ HB GE263)); have GE264 := Aside0.mk (zs_ hg (zw1_ HB GE263)); replace HB := Aside0.mk (below_step (zw1_ HB GE263) hb); have NB263_264 := Aside0.mk (zn_ hg BK263); have NB264_263 := Aside0.mk (zm_ hg BK263); replace BK263 := Aside0.mk (zl_ BK263 hb); clear hb hbox hg) | ((with_reducible refine gate_dst (N := 6) rfl ?_); refine box_event ?hg (N := 6) ?hd (cs := #[.slice none 0 0, .slice none 0 0]) (t := 27) ?hr ?_; (case hd => rfl); (case hg => rfl); (case hr => first | (go_simp; done) | (go_simp; rfl)); intro gb265 hg w6 hbox hb; have BK265 := Aside0.mk (hbox); have GW265 := Aside0.mk (zs_ hg (zw2_ HB GE263 GE264)); have GE265 := Aside0.mk (zs_ hg (zw2_ HB GE263 GE264)); replace HB := Aside0.mk (below_step (zw2_ HB GE263 GE264) hb); have NB263_265 := Aside0.mk (zn_ hg BK263); have NB265_263 := Aside0.mk (zm_ hg BK263); replace BK263 := Aside0.mk (zl_ BK263 hb); have NB264_265 := Aside0.mk (zn_ hg BK264); have NB265_264 := Aside0.mk (zm_ hg BK264); replace BK264 := Aside0.mk (zl_ BK264 hb); clear hb hbox hg))
 (try simp only [Act.put, List.setIfInBounds_toArray, List.set_cons_zero, List.set_cons_succ])
 go_cut [22] (fun v22 wc => ∃ (kq : Nat) (x22_2 : Bool), v22 = .bool x22_2 ∧ Aside0 (tens_both_Mul.j0 kq x22_2 l0_0 l0_1 l1_0 l1_1 = some (r1, r2, r3)) ∧ Aside0 (kq ≤ k) ∧ Aside0 (wc.heap[gb263]? = some (.cells #[(.slice A0_0 l0_0.length c0_0), (.slice A0_1 l0_1.length c0_1)] 27 (0, 0))) ∧ Aside0 (wc.heap[gb264]? = some (.cells #[(.slice A1_0 l1_0.length c1_0), (.slice A1_1 l1_1.length c1_1)] 27 (0, 0))) ∧ Aside0 (wc.heap[gb265]? = some (.cells #[(.slice none 0 0), (.slice none 0 0)] 27 (0, 0))) ∧ Aside0 (Below w.heap.size w wc))
 case first =>
  have H := HC3.out
  clear HC3
  replace H := Option.bind_eq_some_iff.mp H
  obtain ⟨t266, A70, H⟩ := H
  (try dsimp only at H)
  have A7 := Aside0.mk A70
  clear A70
  by_cases c8 : t266 = true
  ·subst c8
   have H1 := H
   rw [if_pos rfl] at H1
   clear H
   have H := H1
   clear H1
   replace H := Option.bind_eq_some_iff.mp H
   obtain ⟨t267, A90, H⟩ := H
   replace H : (tens_both_Mul.j0 k (!t267) l0_0 l0_1 l1_0 l1_1) = some (r1, r2, r3) := H
   have A9 := Aside0.mk A90
   clear A90
   have H' := Aside0.mk H
   clear H
   have hnb10 := NB263_264.out
   have hnc10 := NB264_263.out
   have hnb11 := NB263_265.out
   have hnc11 := NB265_263.out
   have hcz12_0 := zx_ (v := .slice A0_0 l0_0.length c0_0) BK263 0
   have hcz12_1 := zx_ (v := .slice A0_1 l0_1.length c0_1) BK263 1
   have hfz12_0 := blk_frozen BK263.out 0
   have hfz12_1 := blk_frozen BK263.out 1
   go_wp2_with (first | ((with_reducible refine gate_callee (f := 16) rfl ?_); refine zg_ (some 16) Try.func16 #[.agg #[.slice A0_0 l0_0.length c0_0, .slice A0_1 l0_1.length c0_1]] (h := ?_); (with_reducible refine (tens_Good.calls k _ _ l0_0 _ _ l0_1 true _ ?side1 ?side2 ?side3 ?side4 A7.out).mono ?_); (case side1 => exact zk_ (Kd.C_below HR0_0.out HB.out)); (case side2 => exact HC0_0.out); (case side3 => exact zk_ (Kd.C_below HR0_1.out HB.out)); (case side4 => exact HC0_1.out); rintro e w13 ⟨rfl, hb⟩; refine ⟨_, rfl, ?_⟩; replace BK263 := Aside0.mk (zl_ BK263 hb); replace BK264 := Aside0.mk (zl_ BK264 hb); replace BK265 := Aside0.mk (zl_ BK265 hb); replace HB := Aside0.mk (below_step (zw3_ HB GE263 GE264 GE265) hb); (try clear hb); have hnb14 := NB264_265.out; have hnc14 := NB265_264.out; have hcz15_0 := zx_ (v := .slice A1_0 l1_0.length c1_0) BK264 0; have hcz15_1 := zx_ (v := .slice A1_1 l1_1.length c1_1) BK264 1; have hfz15_0 := blk_frozen BK264.out 0; have hfz15_1 := blk_frozen BK264.out 1) | (go_at_call 16; (with_reducible refine (tens_Good.calls k _ _ l1_0 _ _ l1_1 t267 _ ?side1 ?side2 ?side3 ?side4 A9.out).mono ?_); (case side1 => exact zk_ (Kd.C_below HR1_0.out HB.out)); (case side2 => exact HC1_0.out); (case side3 => exact zk_ (Kd.C_below HR1_1.out HB.out)); (case side4 => exact HC1_1.out); rintro e w16 ⟨rfl, hb⟩; replace BK263 := Aside0.mk (zl_ BK263 hb); replace BK264 := Aside0.mk (zl_ BK264 hb); replace BK265 := Aside0.mk (zl_ BK265 hb); replace HB := Aside0.mk (below_step (zw3_ HB GE263 GE264 GE265) hb); (try clear hb)))
   go_meet
   case rel => exact ⟨_, (!t267), (by first | rfl | (simp; done) | (simp [*]; done)), H', ⟨by first | omega | exact Nat.le_refl _⟩, ⟨zb_ BK263⟩, ⟨zb_ BK264⟩, ⟨zb_ BK265⟩, ⟨zw3_ HB GE263 GE264 GE265⟩⟩
  ·replace c8 := Bool.eq_false_iff.mpr c8
   subst c8
   have H1 : (tens_both_Mul.j0 k true l0_0 l0_1 l1_0 l1_1) = some (r1, r2, r3) := by rw [if_neg (show ¬ (false = true) by decide)] at H; exact H
   clear H
   have H := H1
   clear H1
   have H' := Aside0.mk H
   clear H
   have hnb17 := NB263_264.out
   have hnc17 := NB264_263.out
   have hnb18 := NB263_265.out
   have hnc18 := NB265_263.out
   have hcz19_0 := zx_ (v := .slice A0_0 l0_0.length c0_0) BK263 0
   have hcz19_1 := zx_ (v := .slice A0_1 l0_1.length c0_1) BK263 1
   have hfz19_0 := blk_frozen BK263.out 0
   have hfz19_1 := blk_frozen BK263.out 1
   go_wp2_with (first | ((with_reducible refine gate_callee (f := 16) rfl ?_); refine zg_ (some 16) Try.func16 #[.agg #[.slice A0_0 l0_0.length c0_0, .slice A0_1 l0_1.length c0_1]] (h := ?_); (with_reducible refine (tens_Good.calls k _ _ l0_0 _ _ l0_1 false _ ?side1 ?side2 ?side3 ?side4 A7.out).mono ?_); (case side1 => exact zk_ (Kd.C_below HR0_0.out HB.out)); (case side2 => exact HC0_0.out); (case side3 => exact zk_ (Kd.C_below HR0_1.out HB.out)); (case side4 => exact HC0_1.out); rintro e w20 ⟨rfl, hb⟩; refine ⟨_, rfl, ?_⟩; replace BK263 := Aside0.mk (zl_ BK263 hb); replace BK264 := Aside0.mk (zl_ BK264 hb); replace BK265 := Aside0.mk (zl_ BK265 hb); replace HB := Aside0.mk (below_step (zw3_ HB GE263 GE264 GE265) hb); (try clear hb)))
   go_meet
   case rel => exact ⟨_, (true), (by first | rfl | (simp; done) | (simp [*]; done)), H', ⟨by first | omega | exact Nat.le_refl _⟩, ⟨zb_ BK263⟩, ⟨zb_ BK264⟩, ⟨zb_ BK265⟩, ⟨zw3_ HB GE263 GE264 GE265⟩⟩
 case rest =>
  clear HC3
  try clear c1
  try clear p2
  try clear c8
  try clear c10
  try clear c11
  try clear c14
  try clear c16
  try clear c17
  try clear c18
  try clear hcz12_0
  try clear hcz12_1
  try clear hcz15_0
  try clear hcz15_1
  try clear hcz19_0
  try clear hcz19_1
  try clear hfz12_0
  try clear hfz12_1
  try clear hfz15_0
  try clear hfz15_1
  try clear hfz19_0
  try clear hfz19_1
  obtain ⟨kq, x22_2, rfl, HA, HJ2, BK263, BK264, BK265, HB⟩ := hcut
  cases kq with
  | zero => exact absurd HA.out (by simp [tens_both_Mul.j0])
  | succ kj2 =>
   have H := HA.out
   clear HA
   simp only [tens_both_Mul.j0] at H
   by_cases c21 : x22_2 = true
   ·subst c21
    have H1 : (some (([] : List Int), ([] : List Int), 1)) = some (r1, r2, r3) := by rw [if_pos rfl] at H; exact H
    clear H
    have H := H1
    clear H1
    simp only [Option.some.injEq, Prod.mk.injEq] at H
    obtain ⟨rfl, rfl, rfl⟩ := H
    have hnb22 := NB265_263.out
    have hnc22 := NB263_265.out
    have hnb23 := NB265_264.out
    have hnc23 := NB264_265.out
    have hcz24_0 := zx_ (v := .slice none 0 0) BK265 0
    have hcz24_1 := zx_ (v := .slice none 0 0) BK265 1
    have hfz24_0 := blk_frozen BK265.out 0
    have hfz24_1 := blk_frozen BK265.out 1
    go_wp2
    refine bodyPost_ret (results_ct rfl _ _ gb265 27 #[.slice none 0 0, .slice none 0 0] (0, 0) _ rfl (by (with_reducible repeat (first | refine blk_drewN ?_ _ | refine blk_drew ?_ | refine blk_alloc ?_ _)); refine blk_put (cs := #[.slice none 0 0, .slice none 0 0]) ?_ 1 _ rfl; (with_reducible repeat (first | refine blk_drewN ?_ _ | refine blk_drew ?_ | refine blk_alloc ?_ _)); refine blk_put (cs := #[.slice none 0 0, .slice none 0 0]) ?_ 0 _ rfl; (with_reducible repeat (first | refine blk_drewN ?_ _ | refine blk_drew ?_ | refine blk_alloc ?_ _)); exact BK265.out) Try.underlying27 rfl (by kernel_rfl)) rfl ?_
    exact ⟨_, _, by first | rfl | (simp [errW_none, errW_some] <;> rfl) | (simp [*, errW_none, errW_some] <;> rfl), by first | exact Kd.R_nil _ _ _ _ _ | exact Kd.N_nil _ _ _ _ _ | exact Kd.V_nil _ _ _ _ _ | exact Kd.Q_nil _ _ _ _ _ | exact Kd.S_nil _ _ _ _ _, by first | exact Kd.R_nil _ _ _ _ _ | exact Kd.N_nil _ _ _ _ _ | exact Kd.V_nil _ _ _ _ _ | exact Kd.Q_nil _ _ _ _ _ | exact Kd.S_nil _ _ _ _ _, zw3_ HB GE263 GE264 GE265⟩
   ·replace c21 := Bool.eq_false_iff.mpr c21
    subst c21
    have H1 := H
    rw [if_neg (show ¬ (false = true) by decide)] at H1
    clear H
    have H := H1
    clear H1
    replace H := Option.bind_eq_some_iff.mp H
    obtain ⟨⟨t268, t269⟩, A250, H⟩ := H
    (try dsimp only at H)
    have A25 := Aside0.mk A250
    clear A250
    by_cases c26 : t269 = 0
    ·rw [if_pos c26] at H
     have c26b0 : (t269 == 0) = true := beq_iff_eq.mpr c26
     have c26b1 : (t269 != 0) = false := bne_eq_false_iff_eq.mpr c26
     clear c26
     replace H := Option.bind_eq_some_iff.mp H
     obtain ⟨⟨t272, t275, t278⟩, A270, H⟩ := H
     (try dsimp only at H)
     have A27 := Aside0.mk A270
     clear A270
     replace H := Option.bind_eq_some_iff.mp H
     obtain ⟨t280, A280, H⟩ := H
     (try dsimp only at H)
     have A28 := Aside0.mk A280
     clear A280
     replace H := Option.bind_eq_some_iff.mp H
     obtain ⟨t283, A290, H⟩ := H
     replace H : (tens_both_Mul.l0 kj2 t280 t283 (t275.length : Int) 0 l0_0 l0_1 l1_0 l1_1 t272 t275) = some (r1, r2, r3) := H
     have A29 := Aside0.mk A290
     clear A290
     have H' := Aside0.mk H
     clear H
     have hnb30 := NB263_264.out
     have hnc30 := NB264_263.out
     have hnb31 := NB263_265.out
     have hnc31 := NB265_263.out
     have hcz32_0 := zx_ (v := .slice A0_0 l0_0.length c0_0) BK263 0
     have hcz32_1 := zx_ (v := .slice A0_1 l0_1.length c0_1) BK263 1
     have hfz32_0 := blk_frozen BK263.out 0
     have hfz32_1 := blk_frozen BK263.out 1
     have hnb33 := NB264_265.out
     have hnc33 := NB265_264.out
     have hcz34_0 := zx_ (v := .slice A1_0 l1_0.length c1_0) BK264 0
     have hcz34_1 := zx_ (v := .slice A1_1 l1_1.length c1_1) BK264 1
     have hfz34_0 := blk_frozen BK264.out 0
     have hfz34_1 := blk_frozen BK264.out 1
     try go_wp2_with (first | ((with_reducible refine gate_callee (f := 54) rfl ?_); refine zg_ (some 29) Try.func54 #[.slice A0_0 l0_0.length c0_0, .slice A1_0 l1_0.length c1_0] (h := ?_); (with_reducible refine (shape_Join.calls kj2 _ _ l0_0 _ _ l1_0 t268 t269 _ ?side1 ?side2 ?side3 ?side4 A25.out).mono ?_); (case side1 => exact zk_ (Kd.C_below HR0_0.out HB.out)); (case side2 => exact HC0_0.out); (case side3 => exact zk_ (Kd.C_below HR1_0.out HB.out)); (case side4 => exact HC1_0.out); rintro e w35 ⟨v270, rfl, ho0, hb⟩; refine ⟨_, rfl, ?_⟩; have HO271 := Aside0.mk (Kd.R_lower ho0 (below_size (zw3_ HB GE263 GE264 GE265))); replace BK263 := Aside0.mk (zl_ BK263 hb); replace BK264 := Aside0.mk (zl_ BK264 hb); replace BK265 := Aside0.mk (zl_ BK265 hb); replace HB := Aside0.mk (below_step (zw3_ HB GE263 GE264 GE265) hb); (try clear hb); (try clear ho0); obtain ⟨Ao36, co36, eo36⟩ := Kd.R_slice HO271.out; subst eo36) | ((with_reducible refine gate_callee (f := 12) rfl ?_); refine zg_ (some 38) Try.func12 #[.slice Ao36 t268.length co36, .int .i64 0] (h := ?_); (with_reducible refine (tens_New.calls kj2 _ _ t268 0 t272 t275 t278 _ ?side1 ?side2 A27.out).mono ?_); (case side1 => exact zk_ ((Kd.R_reads' HO271.out).2.2)); (case side2 => exact (Kd.R_reads' HO271.out).2.1); rintro e w37 ⟨v273, v276, rfl, ho0, ho1, hb⟩; refine ⟨_, rfl, ?_⟩; have HO274 := Aside0.mk (Kd.R_lower (Kd.R_new' ho0 (Kd.R_lt (zr_ HO271.out))) (below_size (zw3_ HB GE263 GE264 GE265))); replace HO271 := Aside0.mk (Kd.R_elder' (zr_ HO271.out) (Kd.R_base ho0) hb); have HO277 := Aside0.mk (Kd.R_lower ho1 (below_size (zw3_ HB GE263 GE264 GE265))); replace BK263 := Aside0.mk (zl_ BK263 hb); replace BK264 := Aside0.mk (zl_ BK264 hb); replace BK265 := Aside0.mk (zl_ BK265 hb); replace HB := Aside0.mk (below_step (zw3_ HB GE263 GE264 GE265) hb); (try clear hb); (try clear ho0); (try clear ho1)) | ((with_reducible refine gate_dst (N := 10) rfl ?_); refine box_event ?hg (N := 10) ?hd (cs := #[.slice none 0 0, .slice none 0 0]) (t := 27) ?hr ?_; (case hd => rfl); (case hg => rfl); (case hr => first | (go_simp; done) | (go_simp; rfl)); intro gb279 hg w38 hbox hb; replace HO271 := Aside0.mk (Kd.R_below (zr_ HO271.out) hb); replace HO274 := Aside0.mk (Kd.R_below (zr_ HO274.out) hb); replace HO277 := Aside0.mk (Kd.R_below (zr_ HO277.out) hb); have BK279 := Aside0.mk (hbox); have GW279 := Aside0.mk (zs_ hg (zw3_ HB GE263 GE264 GE265)); have GE279 := Aside0.mk (zs_ hg (zw3_ HB GE263 GE264 GE265)); replace HB := Aside0.mk (below_step (zw3_ HB GE263 GE264 GE265) hb); have NB263_279 := Aside0.mk (zn_ hg BK263); have NB279_263 := Aside0.mk (zm_ hg BK263); replace BK263 := Aside0.mk (zl_ BK263 hb); have NB264_279 := Aside0.mk (zn_ hg BK264); have NB279_264 := Aside0.mk (zm_ hg BK264); replace BK264 := Aside0.mk (zl_ BK264 hb); have NB265_279 := Aside0.mk (zn_ hg BK265); have NB279_265 := Aside0.mk (zm_ hg BK265); replace BK265 := Aside0.mk (zl_ BK265 hb); clear hb hbox hg; obtain ⟨Ao39, co39, eo39⟩ := Kd.R_slice HO274.out; subst eo39; have hnb40 := NB279_263.out; have hnc40 := NB263_279.out; have hnb41 := NB279_264.out; have hnc41 := NB264_279.out; have hnb42 := NB279_265.out; have hnc42 := NB265_279.out; have hcz43_0 := zx_ (v := .slice none 0 0) BK279 0; have hcz43_1 := zx_ (v := .slice none 0 0) BK279 1; have hfz43_0 := blk_frozen BK279.out 0; have hfz43_1 := blk_frozen BK279.out 1; obtain ⟨Ao44, co44, eo44⟩ := Kd.R_slice HO277.out; subst eo44))
     have n0_ : Aside0 (Kd.R (Kd.int .i64) 3 ((w38.setCell ⟨gb279, 0, none⟩ (.slice Ao39 t272.length co39)).setCell ⟨gb279, 1, none⟩ (.slice Ao44 t275.length co44)) w.heap.size (fun k_ => some k_ ≠ (.slice Ao39 t272.length co39 : Value).ownBlock) (.slice Ao36 t268.length co36) t268) := ⟨zr_ (Kd.R_mono (Kd.R_far (p := ⟨gb279, 1, none⟩) (Kd.R_far (p := ⟨gb279, 0, none⟩) (Kd.R_types HO271.out BK279.out (by decide)) (fun _ hk => hk.2) (.slice Ao39 t272.length co39)) (fun _ hk => hk.2) (.slice Ao44 t275.length co44)) (fun _ hk => hk.1.2))⟩
     have n1_ : Aside0 (Kd.R (Kd.int .i64) 3 ((w38.setCell ⟨gb279, 0, none⟩ (.slice Ao39 t272.length co39)).setCell ⟨gb279, 1, none⟩ (.slice Ao44 t275.length co44)) w.heap.size (fun k_ => some k_ ≠ (.slice Ao36 t268.length co36 : Value).ownBlock) (.slice Ao39 t272.length co39) t272) := ⟨zr_ (Kd.R_mono (Kd.R_far (p := ⟨gb279, 1, none⟩) (Kd.R_far (p := ⟨gb279, 0, none⟩) (Kd.R_types HO274.out BK279.out (by decide)) (fun _ hk => hk.2) (.slice Ao39 t272.length co39)) (fun _ hk => hk.2) (.slice Ao44 t275.length co44)) (fun _ hk => hk.1.2))⟩
     have n2_ : Aside0 (Kd.R (Kd.int .i64) 23 ((w38.setCell ⟨gb279, 0, none⟩ (.slice Ao39 t272.length co39)).setCell ⟨gb279, 1, none⟩ (.slice Ao44 t275.length co44)) w.heap.size (fun _ => True) (.slice Ao44 t275.length co44) t275) := ⟨zr_ (Kd.R_mono (Kd.R_far (p := ⟨gb279, 1, none⟩) (Kd.R_far (p := ⟨gb279, 0, none⟩) (Kd.R_types HO277.out BK279.out (by decide)) (fun _ hk => hk.2) (.slice Ao39 t272.length co39)) (fun _ hk => hk.2) (.slice Ao44 t275.length co44)) (fun _ hk => trivial))⟩
     have n3_ : Aside0 (((w38.setCell ⟨gb279, 0, none⟩ (.slice Ao39 t272.length co39)).setCell ⟨gb279, 1, none⟩ (.slice Ao44 t275.length co44)).heap[gb263]? = some (.cells #[.slice A0_0 l0_0.length c0_0, .slice A0_1 l0_1.length c0_1] 27 (0, 0))) := ⟨by (with_reducible repeat (first | refine blk_drewN ?_ _ | refine blk_drew ?_ | refine blk_alloc ?_ _)); refine blk_far ?_ NB263_279.out _; (with_reducible repeat (first | refine blk_drewN ?_ _ | refine blk_drew ?_ | refine blk_alloc ?_ _)); refine blk_far ?_ NB263_279.out _; (with_reducible repeat (first | refine blk_drewN ?_ _ | refine blk_drew ?_ | refine blk_alloc ?_ _)); exact BK263.out⟩
     have n4_ : Aside0 (((w38.setCell ⟨gb279, 0, none⟩ (.slice Ao39 t272.length co39)).setCell ⟨gb279, 1, none⟩ (.slice Ao44 t275.length co44)).heap[gb264]? = some (.cells #[.slice A1_0 l1_0.length c1_0, .slice A1_1 l1_1.length c1_1] 27 (0, 0))) := ⟨by (with_reducible repeat (first | refine blk_drewN ?_ _ | refine blk_drew ?_ | refine blk_alloc ?_ _)); refine blk_far ?_ NB264_279.out _; (with_reducible repeat (first | refine blk_drewN ?_ _ | refine blk_drew ?_ | refine blk_alloc ?_ _)); refine blk_far ?_ NB264_279.out _; (with_reducible repeat (first | refine blk_drewN ?_ _ | refine blk_drew ?_ | refine blk_alloc ?_ _)); exact BK264.out⟩
     have n5_ : Aside0 (((w38.setCell ⟨gb279, 0, none⟩ (.slice Ao39 t272.length co39)).setCell ⟨gb279, 1, none⟩ (.slice Ao44 t275.length co44)).heap[gb265]? = some (.cells #[.slice none 0 0, .slice none 0 0] 27 (0, 0))) := ⟨by (with_reducible repeat (first | refine blk_drewN ?_ _ | refine blk_drew ?_ | refine blk_alloc ?_ _)); refine blk_far ?_ NB265_279.out _; (with_reducible repeat (first | refine blk_drewN ?_ _ | refine blk_drew ?_ | refine blk_alloc ?_ _)); refine blk_far ?_ NB265_279.out _; (with_reducible repeat (first | refine blk_drewN ?_ _ | refine blk_drew ?_ | refine blk_alloc ?_ _)); exact BK265.out⟩
     have n6_ : Aside0 (((w38.setCell ⟨gb279, 0, none⟩ (.slice Ao39 t272.length co39)).setCell ⟨gb279, 1, none⟩ (.slice Ao44 t275.length co44)).heap[gb279]? = some (.cells #[.slice Ao39 t272.length co39, .slice Ao44 t275.length co44] 27 (0, 0))) := ⟨by (with_reducible repeat (first | refine blk_drewN ?_ _ | refine blk_drew ?_ | refine blk_alloc ?_ _)); refine blk_put (cs := #[.slice Ao39 t272.length co39, .slice none 0 0]) ?_ 1 _ rfl; (with_reducible repeat (first | refine blk_drewN ?_ _ | refine blk_drew ?_ | refine blk_alloc ?_ _)); refine blk_put (cs := #[.slice none 0 0, .slice none 0 0]) ?_ 0 _ rfl; (with_reducible repeat (first | refine blk_drewN ?_ _ | refine blk_drew ?_ | refine blk_alloc ?_ _)); exact BK279.out⟩
     have n7_ : Aside0 (Below w.heap.size w ((w38.setCell ⟨gb279, 0, none⟩ (.slice Ao39 t272.length co39)).setCell ⟨gb279, 1, none⟩ (.slice Ao44 t275.length co44))) := ⟨zw4_ HB GE263 GE264 GE265 GE279⟩
     (try clear HO271)
     (try clear HO274)
     (try clear HO277)
     (try clear BK263)
     (try clear BK264)
     (try clear BK265)
     (try clear BK279)
     (try clear HB)
     generalize ((w38.setCell ⟨gb279, 0, none⟩ (.slice Ao39 t272.length co39)).setCell ⟨gb279, 1, none⟩ (.slice Ao44 t275.length co44)) = w45 at n0_ n1_ n2_ n3_ n4_ n5_ n6_ n7_ ⊢
     have HO271 := n0_
     have HO274 := n1_
     have HO277 := n2_
     have BK263 := n3_
     have BK264 := n4_
     have BK265 := n5_
     have BK279 := n6_
     have HB := n7_
     clear n0_ n1_ n2_ n3_ n4_ n5_ n6_ n7_
     replace HO271 := Aside0.mk (Kd.R_drew HO271.out)
     replace HO274 := Aside0.mk (Kd.R_drew HO274.out)
     replace HO277 := Aside0.mk (Kd.R_drew HO277.out)
     replace BK263 := Aside0.mk (blk_drew BK263.out)
     replace BK264 := Aside0.mk (blk_drew BK264.out)
     replace BK265 := Aside0.mk (blk_drew BK265.out)
     replace BK279 := Aside0.mk (blk_drew BK279.out)
     replace HB := Aside0.mk (below_drew1 HB.out)
     refine start_ (n := 10) (S := fun w' => w'.cell? ⟨gb263, 0, none⟩ = some (.slice A0_0 l0_0.length c0_0) ∧ w'.cell? ⟨gb263, 1, none⟩ = some (.slice A0_1 l0_1.length c0_1) ∧ w'.cell? ⟨gb264, 0, none⟩ = some (.slice A1_0 l1_0.length c1_0) ∧ w'.cell? ⟨gb264, 1, none⟩ = some (.slice A1_1 l1_1.length c1_1)) (ds := []) #[false, false, false, false, false, false, false, false, false, false] (by kernel_rfl) rfl rfl ⟨(blk_cell BK263.out 0).trans rfl, (blk_cell BK263.out 1).trans rfl, (blk_cell BK264.out 0).trans rfl, (blk_cell BK264.out 1).trans rfl⟩ (fun hHeld => ?_); refine with_tabW tens_both_Mul.tab7 tens_both_Mul.bits7 (fun HT_ HW_ => ?_)
     generalize w45.drew = w46 at HO271 HO274 HO277 BK263 BK264 BK265 BK279 HB hHeld ⊢
     refine zp_ 0 (some 41) (h := ?_)
     refine zp_ 2 (some 43) (h := ?_)
     refine zp_ 4 (some 45) (h := ?_)
     refine zp_ 6 (some 47) (h := ?_)
     refine zt_ 1 (some 42) (hr := by rintro w' ⟨s0, s1, s2, s3⟩; go_simp; with_reducible rfl) (h := ?_)
     refine zt_ 5 (some 46) (hr := by rintro w' ⟨s0, s1, s2, s3⟩; go_simp; with_reducible rfl) (h := ?_)
     refine one_ (i := 3) (N := some 44) #[true, true, true, true, true, true, true, false, false, false] rfl rfl (one_of HT_.out (by kernel_rfl)) (by decide) (fun K hK => ?_)
     refine goes_ Try.func55 (by kernel_rfl) rfl #[.slice A0_0 l0_0.length c0_0, .slice Ao36 t268.length co36] (by rfl) rfl rfl (by (try simp only [List.map_toArray, List.map_cons, List.map_nil]); first | done | rfl | (simp only [List.length_drop, List.length_take]; rfl)) ?_
     with_reducible refine (shape_Spread.calls kj2 _ _ l0_0 _ _ t268 t280 _ ?side1 ?side2 ?side3 ?side4 A28.out).mono ?_
     (case side1 => exact zk_ (Kd.C_below HR0_0.out HB.out))
     (case side2 => exact HC0_0.out)
     (case side3 => exact zk_ ((Kd.R_reads' HO271.out).2.2))
     (case side4 => exact (Kd.R_reads' HO271.out).2.1)
     rintro e w47 ⟨v281, rfl, ho0, hb⟩
     refine ⟨_, rfl, ?_⟩
     replace HO277 := Aside0.mk (Kd.R_below (zr_ HO277.out) hb)
     have HO282 := Aside0.mk (Kd.R_lower (Kd.R_new' (Kd.R_new' ho0 (Kd.R_lt (zr_ HO271.out))) (Kd.R_lt (zr_ HO274.out))) (below_size (zw4_ HB GE263 GE264 GE265 GE279)))
     replace HO271 := Aside0.mk (Kd.R_elder' (zr_ HO271.out) (Kd.R_base ho0) hb)
     replace HO274 := Aside0.mk (Kd.R_elder' (zr_ HO274.out) (Kd.R_base ho0) hb)
     replace BK263 := Aside0.mk (zl_ BK263 hb)
     replace BK264 := Aside0.mk (zl_ BK264 hb)
     replace BK265 := Aside0.mk (zl_ BK265 hb)
     replace BK279 := Aside0.mk (zl_ BK279 hb)
     replace HB := Aside0.mk (below_step (zw4_ HB GE263 GE264 GE265 GE279) hb)
     (try clear hb)
     (try clear hb2)
     (try clear hk)
     (try clear hi)
     (try clear ho0)
     refine hK.out _ _ ⟨(blk_cell BK263.out 0).trans rfl, (blk_cell BK263.out 1).trans rfl, (blk_cell BK264.out 0).trans rfl, (blk_cell BK264.out 1).trans rfl⟩ (fun hHeld => ?_)
     clear hK K
     refine zq_ (some 44) (h := ?_)
     refine one_ (i := 7) (N := some 48) #[true, true, true, true, true, true, true, true, false, false] rfl rfl (one_of HT_.out (by kernel_rfl)) (by decide) (fun K hK => ?_)
     refine goes_ Try.func55 (by kernel_rfl) rfl #[.slice A1_0 l1_0.length c1_0, .slice Ao36 t268.length co36] (by rfl) rfl rfl (by (try simp only [List.map_toArray, List.map_cons, List.map_nil]); first | done | rfl | (simp only [List.length_drop, List.length_take]; rfl)) ?_
     with_reducible refine (shape_Spread.calls kj2 _ _ l1_0 _ _ t268 t283 _ ?side1 ?side2 ?side3 ?side4 A29.out).mono ?_
     (case side1 => exact zk_ (Kd.C_below HR1_0.out HB.out))
     (case side2 => exact HC1_0.out)
     (case side3 => exact zk_ ((Kd.R_reads' HO271.out).2.2))
     (case side4 => exact (Kd.R_reads' HO271.out).2.1)
     rintro e w48 ⟨v284, rfl, ho0, hb⟩
     refine ⟨_, rfl, ?_⟩
     replace HO277 := Aside0.mk (Kd.R_below (zr_ HO277.out) hb)
     have HO285 := Aside0.mk (Kd.R_lower (Kd.R_new' (Kd.R_new' (Kd.R_new' ho0 (Kd.R_lt (zr_ HO271.out))) (Kd.R_lt (zr_ HO274.out))) (Kd.R_lt (zr_ HO282.out))) (below_size (zw4_ HB GE263 GE264 GE265 GE279)))
     replace HO271 := Aside0.mk (Kd.R_elder' (zr_ HO271.out) (Kd.R_base ho0) hb)
     replace HO274 := Aside0.mk (Kd.R_elder' (zr_ HO274.out) (Kd.R_base ho0) hb)
     replace HO282 := Aside0.mk (Kd.R_elder' (zr_ HO282.out) (Kd.R_base ho0) hb)
     replace BK263 := Aside0.mk (zl_ BK263 hb)
     replace BK264 := Aside0.mk (zl_ BK264 hb)
     replace BK265 := Aside0.mk (zl_ BK265 hb)
     replace BK279 := Aside0.mk (zl_ BK279 hb)
     replace HB := Aside0.mk (below_step (zw4_ HB GE263 GE264 GE265 GE279) hb)
     (try clear hb)
     (try clear hb2)
     (try clear hk)
     (try clear hi)
     (try clear ho0)
     refine hK.out _ _ ⟨(blk_cell BK263.out 0).trans rfl, (blk_cell BK263.out 1).trans rfl, (blk_cell BK264.out 0).trans rfl, (blk_cell BK264.out 1).trans rfl⟩ (fun hHeld => ?_)
     clear hK K
     refine zq_ (some 48) (h := ?_)
     refine zp_ 8 (some 12) (h := ?_)
     refine zp_ 9 (some 13) (h := ?_)
     refine done_ (done_of HT_.out (by kernel_rfl)) ?_
     have hcz49_0 := zx_ (v := .slice Ao39 t272.length co39) BK279 0
     have hcz49_1 := zx_ (v := .slice Ao44 t275.length co44) BK279 1
     have hfz49_0 := blk_frozen BK279.out 0
     have hfz49_1 := blk_frozen BK279.out 1
     try go_wp2
     go_loopg [52] kj2 (fun kq v52 w' => ∃ (x52_2 : Int) (x280001_2 : List Int) (u280001 : Value), v52 = .int .i64 x52_2 ∧ Aside0 (tens_both_Mul.l0 kq t280 t283 (t275.length : Int) x52_2 l0_0 l0_1 l1_0 l1_1 t272 x280001_2 = some (r1, r2, r3)) ∧ Aside0 (kq ≤ kj2) ∧ Aside0 (Kd.R (Kd.int .i64) 3 w' w.heap.size (fun k_ => some k_ ≠ (v284 : Value).ownBlock ∧ some k_ ≠ ((.slice Ao39 t272.length co39) : Value).ownBlock) v281 t280) ∧ Aside0 (Kd.R (Kd.int .i64) 3 w' w.heap.size (fun k_ => some k_ ≠ (v281 : Value).ownBlock ∧ some k_ ≠ ((.slice Ao39 t272.length co39) : Value).ownBlock) v284 t283) ∧ Aside0 (Kd.R (Kd.int .i64) 3 w' w.heap.size (fun k_ => some k_ ≠ (v281 : Value).ownBlock ∧ some k_ ≠ (v284 : Value).ownBlock) (.slice Ao39 t272.length co39) t272) ∧ Aside0 (Kd.R (Kd.int .i64) 23 w' w.heap.size (fun _ => True) u280001 x280001_2) ∧ Aside0 (w'.heap[gb263]? = some (.cells #[(.slice A0_0 l0_0.length c0_0), (.slice A0_1 l0_1.length c0_1)] 27 (0, 0))) ∧ Aside0 (w'.heap[gb264]? = some (.cells #[(.slice A1_0 l1_0.length c1_0), (.slice A1_1 l1_1.length c1_1)] 27 (0, 0))) ∧ Aside0 (w'.heap[gb265]? = some (.cells #[(.slice none 0 0), (.slice none 0 0)] 27 (0, 0))) ∧ Aside0 (w'.heap[gb279]? = some (.cells #[(.slice Ao39 t272.length co39), u280001] 27 (0, 0))) ∧ Aside0 (Below w.heap.size w w'))
     case atStart => exact ⟨(0), (t275), (.slice Ao44 t275.length co44), (by first | rfl | (simp; done) | (simp [*]; done)), H', ⟨Nat.le_refl _⟩, ⟨zr_ (Kd.R_mono HO282.out (fun _ hk => ⟨hk.2, hk.1.2⟩))⟩, ⟨zr_ (Kd.R_mono HO285.out (fun _ hk => ⟨hk.2, hk.1.2⟩))⟩, ⟨zr_ (Kd.R_mono HO274.out (fun _ hk => ⟨hk.1.2, hk.2⟩))⟩, ⟨zr_ HO277.out⟩, ⟨zb_ BK263⟩, ⟨zb_ BK264⟩, ⟨zb_ BK265⟩, ⟨zb_ BK279⟩, ⟨zw4_ HB GE263 GE264 GE265 GE279⟩⟩
     case round =>
      clear H'
      try clear c1
      try clear c2
      try clear p2
      try clear c3
      try clear c4
      try clear c5
      try clear c8
      try clear c10
      try clear c11
      try clear c12
      try clear c14
      try clear c16
      try clear c17
      try clear c18
      try clear c21
      try clear c22
      try clear c23
      try clear c26
      try clear c26b0
      try clear c26b1
      try clear c30
      try clear c31
      try clear c33
      try clear c40
      try clear c41
      try clear c42
      try clear hcz12_0
      try clear hcz12_1
      try clear hcz15_0
      try clear hcz15_1
      try clear hcz19_0
      try clear hcz19_1
      try clear hcz24_0
      try clear hcz24_1
      try clear hcz32_0
      try clear hcz32_1
      try clear hcz34_0
      try clear hcz34_1
      try clear hcz43_0
      try clear hcz43_1
      try clear hcz49_0
      try clear hcz49_1
      try clear hfz12_0
      try clear hfz12_1
      try clear hfz15_0
      try clear hfz15_1
      try clear hfz19_0
      try clear hfz19_1
      try clear hfz24_0
      try clear hfz24_1
      try clear hfz32_0
      try clear hfz32_1
      try clear hfz34_0
      try clear hfz34_1
      try clear hfz43_0
      try clear hfz43_1
      try clear hfz49_0
      try clear hfz49_1
      try clear p2
      obtain ⟨x52_2, x280001_2, u280001, rfl, HA, HK2, HO_12, HO_13, HO_280000, HO_280001, BK263, BK264, BK265, BK279, HB⟩ := hrel
      cases gk with
      | zero => exact absurd HA.out (by simp [tens_both_Mul.l0])
      | succ k2 =>
       have H := HA.out
       clear HA
       simp only [tens_both_Mul.l0] at H
       by_cases c50 : x52_2 < (t275.length : Int)
       ·rw [if_pos c50] at H
        have c50b0 : decide (x52_2 < (t275.length : Int)) = true := decide_eq_true c50
        clear c50
        by_cases c51 : 0 ≤ x52_2
        ·rw [if_pos c51] at H
         have c51b0 : decide (0 ≤ x52_2) = true := decide_eq_true c51
         clear c51
         by_cases c52 : x52_2 < (t280.length : Int)
         ·rw [if_pos c52] at H
          have c52b0 : decide (x52_2 < (t280.length : Int)) = true := decide_eq_true c52
          clear c52
          by_cases c53 : 0 ≤ (rd t280 x52_2)
          ·rw [if_pos c53] at H
           have c53b0 : decide (0 ≤ (rd t280 x52_2)) = true := decide_eq_true c53
           clear c53
           by_cases c54 : (rd t280 x52_2) < (l0_1.length : Int)
           ·rw [if_pos c54] at H
            have c54b0 : decide ((rd t280 x52_2) < (l0_1.length : Int)) = true := decide_eq_true c54
            clear c54
            by_cases c55 : x52_2 < (t283.length : Int)
            ·rw [if_pos c55] at H
             have c55b0 : decide (x52_2 < (t283.length : Int)) = true := decide_eq_true c55
             clear c55
             by_cases c56 : 0 ≤ (rd t283 x52_2)
             ·rw [if_pos c56] at H
              have c56b0 : decide (0 ≤ (rd t283 x52_2)) = true := decide_eq_true c56
              clear c56
              by_cases c57 : (rd t283 x52_2) < (l1_1.length : Int)
              ·rw [if_pos c57] at H
               have c57b0 : decide ((rd t283 x52_2) < (l1_1.length : Int)) = true := decide_eq_true c57
               clear c57
               replace H := Option.bind_eq_some_iff.mp H
               obtain ⟨t290, A580, H⟩ := H
               (try dsimp only at H)
               have A58 := Aside0.mk A580
               clear A580
               by_cases c59 : x52_2 < (x280001_2.length : Int)
               ·rw [if_pos c59] at H
                have c59b0 : decide (x52_2 < (x280001_2.length : Int)) = true := decide_eq_true c59
                clear c59
                obtain ⟨y291, hy291⟩ : ∃ y_ : List Int, y_ = (x280001_2.set (x52_2 : Int).toNat t290) := ⟨_, rfl⟩
                replace H : (tens_both_Mul.l0 k2 t280 t283 (t275.length : Int) (wrap64 (x52_2 + 1)) l0_0 l0_1 l1_0 l1_1 t272 y291) = some (r1, r2, r3) := by first | (rw [hy291]; with_reducible exact H) | (have H2_ := (Option.bind_some _ _).symm.trans H; rw [hy291]; with_reducible exact H2_) | (have H2_ := (Option.bind_some _ _).symm.trans H; with_reducible exact H2_) | with_reducible exact H | (rw [hy291]; exact H) | exact H
                have Ny291 := Aside0.mk hy291
                clear hy291
                have H' := Aside0.mk H
                clear H
                try go_wp2
                replace HO_12 := Aside0.mk (Kd.R_drew HO_12.out)
                replace HO_13 := Aside0.mk (Kd.R_drew HO_13.out)
                replace HO_280000 := Aside0.mk (Kd.R_drew HO_280000.out)
                replace HO_280001 := Aside0.mk (Kd.R_drew HO_280001.out)
                replace BK263 := Aside0.mk (blk_drew BK263.out)
                replace BK264 := Aside0.mk (blk_drew BK264.out)
                replace BK265 := Aside0.mk (blk_drew BK265.out)
                replace BK279 := Aside0.mk (blk_drew BK279.out)
                replace HB := Aside0.mk (below_drew1 HB.out)
                obtain ⟨Ao62, co62, eo62⟩ := Kd.R_slice HO_12.out
                (first | subst eo62 | (injection eo62 with f1_ f2_ f3_; have f4_ := f1_.symm; have f5_ := f3_.symm; clear f1_ f2_ f3_; subst f4_; subst f5_))
                have p286 : 0 ≤ (x52_2 : Int) := of_decide_eq_true (by first | (with_reducible assumption) | assumption)
                have q286 : x52_2 < (t280.length : Int) := of_decide_eq_true (by first | (with_reducible assumption) | assumption)
                obtain ⟨ad286, e286, hx286_0⟩ := Kd.at_int (Kd.R_reads' HO_12.out).2.2 x52_2 p286 q286
                cases e286
                replace p286 := eq_true p286
                replace q286 := eq_true q286
                have p287 : 0 ≤ ((rd t280 x52_2) : Int) := of_decide_eq_true (by first | (with_reducible assumption) | assumption)
                have q287 : (rd t280 x52_2) < (l0_1.length : Int) := of_decide_eq_true (by first | (with_reducible assumption) | assumption)
                obtain ⟨ad287, e287, hx287_0⟩ := Kd.at_int HR0_1.out (rd t280 x52_2) p287 q287
                have hw287_0 := hx287_0
                cases e287
                replace hx287_0 := (HB.out.cell (World.block_lt_of_cell? w _ hx287_0)).trans hx287_0
                replace p287 := eq_true p287
                replace q287 := eq_true q287
                obtain ⟨Ao63, co63, eo63⟩ := Kd.R_slice HO_13.out
                (first | subst eo63 | (injection eo63 with f1_ f2_ f3_; have f4_ := f1_.symm; have f5_ := f3_.symm; clear f1_ f2_ f3_; subst f4_; subst f5_))
                have p288 : 0 ≤ (x52_2 : Int) := of_decide_eq_true (by first | (with_reducible assumption) | assumption)
                have q288 : x52_2 < (t283.length : Int) := of_decide_eq_true (by first | (with_reducible assumption) | assumption)
                obtain ⟨ad288, e288, hx288_0⟩ := Kd.at_int (Kd.R_reads' HO_13.out).2.2 x52_2 p288 q288
                cases e288
                replace p288 := eq_true p288
                replace q288 := eq_true q288
                have p289 : 0 ≤ ((rd t283 x52_2) : Int) := of_decide_eq_true (by first | (with_reducible assumption) | assumption)
                have q289 : (rd t283 x52_2) < (l1_1.length : Int) := of_decide_eq_true (by first | (with_reducible assumption) | assumption)
                obtain ⟨ad289, e289, hx289_0⟩ := Kd.at_int HR1_1.out (rd t283 x52_2) p289 q289
                have hw289_0 := hx289_0
                cases e289
                replace hx289_0 := (HB.out.cell (World.block_lt_of_cell? w _ hx289_0)).trans hx289_0
                replace p289 := eq_true p289
                replace q289 := eq_true q289
                refine start_ (n := 23) (S := fun w' => w'.cell? ⟨gb279, 0, none⟩ = some (.slice Ao39 t272.length co39) ∧ w'.cell? ⟨gb279, 1, none⟩ = some (u280001) ∧ w'.cell? ⟨gb263, 0, none⟩ = some (.slice A0_0 l0_0.length c0_0) ∧ w'.cell? ⟨gb263, 1, none⟩ = some (.slice (some ad287) l0_1.length c0_1) ∧ w'.cell? ⟨gb264, 0, none⟩ = some (.slice A1_0 l1_0.length c1_0) ∧ w'.cell? ⟨gb264, 1, none⟩ = some (.slice (some ad289) l1_1.length c1_1) ∧ w'.cell? (ad286.add (x52_2).toNat) = some (.int .i64 (rd t280 x52_2)) ∧ w'.cell? (ad287.add ((rd t280 x52_2)).toNat) = some (.int .i64 (rd l0_1 (rd t280 x52_2))) ∧ w'.cell? (ad288.add (x52_2).toNat) = some (.int .i64 (rd t283 x52_2)) ∧ w'.cell? (ad289.add ((rd t283 x52_2)).toNat) = some (.int .i64 (rd l1_1 (rd t283 x52_2)))) (ds := [22]) #[false, false, false, false, false, false, false, false, false, false, false, false, false, false, false, false, false, false, false, false, false, false, false] (by kernel_rfl) rfl rfl ⟨(blk_cell BK279.out 0).trans rfl, (blk_cell BK279.out 1).trans rfl, (blk_cell BK263.out 0).trans rfl, (blk_cell BK263.out 1).trans rfl, (blk_cell BK264.out 0).trans rfl, (blk_cell BK264.out 1).trans rfl, hx286_0, ((HB.out.cell (World.block_lt_of_cell? w _ hw287_0)).trans hw287_0), hx288_0, ((HB.out.cell (World.block_lt_of_cell? w _ hw289_0)).trans hw289_0)⟩ (fun hHeld => ?_); refine with_tabW tens_both_Mul.tab11 tens_both_Mul.bits11 (fun HT_ HW_ => ?_)
                generalize wr.drew = w61 at HO_12 HO_13 HO_280000 HO_280001 BK263 BK264 BK265 BK279 HB hx286_0 hx287_0 hx288_0 hx289_0 hHeld ⊢
                refine zp_ 0 (some 55) (h := ?_)
                refine zp_ 2 (some 57) (h := ?_)
                refine zp_ 3 (some 58) (h := ?_)
                refine zp_ 4 (some 59) (h := ?_)
                refine zp_ 6 (some 61) (h := ?_)
                refine zp_ 7 (some 62) (h := ?_)
                refine zp_ 8 (some 63) (h := ?_)
                refine zp_ 12 (some 67) (h := ?_)
                refine zp_ 14 (some 69) (h := ?_)
                refine zp_ 15 (some 70) (h := ?_)
                refine zp_ 16 (some 71) (h := ?_)
                refine zt_ 1 (some 56) (hr := by rintro w' ⟨s0, s1, s2, s3, s4, s5, s6, s7, s8, s9⟩; go_simp; with_reducible rfl) (h := ?_)
                refine zt_ 5 (some 60) (hr := by rintro w' ⟨s0, s1, s2, s3, s4, s5, s6, s7, s8, s9⟩; go_simp; with_reducible rfl) (h := ?_)
                refine zt_ 9 (some 64) (hr := by rintro w' ⟨s0, s1, s2, s3, s4, s5, s6, s7, s8, s9⟩; go_simp; with_reducible rfl) (h := ?_)
                refine zp_ 10 (some 65) (h := ?_)
                refine zt_ 11 (some 66) (hr := by rintro w' ⟨s0, s1, s2, s3, s4, s5, s6, s7, s8, s9⟩; go_simp; with_reducible rfl) (h := ?_)
                refine zt_ 13 (some 68) (hr := by rintro w' ⟨s0, s1, s2, s3, s4, s5, s6, s7, s8, s9⟩; go_simp; with_reducible rfl) (h := ?_)
                refine zt_ 17 (some 72) (hr := by rintro w' ⟨s0, s1, s2, s3, s4, s5, s6, s7, s8, s9⟩; go_simp; with_reducible rfl) (h := ?_)
                refine zp_ 18 (some 73) (h := ?_)
                refine zt_ 19 (some 74) (hr := by rintro w' ⟨s0, s1, s2, s3, s4, s5, s6, s7, s8, s9⟩; go_simp; with_reducible rfl) (h := ?_)
                refine one_ (i := 20) (N := some 75) #[true, true, true, true, true, true, true, true, true, true, true, true, true, true, true, true, true, true, true, true, true, false, false] rfl rfl (one_of HT_.out (by kernel_rfl)) (by decide) (fun K hK => ?_)
                refine goesT100_ (t := .tmp 58) Try.func44 (by kernel_rfl) rfl #[.int .i64 (rd l0_1 (rd t280 x52_2)), .int .i64 (rd l1_1 (rd t283 x52_2))] (by rfl) rfl rfl (by first | rfl | (go_simp; done) | (go_simp; rfl)) (by (try simp only [List.map_toArray, List.map_cons, List.map_nil]); first | done | rfl | (simp only [List.length_drop, List.length_take]; rfl)) ?_
                with_reducible refine (fix_Mul.calls k2 (rd l0_1 (rd t280 x52_2)) (rd l1_1 (rd t283 x52_2)) t290 _ A58.out).mono ?_
                rintro e w' ⟨rfl, ⟨nd, rfl⟩⟩
                refine ⟨_, rfl, ?_⟩
                have p60 : 0 ≤ (x52_2 : Int) := of_decide_eq_true (by first | (with_reducible assumption) | assumption)
                have q60 : (x52_2 : Int) < ((x280001_2.length : Int) : Int) := of_decide_eq_true (by first | (with_reducible assumption) | assumption)
                obtain ⟨go60, co60, eo60, gb60, gl60, cl60, HG60⟩ := Kd.R_form HO_280001.out (by omega)
                (first | cases eo60 | (injection eo60 with ea_ en_ ec_; (first | subst ea_ | (injection ea_ with ea_; subst ea_)); subst ec_; clear en_))
                have GB60 := Aside0.mk gb60
                have GG60 := Aside0.mk HG60
                clear gb60 gl60 HG60
                obtain ⟨hx60_0, hf60_0⟩ := Kd.R_celln 0 HO_280001.out (x52_2 : Int) p60 q60
                replace p60 := eq_true p60
                replace q60 := eq_true q60
                have HP64 := Kd.R_putn HO_280001.out (x52_2 : Int) t290
                rw [← Ny291.out] at HP64
                have HQ64 := Aside0.mk HP64
                clear HP64
                refine hK.out _ _ ⟨(blk_cell BK279.out 0).trans rfl, (blk_cell BK279.out 1).trans rfl, (blk_cell BK263.out 0).trans rfl, (blk_cell BK263.out 1).trans rfl, (blk_cell BK264.out 0).trans rfl, (blk_cell BK264.out 1).trans rfl, hHeld.2.2.2.2.2.2.1, ((HB.out.cell (World.block_lt_of_cell? w _ hw287_0)).trans hw287_0), hHeld.2.2.2.2.2.2.2.2.1, ((HB.out.cell (World.block_lt_of_cell? w _ hw289_0)).trans hw289_0)⟩ (fun hHeld => ?_)
                clear hK K
                refine zq_ (some 75) (h := ?_)
                refine zp_ 21 (some 76) (h := ?_)
                refine last_ (i := 22) (N := none) #[true, true, true, true, true, true, true, true, true, true, true, true, true, true, true, true, true, true, true, true, true, true, true] rfl rfl (one_of HT_.out (by kernel_rfl)) (by decide) (fun K hK => ?_)
                refine skip_ (w1 := ?_) (by rfl) rfl ?_ ?_
                rotate_left
                ·go_simp
                 rfl
                refine hK.out _ _ ?_
                clear hK K
                refine done_ (done_of HT_.out (by kernel_rfl)) ?_
                try go_wp2
                go_roundg k2
                case measure => have := HJ2.out; have := HK2.out; omega
                case rel => exact ⟨(wrap64 (x52_2 + 1)), (y291), (.slice (some ⟨go60, 0, none⟩) x280001_2.length co60), (by first | rfl | (simp; done) | (simp [*]; done)), H', ⟨by have := HJ2.out; have := HK2.out; omega⟩, ⟨zr_ (Kd.R_mono (Kd.R_far (p := ⟨go60, (x52_2 : Int).toNat, none⟩) (Kd.R_types HO_12.out GG60.out (by decide)) (fun _ hk => hk.2) (.int .i64 t290)) (fun _ hk => ⟨hk.1.1, hk.1.2⟩))⟩, ⟨zr_ (Kd.R_mono (Kd.R_far (p := ⟨go60, (x52_2 : Int).toNat, none⟩) (Kd.R_types HO_13.out GG60.out (by decide)) (fun _ hk => hk.2) (.int .i64 t290)) (fun _ hk => ⟨hk.1.1, hk.1.2⟩))⟩, ⟨zr_ (Kd.R_mono (Kd.R_far (p := ⟨go60, (x52_2 : Int).toNat, none⟩) (Kd.R_types HO_280000.out GG60.out (by decide)) (fun _ hk => hk.2) (.int .i64 t290)) (fun _ hk => ⟨hk.1.1, hk.1.2⟩))⟩, ⟨zr_ HQ64.out⟩, ⟨by (with_reducible repeat (first | refine blk_drewN ?_ _ | refine blk_drew ?_ | refine blk_alloc ?_ _)); refine blk_far ?_ (by have h_ := Kd.R_ne HO_280001.out BK263.out (by decide); intro e_; exact h_ (by rw [e_]; rfl)) _; (with_reducible repeat (first | refine blk_drewN ?_ _ | refine blk_drew ?_ | refine blk_alloc ?_ _)); exact BK263.out⟩, ⟨by (with_reducible repeat (first | refine blk_drewN ?_ _ | refine blk_drew ?_ | refine blk_alloc ?_ _)); refine blk_far ?_ (by have h_ := Kd.R_ne HO_280001.out BK264.out (by decide); intro e_; exact h_ (by rw [e_]; rfl)) _; (with_reducible repeat (first | refine blk_drewN ?_ _ | refine blk_drew ?_ | refine blk_alloc ?_ _)); exact BK264.out⟩, ⟨by (with_reducible repeat (first | refine blk_drewN ?_ _ | refine blk_drew ?_ | refine blk_alloc ?_ _)); refine blk_far ?_ (by have h_ := Kd.R_ne HO_280001.out BK265.out (by decide); intro e_; exact h_ (by rw [e_]; rfl)) _; (with_reducible repeat (first | refine blk_drewN ?_ _ | refine blk_drew ?_ | refine blk_alloc ?_ _)); exact BK265.out⟩, ⟨by (with_reducible repeat (first | refine blk_drewN ?_ _ | refine blk_drew ?_ | refine blk_alloc ?_ _)); refine blk_far ?_ (by have h_ := Kd.R_ne HO_280001.out BK279.out (by decide); intro e_; exact h_ (by rw [e_]; rfl)) _; (with_reducible repeat (first | refine blk_drewN ?_ _ | refine blk_drew ?_ | refine blk_alloc ?_ _)); exact BK279.out⟩, ⟨by repeat (first | (with_reducible first | exact HB.out | apply below_alloc | apply pw_below_drewN | apply below_drew1 | refine below_set ?_ GB60.out | refine below_set ?_ GE263.out | refine below_set ?_ GE264.out | refine below_set ?_ GE265.out | refine below_set ?_ GE279.out) | exact HB.out)⟩⟩
               ·rw [if_neg c59] at H
                exact absurd H (by simp)
              ·rw [if_neg c57] at H
               exact absurd H (by simp)
             ·rw [if_neg c56] at H
              exact absurd H (by simp)
            ·rw [if_neg c55] at H
             exact absurd H (by simp)
           ·rw [if_neg c54] at H
            exact absurd H (by simp)
          ·rw [if_neg c53] at H
           exact absurd H (by simp)
         ·rw [if_neg c52] at H
          exact absurd H (by simp)
        ·rw [if_neg c51] at H
         exact absurd H (by simp)
       ·rw [if_neg c50] at H
        have c50b0 : decide (x52_2 < (t275.length : Int)) = false := decide_eq_false c50
        clear c50
        simp only [Option.some.injEq, Prod.mk.injEq] at H
        obtain ⟨rfl, rfl, rfl⟩ := H
        have hnb65 := NB279_263.out
        have hnc65 := NB263_279.out
        have hnb66 := NB279_264.out
        have hnc66 := NB264_279.out
        have hnb67 := NB279_265.out
        have hnc67 := NB265_279.out
        have hcz68_0 := zx_ (v := .slice Ao39 t272.length co39) BK279 0
        have hcz68_1 := zx_ (v := u280001) BK279 1
        have hfz68_0 := blk_frozen BK279.out 0
        have hfz68_1 := blk_frozen BK279.out 1
        have hnb69 := NB265_263.out
        have hnc69 := NB263_265.out
        have hnb70 := NB265_264.out
        have hnc70 := NB264_265.out
        have hcz71_0 := zx_ (v := .slice none 0 0) BK265 0
        have hcz71_1 := zx_ (v := .slice none 0 0) BK265 1
        have hfz71_0 := blk_frozen BK265.out 0
        have hfz71_1 := blk_frozen BK265.out 1
        obtain ⟨Ao72, co72, eo72⟩ := Kd.R_slice HO_280001.out
        subst eo72
        go_wp2
        refine bodyPost_ret (results_ct rfl _ _ gb265 27 #[.slice Ao39 t272.length co39, .slice Ao72 x280001_2.length co72] (0, 0) _ rfl (by (with_reducible repeat (first | refine blk_drewN ?_ _ | refine blk_drew ?_ | refine blk_alloc ?_ _)); refine blk_put (cs := #[.slice Ao39 t272.length co39, .slice none 0 0]) ?_ 1 _ rfl; (with_reducible repeat (first | refine blk_drewN ?_ _ | refine blk_drew ?_ | refine blk_alloc ?_ _)); refine blk_put (cs := #[.slice none 0 0, .slice none 0 0]) ?_ 0 _ rfl; (with_reducible repeat (first | refine blk_drewN ?_ _ | refine blk_drew ?_ | refine blk_alloc ?_ _)); exact BK265.out) Try.underlying27 rfl (by kernel_rfl)) rfl ?_
        exact ⟨_, _, by first | rfl | (simp [errW_none, errW_some] <;> rfl) | (simp [*, errW_none, errW_some] <;> rfl), zr_ (Kd.R_mono (Kd.R_far (p := ⟨gb265, 1, none⟩) (Kd.R_far (p := ⟨gb265, 0, none⟩) (Kd.R_types HO_280000.out BK265.out (by decide)) (fun _ hk => hk.2) (.slice Ao39 t272.length co39)) (fun _ hk => hk.2) (.slice Ao72 x280001_2.length co72)) (fun _ hk => trivial)), zr_ (Kd.R_mono (Kd.R_far (p := ⟨gb265, 1, none⟩) (Kd.R_far (p := ⟨gb265, 0, none⟩) (Kd.R_types HO_280001.out BK265.out (by decide)) (fun _ hk => hk.2) (.slice Ao39 t272.length co39)) (fun _ hk => hk.2) (.slice Ao72 x280001_2.length co72)) (fun _ hk => trivial)), zw4_ HB GE263 GE264 GE265 GE279⟩
    ·rw [if_neg c26] at H
     have c26b0 : (t269 == 0) = false := beq_eq_false_iff_ne.mpr c26
     have c26b1 : (t269 != 0) = true := bne_iff_ne.mpr c26
     simp only [Option.some.injEq, Prod.mk.injEq] at H
     obtain ⟨rfl, rfl, rfl⟩ := H
     have hnb73 := NB263_264.out
     have hnc73 := NB264_263.out
     have hnb74 := NB263_265.out
     have hnc74 := NB265_263.out
     have hcz75_0 := zx_ (v := .slice A0_0 l0_0.length c0_0) BK263 0
     have hcz75_1 := zx_ (v := .slice A0_1 l0_1.length c0_1) BK263 1
     have hfz75_0 := blk_frozen BK263.out 0
     have hfz75_1 := blk_frozen BK263.out 1
     have hnb76 := NB264_265.out
     have hnc76 := NB265_264.out
     have hcz77_0 := zx_ (v := .slice A1_0 l1_0.length c1_0) BK264 0
     have hcz77_1 := zx_ (v := .slice A1_1 l1_1.length c1_1) BK264 1
     have hfz77_0 := blk_frozen BK264.out 0
     have hfz77_1 := blk_frozen BK264.out 1
     go_wp2_with (first | ((with_reducible refine gate_callee (f := 54) rfl ?_); refine zg_ (some 29) Try.func54 #[.slice A0_0 l0_0.length c0_0, .slice A1_0 l1_0.length c1_0] (h := ?_); (with_reducible refine (shape_Join.calls kj2 _ _ l0_0 _ _ l1_0 t268 t269 _ ?side1 ?side2 ?side3 ?side4 A25.out).mono ?_); (case side1 => exact zk_ (Kd.C_below HR0_0.out HB.out)); (case side2 => exact HC0_0.out); (case side3 => exact zk_ (Kd.C_below HR1_0.out HB.out)); (case side4 => exact HC1_0.out); rintro e w78 ⟨v270, rfl, ho0, hb⟩; refine ⟨_, rfl, ?_⟩; have HO271 := Aside0.mk (Kd.R_lower ho0 (below_size (zw3_ HB GE263 GE264 GE265))); replace BK263 := Aside0.mk (zl_ BK263 hb); replace BK264 := Aside0.mk (zl_ BK264 hb); replace BK265 := Aside0.mk (zl_ BK265 hb); replace HB := Aside0.mk (below_step (zw3_ HB GE263 GE264 GE265) hb); (try clear hb); (try clear ho0); have hcz79_0 := zx_ (v := .slice none 0 0) BK265 0; have hcz79_1 := zx_ (v := .slice none 0 0) BK265 1; have hfz79_0 := blk_frozen BK265.out 0; have hfz79_1 := blk_frozen BK265.out 1))
     refine bodyPost_ret (results_ct rfl _ _ gb265 27 #[.slice none 0 0, .slice none 0 0] (0, 0) _ rfl (by (with_reducible repeat (first | refine blk_drewN ?_ _ | refine blk_drew ?_ | refine blk_alloc ?_ _)); refine blk_put (cs := #[.slice none 0 0, .slice none 0 0]) ?_ 1 _ rfl; (with_reducible repeat (first | refine blk_drewN ?_ _ | refine blk_drew ?_ | refine blk_alloc ?_ _)); refine blk_put (cs := #[.slice none 0 0, .slice none 0 0]) ?_ 0 _ rfl; (with_reducible repeat (first | refine blk_drewN ?_ _ | refine blk_drew ?_ | refine blk_alloc ?_ _)); exact BK265.out) Try.underlying27 rfl (by kernel_rfl)) rfl ?_
     exact ⟨_, _, by first | rfl | (simp [errW_none, errW_some] <;> rfl) | (simp [*, errW_none, errW_some] <;> rfl), by first | exact Kd.R_nil _ _ _ _ _ | exact Kd.N_nil _ _ _ _ _ | exact Kd.V_nil _ _ _ _ _ | exact Kd.Q_nil _ _ _ _ _ | exact Kd.S_nil _ _ _ _ _, by first | exact Kd.R_nil _ _ _ _ _ | exact Kd.N_nil _ _ _ _ _ | exact Kd.V_nil _ _ _ _ _ | exact Kd.Q_nil _ _ _ _ _ | exact Kd.S_nil _ _ _ _ _, zw3_ HB GE263 GE264 GE265⟩

end Go.Proofs.Ytbdhabpplidgfaa.PTensNone
