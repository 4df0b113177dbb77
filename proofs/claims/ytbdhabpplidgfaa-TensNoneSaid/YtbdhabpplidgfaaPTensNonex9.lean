/- The functions that the law TensNone reaches, as Lean functions, and that each call of the Go function does what its Lean function says, wherever that one answers. Written by a program of mine over the print of the kit; Lean checks it. -/
import Derived.Test.YtbdhabpplidgfaaPTensNonex0
import Derived.Test.YtbdhabpplidgfaaPTensNonex1
import Derived.Test.YtbdhabpplidgfaaPTensNonex2
import Derived.Test.YtbdhabpplidgfaaPTensNonex3
import Derived.Test.YtbdhabpplidgfaaPTensNonex6
namespace Go.Proofs.Ytbdhabpplidgfaa.PTensNone
open Go.RowKit Go.Proofs.YtbdhabpplidgfaaW.PrintWords Go.Proofs.YtbdhabpplidgfaaW.PrintLast Go.Proofs.YtbdhabpplidgfaaW.PrintMore
attribute [local go_sem] max2_int min2_int max_two min_two max_three min_three max_four min_four   -- for this text's walks alone
set_option linter.unusedVariables false
set_option linter.unusedSimpArgs false
theorem goesT101_ {P : Program} {ops : Array Oper} {Q : Exit → Act → World → Prop} {oi : Oper} {N : Option Tmp} {a : Act} {w : World} {K : Act → World → Prop} {f : FuncId} {fn : Func} {t : Operand} {xs : Array Operand} {ts : Array TypeId} (hf : P.funcs[f]? = some fn) (hname : (fn.name == "runtime.NumGoroutine") = false) (hb : fn.body.isSome = true) (args : Array Value)
  (hw : Region.wanted oi (yielded ops a.tmps) = true) (hN : oi.dst = N) (hop : oi.op = .call { callee := .value t, args := xs, argTypes := ts }) (hcal : a.eval t = .func (.func f) #[] #[]) (hargs : xs.map a.eval = args)
  (h : Calls P f args w fun e w' => ∃ v, e = .returned v ∧ K (a.put N v) w') : if Region.wanted oi (yielded ops a.tmps) = true then Oper.wp P oi a w K Q else K (a.put N undef) w := by
 refine call_ f args hw hN ?_ h
 have he := enters_ hf hname hb args w
 unfold execOp
 simp [hop, resolve, Deferred.ofValue, invoke, hcal, hargs, he]

/-! ### tens_both_Sub: function 101 -/
mutual
def tens_both_Sub.j0 : Nat → Bool → List Int → List Int → List Int → List Int → Option (List Int × List Int × Int)
 | 0, _, _, _, _, _ => none
 | k + 1, x22, x293000, x293001, x294000, x294001 => if x22 = true then (some (([] : List Int), ([] : List Int), 1)) else ((shape_Join.f k x293000 x294000).bind fun bt297 => (if bt297.2 = 0 then ((tens_New.f k bt297.1 0).bind fun bt301 => ((shape_Spread.f k x293000 bt297.1).bind fun t309 => ((shape_Spread.f k x294000 bt297.1).bind fun t312 => (tens_both_Sub.l0 k t309 t312 (bt301.2.1.length : Int) 0 x293000 x293001 x294000 x294001 bt301.1 bt301.2.1)))) else (some (([] : List Int), ([] : List Int), bt297.2))))
def tens_both_Sub.l0 : Nat → List Int → List Int → Int → Int → List Int → List Int → List Int → List Int → List Int → List Int → Option (List Int × List Int × Int)
 | 0, _, _, _, _, _, _, _, _, _, _ => none
 | k + 1, x12, x13, x51, x52, x293000, x293001, x294000, x294001, x309000, x309001 => if x52 < x51 then (if 0 ≤ x52 then (if x52 < (x12.length : Int) then (if 0 ≤ (rd x12 x52) then (if (rd x12 x52) < (x293001.length : Int) then (if x52 < (x13.length : Int) then (if 0 ≤ (rd x13 x52) then (if (rd x13 x52) < (x294001.length : Int) then ((fix_Sub.f k (rd x293001 (rd x12 x52)) (rd x294001 (rd x13 x52))).bind fun t319 => (if x52 < (x309001.length : Int) then (tens_both_Sub.l0 k x12 x13 x51 (wrap64 (x52 + 1)) x293000 x293001 x294000 x294001 x309000 (x309001.set (x52 : Int).toNat t319)) else (none))) else (none)) else (none)) else (none)) else (none)) else (none)) else (none)) else (none)) else (some (x309000, x309001, 0))
end
def tens_both_Sub.f (k : Nat) (l0_0 : List Int) (l0_1 : List Int) (l1_0 : List Int) (l1_1 : List Int) : Option (List Int × List Int × Int) := (tens_Good.f k l0_0 l0_1).bind fun t295 => (if t295 = true then ((tens_Good.f k l1_0 l1_1).bind fun t296 => (tens_both_Sub.j0 k (!t296) l0_0 l0_1 l1_0 l1_1)) else (tens_both_Sub.j0 k true l0_0 l0_1 l1_0 l1_1))
theorem tens_both_Sub.mono_l : ∀ k, (∀ y0 y1 y2 y3 y4, LeO (tens_both_Sub.j0 k y0 y1 y2 y3 y4) (tens_both_Sub.j0 (k + 1) y0 y1 y2 y3 y4)) ∧ (∀ y0 y1 y2 y3 y4 y5 y6 y7 y8 y9, LeO (tens_both_Sub.l0 k y0 y1 y2 y3 y4 y5 y6 y7 y8 y9) (tens_both_Sub.l0 (k + 1) y0 y1 y2 y3 y4 y5 y6 y7 y8 y9))
 | 0 => ⟨fun _ _ _ _ _ r h => by simp [tens_both_Sub.j0] at h, fun _ _ _ _ _ _ _ _ _ _ r h => by simp [tens_both_Sub.l0] at h⟩
 | k + 1 => by
  obtain ⟨ih0, ih1⟩ := tens_both_Sub.mono_l k
  refine ⟨?_, ?_⟩
  ·intro y0 y1 y2 y3 y4
   unfold tens_both_Sub.j0
   repeat' first
   | (with_reducible exact ih0 _ _ _ _ _)
   | (with_reducible exact ih1 _ _ _ _ _ _ _ _ _ _)
   | (with_reducible exact shape_Join.mono _ _ _)
   | (with_reducible exact shape_Spread.mono _ _ _)
   | (with_reducible exact tens_New.mono _ _ _)
   | (with_reducible exact LeO.refl _)
   | (with_reducible exact LeO.none _)
   | (with_reducible refine LeO.ite ?_ ?_)
   | (with_reducible refine LeO.bind ?_ (fun _ => ?_))
   | exact ih0 _ _ _ _ _
   | exact ih1 _ _ _ _ _ _ _ _ _ _
   | exact shape_Join.mono _ _ _
   | exact shape_Spread.mono _ _ _
   | exact tens_New.mono _ _ _
   | exact LeO.none _
   | refine LeO.ite ?_ ?_
   | refine LeO.bind ?_ (fun _ => ?_)
  ·intro y0 y1 y2 y3 y4 y5 y6 y7 y8 y9
   unfold tens_both_Sub.l0
   repeat' first
   | (with_reducible exact ih0 _ _ _ _ _)
   | (with_reducible exact ih1 _ _ _ _ _ _ _ _ _ _)
   | (with_reducible exact fix_Sub.mono _ _ _)
   | (with_reducible exact LeO.refl _)
   | (with_reducible exact LeO.none _)
   | (with_reducible refine LeO.ite ?_ ?_)
   | (with_reducible refine LeO.bind ?_ (fun _ => ?_))
   | exact ih0 _ _ _ _ _
   | exact ih1 _ _ _ _ _ _ _ _ _ _
   | exact fix_Sub.mono _ _ _
   | exact LeO.none _
   | refine LeO.ite ?_ ?_
   | refine LeO.bind ?_ (fun _ => ?_)
theorem tens_both_Sub.mono : ∀ a0 a1 a2 a3 k, LeO (tens_both_Sub.f k a0 a1 a2 a3) (tens_both_Sub.f (k + 1) a0 a1 a2 a3) := by
 intro a0 a1 a2 a3 k
 obtain ⟨ih0, ih1⟩ := tens_both_Sub.mono_l k
 unfold tens_both_Sub.f
 repeat' first
   | (with_reducible exact ih0 _ _ _ _ _)
   | (with_reducible exact ih1 _ _ _ _ _ _ _ _ _ _)
   | (with_reducible exact tens_Good.mono _ _ _)
   | (with_reducible exact LeO.refl _)
   | (with_reducible exact LeO.none _)
   | (with_reducible refine LeO.ite ?_ ?_)
   | (with_reducible refine LeO.bind ?_ (fun _ => ?_))
   | exact ih0 _ _ _ _ _
   | exact ih1 _ _ _ _ _ _ _ _ _ _
   | exact tens_Good.mono _ _ _
   | exact LeO.none _
   | refine LeO.ite ?_ ?_
   | refine LeO.bind ?_ (fun _ => ?_)
def tens_both_Sub.T7 : Bool × List (List Nat × List Nat) := (true, [([], []), ([0], [0]), ([], []), ([1, 2], [1, 2]), ([], []), ([4], [4]), ([], []), ([5, 6, 3], [5, 6]), ([3, 7, 0, 1, 2, 3], [3]), ([7, 8, 0, 1, 2, 3, 4, 5, 6, 7, 8], [7])])
def tens_both_Sub.B7 : List Nat := [0, 1, 0, 7, 0, 16, 0, 127, 255, 511]
theorem tens_both_Sub.tab7 : rtab .any (opsOf Try.f39 7) = tens_both_Sub.T7 := by kernel_rfl
theorem tens_both_Sub.bits7 : waitsOk tens_both_Sub.T7.2 tens_both_Sub.B7 = true := by kernel_rfl
def tens_both_Sub.T11 : Bool × List (List Nat × List Nat) := (true, [([], []), ([0], [0]), ([], []), ([], []), ([], []), ([4], [4]), ([], []), ([], []), ([6, 7], [6, 7]), ([8], [8]), ([5, 9], [5, 9]), ([10], [10]), ([], []), ([12], [12]), ([], []), ([], []), ([14, 15], [14, 15]), ([16], [16]), ([13, 17], [13, 17]), ([18], [18]), ([3, 11, 19], [3, 11, 19]), ([1, 2, 0, 1, 2, 3, 4, 5, 6, 7, 8, 9, 10, 11, 12, 13, 14, 15, 16, 17, 18, 19, 20], [1, 2]), ([21, 20, 20, 0, 1, 2, 3, 4, 5, 6, 7, 8, 9, 10, 11, 12, 13, 14, 15, 16, 17, 18, 19, 20], [20, 21])])
def tens_both_Sub.B11 : List Nat := [0, 1, 0, 0, 0, 16, 0, 0, 192, 448, 1008, 2032, 0, 4096, 0, 0, 49152, 114688, 258048, 520192, 1048568, 2097151, 4194303]
theorem tens_both_Sub.tab11 : rtab .any (opsOf Try.f39 11) = tens_both_Sub.T11 := by kernel_rfl
theorem tens_both_Sub.bits11 : waitsOk tens_both_Sub.T11.2 tens_both_Sub.B11 = true := by kernel_rfl
set_option maxHeartbeats 8000000 in
set_option maxRecDepth 100000 in
theorem tens_both_Sub.calls (k : Nat) (A0_0 : Option Addr) (c0_0 : Nat) (l0_0 : List Int) (A0_1 : Option Addr) (c0_1 : Nat) (l0_1 : List Int) (A1_0 : Option Addr) (c1_0 : Nat) (l1_0 : List Int) (A1_1 : Option Addr) (c1_1 : Nat) (l1_1 : List Int) (r1 : List Int) (r2 : List Int) (r3 : Int) (w : World) (hr0_0 : Kd.C (Kd.int .i64) w A0_0 l0_0.length l0_0) (hc0_0 : l0_0.length ≤ c0_0) (hr0_1 : Kd.C (Kd.int .i64) w A0_1 l0_1.length l0_1) (hc0_1 : l0_1.length ≤ c0_1) (hr1_0 : Kd.C (Kd.int .i64) w A1_0 l1_0.length l1_0) (hc1_0 : l1_0.length ≤ c1_0) (hr1_1 : Kd.C (Kd.int .i64) w A1_1 l1_1.length l1_1) (hc1_1 : l1_1.length ≤ c1_1) (h : tens_both_Sub.f k l0_0 l0_1 l1_0 l1_1 = some (r1, r2, r3)) :
  Calls Try.prog 39 #[.agg #[.slice A0_0 l0_0.length c0_0, .slice A0_1 l0_1.length c0_1], .agg #[.slice A1_0 l1_0.length c1_0, .slice A1_1 l1_1.length c1_1], .func (.func 45) #[] #[]] w fun e w' => ∃ v0_ v1_ : Value, e = .returned (.tuple #[.agg #[v0_, v1_], .int .i64 r3]) ∧ Kd.R (Kd.int .i64) 3 w' w.heap.size (fun _ => True) v0_ r1 ∧ Kd.R (Kd.int .i64) 23 w' w.heap.size (fun _ => True) v1_ r2 ∧ Below w.heap.size w w' := by
 have hu27 := Try.underlying27
 have HR0_0 := Aside0.mk hr0_0
 have HC0_0 := Aside0.mk hc0_0
 clear hr0_0 hc0_0
 have HR0_1 := Aside0.mk hr0_1
 have HC0_1 := Aside0.mk hc0_1
 clear hr0_1 hc0_1
 have HR1_0 := Aside0.mk hr1_0
 have HC1_0 := Aside0.mk hc1_0
 clear hr1_0 hc1_0
 have HR1_1 := Aside0.mk hr1_1
 have HC1_1 := Aside0.mk hc1_1
 clear hr1_1 hc1_1
 have HB := Aside0.mk (Below.refl w.heap.size w)
 have H : ((tens_Good.f k l0_0 l0_1).bind fun t295 => (if t295 = true then ((tens_Good.f k l1_0 l1_1).bind fun t296 => (tens_both_Sub.j0 k (!t296) l0_0 l0_1 l1_0 l1_1)) else (tens_both_Sub.j0 k true l0_0 l0_1 l1_0 l1_1))) = some (r1, r2, r3) := h
 clear h
 have HC3 := Aside0.mk H
 clear H
 go_enter Try.func39, Try.ntmps39
 go_upto_region 1 with (first | ((with_reducible refine gate_dst (N := 3) rfl ?_); refine box_event ?hg (N := 3) ?hd (cs := #[.slice A0_0 l0_0.length c0_0, .slice A0_1 l0_1.length c0_1]) (t := 27) ?hr ?_; (case hd => rfl); (case hg => rfl); (case hr => first | (go_simp; done) | (go_simp; rfl)); intro gb292 hg w4 hbox hb; have BK292 := Aside0.mk (hbox); have GW292 := Aside0.mk (zs_ hg (zw0_ HB)); have GE292 := Aside0.mk (zs_ hg (zw0_ HB)); replace HB := Aside0.mk (below_step (zw0_ HB) hb); clear hb hbox hg) | ((with_reducible refine gate_dst (N := 4) rfl ?_); refine box_event ?hg (N := 4) ?hd (cs := #[.slice A1_0 l1_0.length c1_0, .slice A1_1 l1_1.length c1_1]) (t := 27) ?hr ?_; (case hd => rfl); (case hg => rfl); (case hr => first | (go_simp; done) | (go_simp; rfl)); intro gb293 hg w5 hbox hb; have BK293 := Aside0.mk (hbox); have GW293 := Aside0.mk (zs_ hg (zw1_ HB GE292)); have GE293 := Aside0.mk (zs_ hg (zw1_ HB GE292)); replace HB := Aside0.mk (below_step (zw1_ HB GE292) hb); have NB292_293 := Aside0.mk (zn_ hg BK292); have NB293_292 := Aside0.mk (zm_ hg BK292); replace BK292 := Aside0.mk (zl_ BK292 hb); clear hb hbox hg) | ((with_reducible refine gate_dst (N := 6) rfl ?_); refine box_event ?hg (N := 6) ?hd (cs := #[.slice none 0 0, .slice none 0 0]) (t := 27) ?hr ?_; (case hd => rfl); (case hg => rfl); (case hr => first | (go_simp; done) | (go_simp; rfl)); intro gb294 hg w6 hbox hb; have BK294 := Aside0.mk (hbox); have GW294 := Aside0.mk (zs_ hg (zw2_ HB GE292 GE293)); have GE294 := Aside0.mk (zs_ hg (zw2_ HB GE292 GE293)); replace HB := Aside0.mk (below_step (zw2_ HB GE292 GE293) hb); have NB292_294 := Aside0.mk (zn_ hg BK292); have NB294_292 := Aside0.mk (zm_ hg BK292); replace BK292 := Aside0.mk (zl_ BK292 hb); have NB293_294 := Aside0.mk (zn_ hg BK293); have NB294_293 := Aside0.mk (zm_ hg BK293); replace BK293 := Aside0.mk (zl_ BK293 hb); clear hb hbox hg))
 (try simp only [Act.put, List.setIfInBounds_toArray, List.set_cons_zero, List.set_cons_succ])
 go_cut [22] (fun v22 wc => ∃ (kq : Nat) (x22_2 : Bool), v22 = .bool x22_2 ∧ Aside0 (tens_both_Sub.j0 kq x22_2 l0_0 l0_1 l1_0 l1_1 = some (r1, r2, r3)) ∧ Aside0 (kq ≤ k) ∧ Aside0 (wc.heap[gb292]? = some (.cells #[(.slice A0_0 l0_0.length c0_0), (.slice A0_1 l0_1.length c0_1)] 27 (0, 0))) ∧ Aside0 (wc.heap[gb293]? = some (.cells #[(.slice A1_0 l1_0.length c1_0), (.slice A1_1 l1_1.length c1_1)] 27 (0, 0))) ∧ Aside0 (wc.heap[gb294]? = some (.cells #[(.slice none 0 0), (.slice none 0 0)] 27 (0, 0))) ∧ Aside0 (Below w.heap.size w wc))
 case first =>
  have H := HC3.out
  clear HC3
  replace H := Option.bind_eq_some_iff.mp H
  obtain ⟨t295, A70, H⟩ := H
  (try dsimp only at H)
  have A7 := Aside0.mk A70
  clear A70
  by_cases c8 : t295 = true
  ·subst c8
   have H1 := H
   rw [if_pos rfl] at H1
   clear H
   have H := H1
   clear H1
   replace H := Option.bind_eq_some_iff.mp H
   obtain ⟨t296, A90, H⟩ := H
   replace H : (tens_both_Sub.j0 k (!t296) l0_0 l0_1 l1_0 l1_1) = some (r1, r2, r3) := H
   have A9 := Aside0.mk A90
   clear A90
   have H' := Aside0.mk H
   clear H
   have hnb10 := NB292_293.out
   have hnc10 := NB293_292.out
   have hnb11 := NB292_294.out
   have hnc11 := NB294_292.out
   have hcz12_0 := zx_ (v := .slice A0_0 l0_0.length c0_0) BK292 0
   have hcz12_1 := zx_ (v := .slice A0_1 l0_1.length c0_1) BK292 1
   have hfz12_0 := blk_frozen BK292.out 0
   have hfz12_1 := blk_frozen BK292.out 1
   go_wp2_with (first | ((with_reducible refine gate_callee (f := 16) rfl ?_); refine zg_ (some 16) Try.func16 #[.agg #[.slice A0_0 l0_0.length c0_0, .slice A0_1 l0_1.length c0_1]] (h := ?_); (with_reducible refine (tens_Good.calls k _ _ l0_0 _ _ l0_1 true _ ?side1 ?side2 ?side3 ?side4 A7.out).mono ?_); (case side1 => exact zk_ (Kd.C_below HR0_0.out HB.out)); (case side2 => exact HC0_0.out); (case side3 => exact zk_ (Kd.C_below HR0_1.out HB.out)); (case side4 => exact HC0_1.out); rintro e w13 ⟨rfl, hb⟩; refine ⟨_, rfl, ?_⟩; replace BK292 := Aside0.mk (zl_ BK292 hb); replace BK293 := Aside0.mk (zl_ BK293 hb); replace BK294 := Aside0.mk (zl_ BK294 hb); replace HB := Aside0.mk (below_step (zw3_ HB GE292 GE293 GE294) hb); (try clear hb); have hnb14 := NB293_294.out; have hnc14 := NB294_293.out; have hcz15_0 := zx_ (v := .slice A1_0 l1_0.length c1_0) BK293 0; have hcz15_1 := zx_ (v := .slice A1_1 l1_1.length c1_1) BK293 1; have hfz15_0 := blk_frozen BK293.out 0; have hfz15_1 := blk_frozen BK293.out 1) | (go_at_call 16; (with_reducible refine (tens_Good.calls k _ _ l1_0 _ _ l1_1 t296 _ ?side1 ?side2 ?side3 ?side4 A9.out).mono ?_); (case side1 => exact zk_ (Kd.C_below HR1_0.out HB.out)); (case side2 => exact HC1_0.out); (case side3 => exact zk_ (Kd.C_below HR1_1.out HB.out)); (case side4 => exact HC1_1.out); rintro e w16 ⟨rfl, hb⟩; replace BK292 := Aside0.mk (zl_ BK292 hb); replace BK293 := Aside0.mk (zl_ BK293 hb); replace BK294 := Aside0.mk (zl_ BK294 hb); replace HB := Aside0.mk (below_step (zw3_ HB GE292 GE293 GE294) hb); (try clear hb)))
   go_meet
   case rel => exact ⟨_, (!t296), (by first | rfl | (simp; done) | (simp [*]; done)), H', ⟨by first | omega | exact Nat.le_refl _⟩, ⟨zb_ BK292⟩, ⟨zb_ BK293⟩, ⟨zb_ BK294⟩, ⟨zw3_ HB GE292 GE293 GE294⟩⟩
  ·replace c8 := Bool.eq_false_iff.mpr c8
   subst c8
   have H1 : (tens_both_Sub.j0 k true l0_0 l0_1 l1_0 l1_1) = some (r1, r2, r3) := by rw [if_neg (show ¬ (false = true) by decide)] at H; exact H
   clear H
   have H := H1
   clear H1
   have H' := Aside0.mk H
   clear H
   have hnb17 := NB292_293.out
   have hnc17 := NB293_292.out
   have hnb18 := NB292_294.out
   have hnc18 := NB294_292.out
   have hcz19_0 := zx_ (v := .slice A0_0 l0_0.length c0_0) BK292 0
   have hcz19_1 := zx_ (v := .slice A0_1 l0_1.length c0_1) BK292 1
   have hfz19_0 := blk_frozen BK292.out 0
   have hfz19_1 := blk_frozen BK292.out 1
   go_wp2_with (first | ((with_reducible refine gate_callee (f := 16) rfl ?_); refine zg_ (some 16) Try.func16 #[.agg #[.slice A0_0 l0_0.length c0_0, .slice A0_1 l0_1.length c0_1]] (h := ?_); (with_reducible refine (tens_Good.calls k _ _ l0_0 _ _ l0_1 false _ ?side1 ?side2 ?side3 ?side4 A7.out).mono ?_); (case side1 => exact zk_ (Kd.C_below HR0_0.out HB.out)); (case side2 => exact HC0_0.out); (case side3 => exact zk_ (Kd.C_below HR0_1.out HB.out)); (case side4 => exact HC0_1.out); rintro e w20 ⟨rfl, hb⟩; refine ⟨_, rfl, ?_⟩; replace BK292 := Aside0.mk (zl_ BK292 hb); replace BK293 := Aside0.mk (zl_ BK293 hb); replace BK294 := Aside0.mk (zl_ BK294 hb); replace HB := Aside0.mk (below_step (zw3_ HB GE292 GE293 GE294) hb); (try clear hb)))
   go_meet
   case rel => exact ⟨_, (true), (by first | rfl | (simp; done) | (simp [*]; done)), H', ⟨by first | omega | exact Nat.le_refl _⟩, ⟨zb_ BK292⟩, ⟨zb_ BK293⟩, ⟨zb_ BK294⟩, ⟨zw3_ HB GE292 GE293 GE294⟩⟩
 case rest =>
  clear HC3
  try clear c1
  try clear p2
  try clear c8
  try clear c10
  try clear c11
  try clear c14
  try clear c16
  try clear c17
  try clear c18
  try clear hcz12_0
  try clear hcz12_1
  try clear hcz15_0
  try clear hcz15_1
  try clear hcz19_0
  try clear hcz19_1
  try clear hfz12_0
  try clear hfz12_1
  try clear hfz15_0
  try clear hfz15_1
  try clear hfz19_0
  try clear hfz19_1
  obtain ⟨kq, x22_2, rfl, HA, HJ2, BK292, BK293, BK294, HB⟩ := hcut
  cases kq with
  | zero => exact absurd HA.out (by simp [tens_both_Sub.j0])
  | succ kj2 =>
   have H := HA.out
   clear HA
   simp only [tens_both_Sub.j0] at H
   by_cases c21 : x22_2 = true
   ·subst c21
    have H1 : (some (([] : List Int), ([] : List Int), 1)) = some (r1, r2, r3) := by rw [if_pos rfl] at H; exact H
    clear H
    have H := H1
    clear H1
    simp only [Option.some.injEq, Prod.mk.injEq] at H
    obtain ⟨rfl, rfl, rfl⟩ := H
    have hnb22 := NB294_292.out
    have hnc22 := NB292_294.out
    have hnb23 := NB294_293.out
    have hnc23 := NB293_294.out
    have hcz24_0 := zx_ (v := .slice none 0 0) BK294 0
    have hcz24_1 := zx_ (v := .slice none 0 0) BK294 1
    have hfz24_0 := blk_frozen BK294.out 0
    have hfz24_1 := blk_frozen BK294.out 1
    go_wp2
    refine bodyPost_ret (results_ct rfl _ _ gb294 27 #[.slice none 0 0, .slice none 0 0] (0, 0) _ rfl (by (with_reducible repeat (first | refine blk_drewN ?_ _ | refine blk_drew ?_ | refine blk_alloc ?_ _)); refine blk_put (cs := #[.slice none 0 0, .slice none 0 0]) ?_ 1 _ rfl; (with_reducible repeat (first | refine blk_drewN ?_ _ | refine blk_drew ?_ | refine blk_alloc ?_ _)); refine blk_put (cs := #[.slice none 0 0, .slice none 0 0]) ?_ 0 _ rfl; (with_reducible repeat (first | refine blk_drewN ?_ _ | refine blk_drew ?_ | refine blk_alloc ?_ _)); exact BK294.out) Try.underlying27 rfl (by kernel_rfl)) rfl ?_
    exact ⟨_, _, by first | rfl | (simp [errW_none, errW_some] <;> rfl) | (simp [*, errW_none, errW_some] <;> rfl), by first | exact Kd.R_nil _ _ _ _ _ | exact Kd.N_nil _ _ _ _ _ | exact Kd.V_nil _ _ _ _ _ | exact Kd.Q_nil _ _ _ _ _ | exact Kd.S_nil _ _ _ _ _, by first | exact Kd.R_nil _ _ _ _ _ | exact Kd.N_nil _ _ _ _ _ | exact Kd.V_nil _ _ _ _ _ | exact Kd.Q_nil _ _ _ _ _ | exact Kd.S_nil _ _ _ _ _, zw3_ HB GE292 GE293 GE294⟩
   ·replace c21 := Bool.eq_false_iff.mpr c21
    subst c21
    have H1 := H
    rw [if_neg (show ¬ (false = true) by decide)] at H1
    clear H
    have H := H1
    clear H1
    replace H := Option.bind_eq_some_iff.mp H
    obtain ⟨⟨t297, t298⟩, A250, H⟩ := H
    (try dsimp only at H)
    have A25 := Aside0.mk A250
    clear A250
    by_cases c26 : t298 = 0
    ·rw [if_pos c26] at H
     have c26b0 : (t298 == 0) = true := beq_iff_eq.mpr c26
     have c26b1 : (t298 != 0) = false := bne_eq_false_iff_eq.mpr c26
     clear c26
     replace H := Option.bind_eq_some_iff.mp H
     obtain ⟨⟨t301, t304, t307⟩, A270, H⟩ := H
     (try dsimp only at H)
     have A27 := Aside0.mk A270
     clear A270
     replace H := Option.bind_eq_some_iff.mp H
     obtain ⟨t309, A280, H⟩ := H
     (try dsimp only at H)
     have A28 := Aside0.mk A280
     clear A280
     replace H := Option.bind_eq_some_iff.mp H
     obtain ⟨t312, A290, H⟩ := H
     replace H : (tens_both_Sub.l0 kj2 t309 t312 (t304.length : Int) 0 l0_0 l0_1 l1_0 l1_1 t301 t304) = some (r1, r2, r3) := H
     have A29 := Aside0.mk A290
     clear A290
     have H' := Aside0.mk H
     clear H
     have hnb30 := NB292_293.out
     have hnc30 := NB293_292.out
     have hnb31 := NB292_294.out
     have hnc31 := NB294_292.out
     have hcz32_0 := zx_ (v := .slice A0_0 l0_0.length c0_0) BK292 0
     have hcz32_1 := zx_ (v := .slice A0_1 l0_1.length c0_1) BK292 1
     have hfz32_0 := blk_frozen BK292.out 0
     have hfz32_1 := blk_frozen BK292.out 1
     have hnb33 := NB293_294.out
     have hnc33 := NB294_293.out
     have hcz34_0 := zx_ (v := .slice A1_0 l1_0.length c1_0) BK293 0
     have hcz34_1 := zx_ (v := .slice A1_1 l1_1.length c1_1) BK293 1
     have hfz34_0 := blk_frozen BK293.out 0
     have hfz34_1 := blk_frozen BK293.out 1
     try go_wp2_with (first | ((with_reducible refine gate_callee (f := 54) rfl ?_); refine zg_ (some 29) Try.func54 #[.slice A0_0 l0_0.length c0_0, .slice A1_0 l1_0.length c1_0] (h := ?_); (with_reducible refine (shape_Join.calls kj2 _ _ l0_0 _ _ l1_0 t297 t298 _ ?side1 ?side2 ?side3 ?side4 A25.out).mono ?_); (case side1 => exact zk_ (Kd.C_below HR0_0.out HB.out)); (case side2 => exact HC0_0.out); (case side3 => exact zk_ (Kd.C_below HR1_0.out HB.out)); (case side4 => exact HC1_0.out); rintro e w35 ⟨v299, rfl, ho0, hb⟩; refine ⟨_, rfl, ?_⟩; have HO300 := Aside0.mk (Kd.R_lower ho0 (below_size (zw3_ HB GE292 GE293 GE294))); replace BK292 := Aside0.mk (zl_ BK292 hb); replace BK293 := Aside0.mk (zl_ BK293 hb); replace BK294 := Aside0.mk (zl_ BK294 hb); replace HB := Aside0.mk (below_step (zw3_ HB GE292 GE293 GE294) hb); (try clear hb); (try clear ho0); obtain ⟨Ao36, co36, eo36⟩ := Kd.R_slice HO300.out; subst eo36) | ((with_reducible refine gate_callee (f := 12) rfl ?_); refine zg_ (some 38) Try.func12 #[.slice Ao36 t297.length co36, .int .i64 0] (h := ?_); (with_reducible refine (tens_New.calls kj2 _ _ t297 0 t301 t304 t307 _ ?side1 ?side2 A27.out).mono ?_); (case side1 => exact zk_ ((Kd.R_reads' HO300.out).2.2)); (case side2 => exact (Kd.R_reads' HO300.out).2.1); rintro e w37 ⟨v302, v305, rfl, ho0, ho1, hb⟩; refine ⟨_, rfl, ?_⟩; have HO303 := Aside0.mk (Kd.R_lower (Kd.R_new' ho0 (Kd.R_lt (zr_ HO300.out))) (below_size (zw3_ HB GE292 GE293 GE294))); replace HO300 := Aside0.mk (Kd.R_elder' (zr_ HO300.out) (Kd.R_base ho0) hb); have HO306 := Aside0.mk (Kd.R_lower ho1 (below_size (zw3_ HB GE292 GE293 GE294))); replace BK292 := Aside0.mk (zl_ BK292 hb); replace BK293 := Aside0.mk (zl_ BK293 hb); replace BK294 := Aside0.mk (zl_ BK294 hb); replace HB := Aside0.mk (below_step (zw3_ HB GE292 GE293 GE294) hb); (try clear hb); (try clear ho0); (try clear ho1)) | ((with_reducible refine gate_dst (N := 10) rfl ?_); refine box_event ?hg (N := 10) ?hd (cs := #[.slice none 0 0, .slice none 0 0]) (t := 27) ?hr ?_; (case hd => rfl); (case hg => rfl); (case hr => first | (go_simp; done) | (go_simp; rfl)); intro gb308 hg w38 hbox hb; replace HO300 := Aside0.mk (Kd.R_below (zr_ HO300.out) hb); replace HO303 := Aside0.mk (Kd.R_below (zr_ HO303.out) hb); replace HO306 := Aside0.mk (Kd.R_below (zr_ HO306.out) hb); have BK308 := Aside0.mk (hbox); have GW308 := Aside0.mk (zs_ hg (zw3_ HB GE292 GE293 GE294)); have GE308 := Aside0.mk (zs_ hg (zw3_ HB GE292 GE293 GE294)); replace HB := Aside0.mk (below_step (zw3_ HB GE292 GE293 GE294) hb); have NB292_308 := Aside0.mk (zn_ hg BK292); have NB308_292 := Aside0.mk (zm_ hg BK292); replace BK292 := Aside0.mk (zl_ BK292 hb); have NB293_308 := Aside0.mk (zn_ hg BK293); have NB308_293 := Aside0.mk (zm_ hg BK293); replace BK293 := Aside0.mk (zl_ BK293 hb); have NB294_308 := Aside0.mk (zn_ hg BK294); have NB308_294 := Aside0.mk (zm_ hg BK294); replace BK294 := Aside0.mk (zl_ BK294 hb); clear hb hbox hg; obtain ⟨Ao39, co39, eo39⟩ := Kd.R_slice HO303.out; subst eo39; have hnb40 := NB308_292.out; have hnc40 := NB292_308.out; have hnb41 := NB308_293.out; have hnc41 := NB293_308.out; have hnb42 := NB308_294.out; have hnc42 := NB294_308.out; have hcz43_0 := zx_ (v := .slice none 0 0) BK308 0; have hcz43_1 := zx_ (v := .slice none 0 0) BK308 1; have hfz43_0 := blk_frozen BK308.out 0; have hfz43_1 := blk_frozen BK308.out 1; obtain ⟨Ao44, co44, eo44⟩ := Kd.R_slice HO306.out; subst eo44))
     have n0_ : Aside0 (Kd.R (Kd.int .i64) 3 ((w38.setCell ⟨gb308, 0, none⟩ (.slice Ao39 t301.length co39)).setCell ⟨gb308, 1, none⟩ (.slice Ao44 t304.length co44)) w.heap.size (fun k_ => some k_ ≠ (.slice Ao39 t301.length co39 : Value).ownBlock) (.slice Ao36 t297.length co36) t297) := ⟨zr_ (Kd.R_mono (Kd.R_far (p := ⟨gb308, 1, none⟩) (Kd.R_far (p := ⟨gb308, 0, none⟩) (Kd.R_types HO300.out BK308.out (by decide)) (fun _ hk => hk.2) (.slice Ao39 t301.length co39)) (fun _ hk => hk.2) (.slice Ao44 t304.length co44)) (fun _ hk => hk.1.2))⟩
     have n1_ : Aside0 (Kd.R (Kd.int .i64) 3 ((w38.setCell ⟨gb308, 0, none⟩ (.slice Ao39 t301.length co39)).setCell ⟨gb308, 1, none⟩ (.slice Ao44 t304.length co44)) w.heap.size (fun k_ => some k_ ≠ (.slice Ao36 t297.length co36 : Value).ownBlock) (.slice Ao39 t301.length co39) t301) := ⟨zr_ (Kd.R_mono (Kd.R_far (p := ⟨gb308, 1, none⟩) (Kd.R_far (p := ⟨gb308, 0, none⟩) (Kd.R_types HO303.out BK308.out (by decide)) (fun _ hk => hk.2) (.slice Ao39 t301.length co39)) (fun _ hk => hk.2) (.slice Ao44 t304.length co44)) (fun _ hk => hk.1.2))⟩
     have n2_ : Aside0 (Kd.R (Kd.int .i64) 23 ((w38.setCell ⟨gb308, 0, none⟩ (.slice Ao39 t301.length co39)).setCell ⟨gb308, 1, none⟩ (.slice Ao44 t304.length co44)) w.heap.size (fun _ => True) (.slice Ao44 t304.length co44) t304) := ⟨zr_ (Kd.R_mono (Kd.R_far (p := ⟨gb308, 1, none⟩) (Kd.R_far (p := ⟨gb308, 0, none⟩) (Kd.R_types HO306.out BK308.out (by decide)) (fun _ hk => hk.2) (.slice Ao39 t301.length co39)) (fun _ hk => hk.2) (.slice Ao44 t304.length co44)) (fun _ hk => trivial))⟩
     have n3_ : Aside0 (((w38.setCell ⟨gb308, 0, none⟩ (.slice Ao39 t301.length co39)).setCell ⟨gb308, 1, none⟩ (.slice Ao44 t304.length co44)).heap[gb292]? = some (.cells #[.slice A0_0 l0_0.length c0_0, .slice A0_1 l0_1.length c0_1] 27 (0, 0))) := ⟨by (with_reducible repeat (first | refine blk_drewN ?_ _ | refine blk_drew ?_ | refine blk_alloc ?_ _)); refine blk_far ?_ NB292_308.out _; (with_reducible repeat (first | refine blk_drewN ?_ _ | refine blk_drew ?_ | refine blk_alloc ?_ _)); refine blk_far ?_ NB292_308.out _; (with_reducible repeat (first | refine blk_drewN ?_ _ | refine blk_drew ?_ | refine blk_alloc ?_ _)); exact BK292.out⟩
     have n4_ : Aside0 (((w38.setCell ⟨gb308, 0, none⟩ (.slice Ao39 t301.length co39)).setCell ⟨gb308, 1, none⟩ (.slice Ao44 t304.length co44)).heap[gb293]? = some (.cells #[.slice A1_0 l1_0.length c1_0, .slice A1_1 l1_1.length c1_1] 27 (0, 0))) := ⟨by (with_reducible repeat (first | refine blk_drewN ?_ _ | refine blk_drew ?_ | refine blk_alloc ?_ _)); refine blk_far ?_ NB293_308.out _; (with_reducible repeat (first | refine blk_drewN ?_ _ | refine blk_drew ?_ | refine blk_alloc ?_ _)); refine blk_far ?_ NB293_308.out _; (with_reducible repeat (first | refine blk_drewN ?_ _ | refine blk_drew ?_ | refine blk_alloc ?_ _)); exact BK293.out⟩
     have n5_ : Aside0 (((w38.setCell ⟨gb308, 0, none⟩ (.slice Ao39 t301.length co39)).setCell ⟨gb308, 1, none⟩ (.slice Ao44 t304.length co44)).heap[gb294]? = some (.cells #[.slice none 0 0, .slice none 0 0] 27 (0, 0))) := ⟨by (with_reducible repeat (first | refine blk_drewN ?_ _ | refine blk_drew ?_ | refine blk_alloc ?_ _)); refine blk_far ?_ NB294_308.out _; (with_reducible repeat (first | refine blk_drewN ?_ _ | refine blk_drew ?_ | refine blk_alloc ?_ _)); refine blk_far ?_ NB294_308.out _; (with_reducible repeat (first | refine blk_drewN ?_ _ | refine blk_drew ?_ | refine blk_alloc ?_ _)); exact BK294.out⟩
     have n6_ : Aside0 (((w38.setCell ⟨gb308, 0, none⟩ (.slice Ao39 t301.length co39)).setCell ⟨gb308, 1, none⟩ (.slice Ao44 t304.length co44)).heap[gb308]? = some (.cells #[.slice Ao39 t301.length co39, .slice Ao44 t304.length co44] 27 (0, 0))) := ⟨by (with_reducible repeat (first | refine blk_drewN ?_ _ | refine blk_drew ?_ | refine blk_alloc ?_ _)); refine blk_put (cs := #[.slice Ao39 t301.length co39, .slice none 0 0]) ?_ 1 _ rfl; (with_reducible repeat (first | refine blk_drewN ?_ _ | refine blk_drew ?_ | refine blk_alloc ?_ _)); refine blk_put (cs := #[.slice none 0 0, .slice none 0 0]) ?_ 0 _ rfl; (with_reducible repeat (first | refine blk_drewN ?_ _ | refine blk_drew ?_ | refine blk_alloc ?_ _)); exact BK308.out⟩
     have n7_ : Aside0 (Below w.heap.size w ((w38.setCell ⟨gb308, 0, none⟩ (.slice Ao39 t301.length co39)).setCell ⟨gb308, 1, none⟩ (.slice Ao44 t304.length co44))) := ⟨zw4_ HB GE292 GE293 GE294 GE308⟩
     (try clear HO300)
     (try clear HO303)
     (try clear HO306)
     (try clear BK292)
     (try clear BK293)
     (try clear BK294)
     (try clear BK308)
     (try clear HB)
     generalize ((w38.setCell ⟨gb308, 0, none⟩ (.slice Ao39 t301.length co39)).setCell ⟨gb308, 1, none⟩ (.slice Ao44 t304.length co44)) = w45 at n0_ n1_ n2_ n3_ n4_ n5_ n6_ n7_ ⊢
     have HO300 := n0_
     have HO303 := n1_
     have HO306 := n2_
     have BK292 := n3_
     have BK293 := n4_
     have BK294 := n5_
     have BK308 := n6_
     have HB := n7_
     clear n0_ n1_ n2_ n3_ n4_ n5_ n6_ n7_
     replace HO300 := Aside0.mk (Kd.R_drew HO300.out)
     replace HO303 := Aside0.mk (Kd.R_drew HO303.out)
     replace HO306 := Aside0.mk (Kd.R_drew HO306.out)
     replace BK292 := Aside0.mk (blk_drew BK292.out)
     replace BK293 := Aside0.mk (blk_drew BK293.out)
     replace BK294 := Aside0.mk (blk_drew BK294.out)
     replace BK308 := Aside0.mk (blk_drew BK308.out)
     replace HB := Aside0.mk (below_drew1 HB.out)
     refine start_ (n := 10) (S := fun w' => w'.cell? ⟨gb292, 0, none⟩ = some (.slice A0_0 l0_0.length c0_0) ∧ w'.cell? ⟨gb292, 1, none⟩ = some (.slice A0_1 l0_1.length c0_1) ∧ w'.cell? ⟨gb293, 0, none⟩ = some (.slice A1_0 l1_0.length c1_0) ∧ w'.cell? ⟨gb293, 1, none⟩ = some (.slice A1_1 l1_1.length c1_1)) (ds := []) #[false, false, false, false, false, false, false, false, false, false] (by kernel_rfl) rfl rfl ⟨(blk_cell BK292.out 0).trans rfl, (blk_cell BK292.out 1).trans rfl, (blk_cell BK293.out 0).trans rfl, (blk_cell BK293.out 1).trans rfl⟩ (fun hHeld => ?_); refine with_tabW tens_both_Sub.tab7 tens_both_Sub.bits7 (fun HT_ HW_ => ?_)
     generalize w45.drew = w46 at HO300 HO303 HO306 BK292 BK293 BK294 BK308 HB hHeld ⊢
     refine zp_ 0 (some 41) (h := ?_)
     refine zp_ 2 (some 43) (h := ?_)
     refine zp_ 4 (some 45) (h := ?_)
     refine zp_ 6 (some 47) (h := ?_)
     refine zt_ 1 (some 42) (hr := by rintro w' ⟨s0, s1, s2, s3⟩; go_simp; with_reducible rfl) (h := ?_)
     refine zt_ 5 (some 46) (hr := by rintro w' ⟨s0, s1, s2, s3⟩; go_simp; with_reducible rfl) (h := ?_)
     refine one_ (i := 3) (N := some 44) #[true, true, true, true, true, true, true, false, false, false] rfl rfl (one_of HT_.out (by kernel_rfl)) (by decide) (fun K hK => ?_)
     refine goes_ Try.func55 (by kernel_rfl) rfl #[.slice A0_0 l0_0.length c0_0, .slice Ao36 t297.length co36] (by rfl) rfl rfl (by (try simp only [List.map_toArray, List.map_cons, List.map_nil]); first | done | rfl | (simp only [List.length_drop, List.length_take]; rfl)) ?_
     with_reducible refine (shape_Spread.calls kj2 _ _ l0_0 _ _ t297 t309 _ ?side1 ?side2 ?side3 ?side4 A28.out).mono ?_
     (case side1 => exact zk_ (Kd.C_below HR0_0.out HB.out))
     (case side2 => exact HC0_0.out)
     (case side3 => exact zk_ ((Kd.R_reads' HO300.out).2.2))
     (case side4 => exact (Kd.R_reads' HO300.out).2.1)
     rintro e w47 ⟨v310, rfl, ho0, hb⟩
     refine ⟨_, rfl, ?_⟩
     replace HO306 := Aside0.mk (Kd.R_below (zr_ HO306.out) hb)
     have HO311 := Aside0.mk (Kd.R_lower (Kd.R_new' (Kd.R_new' ho0 (Kd.R_lt (zr_ HO300.out))) (Kd.R_lt (zr_ HO303.out))) (below_size (zw4_ HB GE292 GE293 GE294 GE308)))
     replace HO300 := Aside0.mk (Kd.R_elder' (zr_ HO300.out) (Kd.R_base ho0) hb)
     replace HO303 := Aside0.mk (Kd.R_elder' (zr_ HO303.out) (Kd.R_base ho0) hb)
     replace BK292 := Aside0.mk (zl_ BK292 hb)
     replace BK293 := Aside0.mk (zl_ BK293 hb)
     replace BK294 := Aside0.mk (zl_ BK294 hb)
     replace BK308 := Aside0.mk (zl_ BK308 hb)
     replace HB := Aside0.mk (below_step (zw4_ HB GE292 GE293 GE294 GE308) hb)
     (try clear hb)
     (try clear hb2)
     (try clear hk)
     (try clear hi)
     (try clear ho0)
     refine hK.out _ _ ⟨(blk_cell BK292.out 0).trans rfl, (blk_cell BK292.out 1).trans rfl, (blk_cell BK293.out 0).trans rfl, (blk_cell BK293.out 1).trans rfl⟩ (fun hHeld => ?_)
     clear hK K
     refine zq_ (some 44) (h := ?_)
     refine one_ (i := 7) (N := some 48) #[true, true, true, true, true, true, true, true, false, false] rfl rfl (one_of HT_.out (by kernel_rfl)) (by decide) (fun K hK => ?_)
     refine goes_ Try.func55 (by kernel_rfl) rfl #[.slice A1_0 l1_0.length c1_0, .slice Ao36 t297.length co36] (by rfl) rfl rfl (by (try simp only [List.map_toArray, List.map_cons, List.map_nil]); first | done | rfl | (simp only [List.length_drop, List.length_take]; rfl)) ?_
     with_reducible refine (shape_Spread.calls kj2 _ _ l1_0 _ _ t297 t312 _ ?side1 ?side2 ?side3 ?side4 A29.out).mono ?_
     (case side1 => exact zk_ (Kd.C_below HR1_0.out HB.out))
     (case side2 => exact HC1_0.out)
     (case side3 => exact zk_ ((Kd.R_reads' HO300.out).2.2))
     (case side4 => exact (Kd.R_reads' HO300.out).2.1)
     rintro e w48 ⟨v313, rfl, ho0, hb⟩
     refine ⟨_, rfl, ?_⟩
     replace HO306 := Aside0.mk (Kd.R_below (zr_ HO306.out) hb)
     have HO314 := Aside0.mk (Kd.R_lower (Kd.R_new' (Kd.R_new' (Kd.R_new' ho0 (Kd.R_lt (zr_ HO300.out))) (Kd.R_lt (zr_ HO303.out))) (Kd.R_lt (zr_ HO311.out))) (below_size (zw4_ HB GE292 GE293 GE294 GE308)))
     replace HO300 := Aside0.mk (Kd.R_elder' (zr_ HO300.out) (Kd.R_base ho0) hb)
     replace HO303 := Aside0.mk (Kd.R_elder' (zr_ HO303.out) (Kd.R_base ho0) hb)
     replace HO311 := Aside0.mk (Kd.R_elder' (zr_ HO311.out) (Kd.R_base ho0) hb)
     replace BK292 := Aside0.mk (zl_ BK292 hb)
     replace BK293 := Aside0.mk (zl_ BK293 hb)
     replace BK294 := Aside0.mk (zl_ BK294 hb)
     replace BK308 := Aside0.mk (zl_ BK308 hb)
     replace HB := Aside0.mk (below_step (zw4_ HB GE292 GE293 GE294 GE308) hb)
     (try clear hb)
     (try clear hb2)
     (try clear hk)
     (try clear hi)
     (try clear ho0)
     refine hK.out _ _ ⟨(blk_cell BK292.out 0).trans rfl, (blk_cell BK292.out 1).trans rfl, (blk_cell BK293.out 0).trans rfl, (blk_cell BK293.out 1).trans rfl⟩ (fun hHeld => ?_)
     clear hK K
     refine zq_ (some 48) (h := ?_)
     refine zp_ 8 (some 12) (h := ?_)
     refine zp_ 9 (some 13) (h := ?_)
     refine done_ (done_of HT_.out (by kernel_rfl)) ?_
     have hcz49_0 := zx_ (v := .slice Ao39 t301.length co39) BK308 0
     have hcz49_1 := zx_ (v := .slice Ao44 t304.length co44) BK308 1
     have hfz49_0 := blk_frozen BK308.out 0
     have hfz49_1 := blk_frozen BK308.out 1
     try go_wp2
     go_loopg [52] kj2 (fun kq v52 w' => ∃ (x52_2 : Int) (x309001_2 : List Int) (u309001 : Value), v52 = .int .i64 x52_2 ∧ Aside0 (tens_both_Sub.l0 kq t309 t312 (t304.length : Int) x52_2 l0_0 l0_1 l1_0 l1_1 t301 x309001_2 = some (r1, r2, r3)) ∧ Aside0 (kq ≤ kj2) ∧ Aside0 (Kd.R (Kd.int .i64) 3 w' w.heap.size (fun k_ => some k_ ≠ (v313 : Value).ownBlock ∧ some k_ ≠ ((.slice Ao39 t301.length co39) : Value).ownBlock) v310 t309) ∧ Aside0 (Kd.R (Kd.int .i64) 3 w' w.heap.size (fun k_ => some k_ ≠ (v310 : Value).ownBlock ∧ some k_ ≠ ((.slice Ao39 t301.length co39) : Value).ownBlock) v313 t312) ∧ Aside0 (Kd.R (Kd.int .i64) 3 w' w.heap.size (fun k_ => some k_ ≠ (v310 : Value).ownBlock ∧ some k_ ≠ (v313 : Value).ownBlock) (.slice Ao39 t301.length co39) t301) ∧ Aside0 (Kd.R (Kd.int .i64) 23 w' w.heap.size (fun _ => True) u309001 x309001_2) ∧ Aside0 (w'.heap[gb292]? = some (.cells #[(.slice A0_0 l0_0.length c0_0), (.slice A0_1 l0_1.length c0_1)] 27 (0, 0))) ∧ Aside0 (w'.heap[gb293]? = some (.cells #[(.slice A1_0 l1_0.length c1_0), (.slice A1_1 l1_1.length c1_1)] 27 (0, 0))) ∧ Aside0 (w'.heap[gb294]? = some (.cells #[(.slice none 0 0), (.slice none 0 0)] 27 (0, 0))) ∧ Aside0 (w'.heap[gb308]? = some (.cells #[(.slice Ao39 t301.length co39), u309001] 27 (0, 0))) ∧ Aside0 (Below w.heap.size w w'))
     case atStart => exact ⟨(0), (t304), (.slice Ao44 t304.length co44), (by first | rfl | (simp; done) | (simp [*]; done)), H', ⟨Nat.le_refl _⟩, ⟨zr_ (Kd.R_mono HO311.out (fun _ hk => ⟨hk.2, hk.1.2⟩))⟩, ⟨zr_ (Kd.R_mono HO314.out (fun _ hk => ⟨hk.2, hk.1.2⟩))⟩, ⟨zr_ (Kd.R_mono HO303.out (fun _ hk => ⟨hk.1.2, hk.2⟩))⟩, ⟨zr_ HO306.out⟩, ⟨zb_ BK292⟩, ⟨zb_ BK293⟩, ⟨zb_ BK294⟩, ⟨zb_ BK308⟩, ⟨zw4_ HB GE292 GE293 GE294 GE308⟩⟩
     case round =>
      clear H'
      try clear c1
      try clear c2
      try clear p2
      try clear c3
      try clear c4
      try clear c5
      try clear c8
      try clear c10
      try clear c11
      try clear c12
      try clear c14
      try clear c16
      try clear c17
      try clear c18
      try clear c21
      try clear c22
      try clear c23
      try clear c26
      try clear c26b0
      try clear c26b1
      try clear c30
      try clear c31
      try clear c33
      try clear c40
      try clear c41
      try clear c42
      try clear hcz12_0
      try clear hcz12_1
      try clear hcz15_0
      try clear hcz15_1
      try clear hcz19_0
      try clear hcz19_1
      try clear hcz24_0
      try clear hcz24_1
      try clear hcz32_0
      try clear hcz32_1
      try clear hcz34_0
      try clear hcz34_1
      try clear hcz43_0
      try clear hcz43_1
      try clear hcz49_0
      try clear hcz49_1
      try clear hfz12_0
      try clear hfz12_1
      try clear hfz15_0
      try clear hfz15_1
      try clear hfz19_0
      try clear hfz19_1
      try clear hfz24_0
      try clear hfz24_1
      try clear hfz32_0
      try clear hfz32_1
      try clear hfz34_0
      try clear hfz34_1
      try clear hfz43_0
      try clear hfz43_1
      try clear hfz49_0
      try clear hfz49_1
      try clear p2
      obtain ⟨x52_2, x309001_2, u309001, rfl, HA, HK2, HO_12, HO_13, HO_309000, HO_309001, BK292, BK293, BK294, BK308, HB⟩ := hrel
      cases gk with
      | zero => exact absurd HA.out (by simp [tens_both_Sub.l0])
      | succ k2 =>
       have H := HA.out
       clear HA
       simp only [tens_both_Sub.l0] at H
       by_cases c50 : x52_2 < (t304.length : Int)
       ·rw [if_pos c50] at H
        have c50b0 : decide (x52_2 < (t304.length : Int)) = true := decide_eq_true c50
        clear c50
        by_cases c51 : 0 ≤ x52_2
        ·rw [if_pos c51] at H
         have c51b0 : decide (0 ≤ x52_2) = true := decide_eq_true c51
         clear c51
         by_cases c52 : x52_2 < (t309.length : Int)
         ·rw [if_pos c52] at H
          have c52b0 : decide (x52_2 < (t309.length : Int)) = true := decide_eq_true c52
          clear c52
          by_cases c53 : 0 ≤ (rd t309 x52_2)
          ·rw [if_pos c53] at H
           have c53b0 : decide (0 ≤ (rd t309 x52_2)) = true := decide_eq_true c53
           clear c53
           by_cases c54 : (rd t309 x52_2) < (l0_1.length : Int)
           ·rw [if_pos c54] at H
            have c54b0 : decide ((rd t309 x52_2) < (l0_1.length : Int)) = true := decide_eq_true c54
            clear c54
            by_cases c55 : x52_2 < (t312.length : Int)
            ·rw [if_pos c55] at H
             have c55b0 : decide (x52_2 < (t312.length : Int)) = true := decide_eq_true c55
             clear c55
             by_cases c56 : 0 ≤ (rd t312 x52_2)
             ·rw [if_pos c56] at H
              have c56b0 : decide (0 ≤ (rd t312 x52_2)) = true := decide_eq_true c56
              clear c56
              by_cases c57 : (rd t312 x52_2) < (l1_1.length : Int)
              ·rw [if_pos c57] at H
               have c57b0 : decide ((rd t312 x52_2) < (l1_1.length : Int)) = true := decide_eq_true c57
               clear c57
               replace H := Option.bind_eq_some_iff.mp H
               obtain ⟨t319, A580, H⟩ := H
               (try dsimp only at H)
               have A58 := Aside0.mk A580
               clear A580
               by_cases c59 : x52_2 < (x309001_2.length : Int)
               ·rw [if_pos c59] at H
                have c59b0 : decide (x52_2 < (x309001_2.length : Int)) = true := decide_eq_true c59
                clear c59
                obtain ⟨y320, hy320⟩ : ∃ y_ : List Int, y_ = (x309001_2.set (x52_2 : Int).toNat t319) := ⟨_, rfl⟩
                replace H : (tens_both_Sub.l0 k2 t309 t312 (t304.length : Int) (wrap64 (x52_2 + 1)) l0_0 l0_1 l1_0 l1_1 t301 y320) = some (r1, r2, r3) := by first | (rw [hy320]; with_reducible exact H) | (have H2_ := (Option.bind_some _ _).symm.trans H; rw [hy320]; with_reducible exact H2_) | (have H2_ := (Option.bind_some _ _).symm.trans H; with_reducible exact H2_) | with_reducible exact H | (rw [hy320]; exact H) | exact H
                have Ny320 := Aside0.mk hy320
                clear hy320
                have H' := Aside0.mk H
                clear H
                try go_wp2
                replace HO_12 := Aside0.mk (Kd.R_drew HO_12.out)
                replace HO_13 := Aside0.mk (Kd.R_drew HO_13.out)
                replace HO_309000 := Aside0.mk (Kd.R_drew HO_309000.out)
                replace HO_309001 := Aside0.mk (Kd.R_drew HO_309001.out)
                replace BK292 := Aside0.mk (blk_drew BK292.out)
                replace BK293 := Aside0.mk (blk_drew BK293.out)
                replace BK294 := Aside0.mk (blk_drew BK294.out)
                replace BK308 := Aside0.mk (blk_drew BK308.out)
                replace HB := Aside0.mk (below_drew1 HB.out)
                obtain ⟨Ao62, co62, eo62⟩ := Kd.R_slice HO_12.out
                (first | subst eo62 | (injection eo62 with f1_ f2_ f3_; have f4_ := f1_.symm; have f5_ := f3_.symm; clear f1_ f2_ f3_; subst f4_; subst f5_))
                have p315 : 0 ≤ (x52_2 : Int) := of_decide_eq_true (by first | (with_reducible assumption) | assumption)
                have q315 : x52_2 < (t309.length : Int) := of_decide_eq_true (by first | (with_reducible assumption) | assumption)
                obtain ⟨ad315, e315, hx315_0⟩ := Kd.at_int (Kd.R_reads' HO_12.out).2.2 x52_2 p315 q315
                cases e315
                replace p315 := eq_true p315
                replace q315 := eq_true q315
                have p316 : 0 ≤ ((rd t309 x52_2) : Int) := of_decide_eq_true (by first | (with_reducible assumption) | assumption)
                have q316 : (rd t309 x52_2) < (l0_1.length : Int) := of_decide_eq_true (by first | (with_reducible assumption) | assumption)
                obtain ⟨ad316, e316, hx316_0⟩ := Kd.at_int HR0_1.out (rd t309 x52_2) p316 q316
                have hw316_0 := hx316_0
                cases e316
                replace hx316_0 := (HB.out.cell (World.block_lt_of_cell? w _ hx316_0)).trans hx316_0
                replace p316 := eq_true p316
                replace q316 := eq_true q316
                obtain ⟨Ao63, co63, eo63⟩ := Kd.R_slice HO_13.out
                (first | subst eo63 | (injection eo63 with f1_ f2_ f3_; have f4_ := f1_.symm; have f5_ := f3_.symm; clear f1_ f2_ f3_; subst f4_; subst f5_))
                have p317 : 0 ≤ (x52_2 : Int) := of_decide_eq_true (by first | (with_reducible assumption) | assumption)
                have q317 : x52_2 < (t312.length : Int) := of_decide_eq_true (by first | (with_reducible assumption) | assumption)
                obtain ⟨ad317, e317, hx317_0⟩ := Kd.at_int (Kd.R_reads' HO_13.out).2.2 x52_2 p317 q317
                cases e317
                replace p317 := eq_true p317
                replace q317 := eq_true q317
                have p318 : 0 ≤ ((rd t312 x52_2) : Int) := of_decide_eq_true (by first | (with_reducible assumption) | assumption)
                have q318 : (rd t312 x52_2) < (l1_1.length : Int) := of_decide_eq_true (by first | (with_reducible assumption) | assumption)
                obtain ⟨ad318, e318, hx318_0⟩ := Kd.at_int HR1_1.out (rd t312 x52_2) p318 q318
                have hw318_0 := hx318_0
                cases e318
                replace hx318_0 := (HB.out.cell (World.block_lt_of_cell? w _ hx318_0)).trans hx318_0
                replace p318 := eq_true p318
                replace q318 := eq_true q318
                refine start_ (n := 23) (S := fun w' => w'.cell? ⟨gb308, 0, none⟩ = some (.slice Ao39 t301.length co39) ∧ w'.cell? ⟨gb308, 1, none⟩ = some (u309001) ∧ w'.cell? ⟨gb292, 0, none⟩ = some (.slice A0_0 l0_0.length c0_0) ∧ w'.cell? ⟨gb292, 1, none⟩ = some (.slice (some ad316) l0_1.length c0_1) ∧ w'.cell? ⟨gb293, 0, none⟩ = some (.slice A1_0 l1_0.length c1_0) ∧ w'.cell? ⟨gb293, 1, none⟩ = some (.slice (some ad318) l1_1.length c1_1) ∧ w'.cell? (ad315.add (x52_2).toNat) = some (.int .i64 (rd t309 x52_2)) ∧ w'.cell? (ad316.add ((rd t309 x52_2)).toNat) = some (.int .i64 (rd l0_1 (rd t309 x52_2))) ∧ w'.cell? (ad317.add (x52_2).toNat) = some (.int .i64 (rd t312 x52_2)) ∧ w'.cell? (ad318.add ((rd t312 x52_2)).toNat) = some (.int .i64 (rd l1_1 (rd t312 x52_2)))) (ds := [22]) #[false, false, false, false, false, false, false, false, false, false, false, false, false, false, false, false, false, false, false, false, false, false, false] (by kernel_rfl) rfl rfl ⟨(blk_cell BK308.out 0).trans rfl, (blk_cell BK308.out 1).trans rfl, (blk_cell BK292.out 0).trans rfl, (blk_cell BK292.out 1).trans rfl, (blk_cell BK293.out 0).trans rfl, (blk_cell BK293.out 1).trans rfl, hx315_0, ((HB.out.cell (World.block_lt_of_cell? w _ hw316_0)).trans hw316_0), hx317_0, ((HB.out.cell (World.block_lt_of_cell? w _ hw318_0)).trans hw318_0)⟩ (fun hHeld => ?_); refine with_tabW tens_both_Sub.tab11 tens_both_Sub.bits11 (fun HT_ HW_ => ?_)
                generalize wr.drew = w61 at HO_12 HO_13 HO_309000 HO_309001 BK292 BK293 BK294 BK308 HB hx315_0 hx316_0 hx317_0 hx318_0 hHeld ⊢
                refine zp_ 0 (some 55) (h := ?_)
                refine zp_ 2 (some 57) (h := ?_)
                refine zp_ 3 (some 58) (h := ?_)
                refine zp_ 4 (some 59) (h := ?_)
                refine zp_ 6 (some 61) (h := ?_)
                refine zp_ 7 (some 62) (h := ?_)
                refine zp_ 8 (some 63) (h := ?_)
                refine zp_ 12 (some 67) (h := ?_)
                refine zp_ 14 (some 69) (h := ?_)
                refine zp_ 15 (some 70) (h := ?_)
                refine zp_ 16 (some 71) (h := ?_)
                refine zt_ 1 (some 56) (hr := by rintro w' ⟨s0, s1, s2, s3, s4, s5, s6, s7, s8, s9⟩; go_simp; with_reducible rfl) (h := ?_)
                refine zt_ 5 (some 60) (hr := by rintro w' ⟨s0, s1, s2, s3, s4, s5, s6, s7, s8, s9⟩; go_simp; with_reducible rfl) (h := ?_)
                refine zt_ 9 (some 64) (hr := by rintro w' ⟨s0, s1, s2, s3, s4, s5, s6, s7, s8, s9⟩; go_simp; with_reducible rfl) (h := ?_)
                refine zp_ 10 (some 65) (h := ?_)
                refine zt_ 11 (some 66) (hr := by rintro w' ⟨s0, s1, s2, s3, s4, s5, s6, s7, s8, s9⟩; go_simp; with_reducible rfl) (h := ?_)
                refine zt_ 13 (some 68) (hr := by rintro w' ⟨s0, s1, s2, s3, s4, s5, s6, s7, s8, s9⟩; go_simp; with_reducible rfl) (h := ?_)
                refine zt_ 17 (some 72) (hr := by rintro w' ⟨s0, s1, s2, s3, s4, s5, s6, s7, s8, s9⟩; go_simp; with_reducible rfl) (h := ?_)
                refine zp_ 18 (some 73) (h := ?_)
                refine zt_ 19 (some 74) (hr := by rintro w' ⟨s0, s1, s2, s3, s4, s5, s6, s7, s8, s9⟩; go_simp; with_reducible rfl) (h := ?_)
                refine one_ (i := 20) (N := some 75) #[true, true, true, true, true, true, true, true, true, true, true, true, true, true, true, true, true, true, true, true, true, false, false] rfl rfl (one_of HT_.out (by kernel_rfl)) (by decide) (fun K hK => ?_)
                refine goesT101_ (t := .tmp 58) Try.func45 (by kernel_rfl) rfl #[.int .i64 (rd l0_1 (rd t309 x52_2)), .int .i64 (rd l1_1 (rd t312 x52_2))] (by rfl) rfl rfl (by first | rfl | (go_simp; done) | (go_simp; rfl)) (by (try simp only [List.map_toArray, List.map_cons, List.map_nil]); first | done | rfl | (simp only [List.length_drop, List.length_take]; rfl)) ?_
                with_reducible refine (fix_Sub.calls k2 (rd l0_1 (rd t309 x52_2)) (rd l1_1 (rd t312 x52_2)) t319 _ A58.out).mono ?_
                rintro e w' ⟨rfl, ⟨nd, rfl⟩⟩
                refine ⟨_, rfl, ?_⟩
                have p60 : 0 ≤ (x52_2 : Int) := of_decide_eq_true (by first | (with_reducible assumption) | assumption)
                have q60 : (x52_2 : Int) < ((x309001_2.length : Int) : Int) := of_decide_eq_true (by first | (with_reducible assumption) | assumption)
                obtain ⟨go60, co60, eo60, gb60, gl60, cl60, HG60⟩ := Kd.R_form HO_309001.out (by omega)
                (first | cases eo60 | (injection eo60 with ea_ en_ ec_; (first | subst ea_ | (injection ea_ with ea_; subst ea_)); subst ec_; clear en_))
                have GB60 := Aside0.mk gb60
                have GG60 := Aside0.mk HG60
                clear gb60 gl60 HG60
                obtain ⟨hx60_0, hf60_0⟩ := Kd.R_celln 0 HO_309001.out (x52_2 : Int) p60 q60
                replace p60 := eq_true p60
                replace q60 := eq_true q60
                have HP64 := Kd.R_putn HO_309001.out (x52_2 : Int) t319
                rw [← Ny320.out] at HP64
                have HQ64 := Aside0.mk HP64
                clear HP64
                refine hK.out _ _ ⟨(blk_cell BK308.out 0).trans rfl, (blk_cell BK308.out 1).trans rfl, (blk_cell BK292.out 0).trans rfl, (blk_cell BK292.out 1).trans rfl, (blk_cell BK293.out 0).trans rfl, (blk_cell BK293.out 1).trans rfl, hHeld.2.2.2.2.2.2.1, ((HB.out.cell (World.block_lt_of_cell? w _ hw316_0)).trans hw316_0), hHeld.2.2.2.2.2.2.2.2.1, ((HB.out.cell (World.block_lt_of_cell? w _ hw318_0)).trans hw318_0)⟩ (fun hHeld => ?_)
                clear hK K
                refine zq_ (some 75) (h := ?_)
                refine zp_ 21 (some 76) (h := ?_)
                refine last_ (i := 22) (N := none) #[true, true, true, true, true, true, true, true, true, true, true, true, true, true, true, true, true, true, true, true, true, true, true] rfl rfl (one_of HT_.out (by kernel_rfl)) (by decide) (fun K hK => ?_)
                refine skip_ (w1 := ?_) (by rfl) rfl ?_ ?_
                rotate_left
                ·go_simp
                 rfl
                refine hK.out _ _ ?_
                clear hK K
                refine done_ (done_of HT_.out (by kernel_rfl)) ?_
                try go_wp2
                go_roundg k2
                case measure => have := HJ2.out; have := HK2.out; omega
                case rel => exact ⟨(wrap64 (x52_2 + 1)), (y320), (.slice (some ⟨go60, 0, none⟩) x309001_2.length co60), (by first | rfl | (simp; done) | (simp [*]; done)), H', ⟨by have := HJ2.out; have := HK2.out; omega⟩, ⟨zr_ (Kd.R_mono (Kd.R_far (p := ⟨go60, (x52_2 : Int).toNat, none⟩) (Kd.R_types HO_12.out GG60.out (by decide)) (fun _ hk => hk.2) (.int .i64 t319)) (fun _ hk => ⟨hk.1.1, hk.1.2⟩))⟩, ⟨zr_ (Kd.R_mono (Kd.R_far (p := ⟨go60, (x52_2 : Int).toNat, none⟩) (Kd.R_types HO_13.out GG60.out (by decide)) (fun _ hk => hk.2) (.int .i64 t319)) (fun _ hk => ⟨hk.1.1, hk.1.2⟩))⟩, ⟨zr_ (Kd.R_mono (Kd.R_far (p := ⟨go60, (x52_2 : Int).toNat, none⟩) (Kd.R_types HO_309000.out GG60.out (by decide)) (fun _ hk => hk.2) (.int .i64 t319)) (fun _ hk => ⟨hk.1.1, hk.1.2⟩))⟩, ⟨zr_ HQ64.out⟩, ⟨by (with_reducible repeat (first | refine blk_drewN ?_ _ | refine blk_drew ?_ | refine blk_alloc ?_ _)); refine blk_far ?_ (by have h_ := Kd.R_ne HO_309001.out BK292.out (by decide); intro e_; exact h_ (by rw [e_]; rfl)) _; (with_reducible repeat (first | refine blk_drewN ?_ _ | refine blk_drew ?_ | refine blk_alloc ?_ _)); exact BK292.out⟩, ⟨by (with_reducible repeat (first | refine blk_drewN ?_ _ | refine blk_drew ?_ | refine blk_alloc ?_ _)); refine blk_far ?_ (by have h_ := Kd.R_ne HO_309001.out BK293.out (by decide); intro e_; exact h_ (by rw [e_]; rfl)) _; (with_reducible repeat (first | refine blk_drewN ?_ _ | refine blk_drew ?_ | refine blk_alloc ?_ _)); exact BK293.out⟩, ⟨by (with_reducible repeat (first | refine blk_drewN ?_ _ | refine blk_drew ?_ | refine blk_alloc ?_ _)); refine blk_far ?_ (by have h_ := Kd.R_ne HO_309001.out BK294.out (by decide); intro e_; exact h_ (by rw [e_]; rfl)) _; (with_reducible repeat (first | refine blk_drewN ?_ _ | refine blk_drew ?_ | refine blk_alloc ?_ _)); exact BK294.out⟩, ⟨by (with_reducible repeat (first | refine blk_drewN ?_ _ | refine blk_drew ?_ | refine blk_alloc ?_ _)); refine blk_far ?_ (by have h_ := Kd.R_ne HO_309001.out BK308.out (by decide); intro e_; exact h_ (by rw [e_]; rfl)) _; (with_reducible repeat (first | refine blk_drewN ?_ _ | refine blk_drew ?_ | refine blk_alloc ?_ _)); exact BK308.out⟩, ⟨by repeat (first | (with_reducible first | exact HB.out | apply below_alloc | apply pw_below_drewN | apply below_drew1 | refine below_set ?_ GB60.out | refine below_set ?_ GE292.out | refine below_set ?_ GE293.out | refine below_set ?_ GE294.out | refine below_set ?_ GE308.out) | exact HB.out)⟩⟩
               ·rw [if_neg c59] at H
                exact absurd H (by simp)
              ·rw [if_neg c57] at H
               exact absurd H (by simp)
             ·rw [if_neg c56] at H
              exact absurd H (by simp)
            ·rw [if_neg c55] at H
             exact absurd H (by simp)
           ·rw [if_neg c54] at H
            exact absurd H (by simp)
          ·rw [if_neg c53] at H
           exact absurd H (by simp)
         ·rw [if_neg c52] at H
          exact absurd H (by simp)
        ·rw [if_neg c51] at H
         exact absurd H (by simp)
       ·rw [if_neg c50] at H
        have c50b0 : decide (x52_2 < (t304.length : Int)) = false := decide_eq_false c50
        clear c50
        simp only [Option.some.injEq, Prod.mk.injEq] at H
        obtain ⟨rfl, rfl, rfl⟩ := H
        have hnb65 := NB308_292.out
        have hnc65 := NB292_308.out
        have hnb66 := NB308_293.out
        have hnc66 := NB293_308.out
        have hnb67 := NB308_294.out
        have hnc67 := NB294_308.out
        have hcz68_0 := zx_ (v := .slice Ao39 t301.length co39) BK308 0
        have hcz68_1 := zx_ (v := u309001) BK308 1
        have hfz68_0 := blk_frozen BK308.out 0
        have hfz68_1 := blk_frozen BK308.out 1
        have hnb69 := NB294_292.out
        have hnc69 := NB292_294.out
        have hnb70 := NB294_293.out
        have hnc70 := NB293_294.out
        have hcz71_0 := zx_ (v := .slice none 0 0) BK294 0
        have hcz71_1 := zx_ (v := .slice none 0 0) BK294 1
        have hfz71_0 := blk_frozen BK294.out 0
        have hfz71_1 := blk_frozen BK294.out 1
        obtain ⟨Ao72, co72, eo72⟩ := Kd.R_slice HO_309001.out
        subst eo72
        go_wp2
        refine bodyPost_ret (results_ct rfl _ _ gb294 27 #[.slice Ao39 t301.length co39, .slice Ao72 x309001_2.length co72] (0, 0) _ rfl (by (with_reducible repeat (first | refine blk_drewN ?_ _ | refine blk_drew ?_ | refine blk_alloc ?_ _)); refine blk_put (cs := #[.slice Ao39 t301.length co39, .slice none 0 0]) ?_ 1 _ rfl; (with_reducible repeat (first | refine blk_drewN ?_ _ | refine blk_drew ?_ | refine blk_alloc ?_ _)); refine blk_put (cs := #[.slice none 0 0, .slice none 0 0]) ?_ 0 _ rfl; (with_reducible repeat (first | refine blk_drewN ?_ _ | refine blk_drew ?_ | refine blk_alloc ?_ _)); exact BK294.out) Try.underlying27 rfl (by kernel_rfl)) rfl ?_
        exact ⟨_, _, by first | rfl | (simp [errW_none, errW_some] <;> rfl) | (simp [*, errW_none, errW_some] <;> rfl), zr_ (Kd.R_mono (Kd.R_far (p := ⟨gb294, 1, none⟩) (Kd.R_far (p := ⟨gb294, 0, none⟩) (Kd.R_types HO_309000.out BK294.out (by decide)) (fun _ hk => hk.2) (.slice Ao39 t301.length co39)) (fun _ hk => hk.2) (.slice Ao72 x309001_2.length co72)) (fun _ hk => trivial)), zr_ (Kd.R_mono (Kd.R_far (p := ⟨gb294, 1, none⟩) (Kd.R_far (p := ⟨gb294, 0, none⟩) (Kd.R_types HO_309001.out BK294.out (by decide)) (fun _ hk => hk.2) (.slice Ao39 t301.length co39)) (fun _ hk => hk.2) (.slice Ao72 x309001_2.length co72)) (fun _ hk => trivial)), zw4_ HB GE292 GE293 GE294 GE308⟩
    ·rw [if_neg c26] at H
     have c26b0 : (t298 == 0) = false := beq_eq_false_iff_ne.mpr c26
     have c26b1 : (t298 != 0) = true := bne_iff_ne.mpr c26
     simp only [Option.some.injEq, Prod.mk.injEq] at H
     obtain ⟨rfl, rfl, rfl⟩ := H
     have hnb73 := NB292_293.out
     have hnc73 := NB293_292.out
     have hnb74 := NB292_294.out
     have hnc74 := NB294_292.out
     have hcz75_0 := zx_ (v := .slice A0_0 l0_0.length c0_0) BK292 0
     have hcz75_1 := zx_ (v := .slice A0_1 l0_1.length c0_1) BK292 1
     have hfz75_0 := blk_frozen BK292.out 0
     have hfz75_1 := blk_frozen BK292.out 1
     have hnb76 := NB293_294.out
     have hnc76 := NB294_293.out
     have hcz77_0 := zx_ (v := .slice A1_0 l1_0.length c1_0) BK293 0
     have hcz77_1 := zx_ (v := .slice A1_1 l1_1.length c1_1) BK293 1
     have hfz77_0 := blk_frozen BK293.out 0
     have hfz77_1 := blk_frozen BK293.out 1
     go_wp2_with (first | ((with_reducible refine gate_callee (f := 54) rfl ?_); refine zg_ (some 29) Try.func54 #[.slice A0_0 l0_0.length c0_0, .slice A1_0 l1_0.length c1_0] (h := ?_); (with_reducible refine (shape_Join.calls kj2 _ _ l0_0 _ _ l1_0 t297 t298 _ ?side1 ?side2 ?side3 ?side4 A25.out).mono ?_); (case side1 => exact zk_ (Kd.C_below HR0_0.out HB.out)); (case side2 => exact HC0_0.out); (case side3 => exact zk_ (Kd.C_below HR1_0.out HB.out)); (case side4 => exact HC1_0.out); rintro e w78 ⟨v299, rfl, ho0, hb⟩; refine ⟨_, rfl, ?_⟩; have HO300 := Aside0.mk (Kd.R_lower ho0 (below_size (zw3_ HB GE292 GE293 GE294))); replace BK292 := Aside0.mk (zl_ BK292 hb); replace BK293 := Aside0.mk (zl_ BK293 hb); replace BK294 := Aside0.mk (zl_ BK294 hb); replace HB := Aside0.mk (below_step (zw3_ HB GE292 GE293 GE294) hb); (try clear hb); (try clear ho0); have hcz79_0 := zx_ (v := .slice none 0 0) BK294 0; have hcz79_1 := zx_ (v := .slice none 0 0) BK294 1; have hfz79_0 := blk_frozen BK294.out 0; have hfz79_1 := blk_frozen BK294.out 1))
     refine bodyPost_ret (results_ct rfl _ _ gb294 27 #[.slice none 0 0, .slice none 0 0] (0, 0) _ rfl (by (with_reducible repeat (first | refine blk_drewN ?_ _ | refine blk_drew ?_ | refine blk_alloc ?_ _)); refine blk_put (cs := #[.slice none 0 0, .slice none 0 0]) ?_ 1 _ rfl; (with_reducible repeat (first | refine blk_drewN ?_ _ | refine blk_drew ?_ | refine blk_alloc ?_ _)); refine blk_put (cs := #[.slice none 0 0, .slice none 0 0]) ?_ 0 _ rfl; (with_reducible repeat (first | refine blk_drewN ?_ _ | refine blk_drew ?_ | refine blk_alloc ?_ _)); exact BK294.out) Try.underlying27 rfl (by kernel_rfl)) rfl ?_
     exact ⟨_, _, by first | rfl | (simp [errW_none, errW_some] <;> rfl) | (simp [*, errW_none, errW_some] <;> rfl), by first | exact Kd.R_nil _ _ _ _ _ | exact Kd.N_nil _ _ _ _ _ | exact Kd.V_nil _ _ _ _ _ | exact Kd.Q_nil _ _ _ _ _ | exact Kd.S_nil _ _ _ _ _, by first | exact Kd.R_nil _ _ _ _ _ | exact Kd.N_nil _ _ _ _ _ | exact Kd.V_nil _ _ _ _ _ | exact Kd.Q_nil _ _ _ _ _ | exact Kd.S_nil _ _ _ _ _, zw3_ HB GE292 GE293 GE294⟩

end Go.Proofs.Ytbdhabpplidgfaa.PTensNone
