/- The functions that the law TensKnown reaches, as Lean functions, and that each call of the Go function does what its Lean function says, wherever that one answers. Written by a program of mine over the print of the kit; Lean checks it. -/
import Derived.Test.YtbdhabpplidgfaaPTensKnownx0
import Derived.Test.YtbdhabpplidgfaaPTensKnownx1
import Derived.Test.YtbdhabpplidgfaaPTensKnownx2
import Derived.Test.YtbdhabpplidgfaaPTensKnownx3
namespace Go.Proofs.Ytbdhabpplidgfaa.PTensKnown
open Go.RowKit Go.Proofs.YtbdhabpplidgfaaW.PrintWords Go.Proofs.YtbdhabpplidgfaaW.PrintLast Go.Proofs.YtbdhabpplidgfaaW.PrintMore
attribute [local go_sem] max2_int min2_int max_two min_two max_three min_three max_four min_four   -- for this text's walks alone
set_option linter.unusedVariables false
set_option linter.unusedSimpArgs false
theorem goesT99_ {P : Program} {ops : Array Oper} {Q : Exit → Act → World → Prop} {oi : Oper} {N : Option Tmp} {a : Act} {w : World} {K : Act → World → Prop} {f : FuncId} {fn : Func} {t : Operand} {xs : Array Operand} {ts : Array TypeId} (hf : P.funcs[f]? = some fn) (hname : (fn.name == "runtime.NumGoroutine") = false) (hb : fn.body.isSome = true) (args : Array Value)
  (hw : Region.wanted oi (yielded ops a.tmps) = true) (hN : oi.dst = N) (hop : oi.op = .call { callee := .value t, args := xs, argTypes := ts }) (hcal : a.eval t = .func (.func f) #[] #[]) (hargs : xs.map a.eval = args)
  (h : Calls P f args w fun e w' => ∃ v, e = .returned v ∧ K (a.put N v) w') : if Region.wanted oi (yielded ops a.tmps) = true then Oper.wp P oi a w K Q else K (a.put N undef) w := by
 refine call_ f args hw hN ?_ h
 have he := enters_ hf hname hb args w
 unfold execOp
 simp [hop, resolve, Deferred.ofValue, invoke, hcal, hargs, he]

/-! ### tens_both_Add: function 99 -/
mutual
def tens_both_Add.j0 : Nat → Bool → List Int → List Int → List Int → List Int → Option (List Int × List Int × Int)
 | 0, _, _, _, _, _ => none
 | k + 1, x22, x163000, x163001, x164000, x164001 => if x22 = true then (some (([] : List Int), ([] : List Int), 1)) else ((shape_Join.f k x163000 x164000).bind fun bt167 => (if bt167.2 = 0 then ((tens_New.f k bt167.1 0).bind fun bt171 => ((shape_Spread.f k x163000 bt167.1).bind fun t179 => ((shape_Spread.f k x164000 bt167.1).bind fun t182 => (tens_both_Add.l0 k t179 t182 (bt171.2.1.length : Int) 0 x163000 x163001 x164000 x164001 bt171.1 bt171.2.1)))) else (some (([] : List Int), ([] : List Int), bt167.2))))
def tens_both_Add.l0 : Nat → List Int → List Int → Int → Int → List Int → List Int → List Int → List Int → List Int → List Int → Option (List Int × List Int × Int)
 | 0, _, _, _, _, _, _, _, _, _, _ => none
 | k + 1, x12, x13, x51, x52, x163000, x163001, x164000, x164001, x179000, x179001 => if x52 < x51 then (if 0 ≤ x52 then (if x52 < (x12.length : Int) then (if 0 ≤ (rd x12 x52) then (if (rd x12 x52) < (x163001.length : Int) then (if x52 < (x13.length : Int) then (if 0 ≤ (rd x13 x52) then (if (rd x13 x52) < (x164001.length : Int) then ((fix_Add.f k (rd x163001 (rd x12 x52)) (rd x164001 (rd x13 x52))).bind fun t189 => (if x52 < (x179001.length : Int) then (tens_both_Add.l0 k x12 x13 x51 (wrap64 (x52 + 1)) x163000 x163001 x164000 x164001 x179000 (x179001.set (x52 : Int).toNat t189)) else (none))) else (none)) else (none)) else (none)) else (none)) else (none)) else (none)) else (none)) else (some (x179000, x179001, 0))
end
def tens_both_Add.f (k : Nat) (l0_0 : List Int) (l0_1 : List Int) (l1_0 : List Int) (l1_1 : List Int) : Option (List Int × List Int × Int) := (tens_Good.f k l0_0 l0_1).bind fun t165 => (if t165 = true then ((tens_Good.f k l1_0 l1_1).bind fun t166 => (tens_both_Add.j0 k (!t166) l0_0 l0_1 l1_0 l1_1)) else (tens_both_Add.j0 k true l0_0 l0_1 l1_0 l1_1))
theorem tens_both_Add.mono_l : ∀ k, (∀ y0 y1 y2 y3 y4, LeO (tens_both_Add.j0 k y0 y1 y2 y3 y4) (tens_both_Add.j0 (k + 1) y0 y1 y2 y3 y4)) ∧ (∀ y0 y1 y2 y3 y4 y5 y6 y7 y8 y9, LeO (tens_both_Add.l0 k y0 y1 y2 y3 y4 y5 y6 y7 y8 y9) (tens_both_Add.l0 (k + 1) y0 y1 y2 y3 y4 y5 y6 y7 y8 y9))
 | 0 => ⟨fun _ _ _ _ _ r h => by simp [tens_both_Add.j0] at h, fun _ _ _ _ _ _ _ _ _ _ r h => by simp [tens_both_Add.l0] at h⟩
 | k + 1 => by
  obtain ⟨ih0, ih1⟩ := tens_both_Add.mono_l k
  refine ⟨?_, ?_⟩
  ·intro y0 y1 y2 y3 y4
   unfold tens_both_Add.j0
   repeat' first
   | (with_reducible exact ih0 _ _ _ _ _)
   | (with_reducible exact ih1 _ _ _ _ _ _ _ _ _ _)
   | (with_reducible exact shape_Join.mono _ _ _)
   | (with_reducible exact shape_Spread.mono _ _ _)
   | (with_reducible exact tens_New.mono _ _ _)
   | (with_reducible exact LeO.refl _)
   | (with_reducible exact LeO.none _)
   | (with_reducible refine LeO.ite ?_ ?_)
   | (with_reducible refine LeO.bind ?_ (fun _ => ?_))
   | exact ih0 _ _ _ _ _
   | exact ih1 _ _ _ _ _ _ _ _ _ _
   | exact shape_Join.mono _ _ _
   | exact shape_Spread.mono _ _ _
   | exact tens_New.mono _ _ _
   | exact LeO.none _
   | refine LeO.ite ?_ ?_
   | refine LeO.bind ?_ (fun _ => ?_)
  ·intro y0 y1 y2 y3 y4 y5 y6 y7 y8 y9
   unfold tens_both_Add.l0
   repeat' first
   | (with_reducible exact ih0 _ _ _ _ _)
   | (with_reducible exact ih1 _ _ _ _ _ _ _ _ _ _)
   | (with_reducible exact fix_Add.mono _ _ _)
   | (with_reducible exact LeO.refl _)
   | (with_reducible exact LeO.none _)
   | (with_reducible refine LeO.ite ?_ ?_)
   | (with_reducible refine LeO.bind ?_ (fun _ => ?_))
   | exact ih0 _ _ _ _ _
   | exact ih1 _ _ _ _ _ _ _ _ _ _
   | exact fix_Add.mono _ _ _
   | exact LeO.none _
   | refine LeO.ite ?_ ?_
   | refine LeO.bind ?_ (fun _ => ?_)
theorem tens_both_Add.mono : ∀ a0 a1 a2 a3 k, LeO (tens_both_Add.f k a0 a1 a2 a3) (tens_both_Add.f (k + 1) a0 a1 a2 a3) := by
 intro a0 a1 a2 a3 k
 obtain ⟨ih0, ih1⟩ := tens_both_Add.mono_l k
 unfold tens_both_Add.f
 repeat' first
   | (with_reducible exact ih0 _ _ _ _ _)
   | (with_reducible exact ih1 _ _ _ _ _ _ _ _ _ _)
   | (with_reducible exact tens_Good.mono _ _ _)
   | (with_reducible exact LeO.refl _)
   | (with_reducible exact LeO.none _)
   | (with_reducible refine LeO.ite ?_ ?_)
   | (with_reducible refine LeO.bind ?_ (fun _ => ?_))
   | exact ih0 _ _ _ _ _
   | exact ih1 _ _ _ _ _ _ _ _ _ _
   | exact tens_Good.mono _ _ _
   | exact LeO.none _
   | refine LeO.ite ?_ ?_
   | refine LeO.bind ?_ (fun _ => ?_)
def tens_both_Add.T7 : Bool × List (List Nat × List Nat) := (true, [([], []), ([0], [0]), ([], []), ([1, 2], [1, 2]), ([], []), ([4], [4]), ([], []), ([5, 6, 3], [5, 6]), ([3, 7, 0, 1, 2, 3], [3]), ([7, 8, 0, 1, 2, 3, 4, 5, 6, 7, 8], [7])])
def tens_both_Add.B7 : List Nat := [0, 1, 0, 7, 0, 16, 0, 127, 255, 511]
theorem tens_both_Add.tab7 : rtab .any (opsOf Try.f39 7) = tens_both_Add.T7 := by kernel_rfl
theorem tens_both_Add.bits7 : waitsOk tens_both_Add.T7.2 tens_both_Add.B7 = true := by kernel_rfl
def tens_both_Add.T11 : Bool × List (List Nat × List Nat) := (true, [([], []), ([0], [0]), ([], []), ([], []), ([], []), ([4], [4]), ([], []), ([], []), ([6, 7], [6, 7]), ([8], [8]), ([5, 9], [5, 9]), ([10], [10]), ([], []), ([12], [12]), ([], []), ([], []), ([14, 15], [14, 15]), ([16], [16]), ([13, 17], [13, 17]), ([18], [18]), ([3, 11, 19], [3, 11, 19]), ([1, 2, 0, 1, 2, 3, 4, 5, 6, 7, 8, 9, 10, 11, 12, 13, 14, 15, 16, 17, 18, 19, 20], [1, 2]), ([21, 20, 20, 0, 1, 2, 3, 4, 5, 6, 7, 8, 9, 10, 11, 12, 13, 14, 15, 16, 17, 18, 19, 20], [20, 21])])
def tens_both_Add.B11 : List Nat := [0, 1, 0, 0, 0, 16, 0, 0, 192, 448, 1008, 2032, 0, 4096, 0, 0, 49152, 114688, 258048, 520192, 1048568, 2097151, 4194303]
theorem tens_both_Add.tab11 : rtab .any (opsOf Try.f39 11) = tens_both_Add.T11 := by kernel_rfl
theorem tens_both_Add.bits11 : waitsOk tens_both_Add.T11.2 tens_both_Add.B11 = true := by kernel_rfl
set_option maxHeartbeats 8000000 in
set_option maxRecDepth 100000 in
theorem tens_both_Add.calls (k : Nat) (A0_0 : Option Addr) (c0_0 : Nat) (l0_0 : List Int) (A0_1 : Option Addr) (c0_1 : Nat) (l0_1 : List Int) (A1_0 : Option Addr) (c1_0 : Nat) (l1_0 : List Int) (A1_1 : Option Addr) (c1_1 : Nat) (l1_1 : List Int) (r1 : List Int) (r2 : List Int) (r3 : Int) (w : World) (hr0_0 : Kd.C (Kd.int .i64) w A0_0 l0_0.length l0_0) (hc0_0 : l0_0.length ≤ c0_0) (hr0_1 : Kd.C (Kd.int .i64) w A0_1 l0_1.length l0_1) (hc0_1 : l0_1.length ≤ c0_1) (hr1_0 : Kd.C (Kd.int .i64) w A1_0 l1_0.length l1_0) (hc1_0 : l1_0.length ≤ c1_0) (hr1_1 : Kd.C (Kd.int .i64) w A1_1 l1_1.length l1_1) (hc1_1 : l1_1.length ≤ c1_1) (h : tens_both_Add.f k l0_0 l0_1 l1_0 l1_1 = some (r1, r2, r3)) :
  Calls Try.prog 39 #[.agg #[.slice A0_0 l0_0.length c0_0, .slice A0_1 l0_1.length c0_1], .agg #[.slice A1_0 l1_0.length c1_0, .slice A1_1 l1_1.length c1_1], .func (.func 40) #[] #[]] w fun e w' => ∃ v0_ v1_ : Value, e = .returned (.tuple #[.agg #[v0_, v1_], .int .i64 r3]) ∧ Kd.R (Kd.int .i64) 3 w' w.heap.size (fun _ => True) v0_ r1 ∧ Kd.R (Kd.int .i64) 23 w' w.heap.size (fun _ => True) v1_ r2 ∧ Below w.heap.size w w' := by
 have hu27 := Try.underlying27
 have HR0_0 := Aside0.mk hr0_0
 have HC0_0 := Aside0.mk hc0_0
 clear hr0_0 hc0_0
 have HR0_1 := Aside0.mk hr0_1
 have HC0_1 := Aside0.mk hc0_1
 clear hr0_1 hc0_1
 have HR1_0 := Aside0.mk hr1_0
 have HC1_0 := Aside0.mk hc1_0
 clear hr1_0 hc1_0
 have HR1_1 := Aside0.mk hr1_1
 have HC1_1 := Aside0.mk hc1_1
 clear hr1_1 hc1_1
 have HB := Aside0.mk (Below.refl w.heap.size w)
 have H : ((tens_Good.f k l0_0 l0_1).bind fun t165 => (if t165 = true then ((tens_Good.f k l1_0 l1_1).bind fun t166 => (tens_both_Add.j0 k (!t166) l0_0 l0_1 l1_0 l1_1)) else (tens_both_Add.j0 k true l0_0 l0_1 l1_0 l1_1))) = some (r1, r2, r3) := h
 clear h
 have HC3 := Aside0.mk H
 clear H
 go_enter Try.func39, Try.ntmps39
 go_upto_region 1 with (first | ((with_reducible refine gate_dst (N := 3) rfl ?_); refine box_event ?hg (N := 3) ?hd (cs := #[.slice A0_0 l0_0.length c0_0, .slice A0_1 l0_1.length c0_1]) (t := 27) ?hr ?_; (case hd => rfl); (case hg => rfl); (case hr => first | (go_simp; done) | (go_simp; rfl)); intro gb162 hg w4 hbox hb; have BK162 := Aside0.mk (hbox); have GW162 := Aside0.mk (zs_ hg (zw0_ HB)); have GE162 := Aside0.mk (zs_ hg (zw0_ HB)); replace HB := Aside0.mk (below_step (zw0_ HB) hb); clear hb hbox hg) | ((with_reducible refine gate_dst (N := 4) rfl ?_); refine box_event ?hg (N := 4) ?hd (cs := #[.slice A1_0 l1_0.length c1_0, .slice A1_1 l1_1.length c1_1]) (t := 27) ?hr ?_; (case hd => rfl); (case hg => rfl); (case hr => first | (go_simp; done) | (go_simp; rfl)); intro gb163 hg w5 hbox hb; have BK163 := Aside0.mk (hbox); have GW163 := Aside0.mk (zs_ hg (zw1_ HB GE162)); have GE163 := Aside0.mk (zs_ hg (zw1_ HB GE162)); replace HB := Aside0.mk (below_step (zw1_ HB GE162) hb); have NB162_163 := Aside0.mk (zn_ hg BK162); have NB163_162 := Aside0.mk (zm_ hg BK162); replace BK162 := za_ BK162 hb; clear hb hbox hg) | ((with_reducible refine gate_dst (N := 6) rfl ?_); refine box_event ?hg (N := 6) ?hd (cs := #[.slice none 0 0, .slice none 0 0]) (t := 27) ?hr ?_; (case hd => rfl); (case hg => rfl); (case hr => first | (go_simp; done) | (go_simp; rfl)); intro gb164 hg w6 hbox hb; have BK164 := Aside0.mk (hbox); have GW164 := Aside0.mk (zs_ hg (zw2_ HB GE162 GE163)); have GE164 := Aside0.mk (zs_ hg (zw2_ HB GE162 GE163)); replace HB := Aside0.mk (below_step (zw2_ HB GE162 GE163) hb); have NB162_164 := Aside0.mk (zn_ hg BK162); have NB164_162 := Aside0.mk (zm_ hg BK162); replace BK162 := za_ BK162 hb; have NB163_164 := Aside0.mk (zn_ hg BK163); have NB164_163 := Aside0.mk (zm_ hg BK163); replace BK163 := za_ BK163 hb; clear hb hbox hg))
 (try simp only [Act.put, List.setIfInBounds_toArray, List.set_cons_zero, List.set_cons_succ])
 go_cut [22] (fun v22 wc => ∃ (kq : Nat) (x22_2 : Bool), v22 = .bool x22_2 ∧ Aside0 (tens_both_Add.j0 kq x22_2 l0_0 l0_1 l1_0 l1_1 = some (r1, r2, r3)) ∧ Aside0 (kq ≤ k) ∧ Aside0 (wc.heap[gb162]? = some (.cells #[(.slice A0_0 l0_0.length c0_0), (.slice A0_1 l0_1.length c0_1)] 27 (0, 0))) ∧ Aside0 (wc.heap[gb163]? = some (.cells #[(.slice A1_0 l1_0.length c1_0), (.slice A1_1 l1_1.length c1_1)] 27 (0, 0))) ∧ Aside0 (wc.heap[gb164]? = some (.cells #[(.slice none 0 0), (.slice none 0 0)] 27 (0, 0))) ∧ Aside0 (Below w.heap.size w wc))
 case first =>
  have H := HC3.out
  clear HC3
  replace H := Option.bind_eq_some_iff.mp H
  obtain ⟨t165, A70, H⟩ := H
  (try dsimp only at H)
  have A7 := Aside0.mk A70
  clear A70
  by_cases c8 : t165 = true
  rotate_left
  ·replace c8 := Bool.eq_false_iff.mpr c8
   subst c8
   have H1 : (tens_both_Add.j0 k true l0_0 l0_1 l1_0 l1_1) = some (r1, r2, r3) := by rw [if_neg (show ¬ (false = true) by decide)] at H; exact H
   clear H
   have H := H1
   clear H1
   have H' := Aside0.mk H
   clear H
   have hnb17 := NB162_163.out
   have hnc17 := NB163_162.out
   have hnb18 := NB162_164.out
   have hnc18 := NB164_162.out
   have hcz19_0 := zx_ (v := .slice A0_0 l0_0.length c0_0) BK162 0
   have hcz19_1 := zx_ (v := .slice A0_1 l0_1.length c0_1) BK162 1
   have hfz19_0 := blk_frozen BK162.out 0
   have hfz19_1 := blk_frozen BK162.out 1
   go_wp2_with (first | ((with_reducible refine gate_callee (f := 16) rfl ?_); refine zg_ (some 16) Try.func16 #[.agg #[.slice A0_0 l0_0.length c0_0, .slice A0_1 l0_1.length c0_1]] (h := ?_); (with_reducible refine (tens_Good.calls k _ _ l0_0 _ _ l0_1 false _ ?side1 ?side2 ?side3 ?side4 A7.out).mono ?_); (case side1 => exact zk_ (Kd.C_below HR0_0.out HB.out)); (case side2 => exact HC0_0.out); (case side3 => exact zk_ (Kd.C_below HR0_1.out HB.out)); (case side4 => exact HC0_1.out); rintro e w20 ⟨rfl, hb⟩; refine ⟨_, rfl, ?_⟩; replace BK162 := za_ BK162 hb; replace BK163 := za_ BK163 hb; replace BK164 := za_ BK164 hb; replace HB := Aside0.mk (below_step (zw3_ HB GE162 GE163 GE164) hb); (try clear hb)))
   go_meet
   case rel => exact ⟨_, (true), z1_, H', ⟨by first | omega | exact Nat.le_refl _⟩, ⟨zb_ BK162⟩, ⟨zb_ BK163⟩, ⟨zb_ BK164⟩, ⟨zw3_ HB GE162 GE163 GE164⟩⟩
  subst c8
  have H1 := H
  rw [if_pos rfl] at H1
  clear H
  have H := H1
  clear H1
  replace H := Option.bind_eq_some_iff.mp H
  obtain ⟨t166, A90, H⟩ := H
  replace H : (tens_both_Add.j0 k (!t166) l0_0 l0_1 l1_0 l1_1) = some (r1, r2, r3) := H
  have A9 := Aside0.mk A90
  clear A90
  have H' := Aside0.mk H
  clear H
  have hnb10 := NB162_163.out
  have hnc10 := NB163_162.out
  have hnb11 := NB162_164.out
  have hnc11 := NB164_162.out
  have hcz12_0 := zx_ (v := .slice A0_0 l0_0.length c0_0) BK162 0
  have hcz12_1 := zx_ (v := .slice A0_1 l0_1.length c0_1) BK162 1
  have hfz12_0 := blk_frozen BK162.out 0
  have hfz12_1 := blk_frozen BK162.out 1
  go_wp2_with (first | ((with_reducible refine gate_callee (f := 16) rfl ?_); refine zg_ (some 16) Try.func16 #[.agg #[.slice A0_0 l0_0.length c0_0, .slice A0_1 l0_1.length c0_1]] (h := ?_); (with_reducible refine (tens_Good.calls k _ _ l0_0 _ _ l0_1 true _ ?side1 ?side2 ?side3 ?side4 A7.out).mono ?_); (case side1 => exact zk_ (Kd.C_below HR0_0.out HB.out)); (case side2 => exact HC0_0.out); (case side3 => exact zk_ (Kd.C_below HR0_1.out HB.out)); (case side4 => exact HC0_1.out); rintro e w13 ⟨rfl, hb⟩; refine ⟨_, rfl, ?_⟩; replace BK162 := za_ BK162 hb; replace BK163 := za_ BK163 hb; replace BK164 := za_ BK164 hb; replace HB := Aside0.mk (below_step (zw3_ HB GE162 GE163 GE164) hb); (try clear hb); have hnb14 := NB163_164.out; have hnc14 := NB164_163.out; have hcz15_0 := zx_ (v := .slice A1_0 l1_0.length c1_0) BK163 0; have hcz15_1 := zx_ (v := .slice A1_1 l1_1.length c1_1) BK163 1; have hfz15_0 := blk_frozen BK163.out 0; have hfz15_1 := blk_frozen BK163.out 1) | (go_at_call 16; (with_reducible refine (tens_Good.calls k _ _ l1_0 _ _ l1_1 t166 _ ?side1 ?side2 ?side3 ?side4 A9.out).mono ?_); (case side1 => exact zk_ (Kd.C_below HR1_0.out HB.out)); (case side2 => exact HC1_0.out); (case side3 => exact zk_ (Kd.C_below HR1_1.out HB.out)); (case side4 => exact HC1_1.out); rintro e w16 ⟨rfl, hb⟩; replace BK162 := za_ BK162 hb; replace BK163 := za_ BK163 hb; replace BK164 := za_ BK164 hb; replace HB := Aside0.mk (below_step (zw3_ HB GE162 GE163 GE164) hb); (try clear hb)))
  go_meet
  case rel => exact ⟨_, (!t166), z1_, H', ⟨by first | omega | exact Nat.le_refl _⟩, ⟨zb_ BK162⟩, ⟨zb_ BK163⟩, ⟨zb_ BK164⟩, ⟨zw3_ HB GE162 GE163 GE164⟩⟩
 case rest =>
  clear HC3
  try clear c1
  try clear p2
  try clear c8
  try clear c9
  try clear c10
  try clear c11
  try clear c14
  try clear c16
  try clear c17
  try clear c18
  try clear hcz12_0
  try clear hcz12_1
  try clear hcz15_0
  try clear hcz15_1
  try clear hcz19_0
  try clear hcz19_1
  try clear hfz12_0
  try clear hfz12_1
  try clear hfz15_0
  try clear hfz15_1
  try clear hfz19_0
  try clear hfz19_1
  obtain ⟨kq, x22_2, rfl, HA, HJ2, BK162, BK163, BK164, HB⟩ := hcut
  cases kq with
  | zero => exact absurd HA.out (by simp [tens_both_Add.j0])
  | succ kj2 =>
   have H := HA.out
   clear HA
   simp only [tens_both_Add.j0] at H
   by_cases c21 : x22_2 = true
   ·subst c21
    have H1 : (some (([] : List Int), ([] : List Int), 1)) = some (r1, r2, r3) := by rw [if_pos rfl] at H; exact H
    clear H
    have H := H1
    clear H1
    simp only [Option.some.injEq, Prod.mk.injEq] at H
    obtain ⟨rfl, rfl, rfl⟩ := H
    have hnb22 := NB164_162.out
    have hnc22 := NB162_164.out
    have hnb23 := NB164_163.out
    have hnc23 := NB163_164.out
    have hcz24_0 := zx_ (v := .slice none 0 0) BK164 0
    have hcz24_1 := zx_ (v := .slice none 0 0) BK164 1
    have hfz24_0 := blk_frozen BK164.out 0
    have hfz24_1 := blk_frozen BK164.out 1
    go_wp2
    refine bodyPost_ret (results_ct rfl _ _ gb164 27 #[.slice none 0 0, .slice none 0 0] (0, 0) _ rfl (zo2_ BK164) Try.underlying27 rfl (by kernel_rfl)) rfl ?_
    exact ⟨_, _, z0_, z2_, z2_, zw3_ HB GE162 GE163 GE164⟩
   replace c21 := Bool.eq_false_iff.mpr c21
   subst c21
   have H1 := H
   rw [if_neg (show ¬ (false = true) by decide)] at H1
   clear H
   have H := H1
   clear H1
   replace H := Option.bind_eq_some_iff.mp H
   obtain ⟨⟨t167, t168⟩, A250, H⟩ := H
   (try dsimp only at H)
   have A25 := Aside0.mk A250
   clear A250
   by_cases c26 : t168 = 0
   rotate_left
   ·rw [if_neg c26] at H
    have c26b0 : (t168 == 0) = false := beq_eq_false_iff_ne.mpr c26
    have c26b1 : (t168 != 0) = true := bne_iff_ne.mpr c26
    simp only [Option.some.injEq, Prod.mk.injEq] at H
    obtain ⟨rfl, rfl, rfl⟩ := H
    have hnb73 := NB162_163.out
    have hnc73 := NB163_162.out
    have hnb74 := NB162_164.out
    have hnc74 := NB164_162.out
    have hcz75_0 := zx_ (v := .slice A0_0 l0_0.length c0_0) BK162 0
    have hcz75_1 := zx_ (v := .slice A0_1 l0_1.length c0_1) BK162 1
    have hfz75_0 := blk_frozen BK162.out 0
    have hfz75_1 := blk_frozen BK162.out 1
    have hnb76 := NB163_164.out
    have hnc76 := NB164_163.out
    have hcz77_0 := zx_ (v := .slice A1_0 l1_0.length c1_0) BK163 0
    have hcz77_1 := zx_ (v := .slice A1_1 l1_1.length c1_1) BK163 1
    have hfz77_0 := blk_frozen BK163.out 0
    have hfz77_1 := blk_frozen BK163.out 1
    go_wp2_with (first | ((with_reducible refine gate_callee (f := 54) rfl ?_); refine zg_ (some 29) Try.func54 #[.slice A0_0 l0_0.length c0_0, .slice A1_0 l1_0.length c1_0] (h := ?_); (with_reducible refine (shape_Join.calls kj2 _ _ l0_0 _ _ l1_0 t167 t168 _ ?side1 ?side2 ?side3 ?side4 A25.out).mono ?_); (case side1 => exact zk_ (Kd.C_below HR0_0.out HB.out)); (case side2 => exact HC0_0.out); (case side3 => exact zk_ (Kd.C_below HR1_0.out HB.out)); (case side4 => exact HC1_0.out); rintro e w78 ⟨v169, rfl, ho0, hb⟩; refine ⟨_, rfl, ?_⟩; have HO170 := Aside0.mk (Kd.R_lower ho0 (below_size (zw3_ HB GE162 GE163 GE164))); replace BK162 := za_ BK162 hb; replace BK163 := za_ BK163 hb; replace BK164 := za_ BK164 hb; replace HB := Aside0.mk (below_step (zw3_ HB GE162 GE163 GE164) hb); (try clear hb); (try clear ho0); have hcz79_0 := zx_ (v := .slice none 0 0) BK164 0; have hcz79_1 := zx_ (v := .slice none 0 0) BK164 1; have hfz79_0 := blk_frozen BK164.out 0; have hfz79_1 := blk_frozen BK164.out 1))
    refine bodyPost_ret (results_ct rfl _ _ gb164 27 #[.slice none 0 0, .slice none 0 0] (0, 0) _ rfl (zo2_ BK164) Try.underlying27 rfl (by kernel_rfl)) rfl ?_
    exact ⟨_, _, z0_, z2_, z2_, zw3_ HB GE162 GE163 GE164⟩
   rw [if_pos c26] at H
   have c26b0 : (t168 == 0) = true := beq_iff_eq.mpr c26
   have c26b1 : (t168 != 0) = false := bne_eq_false_iff_eq.mpr c26
   clear c26
   replace H := Option.bind_eq_some_iff.mp H
   obtain ⟨⟨t171, t174, t177⟩, A270, H⟩ := H
   (try dsimp only at H)
   have A27 := Aside0.mk A270
   clear A270
   replace H := Option.bind_eq_some_iff.mp H
   obtain ⟨t179, A280, H⟩ := H
   (try dsimp only at H)
   have A28 := Aside0.mk A280
   clear A280
   replace H := Option.bind_eq_some_iff.mp H
   obtain ⟨t182, A290, H⟩ := H
   replace H : (tens_both_Add.l0 kj2 t179 t182 (t174.length : Int) 0 l0_0 l0_1 l1_0 l1_1 t171 t174) = some (r1, r2, r3) := H
   have A29 := Aside0.mk A290
   clear A290
   have H' := Aside0.mk H
   clear H
   have hnb30 := NB162_163.out
   have hnc30 := NB163_162.out
   have hnb31 := NB162_164.out
   have hnc31 := NB164_162.out
   have hcz32_0 := zx_ (v := .slice A0_0 l0_0.length c0_0) BK162 0
   have hcz32_1 := zx_ (v := .slice A0_1 l0_1.length c0_1) BK162 1
   have hfz32_0 := blk_frozen BK162.out 0
   have hfz32_1 := blk_frozen BK162.out 1
   have hnb33 := NB163_164.out
   have hnc33 := NB164_163.out
   have hcz34_0 := zx_ (v := .slice A1_0 l1_0.length c1_0) BK163 0
   have hcz34_1 := zx_ (v := .slice A1_1 l1_1.length c1_1) BK163 1
   have hfz34_0 := blk_frozen BK163.out 0
   have hfz34_1 := blk_frozen BK163.out 1
   try go_wp2_with (first | ((with_reducible refine gate_callee (f := 54) rfl ?_); refine zg_ (some 29) Try.func54 #[.slice A0_0 l0_0.length c0_0, .slice A1_0 l1_0.length c1_0] (h := ?_); (with_reducible refine (shape_Join.calls kj2 _ _ l0_0 _ _ l1_0 t167 t168 _ ?side1 ?side2 ?side3 ?side4 A25.out).mono ?_); (case side1 => exact zk_ (Kd.C_below HR0_0.out HB.out)); (case side2 => exact HC0_0.out); (case side3 => exact zk_ (Kd.C_below HR1_0.out HB.out)); (case side4 => exact HC1_0.out); rintro e w35 ⟨v169, rfl, ho0, hb⟩; refine ⟨_, rfl, ?_⟩; have HO170 := Aside0.mk (Kd.R_lower ho0 (below_size (zw3_ HB GE162 GE163 GE164))); replace BK162 := za_ BK162 hb; replace BK163 := za_ BK163 hb; replace BK164 := za_ BK164 hb; replace HB := Aside0.mk (below_step (zw3_ HB GE162 GE163 GE164) hb); (try clear hb); (try clear ho0); obtain ⟨Ao36, co36, eo36⟩ := Kd.R_slice HO170.out; subst eo36) | ((with_reducible refine gate_callee (f := 12) rfl ?_); refine zg_ (some 38) Try.func12 #[.slice Ao36 t167.length co36, .int .i64 0] (h := ?_); (with_reducible refine (tens_New.calls kj2 _ _ t167 0 t171 t174 t177 _ ?side1 ?side2 A27.out).mono ?_); (case side1 => exact zk_ ((Kd.R_reads' HO170.out).2.2)); (case side2 => exact (Kd.R_reads' HO170.out).2.1); rintro e w37 ⟨v172, v175, rfl, ho0, ho1, hb⟩; refine ⟨_, rfl, ?_⟩; have HO173 := Aside0.mk (Kd.R_lower (Kd.R_new' ho0 (Kd.R_lt (zr_ HO170.out))) (below_size (zw3_ HB GE162 GE163 GE164))); replace HO170 := ze_ HO170 ho0 hb; have HO176 := Aside0.mk (Kd.R_lower ho1 (below_size (zw3_ HB GE162 GE163 GE164))); replace BK162 := za_ BK162 hb; replace BK163 := za_ BK163 hb; replace BK164 := za_ BK164 hb; replace HB := Aside0.mk (below_step (zw3_ HB GE162 GE163 GE164) hb); (try clear hb); (try clear ho0); (try clear ho1)) | ((with_reducible refine gate_dst (N := 10) rfl ?_); refine box_event ?hg (N := 10) ?hd (cs := #[.slice none 0 0, .slice none 0 0]) (t := 27) ?hr ?_; (case hd => rfl); (case hg => rfl); (case hr => first | (go_simp; done) | (go_simp; rfl)); intro gb178 hg w38 hbox hb; replace HO170 := zy_ HO170 hb; replace HO173 := zy_ HO173 hb; replace HO176 := zy_ HO176 hb; have BK178 := Aside0.mk (hbox); have GW178 := Aside0.mk (zs_ hg (zw3_ HB GE162 GE163 GE164)); have GE178 := Aside0.mk (zs_ hg (zw3_ HB GE162 GE163 GE164)); replace HB := Aside0.mk (below_step (zw3_ HB GE162 GE163 GE164) hb); have NB162_178 := Aside0.mk (zn_ hg BK162); have NB178_162 := Aside0.mk (zm_ hg BK162); replace BK162 := za_ BK162 hb; have NB163_178 := Aside0.mk (zn_ hg BK163); have NB178_163 := Aside0.mk (zm_ hg BK163); replace BK163 := za_ BK163 hb; have NB164_178 := Aside0.mk (zn_ hg BK164); have NB178_164 := Aside0.mk (zm_ hg BK164); replace BK164 := za_ BK164 hb; clear hb hbox hg; obtain ⟨Ao39, co39, eo39⟩ := Kd.R_slice HO173.out; subst eo39; have hnb40 := NB178_162.out; have hnc40 := NB162_178.out; have hnb41 := NB178_163.out; have hnc41 := NB163_178.out; have hnb42 := NB178_164.out; have hnc42 := NB164_178.out; have hcz43_0 := zx_ (v := .slice none 0 0) BK178 0; have hcz43_1 := zx_ (v := .slice none 0 0) BK178 1; have hfz43_0 := blk_frozen BK178.out 0; have hfz43_1 := blk_frozen BK178.out 1; obtain ⟨Ao44, co44, eo44⟩ := Kd.R_slice HO176.out; subst eo44))
   have n0_ : Aside0 (Kd.R (Kd.int .i64) 3 ((w38.setCell ⟨gb178, 0, none⟩ (.slice Ao39 t171.length co39)).setCell ⟨gb178, 1, none⟩ (.slice Ao44 t174.length co44)) w.heap.size (fun k_ => some k_ ≠ (.slice Ao39 t171.length co39 : Value).ownBlock) (.slice Ao36 t167.length co36) t167) := ⟨zr_ (Kd.R_mono (Kd.R_far (p := ⟨gb178, 1, none⟩) (Kd.R_far (p := ⟨gb178, 0, none⟩) (Kd.R_types HO170.out BK178.out (by decide)) (fun _ hk => hk.2) (.slice Ao39 t171.length co39)) (fun _ hk => hk.2) (.slice Ao44 t174.length co44)) (fun _ hk => hk.1.2))⟩
   have n1_ : Aside0 (Kd.R (Kd.int .i64) 3 ((w38.setCell ⟨gb178, 0, none⟩ (.slice Ao39 t171.length co39)).setCell ⟨gb178, 1, none⟩ (.slice Ao44 t174.length co44)) w.heap.size (fun k_ => some k_ ≠ (.slice Ao36 t167.length co36 : Value).ownBlock) (.slice Ao39 t171.length co39) t171) := ⟨zr_ (Kd.R_mono (Kd.R_far (p := ⟨gb178, 1, none⟩) (Kd.R_far (p := ⟨gb178, 0, none⟩) (Kd.R_types HO173.out BK178.out (by decide)) (fun _ hk => hk.2) (.slice Ao39 t171.length co39)) (fun _ hk => hk.2) (.slice Ao44 t174.length co44)) (fun _ hk => hk.1.2))⟩
   have n2_ : Aside0 (Kd.R (Kd.int .i64) 23 ((w38.setCell ⟨gb178, 0, none⟩ (.slice Ao39 t171.length co39)).setCell ⟨gb178, 1, none⟩ (.slice Ao44 t174.length co44)) w.heap.size (fun _ => True) (.slice Ao44 t174.length co44) t174) := ⟨zr_ (Kd.R_mono (Kd.R_far (p := ⟨gb178, 1, none⟩) (Kd.R_far (p := ⟨gb178, 0, none⟩) (Kd.R_types HO176.out BK178.out (by decide)) (fun _ hk => hk.2) (.slice Ao39 t171.length co39)) (fun _ hk => hk.2) (.slice Ao44 t174.length co44)) (fun _ hk => trivial))⟩
   have n3_ : Aside0 (((w38.setCell ⟨gb178, 0, none⟩ (.slice Ao39 t171.length co39)).setCell ⟨gb178, 1, none⟩ (.slice Ao44 t174.length co44)).heap[gb162]? = some (.cells #[.slice A0_0 l0_0.length c0_0, .slice A0_1 l0_1.length c0_1] 27 (0, 0))) := ⟨zv1_ BK162 NB162_178⟩
   have n4_ : Aside0 (((w38.setCell ⟨gb178, 0, none⟩ (.slice Ao39 t171.length co39)).setCell ⟨gb178, 1, none⟩ (.slice Ao44 t174.length co44)).heap[gb163]? = some (.cells #[.slice A1_0 l1_0.length c1_0, .slice A1_1 l1_1.length c1_1] 27 (0, 0))) := ⟨zv1_ BK163 NB163_178⟩
   have n5_ : Aside0 (((w38.setCell ⟨gb178, 0, none⟩ (.slice Ao39 t171.length co39)).setCell ⟨gb178, 1, none⟩ (.slice Ao44 t174.length co44)).heap[gb164]? = some (.cells #[.slice none 0 0, .slice none 0 0] 27 (0, 0))) := ⟨zv1_ BK164 NB164_178⟩
   have n6_ : Aside0 (((w38.setCell ⟨gb178, 0, none⟩ (.slice Ao39 t171.length co39)).setCell ⟨gb178, 1, none⟩ (.slice Ao44 t174.length co44)).heap[gb178]? = some (.cells #[.slice Ao39 t171.length co39, .slice Ao44 t174.length co44] 27 (0, 0))) := ⟨zo2_ BK178⟩
   have n7_ : Aside0 (Below w.heap.size w ((w38.setCell ⟨gb178, 0, none⟩ (.slice Ao39 t171.length co39)).setCell ⟨gb178, 1, none⟩ (.slice Ao44 t174.length co44))) := ⟨zw4_ HB GE162 GE163 GE164 GE178⟩
   (try clear HO170)
   (try clear HO173)
   (try clear HO176)
   (try clear BK162)
   (try clear BK163)
   (try clear BK164)
   (try clear BK178)
   (try clear HB)
   generalize ((w38.setCell ⟨gb178, 0, none⟩ (.slice Ao39 t171.length co39)).setCell ⟨gb178, 1, none⟩ (.slice Ao44 t174.length co44)) = w45 at n0_ n1_ n2_ n3_ n4_ n5_ n6_ n7_ ⊢
   have HO170 := n0_
   have HO173 := n1_
   have HO176 := n2_
   have BK162 := n3_
   have BK163 := n4_
   have BK164 := n5_
   have BK178 := n6_
   have HB := n7_
   clear n0_ n1_ n2_ n3_ n4_ n5_ n6_ n7_
   replace HO170 := Aside0.mk (Kd.R_drew HO170.out)
   replace HO173 := Aside0.mk (Kd.R_drew HO173.out)
   replace HO176 := Aside0.mk (Kd.R_drew HO176.out)
   replace BK162 := Aside0.mk (blk_drew BK162.out)
   replace BK163 := Aside0.mk (blk_drew BK163.out)
   replace BK164 := Aside0.mk (blk_drew BK164.out)
   replace BK178 := Aside0.mk (blk_drew BK178.out)
   replace HB := Aside0.mk (below_drew1 HB.out)
   refine start_ (n := 10) (S := fun w' => w'.cell? ⟨gb162, 0, none⟩ = some (.slice A0_0 l0_0.length c0_0) ∧ w'.cell? ⟨gb162, 1, none⟩ = some (.slice A0_1 l0_1.length c0_1) ∧ w'.cell? ⟨gb163, 0, none⟩ = some (.slice A1_0 l1_0.length c1_0) ∧ w'.cell? ⟨gb163, 1, none⟩ = some (.slice A1_1 l1_1.length c1_1)) (ds := []) #[false, false, false, false, false, false, false, false, false, false] (by kernel_rfl) rfl rfl ⟨(blk_cell BK162.out 0).trans rfl, (blk_cell BK162.out 1).trans rfl, (blk_cell BK163.out 0).trans rfl, (blk_cell BK163.out 1).trans rfl⟩ (fun hHeld => ?_); refine with_tabW tens_both_Add.tab7 tens_both_Add.bits7 (fun HT_ HW_ => ?_)
   generalize w45.drew = w46 at HO170 HO173 HO176 BK162 BK163 BK164 BK178 HB hHeld ⊢
   refine yp_ ?_ 0 41
   refine yp_ ?_ 2 43
   refine yp_ ?_ 4 45
   refine yp_ ?_ 6 47
   refine yt4_ ?_ 1 42
   refine yt4_ ?_ 5 46
   refine yo_ 3 (some 44) (fun K hK => ?_)
   refine yg_ Try.func55 #[.slice A0_0 l0_0.length c0_0, .slice Ao36 t167.length co36] ?_
   with_reducible refine (shape_Spread.calls kj2 _ _ l0_0 _ _ t167 t179 _ ?side1 ?side2 ?side3 ?side4 A28.out).mono ?_
   (case side1 => exact zk_ (Kd.C_below HR0_0.out HB.out))
   (case side2 => exact HC0_0.out)
   (case side3 => exact zk_ ((Kd.R_reads' HO170.out).2.2))
   (case side4 => exact (Kd.R_reads' HO170.out).2.1)
   rintro e w47 ⟨v180, rfl, ho0, hb⟩
   refine ⟨_, rfl, ?_⟩
   replace HO176 := zy_ HO176 hb
   have HO181 := Aside0.mk (Kd.R_lower (Kd.R_new' (Kd.R_new' ho0 (Kd.R_lt (zr_ HO170.out))) (Kd.R_lt (zr_ HO173.out))) (below_size (zw4_ HB GE162 GE163 GE164 GE178)))
   replace HO170 := ze_ HO170 ho0 hb
   replace HO173 := ze_ HO173 ho0 hb
   replace BK162 := za_ BK162 hb
   replace BK163 := za_ BK163 hb
   replace BK164 := za_ BK164 hb
   replace BK178 := za_ BK178 hb
   replace HB := Aside0.mk (below_step (zw4_ HB GE162 GE163 GE164 GE178) hb)
   (try clear hb)
   (try clear hb2)
   (try clear hk)
   (try clear hi)
   (try clear ho0)
   refine hK.out _ _ ⟨zx_ BK162 0, zx_ BK162 1, zx_ BK163 0, zx_ BK163 1⟩ (fun hHeld => ?_)
   clear hK K
   refine zq_ (some 44) (h := ?_)
   refine yo_ 7 (some 48) (fun K hK => ?_)
   refine yg_ Try.func55 #[.slice A1_0 l1_0.length c1_0, .slice Ao36 t167.length co36] ?_
   with_reducible refine (shape_Spread.calls kj2 _ _ l1_0 _ _ t167 t182 _ ?side1 ?side2 ?side3 ?side4 A29.out).mono ?_
   (case side1 => exact zk_ (Kd.C_below HR1_0.out HB.out))
   (case side2 => exact HC1_0.out)
   (case side3 => exact zk_ ((Kd.R_reads' HO170.out).2.2))
   (case side4 => exact (Kd.R_reads' HO170.out).2.1)
   rintro e w48 ⟨v183, rfl, ho0, hb⟩
   refine ⟨_, rfl, ?_⟩
   replace HO176 := zy_ HO176 hb
   have HO184 := Aside0.mk (Kd.R_lower (Kd.R_new' (Kd.R_new' (Kd.R_new' ho0 (Kd.R_lt (zr_ HO170.out))) (Kd.R_lt (zr_ HO173.out))) (Kd.R_lt (zr_ HO181.out))) (below_size (zw4_ HB GE162 GE163 GE164 GE178)))
   replace HO170 := ze_ HO170 ho0 hb
   replace HO173 := ze_ HO173 ho0 hb
   replace HO181 := ze_ HO181 ho0 hb
   replace BK162 := za_ BK162 hb
   replace BK163 := za_ BK163 hb
   replace BK164 := za_ BK164 hb
   replace BK178 := za_ BK178 hb
   replace HB := Aside0.mk (below_step (zw4_ HB GE162 GE163 GE164 GE178) hb)
   (try clear hb)
   (try clear hb2)
   (try clear hk)
   (try clear hi)
   (try clear ho0)
   refine hK.out _ _ ⟨zx_ BK162 0, zx_ BK162 1, zx_ BK163 0, zx_ BK163 1⟩ (fun hHeld => ?_)
   clear hK K
   refine zq_ (some 48) (h := ?_)
   refine yp_ ?_ 8 12
   refine yp_ ?_ 9 13
   refine done_ (done_of HT_.out (by kernel_rfl)) ?_
   have hcz49_0 := zx_ (v := .slice Ao39 t171.length co39) BK178 0
   have hcz49_1 := zx_ (v := .slice Ao44 t174.length co44) BK178 1
   have hfz49_0 := blk_frozen BK178.out 0
   have hfz49_1 := blk_frozen BK178.out 1
   try go_wp2
   go_loopg [52] kj2 (fun kq v52 w' => ∃ (x52_2 : Int) (x179001_2 : List Int) (u179001 : Value), v52 = .int .i64 x52_2 ∧ Aside0 (tens_both_Add.l0 kq t179 t182 (t174.length : Int) x52_2 l0_0 l0_1 l1_0 l1_1 t171 x179001_2 = some (r1, r2, r3)) ∧ Aside0 (kq ≤ kj2) ∧ Aside0 (Kd.R (Kd.int .i64) 3 w' w.heap.size (fun k_ => some k_ ≠ (v183 : Value).ownBlock ∧ some k_ ≠ ((.slice Ao39 t171.length co39) : Value).ownBlock) v180 t179) ∧ Aside0 (Kd.R (Kd.int .i64) 3 w' w.heap.size (fun k_ => some k_ ≠ (v180 : Value).ownBlock ∧ some k_ ≠ ((.slice Ao39 t171.length co39) : Value).ownBlock) v183 t182) ∧ Aside0 (Kd.R (Kd.int .i64) 3 w' w.heap.size (fun k_ => some k_ ≠ (v180 : Value).ownBlock ∧ some k_ ≠ (v183 : Value).ownBlock) (.slice Ao39 t171.length co39) t171) ∧ Aside0 (Kd.R (Kd.int .i64) 23 w' w.heap.size (fun _ => True) u179001 x179001_2) ∧ Aside0 (w'.heap[gb162]? = some (.cells #[(.slice A0_0 l0_0.length c0_0), (.slice A0_1 l0_1.length c0_1)] 27 (0, 0))) ∧ Aside0 (w'.heap[gb163]? = some (.cells #[(.slice A1_0 l1_0.length c1_0), (.slice A1_1 l1_1.length c1_1)] 27 (0, 0))) ∧ Aside0 (w'.heap[gb164]? = some (.cells #[(.slice none 0 0), (.slice none 0 0)] 27 (0, 0))) ∧ Aside0 (w'.heap[gb178]? = some (.cells #[(.slice Ao39 t171.length co39), u179001] 27 (0, 0))) ∧ Aside0 (Below w.heap.size w w'))
   case atStart => exact ⟨(0), (t174), (.slice Ao44 t174.length co44), z1_, H', ⟨Nat.le_refl _⟩, ⟨zr_ (Kd.R_mono HO181.out (fun _ hk => ⟨hk.2, hk.1.2⟩))⟩, ⟨zr_ (Kd.R_mono HO184.out (fun _ hk => ⟨hk.2, hk.1.2⟩))⟩, ⟨zr_ (Kd.R_mono HO173.out (fun _ hk => ⟨hk.1.2, hk.2⟩))⟩, ⟨zr_ HO176.out⟩, ⟨zb_ BK162⟩, ⟨zb_ BK163⟩, ⟨zb_ BK164⟩, ⟨zb_ BK178⟩, ⟨zw4_ HB GE162 GE163 GE164 GE178⟩⟩
   case round =>
    clear H'
    try clear c1
    try clear c2
    try clear p2
    try clear c3
    try clear c4
    try clear c5
    try clear c8
    try clear c9
    try clear c10
    try clear c11
    try clear c12
    try clear c14
    try clear c16
    try clear c17
    try clear c18
    try clear c21
    try clear c22
    try clear c23
    try clear c26
    try clear c26b0
    try clear c26b1
    try clear c30
    try clear c31
    try clear c33
    try clear c40
    try clear c41
    try clear c42
    try clear hcz12_0
    try clear hcz12_1
    try clear hcz15_0
    try clear hcz15_1
    try clear hcz19_0
    try clear hcz19_1
    try clear hcz24_0
    try clear hcz24_1
    try clear hcz32_0
    try clear hcz32_1
    try clear hcz34_0
    try clear hcz34_1
    try clear hcz43_0
    try clear hcz43_1
    try clear hcz49_0
    try clear hcz49_1
    try clear hfz12_0
    try clear hfz12_1
    try clear hfz15_0
    try clear hfz15_1
    try clear hfz19_0
    try clear hfz19_1
    try clear hfz24_0
    try clear hfz24_1
    try clear hfz32_0
    try clear hfz32_1
    try clear hfz34_0
    try clear hfz34_1
    try clear hfz43_0
    try clear hfz43_1
    try clear hfz49_0
    try clear hfz49_1
    try clear p2
    obtain ⟨x52_2, x179001_2, u179001, rfl, HA, HK2, HO_12, HO_13, HO_179000, HO_179001, BK162, BK163, BK164, BK178, HB⟩ := hrel
    cases gk with
    | zero => exact absurd HA.out (by simp [tens_both_Add.l0])
    | succ k2 =>
     have H := HA.out
     clear HA
     simp only [tens_both_Add.l0] at H
     by_cases c50 : x52_2 < (t174.length : Int)
     rotate_left
     ·rw [if_neg c50] at H
      have c50b0 : decide (x52_2 < (t174.length : Int)) = false := decide_eq_false c50
      clear c50
      simp only [Option.some.injEq, Prod.mk.injEq] at H
      obtain ⟨rfl, rfl, rfl⟩ := H
      have hnb65 := NB178_162.out
      have hnc65 := NB162_178.out
      have hnb66 := NB178_163.out
      have hnc66 := NB163_178.out
      have hnb67 := NB178_164.out
      have hnc67 := NB164_178.out
      have hcz68_0 := zx_ (v := .slice Ao39 t171.length co39) BK178 0
      have hcz68_1 := zx_ (v := u179001) BK178 1
      have hfz68_0 := blk_frozen BK178.out 0
      have hfz68_1 := blk_frozen BK178.out 1
      have hnb69 := NB164_162.out
      have hnc69 := NB162_164.out
      have hnb70 := NB164_163.out
      have hnc70 := NB163_164.out
      have hcz71_0 := zx_ (v := .slice none 0 0) BK164 0
      have hcz71_1 := zx_ (v := .slice none 0 0) BK164 1
      have hfz71_0 := blk_frozen BK164.out 0
      have hfz71_1 := blk_frozen BK164.out 1
      obtain ⟨Ao72, co72, eo72⟩ := Kd.R_slice HO_179001.out
      subst eo72
      go_wp2
      refine bodyPost_ret (results_ct rfl _ _ gb164 27 #[.slice Ao39 t171.length co39, .slice Ao72 x179001_2.length co72] (0, 0) _ rfl (zo2_ BK164) Try.underlying27 rfl (by kernel_rfl)) rfl ?_
      exact ⟨_, _, z0_, zr_ (Kd.R_mono (Kd.R_far (p := ⟨gb164, 1, none⟩) (Kd.R_far (p := ⟨gb164, 0, none⟩) (Kd.R_types HO_179000.out BK164.out (by decide)) (fun _ hk => hk.2) (.slice Ao39 t171.length co39)) (fun _ hk => hk.2) (.slice Ao72 x179001_2.length co72)) (fun _ hk => trivial)), zr_ (Kd.R_mono (Kd.R_far (p := ⟨gb164, 1, none⟩) (Kd.R_far (p := ⟨gb164, 0, none⟩) (Kd.R_types HO_179001.out BK164.out (by decide)) (fun _ hk => hk.2) (.slice Ao39 t171.length co39)) (fun _ hk => hk.2) (.slice Ao72 x179001_2.length co72)) (fun _ hk => trivial)), zw4_ HB GE162 GE163 GE164 GE178⟩
     rw [if_pos c50] at H
     have c50b0 : decide (x52_2 < (t174.length : Int)) = true := decide_eq_true c50
     clear c50
     by_cases c51 : 0 ≤ x52_2
     rotate_left
     ·rw [if_neg c51] at H
      exact absurd H (by simp)
     rw [if_pos c51] at H
     have c51b0 : decide (0 ≤ x52_2) = true := decide_eq_true c51
     clear c51
     by_cases c52 : x52_2 < (t179.length : Int)
     rotate_left
     ·rw [if_neg c52] at H
      exact absurd H (by simp)
     rw [if_pos c52] at H
     have c52b0 : decide (x52_2 < (t179.length : Int)) = true := decide_eq_true c52
     clear c52
     by_cases c53 : 0 ≤ (rd t179 x52_2)
     rotate_left
     ·rw [if_neg c53] at H
      exact absurd H (by simp)
     rw [if_pos c53] at H
     have c53b0 : decide (0 ≤ (rd t179 x52_2)) = true := decide_eq_true c53
     clear c53
     by_cases c54 : (rd t179 x52_2) < (l0_1.length : Int)
     rotate_left
     ·rw [if_neg c54] at H
      exact absurd H (by simp)
     rw [if_pos c54] at H
     have c54b0 : decide ((rd t179 x52_2) < (l0_1.length : Int)) = true := decide_eq_true c54
     clear c54
     by_cases c55 : x52_2 < (t182.length : Int)
     rotate_left
     ·rw [if_neg c55] at H
      exact absurd H (by simp)
     rw [if_pos c55] at H
     have c55b0 : decide (x52_2 < (t182.length : Int)) = true := decide_eq_true c55
     clear c55
     by_cases c56 : 0 ≤ (rd t182 x52_2)
     rotate_left
     ·rw [if_neg c56] at H
      exact absurd H (by simp)
     rw [if_pos c56] at H
     have c56b0 : decide (0 ≤ (rd t182 x52_2)) = true := decide_eq_true c56
     clear c56
     by_cases c57 : (rd t182 x52_2) < (l1_1.length : Int)
     rotate_left
     ·rw [if_neg c57] at H
      exact absurd H (by simp)
     rw [if_pos c57] at H
     have c57b0 : decide ((rd t182 x52_2) < (l1_1.length : Int)) = true := decide_eq_true c57
     clear c57
     replace H := Option.bind_eq_some_iff.mp H
     obtain ⟨t189, A580, H⟩ := H
     (try dsimp only at H)
     have A58 := Aside0.mk A580
     clear A580
     by_cases c59 : x52_2 < (x179001_2.length : Int)
     rotate_left
     ·rw [if_neg c59] at H
      exact absurd H (by simp)
     rw [if_pos c59] at H
     have c59b0 : decide (x52_2 < (x179001_2.length : Int)) = true := decide_eq_true c59
     clear c59
     obtain ⟨y190, hy190⟩ : ∃ y_ : List Int, y_ = (x179001_2.set (x52_2 : Int).toNat t189) := ⟨_, rfl⟩
     replace H : (tens_both_Add.l0 k2 t179 t182 (t174.length : Int) (wrap64 (x52_2 + 1)) l0_0 l0_1 l1_0 l1_1 t171 y190) = some (r1, r2, r3) := by first | (rw [hy190]; with_reducible exact H) | (have H2_ := (Option.bind_some _ _).symm.trans H; rw [hy190]; with_reducible exact H2_) | (have H2_ := (Option.bind_some _ _).symm.trans H; with_reducible exact H2_) | with_reducible exact H | (rw [hy190]; exact H) | exact H
     have Ny190 := Aside0.mk hy190
     clear hy190
     have H' := Aside0.mk H
     clear H
     try go_wp2
     replace HO_12 := Aside0.mk (Kd.R_drew HO_12.out)
     replace HO_13 := Aside0.mk (Kd.R_drew HO_13.out)
     replace HO_179000 := Aside0.mk (Kd.R_drew HO_179000.out)
     replace HO_179001 := Aside0.mk (Kd.R_drew HO_179001.out)
     replace BK162 := Aside0.mk (blk_drew BK162.out)
     replace BK163 := Aside0.mk (blk_drew BK163.out)
     replace BK164 := Aside0.mk (blk_drew BK164.out)
     replace BK178 := Aside0.mk (blk_drew BK178.out)
     replace HB := Aside0.mk (below_drew1 HB.out)
     obtain ⟨Ao62, co62, eo62⟩ := Kd.R_slice HO_12.out
     (first | subst eo62 | (injection eo62 with f1_ f2_ f3_; have f4_ := f1_.symm; have f5_ := f3_.symm; clear f1_ f2_ f3_; subst f4_; subst f5_))
     have p185 : 0 ≤ (x52_2 : Int) := of_decide_eq_true (by first | (with_reducible assumption) | assumption)
     have q185 : x52_2 < (t179.length : Int) := of_decide_eq_true (by first | (with_reducible assumption) | assumption)
     obtain ⟨ad185, e185, hx185_0⟩ := Kd.at_int (Kd.R_reads' HO_12.out).2.2 x52_2 p185 q185
     cases e185
     replace p185 := eq_true p185
     replace q185 := eq_true q185
     have p186 : 0 ≤ ((rd t179 x52_2) : Int) := of_decide_eq_true (by first | (with_reducible assumption) | assumption)
     have q186 : (rd t179 x52_2) < (l0_1.length : Int) := of_decide_eq_true (by first | (with_reducible assumption) | assumption)
     obtain ⟨ad186, e186, hx186_0⟩ := Kd.at_int HR0_1.out (rd t179 x52_2) p186 q186
     have hw186_0 := hx186_0
     cases e186
     replace hx186_0 := (HB.out.cell (World.block_lt_of_cell? w _ hx186_0)).trans hx186_0
     replace p186 := eq_true p186
     replace q186 := eq_true q186
     obtain ⟨Ao63, co63, eo63⟩ := Kd.R_slice HO_13.out
     (first | subst eo63 | (injection eo63 with f1_ f2_ f3_; have f4_ := f1_.symm; have f5_ := f3_.symm; clear f1_ f2_ f3_; subst f4_; subst f5_))
     have p187 : 0 ≤ (x52_2 : Int) := of_decide_eq_true (by first | (with_reducible assumption) | assumption)
     have q187 : x52_2 < (t182.length : Int) := of_decide_eq_true (by first | (with_reducible assumption) | assumption)
     obtain ⟨ad187, e187, hx187_0⟩ := Kd.at_int (Kd.R_reads' HO_13.out).2.2 x52_2 p187 q187
     cases e187
     replace p187 := eq_true p187
     replace q187 := eq_true q187
     have p188 : 0 ≤ ((rd t182 x52_2) : Int) := of_decide_eq_true (by first | (with_reducible assumption) | assumption)
     have q188 : (rd t182 x52_2) < (l1_1.length : Int) := of_decide_eq_true (by first | (with_reducible assumption) | assumption)
     obtain ⟨ad188, e188, hx188_0⟩ := Kd.at_int HR1_1.out (rd t182 x52_2) p188 q188
     have hw188_0 := hx188_0
     cases e188
     replace hx188_0 := (HB.out.cell (World.block_lt_of_cell? w _ hx188_0)).trans hx188_0
     replace p188 := eq_true p188
     replace q188 := eq_true q188
     refine start_ (n := 23) (S := fun w' => w'.cell? ⟨gb178, 0, none⟩ = some (.slice Ao39 t171.length co39) ∧ w'.cell? ⟨gb178, 1, none⟩ = some (u179001) ∧ w'.cell? ⟨gb162, 0, none⟩ = some (.slice A0_0 l0_0.length c0_0) ∧ w'.cell? ⟨gb162, 1, none⟩ = some (.slice (some ad186) l0_1.length c0_1) ∧ w'.cell? ⟨gb163, 0, none⟩ = some (.slice A1_0 l1_0.length c1_0) ∧ w'.cell? ⟨gb163, 1, none⟩ = some (.slice (some ad188) l1_1.length c1_1) ∧ w'.cell? (ad185.add (x52_2).toNat) = some (.int .i64 (rd t179 x52_2)) ∧ w'.cell? (ad186.add ((rd t179 x52_2)).toNat) = some (.int .i64 (rd l0_1 (rd t179 x52_2))) ∧ w'.cell? (ad187.add (x52_2).toNat) = some (.int .i64 (rd t182 x52_2)) ∧ w'.cell? (ad188.add ((rd t182 x52_2)).toNat) = some (.int .i64 (rd l1_1 (rd t182 x52_2)))) (ds := [22]) #[false, false, false, false, false, false, false, false, false, false, false, false, false, false, false, false, false, false, false, false, false, false, false] (by kernel_rfl) rfl rfl ⟨(blk_cell BK178.out 0).trans rfl, (blk_cell BK178.out 1).trans rfl, (blk_cell BK162.out 0).trans rfl, (blk_cell BK162.out 1).trans rfl, (blk_cell BK163.out 0).trans rfl, (blk_cell BK163.out 1).trans rfl, hx185_0, ((HB.out.cell (World.block_lt_of_cell? w _ hw186_0)).trans hw186_0), hx187_0, ((HB.out.cell (World.block_lt_of_cell? w _ hw188_0)).trans hw188_0)⟩ (fun hHeld => ?_); refine with_tabW tens_both_Add.tab11 tens_both_Add.bits11 (fun HT_ HW_ => ?_)
     generalize wr.drew = w61 at HO_12 HO_13 HO_179000 HO_179001 BK162 BK163 BK164 BK178 HB hx185_0 hx186_0 hx187_0 hx188_0 hHeld ⊢
     refine yp_ ?_ 0 55
     refine yp_ ?_ 2 57
     refine yp_ ?_ 3 58
     refine yp_ ?_ 4 59
     refine yp_ ?_ 6 61
     refine yp_ ?_ 7 62
     refine yp_ ?_ 8 63
     refine yp_ ?_ 12 67
     refine yp_ ?_ 14 69
     refine yp_ ?_ 15 70
     refine yp_ ?_ 16 71
     refine yt10_ ?_ 1 56
     refine yt10_ ?_ 5 60
     refine yt10_ ?_ 9 64
     refine yp_ ?_ 10 65
     refine yt10_ ?_ 11 66
     refine yt10_ ?_ 13 68
     refine yt10_ ?_ 17 72
     refine yp_ ?_ 18 73
     refine yt10_ ?_ 19 74
     refine yo_ 20 (some 75) (fun K hK => ?_)
     refine goesT99_ (t := .tmp 58) Try.func40 (by kernel_rfl) rfl #[.int .i64 (rd l0_1 (rd t179 x52_2)), .int .i64 (rd l1_1 (rd t182 x52_2))] (by rfl) rfl rfl (by first | rfl | (go_simp; done) | (go_simp; rfl)) (by (try simp only [List.map_toArray, List.map_cons, List.map_nil]); first | done | rfl | (simp only [List.length_drop, List.length_take]; rfl)) ?_
     with_reducible refine (fix_Add.calls k2 (rd l0_1 (rd t179 x52_2)) (rd l1_1 (rd t182 x52_2)) t189 _ A58.out).mono ?_
     rintro e w' ⟨rfl, ⟨nd, rfl⟩⟩
     refine ⟨_, rfl, ?_⟩
     have p60 : 0 ≤ (x52_2 : Int) := of_decide_eq_true (by first | (with_reducible assumption) | assumption)
     have q60 : (x52_2 : Int) < ((x179001_2.length : Int) : Int) := of_decide_eq_true (by first | (with_reducible assumption) | assumption)
     obtain ⟨go60, co60, eo60, gb60, gl60, cl60, HG60⟩ := Kd.R_form HO_179001.out (by omega)
     (first | cases eo60 | (injection eo60 with ea_ en_ ec_; (first | subst ea_ | (injection ea_ with ea_; subst ea_)); subst ec_; clear en_))
     have GB60 := Aside0.mk gb60
     have GG60 := Aside0.mk HG60
     clear gb60 gl60 HG60
     obtain ⟨hx60_0, hf60_0⟩ := Kd.R_celln 0 HO_179001.out (x52_2 : Int) p60 q60
     replace p60 := eq_true p60
     replace q60 := eq_true q60
     have HP64 := Kd.R_putn HO_179001.out (x52_2 : Int) t189
     rw [← Ny190.out] at HP64
     have HQ64 := Aside0.mk HP64
     clear HP64
     refine hK.out _ _ ⟨(blk_cell BK178.out 0).trans rfl, (blk_cell BK178.out 1).trans rfl, (blk_cell BK162.out 0).trans rfl, (blk_cell BK162.out 1).trans rfl, (blk_cell BK163.out 0).trans rfl, (blk_cell BK163.out 1).trans rfl, hHeld.2.2.2.2.2.2.1, ((HB.out.cell (World.block_lt_of_cell? w _ hw186_0)).trans hw186_0), hHeld.2.2.2.2.2.2.2.2.1, ((HB.out.cell (World.block_lt_of_cell? w _ hw188_0)).trans hw188_0)⟩ (fun hHeld => ?_)
     clear hK K
     refine zq_ (some 75) (h := ?_)
     refine yp_ ?_ 21 76
     refine yl_ 22 none (fun K hK => ?_)
     refine skip_ (w1 := ?_) (by rfl) rfl ?_ ?_
     rotate_left
     ·go_simp
      rfl
     refine hK.out _ _ ?_
     clear hK K
     refine done_ (done_of HT_.out (by kernel_rfl)) ?_
     try go_wp2
     go_roundg k2
     case measure => have := HJ2.out; have := HK2.out; omega
     case rel => exact ⟨(wrap64 (x52_2 + 1)), (y190), (.slice (some ⟨go60, 0, none⟩) x179001_2.length co60), z1_, H', ⟨by have := HJ2.out; have := HK2.out; omega⟩, ⟨zr_ (Kd.R_mono (Kd.R_far (p := ⟨go60, (x52_2 : Int).toNat, none⟩) (Kd.R_types HO_12.out GG60.out (by decide)) (fun _ hk => hk.2) (.int .i64 t189)) (fun _ hk => ⟨hk.1.1, hk.1.2⟩))⟩, ⟨zr_ (Kd.R_mono (Kd.R_far (p := ⟨go60, (x52_2 : Int).toNat, none⟩) (Kd.R_types HO_13.out GG60.out (by decide)) (fun _ hk => hk.2) (.int .i64 t189)) (fun _ hk => ⟨hk.1.1, hk.1.2⟩))⟩, ⟨zr_ (Kd.R_mono (Kd.R_far (p := ⟨go60, (x52_2 : Int).toNat, none⟩) (Kd.R_types HO_179000.out GG60.out (by decide)) (fun _ hk => hk.2) (.int .i64 t189)) (fun _ hk => ⟨hk.1.1, hk.1.2⟩))⟩, ⟨zr_ HQ64.out⟩, ⟨by (with_reducible repeat (first | refine blk_drewN ?_ _ | refine blk_drew ?_ | refine blk_alloc ?_ _)); refine blk_far ?_ (by have h_ := Kd.R_ne HO_179001.out BK162.out (by decide); intro e_; exact h_ (by rw [e_]; rfl)) _; (with_reducible repeat (first | refine blk_drewN ?_ _ | refine blk_drew ?_ | refine blk_alloc ?_ _)); exact BK162.out⟩, ⟨by (with_reducible repeat (first | refine blk_drewN ?_ _ | refine blk_drew ?_ | refine blk_alloc ?_ _)); refine blk_far ?_ (by have h_ := Kd.R_ne HO_179001.out BK163.out (by decide); intro e_; exact h_ (by rw [e_]; rfl)) _; (with_reducible repeat (first | refine blk_drewN ?_ _ | refine blk_drew ?_ | refine blk_alloc ?_ _)); exact BK163.out⟩, ⟨by (with_reducible repeat (first | refine blk_drewN ?_ _ | refine blk_drew ?_ | refine blk_alloc ?_ _)); refine blk_far ?_ (by have h_ := Kd.R_ne HO_179001.out BK164.out (by decide); intro e_; exact h_ (by rw [e_]; rfl)) _; (with_reducible repeat (first | refine blk_drewN ?_ _ | refine blk_drew ?_ | refine blk_alloc ?_ _)); exact BK164.out⟩, ⟨by (with_reducible repeat (first | refine blk_drewN ?_ _ | refine blk_drew ?_ | refine blk_alloc ?_ _)); refine blk_far ?_ (by have h_ := Kd.R_ne HO_179001.out BK178.out (by decide); intro e_; exact h_ (by rw [e_]; rfl)) _; (with_reducible repeat (first | refine blk_drewN ?_ _ | refine blk_drew ?_ | refine blk_alloc ?_ _)); exact BK178.out⟩, ⟨by repeat (first | (with_reducible first | exact HB.out | apply below_alloc | apply pw_below_drewN | apply below_drew1 | refine below_set ?_ GB60.out | refine below_set ?_ GE162.out | refine below_set ?_ GE163.out | refine below_set ?_ GE164.out | refine below_set ?_ GE178.out) | exact HB.out)⟩⟩

end Go.Proofs.Ytbdhabpplidgfaa.PTensKnown
