/- The functions that the law ConvKnown reaches, as Lean functions, and that each call of the Go function does what its Lean function says, wherever that one answers. Written by a program of mine over the print of the kit; Lean checks it. -/
import Derived.Test.YtcipfhlcgnomaaaPConvKnownx0
import Derived.Test.YtcipfhlcgnomaaaPConvKnownx1
namespace Go.Proofs.Ytcipfhlcgnomaaa.PConvKnown
open Go.RowKit Go.Proofs.YtcipfhlcgnomaaaW.PrintWords Go.Proofs.YtcipfhlcgnomaaaW.PrintLast Go.Proofs.YtcipfhlcgnomaaaW.PrintMore
attribute [local go_sem] max2_int min2_int max_two min_two max_three min_three max_four min_four   -- for this text's walks alone
set_option linter.unusedVariables false
set_option linter.unusedSimpArgs false

/-! ### wide_Prod: function 43 -/
def wide_Prod.f (a0 : Int) (a1 : Int) : Option (Int × Int) := (wide_size.f a0).bind fun t142 => ((wide_size.f a1).bind fun t143 => ((bits_Mul64.f t142 t143).bind fun bt144 => (if ((decide (a0 < 0)) != (decide (a1 < 0))) = true then ((wide_Neg.f (wrap64 (bt144.1)) bt144.2).bind fun bt147 => (some (bt147.1, bt147.2))) else (some (wrap64 (bt144.1), bt144.2)))))
set_option maxHeartbeats 8000000 in
set_option maxRecDepth 100000 in
theorem wide_Prod.calls (a0 : Int) (a1 : Int) (r1 : Int) (r2 : Int) (w : World) (h : wide_Prod.f a0 a1 = some (r1, r2)) :
  Calls Try.prog 43 #[.int .i64 a0, .int .i64 a1] w fun e w' => e = .returned (.agg #[.int .i64 r1, .int .u64 r2]) ∧ Below w.heap.size w w' := by
 have hu52 := Try.underlying52
 have HB := Aside0.mk (Below.refl w.heap.size w)
 have H : ((wide_size.f a0).bind fun t142 => ((wide_size.f a1).bind fun t143 => ((bits_Mul64.f t142 t143).bind fun bt144 => (if ((decide (a0 < 0)) != (decide (a1 < 0))) = true then ((wide_Neg.f (wrap64 (bt144.1)) bt144.2).bind fun bt147 => (some (bt147.1, bt147.2))) else (some (wrap64 (bt144.1), bt144.2)))))) = some (r1, r2) := h
 clear h
 replace H := Option.bind_eq_some_iff.mp H
 obtain ⟨t142, A30, H⟩ := H
 (try dsimp only at H)
 have A3 := Aside0.mk A30
 clear A30
 replace H := Option.bind_eq_some_iff.mp H
 obtain ⟨t143, A40, H⟩ := H
 (try dsimp only at H)
 have A4 := Aside0.mk A40
 clear A40
 replace H := Option.bind_eq_some_iff.mp H
 obtain ⟨⟨t144, t145⟩, A50, H⟩ := H
 (try dsimp only at H)
 have A5 := Aside0.mk A50
 clear A50
 by_cases c6 : ((decide (a0 < 0)) != (decide (a1 < 0))) = true
 rotate_left
 ·rw [if_neg c6] at H
  have c6b0 : ((decide (a0 < 0)) != (decide (a1 < 0))) = false := by simpa using c6
  (try (have c6b1 : decide ((decide (a0 < 0)) = (decide (a1 < 0))) = true := by simpa using c6))
  (try (have c6b2 : ((decide (a0 < 0)) == (decide (a1 < 0))) = true := by simpa using c6))
  clear c6
  simp only [Option.some.injEq, Prod.mk.injEq] at H
  obtain ⟨rfl, rfl⟩ := H
  go_enter Try.func43, Try.ntmps43
  go_wp2_with (first | ((with_reducible refine gate_dst (N := 4) rfl ?_); refine box_event ?hg (N := 4) ?hd (cs := #[.int .i64 0, .int .u64 0]) (t := 52) ?hr ?_; (case hd => rfl); (case hg => rfl); (case hr => first | (go_simp; done) | (go_simp; rfl)); intro gb141 hg w14 hbox hb; have BK141 := Aside0.mk (hbox); have GW141 := Aside0.mk (zs_ hg (zw0_ HB)); have GE141 := Aside0.mk (zs_ hg (zw0_ HB)); replace HB := Aside0.mk (below_step (zw0_ HB) hb); clear hb hbox hg) | ((with_reducible refine gate_callee (f := 57) rfl ?_); refine zg_ (some 10) Try.func57 #[.int .i64 a0] (h := ?_); (with_reducible refine (wide_size.calls a0 t142 _ A3.out).mono ?_); rintro e w' ⟨rfl, ⟨nd, rfl⟩⟩; refine ⟨_, rfl, ?_⟩; (try (rw [drewN_self w14]; generalize hq_ : World.drewN w14 _ = w14; have n0_ : Aside0 (w14.heap[gb141]? = some (.cells #[.int .i64 0, .int .u64 0] 52 (0, 0))) := ⟨by rw [← hq_]; exact (zb_ BK141)⟩; have n1_ : Aside0 (Below w.heap.size w w14) := ⟨by rw [← hq_]; exact (zw1_ HB GE141)⟩; clear BK141 HB hq_; have BK141 := n0_; have HB := n1_; clear n0_ n1_))) | ((with_reducible refine gate_callee (f := 57) rfl ?_); refine zg_ (some 12) Try.func57 #[.int .i64 a1] (h := ?_); (with_reducible refine (wide_size.calls a1 t143 _ A4.out).mono ?_); rintro e w' ⟨rfl, ⟨nd, rfl⟩⟩; refine ⟨_, rfl, ?_⟩; (try (rw [drewN_self w14]; generalize hq_ : World.drewN w14 _ = w14; have n0_ : Aside0 (w14.heap[gb141]? = some (.cells #[.int .i64 0, .int .u64 0] 52 (0, 0))) := ⟨by rw [← hq_]; exact (zb_ BK141)⟩; have n1_ : Aside0 (Below w.heap.size w w14) := ⟨by rw [← hq_]; exact (zw1_ HB GE141)⟩; clear BK141 HB hq_; have BK141 := n0_; have HB := n1_; clear n0_ n1_))) | ((with_reducible refine gate_callee (f := 56) rfl ?_); refine zg_ (some 13) Try.func56 #[.int .u64 t142, .int .u64 t143] (h := ?_); (with_reducible refine (bits_Mul64.calls t142 t143 t144 t145 _ A5.out).mono ?_); rintro e w' ⟨rfl, ⟨nd, rfl⟩⟩; refine ⟨_, rfl, ?_⟩; (try (rw [drewN_self w14]; generalize hq_ : World.drewN w14 _ = w14; have n0_ : Aside0 (w14.heap[gb141]? = some (.cells #[.int .i64 0, .int .u64 0] 52 (0, 0))) := ⟨by rw [← hq_]; exact (zb_ BK141)⟩; have n1_ : Aside0 (Below w.heap.size w w14) := ⟨by rw [← hq_]; exact (zw1_ HB GE141)⟩; clear BK141 HB hq_; have BK141 := n0_; have HB := n1_; clear n0_ n1_))) | ((with_reducible refine gate_dst (N := 7) rfl ?_); refine box_event ?hg (N := 7) ?hd (cs := #[.int .i64 0, .int .u64 0]) (t := 52) ?hr ?_; (case hd => rfl); (case hg => rfl); (case hr => first | (go_simp; done) | (go_simp; rfl)); intro gb146 hg w15 hbox hb; have BK146 := Aside0.mk (hbox); have GW146 := Aside0.mk (zs_ hg (zw1_ HB GE141)); have GE146 := Aside0.mk (zs_ hg (zw1_ HB GE141)); replace HB := Aside0.mk (below_step (zw1_ HB GE141) hb); have NB141_146 := Aside0.mk (zn_ hg BK141); have NB146_141 := Aside0.mk (zm_ hg BK141); replace BK141 := za_ BK141 hb; clear hb hbox hg; have hnb16 := NB146_141.out; have hnc16 := NB141_146.out; have hcz17_0 := zx_ (v := .int .i64 0) BK146 0; have hcz17_1 := zx_ (v := .int .u64 0) BK146 1; have hfz17_0 := blk_frozen BK146.out 0; have hfz17_1 := blk_frozen BK146.out 1; have hcz18_0 := zx_ (v := .int .i64 0) BK141 0; have hcz18_1 := zx_ (v := .int .u64 0) BK141 1; have hfz18_0 := blk_frozen BK141.out 0; have hfz18_1 := blk_frozen BK141.out 1))
  refine bodyPost_ret (results_cell_row rfl _ _ gb141 52 #[.int .i64 (wrap64 (t144)), .int .u64 t145] (0, 0) _ rfl (by (with_reducible repeat (first | refine blk_drewN ?_ _ | refine blk_drew ?_ | refine blk_alloc ?_ _)); refine blk_put (cs := #[.int .i64 (wrap64 (t144)), .int .u64 0]) ?_ 1 _ rfl; (with_reducible repeat (first | refine blk_drewN ?_ _ | refine blk_drew ?_ | refine blk_alloc ?_ _)); refine blk_put (cs := #[.int .i64 0, .int .u64 0]) ?_ 0 _ rfl; (with_reducible repeat (first | refine blk_drewN ?_ _ | refine blk_drew ?_ | refine blk_alloc ?_ _)); refine blk_far ?_ NB141_146.out _; (with_reducible repeat (first | refine blk_drewN ?_ _ | refine blk_drew ?_ | refine blk_alloc ?_ _)); refine blk_far ?_ NB141_146.out _; (with_reducible repeat (first | refine blk_drewN ?_ _ | refine blk_drew ?_ | refine blk_alloc ?_ _)); exact BK141.out) Try.underlying52 rfl (by kernel_rfl)) rfl ?_
  exact ⟨z0_, zw2_ HB GE141 GE146⟩
 rw [if_pos c6] at H
 have c6b0 : ((decide (a0 < 0)) != (decide (a1 < 0))) = true := c6
 (try (have c6b1 : decide ((decide (a0 < 0)) = (decide (a1 < 0))) = false := by simpa using c6))
 (try (have c6b2 : ((decide (a0 < 0)) == (decide (a1 < 0))) = false := by simpa using c6))
 (try (have c6b3 : ¬ ((decide (a0 < 0)) = (decide (a1 < 0))) := by simpa using c6))
 clear c6
 replace H := Option.bind_eq_some_iff.mp H
 obtain ⟨⟨t147, t148⟩, A70, H⟩ := H
 replace H : (some (t147, t148)) = some (r1, r2) := H
 have A7 := Aside0.mk A70
 clear A70
 simp only [Option.some.injEq, Prod.mk.injEq] at H
 obtain ⟨rfl, rfl⟩ := H
 go_enter Try.func43, Try.ntmps43
 go_wp2_with (first | ((with_reducible refine gate_dst (N := 4) rfl ?_); refine box_event ?hg (N := 4) ?hd (cs := #[.int .i64 0, .int .u64 0]) (t := 52) ?hr ?_; (case hd => rfl); (case hg => rfl); (case hr => first | (go_simp; done) | (go_simp; rfl)); intro gb141 hg w8 hbox hb; have BK141 := Aside0.mk (hbox); have GW141 := Aside0.mk (zs_ hg (zw0_ HB)); have GE141 := Aside0.mk (zs_ hg (zw0_ HB)); replace HB := Aside0.mk (below_step (zw0_ HB) hb); clear hb hbox hg) | ((with_reducible refine gate_callee (f := 57) rfl ?_); refine zg_ (some 10) Try.func57 #[.int .i64 a0] (h := ?_); (with_reducible refine (wide_size.calls a0 t142 _ A3.out).mono ?_); rintro e w' ⟨rfl, ⟨nd, rfl⟩⟩; refine ⟨_, rfl, ?_⟩; (try (rw [drewN_self w8]; generalize hq_ : World.drewN w8 _ = w8; have n0_ : Aside0 (w8.heap[gb141]? = some (.cells #[.int .i64 0, .int .u64 0] 52 (0, 0))) := ⟨by rw [← hq_]; exact (zb_ BK141)⟩; have n1_ : Aside0 (Below w.heap.size w w8) := ⟨by rw [← hq_]; exact (zw1_ HB GE141)⟩; clear BK141 HB hq_; have BK141 := n0_; have HB := n1_; clear n0_ n1_))) | ((with_reducible refine gate_callee (f := 57) rfl ?_); refine zg_ (some 12) Try.func57 #[.int .i64 a1] (h := ?_); (with_reducible refine (wide_size.calls a1 t143 _ A4.out).mono ?_); rintro e w' ⟨rfl, ⟨nd, rfl⟩⟩; refine ⟨_, rfl, ?_⟩; (try (rw [drewN_self w8]; generalize hq_ : World.drewN w8 _ = w8; have n0_ : Aside0 (w8.heap[gb141]? = some (.cells #[.int .i64 0, .int .u64 0] 52 (0, 0))) := ⟨by rw [← hq_]; exact (zb_ BK141)⟩; have n1_ : Aside0 (Below w.heap.size w w8) := ⟨by rw [← hq_]; exact (zw1_ HB GE141)⟩; clear BK141 HB hq_; have BK141 := n0_; have HB := n1_; clear n0_ n1_))) | ((with_reducible refine gate_callee (f := 56) rfl ?_); refine zg_ (some 13) Try.func56 #[.int .u64 t142, .int .u64 t143] (h := ?_); (with_reducible refine (bits_Mul64.calls t142 t143 t144 t145 _ A5.out).mono ?_); rintro e w' ⟨rfl, ⟨nd, rfl⟩⟩; refine ⟨_, rfl, ?_⟩; (try (rw [drewN_self w8]; generalize hq_ : World.drewN w8 _ = w8; have n0_ : Aside0 (w8.heap[gb141]? = some (.cells #[.int .i64 0, .int .u64 0] 52 (0, 0))) := ⟨by rw [← hq_]; exact (zb_ BK141)⟩; have n1_ : Aside0 (Below w.heap.size w w8) := ⟨by rw [← hq_]; exact (zw1_ HB GE141)⟩; clear BK141 HB hq_; have BK141 := n0_; have HB := n1_; clear n0_ n1_))) | ((with_reducible refine gate_dst (N := 7) rfl ?_); refine box_event ?hg (N := 7) ?hd (cs := #[.int .i64 0, .int .u64 0]) (t := 52) ?hr ?_; (case hd => rfl); (case hg => rfl); (case hr => first | (go_simp; done) | (go_simp; rfl)); intro gb146 hg w9 hbox hb; have BK146 := Aside0.mk (hbox); have GW146 := Aside0.mk (zs_ hg (zw1_ HB GE141)); have GE146 := Aside0.mk (zs_ hg (zw1_ HB GE141)); replace HB := Aside0.mk (below_step (zw1_ HB GE141) hb); have NB141_146 := Aside0.mk (zn_ hg BK141); have NB146_141 := Aside0.mk (zm_ hg BK141); replace BK141 := za_ BK141 hb; clear hb hbox hg; have hnb10 := NB146_141.out; have hnc10 := NB141_146.out; have hcz11_0 := zx_ (v := .int .i64 0) BK146 0; have hcz11_1 := zx_ (v := .int .u64 0) BK146 1; have hfz11_0 := blk_frozen BK146.out 0; have hfz11_1 := blk_frozen BK146.out 1) | ((with_reducible refine gate_callee (f := 58) rfl ?_); refine zg_ (some 26) Try.func58 #[.agg #[.int .i64 (wrap64 (t144)), .int .u64 t145]] (h := ?_); (with_reducible refine (wide_Neg.calls (wrap64 (t144)) t145 t147 t148 _ A7.out).mono ?_); rintro e w12 ⟨rfl, hb⟩; refine ⟨_, rfl, ?_⟩; replace BK141 := Aside0.mk (blk_below (g := gb141) (o := .cells #[.int .i64 0, .int .u64 0] 52 (0, 0)) (zv1_ BK141 NB141_146) hb); replace BK146 := Aside0.mk (blk_below (g := gb146) (o := .cells #[.int .i64 (wrap64 (t144)), .int .u64 t145] 52 (0, 0)) (zo2_ BK146) hb); replace HB := Aside0.mk (below_step (zw2_ HB GE141 GE146) hb); (try clear hb); have hcz13_0 := zx_ (v := .int .i64 0) BK141 0; have hcz13_1 := zx_ (v := .int .u64 0) BK141 1; have hfz13_0 := blk_frozen BK141.out 0; have hfz13_1 := blk_frozen BK141.out 1))
 refine bodyPost_ret (results_cell_row rfl _ _ gb141 52 #[.int .i64 t147, .int .u64 t148] (0, 0) _ rfl (zo2_ BK141) Try.underlying52 rfl (by kernel_rfl)) rfl ?_
 exact ⟨z0_, zw2_ HB GE141 GE146⟩

/-! ### bits_Add64: function 44 -/
def bits_Add64.f (a0 a1 a2 : Int) : Option (Int × Int) := if 0 ≤ a0 ∧ 0 ≤ a1 ∧ 0 ≤ a2 ∧ a2 ≤ 1 then some ((a0 + a1 + a2) % 18446744073709551616, (a0 + a1 + a2) / 18446744073709551616) else none
theorem bits_Add64.calls (a0 a1 a2 r1 r2 : Int) (w : World) (h : bits_Add64.f a0 a1 a2 = some (r1, r2)) :
  XCalls Try.prog 44 #[.int .u64 a0, .int .u64 a1, .int .u64 a2] w fun e w' => e = .returned (.tuple #[.int .u64 r1, .int .u64 r2]) ∧ Drawn0 w w' := by
 unfold bits_Add64.f at h
 split at h
 ·rename_i hc
  simp only [Option.some.injEq, Prod.mk.injEq] at h
  obtain ⟨rfl, rfl⟩ := h
  refine ⟨_, ?_, rfl, Drawn0.refl _⟩
  rw [run_callFunc_extern (e := add64Entry) Try.func44 rfl (by kernel_rfl) (by kernel_rfl) (by kernel_rfl), run_add64 a0 a1 a2 hc.1 hc.2.1 hc.2.2.1 hc.2.2.2]
  rfl
 ·cases h

/-! ### wide_Acc_Plus: function 30 -/
theorem d3_ (w : World) (a b c : Addr) (x y z : Value) : (((w.setCell a x).setCell b y).setCell c z).drew = ((w.drew.setCell a x).setCell b y).setCell c z := rfl
theorem setcomm_ (w : World) (g i j : Nat) (a b : Value) (h : i ≠ j) : (w.setCell ⟨g, i, none⟩ a).setCell ⟨g, j, none⟩ b = (w.setCell ⟨g, j, none⟩ b).setCell ⟨g, i, none⟩ a := by
 unfold World.setCell
 congr 1
 simp only []
 apply Array.ext_getElem?
 intro k
 simp only [Array.getElem?_modify]
 by_cases e : g = k
 rotate_left
 ·simp only [if_neg e]
 simp only [e, if_true]
 cases hk : w.heap[k]? with
 | none => rfl
 | some o =>
  cases o with
  | cells c el fr =>
   simp only [Option.map_some, Option.isSome_none, Bool.false_eq_true, if_false]
   rw [Array.setIfInBounds_comm _ _ h]
  | _ => rfl
theorem set3_ (w : World) (g : Nat) (a b c : Value) : ((w.setCell ⟨g, 1, none⟩ a).setCell ⟨g, 2, none⟩ b).setCell ⟨g, 0, none⟩ c = ((w.setCell ⟨g, 0, none⟩ c).setCell ⟨g, 1, none⟩ a).setCell ⟨g, 2, none⟩ b := by
 rw [setcomm_ _ g 2 0 b c (by decide), setcomm_ _ g 1 0 a c (by decide)]
def wide_Acc_Plus.f (a0_0 : Int) (a0_1 : Int) (a0_2 : Int) (a1 : Int) (a2 : Int) : Option (Int × Int × Int) := (wide_Prod.f a1 a2).bind fun bt149 => ((bits_Add64.f a0_2 bt149.2 0).bind fun bt152 => ((bits_Add64.f (IntKind.u64.wrap (a0_1)) (IntKind.u64.wrap (bt149.1)) bt152.2).bind fun bt154 => (some (wrap64 (a0_0 + (wrap64 ((bt149.1 / 9223372036854775808) + (wrap64 (bt154.2))))), wrap64 (bt154.1), bt152.1))))
set_option maxHeartbeats 8000000 in
set_option maxRecDepth 100000 in
theorem wide_Acc_Plus.calls (g : Nat) (a0_0 a0_1 a0_2 a1 a2 r1 r2 r3 : Int) (w : World) (hb0 : w.heap[g]? = some (.cells #[.int .i64 a0_0, .int .i64 a0_1, .int .u64 a0_2] 54 (0, 0))) (h : wide_Acc_Plus.f a0_0 a0_1 a0_2 a1 a2 = some (r1, r2, r3)) :
  Calls Try.prog 30 #[.pointer (some ⟨g, 0, none⟩), .int .i64 a1, .int .i64 a2] w fun e w' => e = .returned (.tuple #[]) ∧ ∃ wb, Below w.heap.size w wb ∧ w' = ((wb.setCell ⟨g, 0, none⟩ (.int .i64 r1)).setCell ⟨g, 1, none⟩ (.int .i64 r2)).setCell ⟨g, 2, none⟩ (.int .u64 r3) := by
 have hu52 := Try.underlying52
 have BK0 := Aside0.mk hb0
 have HB := Aside0.mk (Below.refl w.heap.size w)
 have H : ((wide_Prod.f a1 a2).bind fun bt149 => ((bits_Add64.f a0_2 bt149.2 0).bind fun bt152 => ((bits_Add64.f (IntKind.u64.wrap (a0_1)) (IntKind.u64.wrap (bt149.1)) bt152.2).bind fun bt154 => (some (wrap64 (a0_0 + (wrap64 ((bt149.1 / 9223372036854775808) + (wrap64 (bt154.2))))), wrap64 (bt154.1), bt152.1))))) = some (r1, r2, r3) := h
 clear h hb0
 replace H := Option.bind_eq_some_iff.mp H
 obtain ⟨⟨t149, t150⟩, A40, H⟩ := H
 (try dsimp only at H)
 have A4 := Aside0.mk A40
 clear A40
 replace H := Option.bind_eq_some_iff.mp H
 obtain ⟨⟨t152, t153⟩, A50, H⟩ := H
 (try dsimp only at H)
 have A5 := Aside0.mk A50
 clear A50
 replace H := Option.bind_eq_some_iff.mp H
 obtain ⟨⟨t154, t155⟩, A60, H⟩ := H
 (try dsimp only at H)
 have A6 := Aside0.mk A60
 clear A60
 simp only [Option.some.injEq, Prod.mk.injEq] at H
 obtain ⟨rfl, rfl, rfl⟩ := H
 go_enter Try.func30, Try.ntmps30
 go_wp2_with (first | ((with_reducible refine gate_callee (f := 43) rfl ?_); refine zg_ (some 12) Try.func43 #[.int .i64 a1, .int .i64 a2] (h := ?_); (with_reducible refine (wide_Prod.calls a1 a2 t149 t150 _ A4.out).mono ?_); rintro e w7 ⟨rfl, hb⟩; refine ⟨_, rfl, ?_⟩; replace BK0 := Aside0.mk (blk_below (zb_ BK0) hb); replace HB := Aside0.mk (below_step (zw0_ HB) hb); clear hb) | ((with_reducible refine gate_dst (N := 6) rfl ?_); refine box_event ?hg (N := 6) ?hd (cs := #[.int .i64 0, .int .u64 0]) (t := 52) ?hr ?_; (case hd => rfl); (case hg => rfl); (case hr => first | (go_simp; done) | (go_simp; rfl)); intro gb151 hg w8 hbox hb; have BK151 := Aside0.mk (hbox); have GE151 := Aside0.mk (zs_ hg (zw0_ HB)); have hnc9 : g ≠ gb151 := (by rw [hg]; exact Nat.ne_of_lt (blk_lt (zb_ BK0))); have hnb9 : gb151 ≠ g := fun e_ => hnc9 e_.symm; replace BK0 := Aside0.mk (blk_below (zb_ BK0) hb); replace HB := Aside0.mk (below_step (zw0_ HB) hb); clear hb hbox hg; have hcz10_0 := zx_ (v := .int .i64 0) BK151 0; have hcz10_1 := zx_ (v := .int .u64 0) BK151 1; have hfz10_0 := blk_frozen BK151.out 0; have hfz10_1 := blk_frozen BK151.out 1; have hcz11_0 := zx_ (v := .int .i64 a0_0) BK0 0; have hcz11_1 := zx_ (v := .int .i64 a0_1) BK0 1; have hcz11_2 := zx_ (v := .int .u64 a0_2) BK0 2; have hfz11_0 := blk_frozen BK0.out 0; have hfz11_1 := blk_frozen BK0.out 1; have hfz11_2 := blk_frozen BK0.out 2))
 have hx1 : ∀ w, (callFunc 44 #[.int .u64 a0_2, .int .u64 t150, .int .u64 0]).run Try.prog w = .ok (.value (.tuple #[.int .u64 t152, .int .u64 t153])) w := fun w => by
  obtain ⟨v, h1, h2, _⟩ := bits_Add64.calls a0_2 t150 0 t152 t153 w A5.out
  injection h2 with h3
  rw [h3] at h1
  exact h1
 have hx2 : ∀ w, (callFunc 44 #[.int .u64 (IntKind.u64.wrap (a0_1)), .int .u64 (IntKind.u64.wrap (t149)), .int .u64 t153]).run Try.prog w = .ok (.value (.tuple #[.int .u64 t154, .int .u64 t155])) w := fun w => by
  obtain ⟨v, h1, h2, _⟩ := bits_Add64.calls (IntKind.u64.wrap (a0_1)) (IntKind.u64.wrap (t149)) t153 t154 t155 w A6.out
  injection h2 with h3
  rw [h3] at h1
  exact h1
 go_quiet (fail)
 try go_wp2
 go_quiet (fail)
 try go_wp2
 go_region_law (fail)
 all_goals (first | go_end0 | ((try simp only [Exit.inBlock, Exit.then]); refine bodyPost_ret (results_none rfl _ _ _) rfl ?_))
 all_goals (try simp only [i64_w])
 all_goals refine ⟨by first | rfl | trivial, _, ?_, (congrArg World.drew (set3_ _ _ _ _ _)).trans (d3_ _ _ _ _ _ _ _)⟩
 all_goals (refine below_drew1 ?_; repeat (first | (with_reducible first | exact HB.out | apply below_alloc | apply pw_below_drewN | apply below_drew1 | refine below_set ?_ GE151.out) | exact HB.out))

/-! ### wide_Fix: function 45 -/
def wide_Fix.j0 : Nat → Bool → Int → Int → Option (Int)
 | 0, _, _, _ => none
 | k + 1, x3, x150000, x150001 => if x3 = true then (some 9223372036854775807) else (if x150000 < (-1) then (some (-9223372036854775808)) else (if x150000 = (-1) then (if x150001 < 9223372036854775808 then (some (-9223372036854775808)) else (some (wrap64 (x150001)))) else (some (wrap64 (x150001)))))
def wide_Fix.f (k : Nat) (a0_0 : Int) (a0_1 : Int) : Option (Int) := if a0_0 > 0 then (wide_Fix.j0 k true a0_0 a0_1) else (if a0_0 = 0 then (wide_Fix.j0 k (decide (a0_1 ≥ 9223372036854775808)) a0_0 a0_1) else (wide_Fix.j0 k false a0_0 a0_1))
theorem wide_Fix.mono_l : ∀ k, (∀ y0 y1 y2, LeO (wide_Fix.j0 k y0 y1 y2) (wide_Fix.j0 (k + 1) y0 y1 y2))
 | 0 => fun _ _ _ r h => by simp [wide_Fix.j0] at h
 | k + 1 => by
  have ih0 := wide_Fix.mono_l k
  ·intro y0 y1 y2
   unfold wide_Fix.j0
   repeat' first
   | (with_reducible exact ih0 _ _ _)
   | (with_reducible exact LeO.refl _)
   | (with_reducible exact LeO.none _)
   | (with_reducible refine LeO.ite ?_ ?_)
   | (with_reducible refine LeO.bind ?_ (fun _ => ?_))
   | exact ih0 _ _ _
   | exact LeO.none _
   | refine LeO.ite ?_ ?_
   | refine LeO.bind ?_ (fun _ => ?_)
theorem wide_Fix.mono : ∀ a0 a1 k, LeO (wide_Fix.f k a0 a1) (wide_Fix.f (k + 1) a0 a1) := by
 intro a0 a1 k
 have ih0 := wide_Fix.mono_l k
 unfold wide_Fix.f
 repeat' first
   | (with_reducible exact ih0 _ _ _)
   | (with_reducible exact LeO.refl _)
   | (with_reducible exact LeO.none _)
   | (with_reducible refine LeO.ite ?_ ?_)
   | (with_reducible refine LeO.bind ?_ (fun _ => ?_))
   | exact ih0 _ _ _
   | exact LeO.none _
   | refine LeO.ite ?_ ?_
   | refine LeO.bind ?_ (fun _ => ?_)
set_option maxHeartbeats 8000000 in
set_option maxRecDepth 100000 in
theorem wide_Fix.calls (k : Nat) (a0_0 : Int) (a0_1 : Int) (r : Int) (w : World) (h : wide_Fix.f k a0_0 a0_1 = some r) :
  Calls Try.prog 45 #[.agg #[.int .i64 a0_0, .int .u64 a0_1]] w fun e w' => e = .returned (.int .i64 r) ∧ Below w.heap.size w w' := by
 have hu52 := Try.underlying52
 have HB := Aside0.mk (Below.refl w.heap.size w)
 have H : (if a0_0 > 0 then (wide_Fix.j0 k true a0_0 a0_1) else (if a0_0 = 0 then (wide_Fix.j0 k (decide (a0_1 ≥ 9223372036854775808)) a0_0 a0_1) else (wide_Fix.j0 k false a0_0 a0_1))) = some r := h
 clear h
 have HC2 := Aside0.mk H
 clear H
 go_enter Try.func45, Try.ntmps45
 go_upto_region 1 with (first | ((with_reducible refine gate_dst (N := 1) rfl ?_); refine box_event ?hg (N := 1) ?hd (cs := #[.int .i64 a0_0, .int .u64 a0_1]) (t := 52) ?hr ?_; (case hd => rfl); (case hg => rfl); (case hr => first | (go_simp; done) | (go_simp; rfl)); intro gb149 hg w3 hbox hb; have BK149 := Aside0.mk (hbox); have GW149 := Aside0.mk (zs_ hg (zw0_ HB)); have GE149 := Aside0.mk (zs_ hg (zw0_ HB)); replace HB := Aside0.mk (below_step (zw0_ HB) hb); clear hb hbox hg))
 (try simp only [Act.put, List.setIfInBounds_toArray, List.set_cons_zero, List.set_cons_succ])
 go_cut [3] (fun v3 wc => ∃ (kq : Nat) (x3_1 : Bool), v3 = .bool x3_1 ∧ Aside0 (wide_Fix.j0 kq x3_1 a0_0 a0_1 = some r) ∧ Aside0 (kq ≤ k) ∧ Aside0 (wc.heap[gb149]? = some (.cells #[.int .i64 a0_0, .int .u64 a0_1] 52 (0, 0))) ∧ Aside0 (Below w.heap.size w wc))
 case first =>
  have H := HC2.out
  clear HC2
  by_cases c4 : a0_0 > 0
  ·rw [if_pos c4] at H
   have c4b0 : decide (0 < a0_0) = true := decide_eq_true c4
   clear c4
   (first | rw [c4b0] | (simp only [i64_w, i32_w]; rw [c4b0]) | skip)
   have H' := Aside0.mk H
   clear H
   have hcz5_0 := zx_ (v := .int .i64 a0_0) BK149 0
   have hcz5_1 := zx_ (v := .int .u64 a0_1) BK149 1
   have hfz5_0 := blk_frozen BK149.out 0
   have hfz5_1 := blk_frozen BK149.out 1
   go_wp2
   go_meet
   case rel => exact ⟨_, (true), z1_, H', ⟨by first | omega | exact Nat.le_refl _⟩, ⟨zb_ BK149⟩, ⟨zw1_ HB GE149⟩⟩
  rw [if_neg c4] at H
  have c4b0 : decide (0 < a0_0) = false := decide_eq_false c4
  clear c4
  (first | rw [c4b0] | (simp only [i64_w, i32_w]; rw [c4b0]) | skip)
  by_cases c6 : a0_0 = 0
  rotate_left
  ·rw [if_neg c6] at H
   have c6b0 : (a0_0 == 0) = false := beq_eq_false_iff_ne.mpr c6
   have c6b1 : (a0_0 != 0) = true := bne_iff_ne.mpr c6
   have H' := Aside0.mk H
   clear H
   have hcz8_0 := zx_ (v := .int .i64 a0_0) BK149 0
   have hcz8_1 := zx_ (v := .int .u64 a0_1) BK149 1
   have hfz8_0 := blk_frozen BK149.out 0
   have hfz8_1 := blk_frozen BK149.out 1
   go_wp2
   go_meet
   case rel => exact ⟨_, (false), z1_, H', ⟨by first | omega | exact Nat.le_refl _⟩, ⟨zb_ BK149⟩, ⟨zw1_ HB GE149⟩⟩
  rw [if_pos c6] at H
  have c6b0 : (a0_0 == 0) = true := beq_iff_eq.mpr c6
  have c6b1 : (a0_0 != 0) = false := bne_eq_false_iff_eq.mpr c6
  clear c6
  have H' := Aside0.mk H
  clear H
  have hcz7_0 := zx_ (v := .int .i64 a0_0) BK149 0
  have hcz7_1 := zx_ (v := .int .u64 a0_1) BK149 1
  have hfz7_0 := blk_frozen BK149.out 0
  have hfz7_1 := blk_frozen BK149.out 1
  go_wp2
  go_meet
  case rel => exact ⟨_, (decide (a0_1 ≥ 9223372036854775808)), z1_, H', ⟨by first | omega | exact Nat.le_refl _⟩, ⟨zb_ BK149⟩, ⟨zw1_ HB GE149⟩⟩
 case rest =>
  clear HC2
  try clear p2
  try clear c4
  try clear c4b0
  try clear c6
  try clear c6b0
  try clear c6b1
  try clear hcz5_0
  try clear hcz5_1
  try clear hcz7_0
  try clear hcz7_1
  try clear hcz8_0
  try clear hcz8_1
  try clear hfz5_0
  try clear hfz5_1
  try clear hfz7_0
  try clear hfz7_1
  try clear hfz8_0
  try clear hfz8_1
  obtain ⟨kq, x3_1, rfl, HA, HJ1, BK149, HB⟩ := hcut
  cases kq with
  | zero => exact absurd HA.out (by simp [wide_Fix.j0])
  | succ kj1 =>
   have H := HA.out
   clear HA
   simp only [wide_Fix.j0] at H
   by_cases c9 : x3_1 = true
   ·subst c9
    have H1 : (some 9223372036854775807) = some r := by rw [if_pos rfl] at H; exact H
    clear H
    have H := H1
    clear H1
    obtain rfl := Option.some.inj H
    go_wp2
    go_ret
    exact ⟨z0_, zw1_ HB GE149⟩
   replace c9 := Bool.eq_false_iff.mpr c9
   subst c9
   have H1 := H
   rw [if_neg (show ¬ (false = true) by decide)] at H1
   clear H
   have H := H1
   clear H1
   by_cases c10 : a0_0 < (-1)
   ·rw [if_pos c10] at H
    have c10b0 : decide (a0_0 < (-1)) = true := decide_eq_true c10
    clear c10
    obtain rfl := Option.some.inj H
    have hcz11_0 := zx_ (v := .int .i64 a0_0) BK149 0
    have hcz11_1 := zx_ (v := .int .u64 a0_1) BK149 1
    have hfz11_0 := blk_frozen BK149.out 0
    have hfz11_1 := blk_frozen BK149.out 1
    go_wp2
    go_ret
    exact ⟨z0_, zw1_ HB GE149⟩
   rw [if_neg c10] at H
   have c10b0 : decide (a0_0 < (-1)) = false := decide_eq_false c10
   clear c10
   by_cases c12 : a0_0 = (-1)
   rotate_left
   ·rw [if_neg c12] at H
    have c12b0 : (a0_0 == (-1)) = false := beq_eq_false_iff_ne.mpr c12
    have c12b1 : (a0_0 != (-1)) = true := bne_iff_ne.mpr c12
    obtain rfl := Option.some.inj H
    have hcz16_0 := zx_ (v := .int .i64 a0_0) BK149 0
    have hcz16_1 := zx_ (v := .int .u64 a0_1) BK149 1
    have hfz16_0 := blk_frozen BK149.out 0
    have hfz16_1 := blk_frozen BK149.out 1
    go_wp2
    go_ret
    exact ⟨z0_, zw1_ HB GE149⟩
   rw [if_pos c12] at H
   have c12b0 : (a0_0 == (-1)) = true := beq_iff_eq.mpr c12
   have c12b1 : (a0_0 != (-1)) = false := bne_eq_false_iff_eq.mpr c12
   clear c12
   by_cases c13 : a0_1 < 9223372036854775808
   ·rw [if_pos c13] at H
    have c13b0 : decide (a0_1 < 9223372036854775808) = true := decide_eq_true c13
    clear c13
    obtain rfl := Option.some.inj H
    have hcz14_0 := zx_ (v := .int .i64 a0_0) BK149 0
    have hcz14_1 := zx_ (v := .int .u64 a0_1) BK149 1
    have hfz14_0 := blk_frozen BK149.out 0
    have hfz14_1 := blk_frozen BK149.out 1
    go_wp2
    go_ret
    exact ⟨z0_, zw1_ HB GE149⟩
   rw [if_neg c13] at H
   have c13b0 : decide (a0_1 < 9223372036854775808) = false := decide_eq_false c13
   clear c13
   obtain rfl := Option.some.inj H
   have hcz15_0 := zx_ (v := .int .i64 a0_0) BK149 0
   have hcz15_1 := zx_ (v := .int .u64 a0_1) BK149 1
   have hfz15_0 := blk_frozen BK149.out 0
   have hfz15_1 := blk_frozen BK149.out 1
   go_wp2
   go_ret
   exact ⟨z0_, zw1_ HB GE149⟩

end Go.Proofs.Ytcipfhlcgnomaaa.PConvKnown
