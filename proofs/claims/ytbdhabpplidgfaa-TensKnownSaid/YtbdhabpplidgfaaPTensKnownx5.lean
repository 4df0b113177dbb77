/- The functions that the law TensKnown reaches, as Lean functions, and that each call of the Go function does what its Lean function says, wherever that one answers. Written by a program of mine over the print of the kit; Lean checks it. -/
import Derived.Test.YtbdhabpplidgfaaPTensKnownx0
import Derived.Test.YtbdhabpplidgfaaPTensKnownx1
import Derived.Test.YtbdhabpplidgfaaPTensKnownx2
import Derived.Test.YtbdhabpplidgfaaPTensKnownx3
import Derived.Test.YtbdhabpplidgfaaPTensKnownx4
namespace Go.Proofs.Ytbdhabpplidgfaa.PTensKnown
open Go.RowKit Go.Proofs.YtbdhabpplidgfaaW.PrintWords Go.Proofs.YtbdhabpplidgfaaW.PrintLast Go.Proofs.YtbdhabpplidgfaaW.PrintMore
attribute [local go_sem] max2_int min2_int max_two min_two max_three min_three max_four min_four   -- for this text's walks alone
set_option linter.unusedVariables false
set_option linter.unusedSimpArgs false

/-! ### tens_Add: function 19 -/
def tens_Add.f (k : Nat) (l0_0 : List Int) (l0_1 : List Int) (l1_0 : List Int) (l1_1 : List Int) : Option (List Int × List Int × Int) := (tens_both_Add.f k l0_0 l0_1 l1_0 l1_1).bind fun bt194 => (some (bt194.1, bt194.2.1, bt194.2.2))
theorem tens_Add.mono : ∀ a0 a1 a2 a3 k, LeO (tens_Add.f k a0 a1 a2 a3) (tens_Add.f (k + 1) a0 a1 a2 a3) := by
 intro a0 a1 a2 a3 k
 unfold tens_Add.f
 repeat' first
   | (with_reducible exact tens_both_Add.mono _ _ _ _ _)
   | (with_reducible exact LeO.refl _)
   | (with_reducible exact LeO.none _)
   | (with_reducible refine LeO.ite ?_ ?_)
   | (with_reducible refine LeO.bind ?_ (fun _ => ?_))
   | exact tens_both_Add.mono _ _ _ _ _
   | exact LeO.none _
   | refine LeO.ite ?_ ?_
   | refine LeO.bind ?_ (fun _ => ?_)
set_option maxHeartbeats 8000000 in
set_option maxRecDepth 100000 in
theorem tens_Add.calls (k : Nat) (A0_0 : Option Addr) (c0_0 : Nat) (l0_0 : List Int) (A0_1 : Option Addr) (c0_1 : Nat) (l0_1 : List Int) (A1_0 : Option Addr) (c1_0 : Nat) (l1_0 : List Int) (A1_1 : Option Addr) (c1_1 : Nat) (l1_1 : List Int) (r1 : List Int) (r2 : List Int) (r3 : Int) (w : World) (hr0_0 : Kd.C (Kd.int .i64) w A0_0 l0_0.length l0_0) (hc0_0 : l0_0.length ≤ c0_0) (hr0_1 : Kd.C (Kd.int .i64) w A0_1 l0_1.length l0_1) (hc0_1 : l0_1.length ≤ c0_1) (hr1_0 : Kd.C (Kd.int .i64) w A1_0 l1_0.length l1_0) (hc1_0 : l1_0.length ≤ c1_0) (hr1_1 : Kd.C (Kd.int .i64) w A1_1 l1_1.length l1_1) (hc1_1 : l1_1.length ≤ c1_1) (h : tens_Add.f k l0_0 l0_1 l1_0 l1_1 = some (r1, r2, r3)) :
  Calls Try.prog 19 #[.agg #[.slice A0_0 l0_0.length c0_0, .slice A0_1 l0_1.length c0_1], .agg #[.slice A1_0 l1_0.length c1_0, .slice A1_1 l1_1.length c1_1]] w fun e w' => ∃ v0_ v1_ : Value, e = .returned (.tuple #[.agg #[v0_, v1_], .int .i64 r3]) ∧ Kd.R (Kd.int .i64) 3 w' w.heap.size (fun _ => True) v0_ r1 ∧ Kd.R (Kd.int .i64) 23 w' w.heap.size (fun _ => True) v1_ r2 ∧ Below w.heap.size w w' := by
 have hu27 := Try.underlying27
 have HR0_0 := Aside0.mk hr0_0
 have HC0_0 := Aside0.mk hc0_0
 clear hr0_0 hc0_0
 have HR0_1 := Aside0.mk hr0_1
 have HC0_1 := Aside0.mk hc0_1
 clear hr0_1 hc0_1
 have HR1_0 := Aside0.mk hr1_0
 have HC1_0 := Aside0.mk hc1_0
 clear hr1_0 hc1_0
 have HR1_1 := Aside0.mk hr1_1
 have HC1_1 := Aside0.mk hc1_1
 clear hr1_1 hc1_1
 have HB := Aside0.mk (Below.refl w.heap.size w)
 have H : ((tens_both_Add.f k l0_0 l0_1 l1_0 l1_1).bind fun bt194 => (some (bt194.1, bt194.2.1, bt194.2.2))) = some (r1, r2, r3) := h
 clear h
 replace H := Option.bind_eq_some_iff.mp H
 obtain ⟨⟨t194, t197, t200⟩, A30, H⟩ := H
 replace H : (some (t194, t197, t200)) = some (r1, r2, r3) := H
 have A3 := Aside0.mk A30
 clear A30
 simp only [Option.some.injEq, Prod.mk.injEq] at H
 obtain ⟨rfl, rfl, rfl⟩ := H
 go_enter Try.func19, Try.ntmps19
 go_wp2_with (first | ((with_reducible refine gate_dst (N := 2) rfl ?_); refine box_event ?hg (N := 2) ?hd (cs := #[.slice A0_0 l0_0.length c0_0, .slice A0_1 l0_1.length c0_1]) (t := 27) ?hr ?_; (case hd => rfl); (case hg => rfl); (case hr => first | (go_simp; done) | (go_simp; rfl)); intro gb191 hg w4 hbox hb; have BK191 := Aside0.mk (hbox); have GW191 := Aside0.mk (zs_ hg (zw0_ HB)); have GE191 := Aside0.mk (zs_ hg (zw0_ HB)); replace HB := Aside0.mk (below_step (zw0_ HB) hb); clear hb hbox hg) | ((with_reducible refine gate_dst (N := 3) rfl ?_); refine box_event ?hg (N := 3) ?hd (cs := #[.slice A1_0 l1_0.length c1_0, .slice A1_1 l1_1.length c1_1]) (t := 27) ?hr ?_; (case hd => rfl); (case hg => rfl); (case hr => first | (go_simp; done) | (go_simp; rfl)); intro gb192 hg w5 hbox hb; have BK192 := Aside0.mk (hbox); have GW192 := Aside0.mk (zs_ hg (zw1_ HB GE191)); have GE192 := Aside0.mk (zs_ hg (zw1_ HB GE191)); replace HB := Aside0.mk (below_step (zw1_ HB GE191) hb); have NB191_192 := Aside0.mk (zn_ hg BK191); have NB192_191 := Aside0.mk (zm_ hg BK191); replace BK191 := za_ BK191 hb; clear hb hbox hg) | ((with_reducible refine gate_dst (N := 4) rfl ?_); refine box_event ?hg (N := 4) ?hd (cs := #[.slice none 0 0, .slice none 0 0]) (t := 27) ?hr ?_; (case hd => rfl); (case hg => rfl); (case hr => first | (go_simp; done) | (go_simp; rfl)); intro gb193 hg w6 hbox hb; have BK193 := Aside0.mk (hbox); have GW193 := Aside0.mk (zs_ hg (zw2_ HB GE191 GE192)); have GE193 := Aside0.mk (zs_ hg (zw2_ HB GE191 GE192)); replace HB := Aside0.mk (below_step (zw2_ HB GE191 GE192) hb); have NB191_193 := Aside0.mk (zn_ hg BK191); have NB193_191 := Aside0.mk (zm_ hg BK191); replace BK191 := za_ BK191 hb; have NB192_193 := Aside0.mk (zn_ hg BK192); have NB193_192 := Aside0.mk (zm_ hg BK192); replace BK192 := za_ BK192 hb; clear hb hbox hg; have hnb7 := NB191_192.out; have hnc7 := NB192_191.out; have hnb8 := NB191_193.out; have hnc8 := NB193_191.out; have hcz9_0 := zx_ (v := .slice A0_0 l0_0.length c0_0) BK191 0; have hcz9_1 := zx_ (v := .slice A0_1 l0_1.length c0_1) BK191 1; have hfz9_0 := blk_frozen BK191.out 0; have hfz9_1 := blk_frozen BK191.out 1; have hnb10 := NB192_193.out; have hnc10 := NB193_192.out; have hcz11_0 := zx_ (v := .slice A1_0 l1_0.length c1_0) BK192 0; have hcz11_1 := zx_ (v := .slice A1_1 l1_1.length c1_1) BK192 1; have hfz11_0 := blk_frozen BK192.out 0; have hfz11_1 := blk_frozen BK192.out 1) | ((with_reducible refine gate_callee (f := 39) rfl ?_); refine zg_ (some 8) Try.func39 #[.agg #[.slice A0_0 l0_0.length c0_0, .slice A0_1 l0_1.length c0_1], .agg #[.slice A1_0 l1_0.length c1_0, .slice A1_1 l1_1.length c1_1], .func (.func 40) #[] #[]] (h := ?_); (with_reducible refine (tens_both_Add.calls k _ _ l0_0 _ _ l0_1 _ _ l1_0 _ _ l1_1 t194 t197 t200 _ ?side1 ?side2 ?side3 ?side4 ?side5 ?side6 ?side7 ?side8 A3.out).mono ?_); (case side1 => exact zk_ (Kd.C_below HR0_0.out HB.out)); (case side2 => exact HC0_0.out); (case side3 => exact zk_ (Kd.C_below HR0_1.out HB.out)); (case side4 => exact HC0_1.out); (case side5 => exact zk_ (Kd.C_below HR1_0.out HB.out)); (case side6 => exact HC1_0.out); (case side7 => exact zk_ (Kd.C_below HR1_1.out HB.out)); (case side8 => exact HC1_1.out); rintro e w12 ⟨v195, v198, rfl, ho0, ho1, hb⟩; refine ⟨_, rfl, ?_⟩; have HO196 := Aside0.mk (Kd.R_lower ho0 (below_size (zw3_ HB GE191 GE192 GE193))); have HO199 := Aside0.mk (Kd.R_lower ho1 (below_size (zw3_ HB GE191 GE192 GE193))); replace BK191 := za_ BK191 hb; replace BK192 := za_ BK192 hb; replace BK193 := za_ BK193 hb; replace HB := Aside0.mk (below_step (zw3_ HB GE191 GE192 GE193) hb); (try clear hb); (try clear ho0); (try clear ho1); obtain ⟨Ao13, co13, eo13⟩ := Kd.R_slice HO196.out; subst eo13; have hcz14_0 := zx_ (v := .slice none 0 0) BK193 0; have hcz14_1 := zx_ (v := .slice none 0 0) BK193 1; have hfz14_0 := blk_frozen BK193.out 0; have hfz14_1 := blk_frozen BK193.out 1; obtain ⟨Ao15, co15, eo15⟩ := Kd.R_slice HO199.out; subst eo15))
 refine bodyPost_ret (results_ct rfl _ _ gb193 27 #[.slice Ao13 t194.length co13, .slice Ao15 t197.length co15] (0, 0) _ rfl (zo2_ BK193) Try.underlying27 rfl (by kernel_rfl)) rfl ?_
 exact ⟨_, _, z0_, zr_ (Kd.R_mono (Kd.R_far (p := ⟨gb193, 1, none⟩) (Kd.R_far (p := ⟨gb193, 0, none⟩) (Kd.R_types HO196.out BK193.out (by decide)) (fun _ hk => hk.2) (.slice Ao13 t194.length co13)) (fun _ hk => hk.2) (.slice Ao15 t197.length co15)) (fun _ hk => trivial)), zr_ (Kd.R_mono (Kd.R_far (p := ⟨gb193, 1, none⟩) (Kd.R_far (p := ⟨gb193, 0, none⟩) (Kd.R_types HO199.out BK193.out (by decide)) (fun _ hk => hk.2) (.slice Ao13 t194.length co13)) (fun _ hk => hk.2) (.slice Ao15 t197.length co15)) (fun _ hk => trivial)), zw3_ HB GE191 GE192 GE193⟩

/-! ### tens_Fold: function 26 -/
mutual
def tens_Fold.j0 : Nat → List Int → Bool → List Int → List Int → Option (List Int × List Int × Int)
 | 0, _, _, _, _ => none
 | k + 1, x1, x20, x202000, x202001 => if x20 = true then (some (([] : List Int), ([] : List Int), 1)) else ((shape_Join.f k x1 x202000).bind fun bt205 => (if bt205.2 = 0 then ((shape_Same.f k bt205.1 x202000).bind fun t209 => (tens_Fold.j1 k x1 (!t209) x202000 x202001)) else (tens_Fold.j1 k x1 true x202000 x202001)))
def tens_Fold.j1 : Nat → List Int → Bool → List Int → List Int → Option (List Int × List Int × Int)
 | 0, _, _, _, _ => none
 | k + 1, x1, x37, x202000, x202001 => if x37 = true then (some (([] : List Int), ([] : List Int), 4)) else ((tens_New.f k x1 0).bind fun bt210 => ((shape_Spread.f k x1 x202000).bind fun t218 => (tens_Fold.l0 k t218 x202001 (x202001.length : Int) 0 bt210.1 bt210.2.1)))
def tens_Fold.l0 : Nat → List Int → List Int → Int → Int → List Int → List Int → Option (List Int × List Int × Int)
 | 0, _, _, _, _, _, _ => none
 | k + 1, x10, x49, x50, x51, x218000, x218001 => if x51 < x50 then (if 0 ≤ x51 then (if x51 < (x49.length : Int) then (if x51 < (x10.length : Int) then (if 0 ≤ (rd x10 x51) then (if (rd x10 x51) < (x218001.length : Int) then ((fix_Add.f k (rd x218001 (rd x10 x51)) (rd x49 x51)).bind fun t225 => (tens_Fold.l0 k x10 x49 x50 (wrap64 (x51 + 1)) x218000 (x218001.set ((rd x10 x51) : Int).toNat t225))) else (none)) else (none)) else (none)) else (none)) else (none)) else (some (x218000, x218001, 0))
end
def tens_Fold.f (k : Nat) (l0_0 : List Int) (l0_1 : List Int) (l1 : List Int) : Option (List Int × List Int × Int) := (tens_Good.f k l0_0 l0_1).bind fun t203 => (if t203 = true then ((shape_Good.f k l1).bind fun t204 => (tens_Fold.j0 k l1 (!t204) l0_0 l0_1)) else (tens_Fold.j0 k l1 true l0_0 l0_1))
theorem tens_Fold.mono_l : ∀ k, (∀ y0 y1 y2 y3, LeO (tens_Fold.j0 k y0 y1 y2 y3) (tens_Fold.j0 (k + 1) y0 y1 y2 y3)) ∧ (∀ y0 y1 y2 y3, LeO (tens_Fold.j1 k y0 y1 y2 y3) (tens_Fold.j1 (k + 1) y0 y1 y2 y3)) ∧ (∀ y0 y1 y2 y3 y4 y5, LeO (tens_Fold.l0 k y0 y1 y2 y3 y4 y5) (tens_Fold.l0 (k + 1) y0 y1 y2 y3 y4 y5))
 | 0 => ⟨fun _ _ _ _ r h => by simp [tens_Fold.j0] at h, fun _ _ _ _ r h => by simp [tens_Fold.j1] at h, fun _ _ _ _ _ _ r h => by simp [tens_Fold.l0] at h⟩
 | k + 1 => by
  obtain ⟨ih0, ih1, ih2⟩ := tens_Fold.mono_l k
  refine ⟨?_, ?_, ?_⟩
  ·intro y0 y1 y2 y3
   unfold tens_Fold.j0
   repeat' first
   | (with_reducible exact ih0 _ _ _ _)
   | (with_reducible exact ih1 _ _ _ _)
   | (with_reducible exact ih2 _ _ _ _ _ _)
   | (with_reducible exact shape_Join.mono _ _ _)
   | (with_reducible exact shape_Same.mono _ _ _)
   | (with_reducible exact LeO.refl _)
   | (with_reducible exact LeO.none _)
   | (with_reducible refine LeO.ite ?_ ?_)
   | (with_reducible refine LeO.bind ?_ (fun _ => ?_))
   | exact ih0 _ _ _ _
   | exact ih1 _ _ _ _
   | exact ih2 _ _ _ _ _ _
   | exact shape_Join.mono _ _ _
   | exact shape_Same.mono _ _ _
   | exact LeO.none _
   | refine LeO.ite ?_ ?_
   | refine LeO.bind ?_ (fun _ => ?_)
  ·intro y0 y1 y2 y3
   unfold tens_Fold.j1
   repeat' first
   | (with_reducible exact ih0 _ _ _ _)
   | (with_reducible exact ih1 _ _ _ _)
   | (with_reducible exact ih2 _ _ _ _ _ _)
   | (with_reducible exact shape_Spread.mono _ _ _)
   | (with_reducible exact tens_New.mono _ _ _)
   | (with_reducible exact LeO.refl _)
   | (with_reducible exact LeO.none _)
   | (with_reducible refine LeO.ite ?_ ?_)
   | (with_reducible refine LeO.bind ?_ (fun _ => ?_))
   | exact ih0 _ _ _ _
   | exact ih1 _ _ _ _
   | exact ih2 _ _ _ _ _ _
   | exact shape_Spread.mono _ _ _
   | exact tens_New.mono _ _ _
   | exact LeO.none _
   | refine LeO.ite ?_ ?_
   | refine LeO.bind ?_ (fun _ => ?_)
  ·intro y0 y1 y2 y3 y4 y5
   unfold tens_Fold.l0
   repeat' first
   | (with_reducible exact ih0 _ _ _ _)
   | (with_reducible exact ih1 _ _ _ _)
   | (with_reducible exact ih2 _ _ _ _ _ _)
   | (with_reducible exact fix_Add.mono _ _ _)
   | (with_reducible exact LeO.refl _)
   | (with_reducible exact LeO.none _)
   | (with_reducible refine LeO.ite ?_ ?_)
   | (with_reducible refine LeO.bind ?_ (fun _ => ?_))
   | exact ih0 _ _ _ _
   | exact ih1 _ _ _ _
   | exact ih2 _ _ _ _ _ _
   | exact fix_Add.mono _ _ _
   | exact LeO.none _
   | refine LeO.ite ?_ ?_
   | refine LeO.bind ?_ (fun _ => ?_)
theorem tens_Fold.mono : ∀ a0 a1 a2 k, LeO (tens_Fold.f k a0 a1 a2) (tens_Fold.f (k + 1) a0 a1 a2) := by
 intro a0 a1 a2 k
 obtain ⟨ih0, ih1, ih2⟩ := tens_Fold.mono_l k
 unfold tens_Fold.f
 repeat' first
   | (with_reducible exact ih0 _ _ _ _)
   | (with_reducible exact ih1 _ _ _ _)
   | (with_reducible exact ih2 _ _ _ _ _ _)
   | (with_reducible exact shape_Good.mono _ _)
   | (with_reducible exact tens_Good.mono _ _ _)
   | (with_reducible exact LeO.refl _)
   | (with_reducible exact LeO.none _)
   | (with_reducible refine LeO.ite ?_ ?_)
   | (with_reducible refine LeO.bind ?_ (fun _ => ?_))
   | exact ih0 _ _ _ _
   | exact ih1 _ _ _ _
   | exact ih2 _ _ _ _ _ _
   | exact shape_Good.mono _ _
   | exact tens_Good.mono _ _ _
   | exact LeO.none _
   | refine LeO.ite ?_ ?_
   | refine LeO.bind ?_ (fun _ => ?_)
def tens_Fold.T11 : Bool × List (List Nat × List Nat) := (true, [([], []), ([0], [0]), ([], []), ([], []), ([2, 3], [2, 3]), ([4], [4]), ([], []), ([6], [6]), ([], []), ([], []), ([8, 9], [8, 9]), ([10], [10]), ([7, 11], [7, 11]), ([12], [12]), ([], []), ([13, 14], [13, 14]), ([1, 5, 0, 1, 2, 3, 4, 5, 6, 7, 8, 9, 10, 11, 12, 13, 14, 15], [1, 5]), ([16, 15, 15, 0, 1, 2, 3, 4, 5, 6, 7, 8, 9, 10, 11, 12, 13, 14, 15], [15, 16])])
def tens_Fold.B11 : List Nat := [0, 1, 0, 0, 12, 28, 0, 64, 0, 0, 768, 1792, 4032, 8128, 0, 32704, 65535, 131071]
theorem tens_Fold.tab11 : rtab .any (opsOf Try.f26 11) = tens_Fold.T11 := by kernel_rfl
theorem tens_Fold.bits11 : waitsOk tens_Fold.T11.2 tens_Fold.B11 = true := by kernel_rfl
set_option maxHeartbeats 8000000 in
set_option maxRecDepth 100000 in
theorem tens_Fold.calls (k : Nat) (A0_0 : Option Addr) (c0_0 : Nat) (l0_0 : List Int) (A0_1 : Option Addr) (c0_1 : Nat) (l0_1 : List Int) (A1 : Option Addr) (c1 : Nat) (l1 : List Int) (r1 : List Int) (r2 : List Int) (r3 : Int) (w : World) (hr0_0 : Kd.C (Kd.int .i64) w A0_0 l0_0.length l0_0) (hc0_0 : l0_0.length ≤ c0_0) (hr0_1 : Kd.C (Kd.int .i64) w A0_1 l0_1.length l0_1) (hc0_1 : l0_1.length ≤ c0_1) (hr1 : Kd.C (Kd.int .i64) w A1 l1.length l1) (hc1 : l1.length ≤ c1) (h : tens_Fold.f k l0_0 l0_1 l1 = some (r1, r2, r3)) :
  Calls Try.prog 26 #[.agg #[.slice A0_0 l0_0.length c0_0, .slice A0_1 l0_1.length c0_1], .slice A1 l1.length c1] w fun e w' => ∃ v0_ v1_ : Value, e = .returned (.tuple #[.agg #[v0_, v1_], .int .i64 r3]) ∧ Kd.R (Kd.int .i64) 3 w' w.heap.size (fun _ => True) v0_ r1 ∧ Kd.R (Kd.int .i64) 23 w' w.heap.size (fun _ => True) v1_ r2 ∧ Below w.heap.size w w' := by
 have hu27 := Try.underlying27
 have HR0_0 := Aside0.mk hr0_0
 have HC0_0 := Aside0.mk hc0_0
 clear hr0_0 hc0_0
 have HR0_1 := Aside0.mk hr0_1
 have HC0_1 := Aside0.mk hc0_1
 clear hr0_1 hc0_1
 have HR1 := Aside0.mk hr1
 have HC1 := Aside0.mk hc1
 clear hr1 hc1
 have HB := Aside0.mk (Below.refl w.heap.size w)
 have H : ((tens_Good.f k l0_0 l0_1).bind fun t203 => (if t203 = true then ((shape_Good.f k l1).bind fun t204 => (tens_Fold.j0 k l1 (!t204) l0_0 l0_1)) else (tens_Fold.j0 k l1 true l0_0 l0_1))) = some (r1, r2, r3) := h
 clear h
 have HC3 := Aside0.mk H
 clear H
 go_enter Try.func26, Try.ntmps26
 go_upto_region 1 with (first | ((with_reducible refine gate_dst (N := 2) rfl ?_); refine box_event ?hg (N := 2) ?hd (cs := #[.slice A0_0 l0_0.length c0_0, .slice A0_1 l0_1.length c0_1]) (t := 27) ?hr ?_; (case hd => rfl); (case hg => rfl); (case hr => first | (go_simp; done) | (go_simp; rfl)); intro gb201 hg w4 hbox hb; have BK201 := Aside0.mk (hbox); have GW201 := Aside0.mk (zs_ hg (zw0_ HB)); have GE201 := Aside0.mk (zs_ hg (zw0_ HB)); replace HB := Aside0.mk (below_step (zw0_ HB) hb); clear hb hbox hg) | ((with_reducible refine gate_dst (N := 4) rfl ?_); refine box_event ?hg (N := 4) ?hd (cs := #[.slice none 0 0, .slice none 0 0]) (t := 27) ?hr ?_; (case hd => rfl); (case hg => rfl); (case hr => first | (go_simp; done) | (go_simp; rfl)); intro gb202 hg w5 hbox hb; have BK202 := Aside0.mk (hbox); have GW202 := Aside0.mk (zs_ hg (zw1_ HB GE201)); have GE202 := Aside0.mk (zs_ hg (zw1_ HB GE201)); replace HB := Aside0.mk (below_step (zw1_ HB GE201) hb); have NB201_202 := Aside0.mk (zn_ hg BK201); have NB202_201 := Aside0.mk (zm_ hg BK201); replace BK201 := za_ BK201 hb; clear hb hbox hg))
 (try simp only [Act.put, List.setIfInBounds_toArray, List.set_cons_zero, List.set_cons_succ])
 go_cut [20] (fun v20 wc => ∃ (kq : Nat) (x20_2 : Bool), v20 = .bool x20_2 ∧ Aside0 (tens_Fold.j0 kq l1 x20_2 l0_0 l0_1 = some (r1, r2, r3)) ∧ Aside0 (kq ≤ k) ∧ Aside0 (wc.heap[gb201]? = some (.cells #[(.slice A0_0 l0_0.length c0_0), (.slice A0_1 l0_1.length c0_1)] 27 (0, 0))) ∧ Aside0 (wc.heap[gb202]? = some (.cells #[(.slice none 0 0), (.slice none 0 0)] 27 (0, 0))) ∧ Aside0 (Below w.heap.size w wc))
 case first =>
  have H := HC3.out
  clear HC3
  replace H := Option.bind_eq_some_iff.mp H
  obtain ⟨t203, A60, H⟩ := H
  (try dsimp only at H)
  have A6 := Aside0.mk A60
  clear A60
  by_cases c7 : t203 = true
  rotate_left
  ·replace c7 := Bool.eq_false_iff.mpr c7
   subst c7
   have H1 : (tens_Fold.j0 k l1 true l0_0 l0_1) = some (r1, r2, r3) := by rw [if_neg (show ¬ (false = true) by decide)] at H; exact H
   clear H
   have H := H1
   clear H1
   have H' := Aside0.mk H
   clear H
   have hnb12 := NB201_202.out
   have hnc12 := NB202_201.out
   have hcz13_0 := zx_ (v := .slice A0_0 l0_0.length c0_0) BK201 0
   have hcz13_1 := zx_ (v := .slice A0_1 l0_1.length c0_1) BK201 1
   have hfz13_0 := blk_frozen BK201.out 0
   have hfz13_1 := blk_frozen BK201.out 1
   go_wp2_with (first | ((with_reducible refine gate_callee (f := 16) rfl ?_); refine zg_ (some 14) Try.func16 #[.agg #[.slice A0_0 l0_0.length c0_0, .slice A0_1 l0_1.length c0_1]] (h := ?_); (with_reducible refine (tens_Good.calls k _ _ l0_0 _ _ l0_1 false _ ?side1 ?side2 ?side3 ?side4 A6.out).mono ?_); (case side1 => exact zk_ (Kd.C_below HR0_0.out HB.out)); (case side2 => exact HC0_0.out); (case side3 => exact zk_ (Kd.C_below HR0_1.out HB.out)); (case side4 => exact HC0_1.out); rintro e w14 ⟨rfl, hb⟩; refine ⟨_, rfl, ?_⟩; replace BK201 := za_ BK201 hb; replace BK202 := za_ BK202 hb; replace HB := Aside0.mk (below_step (zw2_ HB GE201 GE202) hb); (try clear hb)))
   go_meet
   case rel => exact ⟨_, (true), z1_, H', ⟨by first | omega | exact Nat.le_refl _⟩, ⟨zb_ BK201⟩, ⟨zb_ BK202⟩, ⟨zw2_ HB GE201 GE202⟩⟩
  subst c7
  have H1 : ((shape_Good.f k l1).bind fun t204 => (tens_Fold.j0 k l1 (!t204) l0_0 l0_1)) = some (r1, r2, r3) := by rw [if_pos rfl] at H; exact H
  clear H
  have H := H1
  clear H1
  replace H := Option.bind_eq_some_iff.mp H
  obtain ⟨t204, A80, H⟩ := H
  replace H : (tens_Fold.j0 k l1 (!t204) l0_0 l0_1) = some (r1, r2, r3) := H
  have A8 := Aside0.mk A80
  clear A80
  have H' := Aside0.mk H
  clear H
  have hnb9 := NB201_202.out
  have hnc9 := NB202_201.out
  have hcz10_0 := zx_ (v := .slice A0_0 l0_0.length c0_0) BK201 0
  have hcz10_1 := zx_ (v := .slice A0_1 l0_1.length c0_1) BK201 1
  have hfz10_0 := blk_frozen BK201.out 0
  have hfz10_1 := blk_frozen BK201.out 1
  go_wp2_with (first | ((with_reducible refine gate_callee (f := 16) rfl ?_); refine zg_ (some 14) Try.func16 #[.agg #[.slice A0_0 l0_0.length c0_0, .slice A0_1 l0_1.length c0_1]] (h := ?_); (with_reducible refine (tens_Good.calls k _ _ l0_0 _ _ l0_1 true _ ?side1 ?side2 ?side3 ?side4 A6.out).mono ?_); (case side1 => exact zk_ (Kd.C_below HR0_0.out HB.out)); (case side2 => exact HC0_0.out); (case side3 => exact zk_ (Kd.C_below HR0_1.out HB.out)); (case side4 => exact HC0_1.out); rintro e w11 ⟨rfl, hb⟩; refine ⟨_, rfl, ?_⟩; replace BK201 := za_ BK201 hb; replace BK202 := za_ BK202 hb; replace HB := Aside0.mk (below_step (zw2_ HB GE201 GE202) hb); (try clear hb)) | (go_at_call 33; (with_reducible refine (shape_Good.calls k _ _ l1 t204 _ ?side1 ?side2 A8.out).mono ?_); (case side1 => exact zk_ (Kd.C_below HR1.out HB.out)); (case side2 => exact HC1.out); rintro e w' ⟨rfl, ⟨nd, rfl⟩⟩))
  go_meet
  case rel => exact ⟨_, (!t204), z1_, H', ⟨by first | omega | exact Nat.le_refl _⟩, ⟨zb_ BK201⟩, ⟨zb_ BK202⟩, ⟨zw2_ HB GE201 GE202⟩⟩
 case rest =>
  clear HC3
  try clear c1
  try clear c2
  try clear p2
  try clear c7
  try clear c9
  try clear c12
  try clear hcz10_0
  try clear hcz10_1
  try clear hcz13_0
  try clear hcz13_1
  try clear hfz10_0
  try clear hfz10_1
  try clear hfz13_0
  try clear hfz13_1
  obtain ⟨kq, x20_2, rfl, HA, HJ2, BK201, BK202, HB⟩ := hcut
  cases kq with
  | zero => exact absurd HA.out (by simp [tens_Fold.j0])
  | succ kj2 =>
   have H := HA.out
   clear HA
   simp only [tens_Fold.j0] at H
   by_cases c15 : x20_2 = true
   ·subst c15
    have H1 : (some (([] : List Int), ([] : List Int), 1)) = some (r1, r2, r3) := by rw [if_pos rfl] at H; exact H
    clear H
    have H := H1
    clear H1
    simp only [Option.some.injEq, Prod.mk.injEq] at H
    obtain ⟨rfl, rfl, rfl⟩ := H
    have hnb16 := NB202_201.out
    have hnc16 := NB201_202.out
    have hcz17_0 := zx_ (v := .slice none 0 0) BK202 0
    have hcz17_1 := zx_ (v := .slice none 0 0) BK202 1
    have hfz17_0 := blk_frozen BK202.out 0
    have hfz17_1 := blk_frozen BK202.out 1
    go_wp2
    refine bodyPost_ret (results_ct rfl _ _ gb202 27 #[.slice none 0 0, .slice none 0 0] (0, 0) _ rfl (zo2_ BK202) Try.underlying27 rfl (by kernel_rfl)) rfl ?_
    exact ⟨_, _, z0_, z2_, z2_, zw2_ HB GE201 GE202⟩
   replace c15 := Bool.eq_false_iff.mpr c15
   subst c15
   have H1 := H
   rw [if_neg (show ¬ (false = true) by decide)] at H1
   clear H
   have H := H1
   clear H1
   replace H := Option.bind_eq_some_iff.mp H
   obtain ⟨⟨t205, t206⟩, A180, H⟩ := H
   (try dsimp only at H)
   have A18 := Aside0.mk A180
   clear A180
   have HC19 := Aside0.mk H
   clear H
   have hnb20 := NB201_202.out
   have hnc20 := NB202_201.out
   have hcz21_0 := zx_ (v := .slice A0_0 l0_0.length c0_0) BK201 0
   have hcz21_1 := zx_ (v := .slice A0_1 l0_1.length c0_1) BK201 1
   have hfz21_0 := blk_frozen BK201.out 0
   have hfz21_1 := blk_frozen BK201.out 1
   go_upto_region 4 with (first | ((with_reducible refine gate_callee (f := 54) rfl ?_); refine zg_ (some 26) Try.func54 #[.slice A1 l1.length c1, .slice A0_0 l0_0.length c0_0] (h := ?_); (with_reducible refine (shape_Join.calls kj2 _ _ l1 _ _ l0_0 t205 t206 _ ?side1 ?side2 ?side3 ?side4 A18.out).mono ?_); (case side1 => exact zk_ (Kd.C_below HR1.out HB.out)); (case side2 => exact HC1.out); (case side3 => exact zk_ (Kd.C_below HR0_0.out HB.out)); (case side4 => exact HC0_0.out); rintro e w22 ⟨v207, rfl, ho0, hb⟩; refine ⟨_, rfl, ?_⟩; have HO208 := Aside0.mk (Kd.R_lower ho0 (below_size (zw2_ HB GE201 GE202))); replace BK201 := za_ BK201 hb; replace BK202 := za_ BK202 hb; replace HB := Aside0.mk (below_step (zw2_ HB GE201 GE202) hb); (try clear hb); (try clear ho0)))
   (try simp only [Act.put, List.setIfInBounds_toArray, List.set_cons_zero, List.set_cons_succ])
   go_cut [37] (fun v37 wc => ∃ (kq : Nat) (x37_18 : Bool), v37 = .bool x37_18 ∧ Aside0 (tens_Fold.j1 kq l1 x37_18 l0_0 l0_1 = some (r1, r2, r3)) ∧ Aside0 (kq ≤ kj2) ∧ Aside0 (wc.heap[gb201]? = some (.cells #[(.slice A0_0 l0_0.length c0_0), (.slice A0_1 l0_1.length c0_1)] 27 (0, 0))) ∧ Aside0 (wc.heap[gb202]? = some (.cells #[(.slice none 0 0), (.slice none 0 0)] 27 (0, 0))) ∧ Aside0 (Below w.heap.size w wc))
   case first =>
    have H := HC19.out
    clear HC19
    by_cases c23 : t206 = 0
    rotate_left
    ·rw [if_neg c23] at H
     have c23b0 : (t206 == 0) = false := beq_eq_false_iff_ne.mpr c23
     have c23b1 : (t206 != 0) = true := bne_iff_ne.mpr c23
     (first | rw [c23b0] | (simp only [i64_w, i32_w]; rw [c23b0]) | skip)
     have H' := Aside0.mk H
     clear H
     go_wp2
     go_meet
     case rel => exact ⟨_, (true), z1_, H', ⟨by have := HJ2.out; first | omega | exact Nat.le_refl _⟩, ⟨zb_ BK201⟩, ⟨zb_ BK202⟩, ⟨zw2_ HB GE201 GE202⟩⟩
    rw [if_pos c23] at H
    have c23b0 : (t206 == 0) = true := beq_iff_eq.mpr c23
    have c23b1 : (t206 != 0) = false := bne_eq_false_iff_eq.mpr c23
    clear c23
    (first | rw [c23b0] | (simp only [i64_w, i32_w]; rw [c23b0]) | skip)
    replace H := Option.bind_eq_some_iff.mp H
    obtain ⟨t209, A240, H⟩ := H
    replace H : (tens_Fold.j1 kj2 l1 (!t209) l0_0 l0_1) = some (r1, r2, r3) := H
    have A24 := Aside0.mk A240
    clear A240
    have H' := Aside0.mk H
    clear H
    have hnb25 := NB201_202.out
    have hnc25 := NB202_201.out
    have hcz26_0 := zx_ (v := .slice A0_0 l0_0.length c0_0) BK201 0
    have hcz26_1 := zx_ (v := .slice A0_1 l0_1.length c0_1) BK201 1
    have hfz26_0 := blk_frozen BK201.out 0
    have hfz26_1 := blk_frozen BK201.out 1
    obtain ⟨Ao27, co27, eo27⟩ := Kd.R_slice HO208.out
    subst eo27
    go_wp2_with (first | (go_at_call 42; (with_reducible refine (shape_Same.calls kj2 _ _ t205 _ _ l0_0 t209 _ ?side1 ?side2 ?side3 ?side4 A24.out).mono ?_); (case side1 => exact zk_ ((Kd.R_reads' HO208.out).2.2)); (case side2 => exact (Kd.R_reads' HO208.out).2.1); (case side3 => exact zk_ (Kd.C_below HR0_0.out HB.out)); (case side4 => exact HC0_0.out); rintro e w' ⟨rfl, ⟨nd, rfl⟩⟩))
    go_meet
    case rel => exact ⟨_, (!t209), z1_, H', ⟨by have := HJ2.out; first | omega | exact Nat.le_refl _⟩, ⟨zb_ BK201⟩, ⟨zb_ BK202⟩, ⟨zw2_ HB GE201 GE202⟩⟩
   case rest =>
    clear HC19
    try clear c1
    try clear c2
    try clear p2
    try clear c5
    try clear c7
    try clear c9
    try clear c12
    try clear c15
    try clear c16
    try clear c20
    try clear c23
    try clear c23b0
    try clear c23b1
    try clear c25
    try clear c26
    try clear hcz10_0
    try clear hcz10_1
    try clear hcz13_0
    try clear hcz13_1
    try clear hcz17_0
    try clear hcz17_1
    try clear hcz21_0
    try clear hcz21_1
    try clear hcz26_0
    try clear hcz26_1
    try clear hfz10_0
    try clear hfz10_1
    try clear hfz13_0
    try clear hfz13_1
    try clear hfz17_0
    try clear hfz17_1
    try clear hfz21_0
    try clear hfz21_1
    try clear hfz26_0
    try clear hfz26_1
    try clear p2
    obtain ⟨kq, x37_18, rfl, HA, HJ18, BK201, BK202, HB⟩ := hcut
    cases kq with
    | zero => exact absurd HA.out (by simp [tens_Fold.j1])
    | succ kj18 =>
     have H := HA.out
     clear HA
     simp only [tens_Fold.j1] at H
     by_cases c28 : x37_18 = true
     ·subst c28
      have H1 : (some (([] : List Int), ([] : List Int), 4)) = some (r1, r2, r3) := by rw [if_pos rfl] at H; exact H
      clear H
      have H := H1
      clear H1
      simp only [Option.some.injEq, Prod.mk.injEq] at H
      obtain ⟨rfl, rfl, rfl⟩ := H
      have hnb29 := NB202_201.out
      have hnc29 := NB201_202.out
      have hcz30_0 := zx_ (v := .slice none 0 0) BK202 0
      have hcz30_1 := zx_ (v := .slice none 0 0) BK202 1
      have hfz30_0 := blk_frozen BK202.out 0
      have hfz30_1 := blk_frozen BK202.out 1
      go_wp2
      refine bodyPost_ret (results_ct rfl _ _ gb202 27 #[.slice none 0 0, .slice none 0 0] (0, 0) _ rfl (zo2_ BK202) Try.underlying27 rfl (by kernel_rfl)) rfl ?_
      exact ⟨_, _, z0_, z2_, z2_, zw2_ HB GE201 GE202⟩
     replace c28 := Bool.eq_false_iff.mpr c28
     subst c28
     have H1 := H
     rw [if_neg (show ¬ (false = true) by decide)] at H1
     clear H
     have H := H1
     clear H1
     replace H := Option.bind_eq_some_iff.mp H
     obtain ⟨⟨t210, t213, t216⟩, A310, H⟩ := H
     (try dsimp only at H)
     have A31 := Aside0.mk A310
     clear A310
     replace H := Option.bind_eq_some_iff.mp H
     obtain ⟨t218, A320, H⟩ := H
     replace H : (tens_Fold.l0 kj18 t218 l0_1 (l0_1.length : Int) 0 t210 t213) = some (r1, r2, r3) := H
     have A32 := Aside0.mk A320
     clear A320
     have H' := Aside0.mk H
     clear H
     go_wp2_with (first | ((with_reducible refine gate_callee (f := 12) rfl ?_); refine zg_ (some 41) Try.func12 #[.slice A1 l1.length c1, .int .i64 0] (h := ?_); (with_reducible refine (tens_New.calls kj18 _ _ l1 0 t210 t213 t216 _ ?side1 ?side2 A31.out).mono ?_); (case side1 => exact zk_ (Kd.C_below HR1.out HB.out)); (case side2 => exact HC1.out); rintro e w33 ⟨v211, v214, rfl, ho0, ho1, hb⟩; refine ⟨_, rfl, ?_⟩; have HO212 := Aside0.mk (Kd.R_lower ho0 (below_size (zw2_ HB GE201 GE202))); have HO215 := Aside0.mk (Kd.R_lower ho1 (below_size (zw2_ HB GE201 GE202))); replace BK201 := za_ BK201 hb; replace BK202 := za_ BK202 hb; replace HB := Aside0.mk (below_step (zw2_ HB GE201 GE202) hb); (try clear hb); (try clear ho0); (try clear ho1)) | ((with_reducible refine gate_dst (N := 8) rfl ?_); refine box_event ?hg (N := 8) ?hd (cs := #[.slice none 0 0, .slice none 0 0]) (t := 27) ?hr ?_; (case hd => rfl); (case hg => rfl); (case hr => first | (go_simp; done) | (go_simp; rfl)); intro gb217 hg w34 hbox hb; replace HO212 := zy_ HO212 hb; replace HO215 := zy_ HO215 hb; have BK217 := Aside0.mk (hbox); have GW217 := Aside0.mk (zs_ hg (zw2_ HB GE201 GE202)); have GE217 := Aside0.mk (zs_ hg (zw2_ HB GE201 GE202)); replace HB := Aside0.mk (below_step (zw2_ HB GE201 GE202) hb); have NB201_217 := Aside0.mk (zn_ hg BK201); have NB217_201 := Aside0.mk (zm_ hg BK201); replace BK201 := za_ BK201 hb; have NB202_217 := Aside0.mk (zn_ hg BK202); have NB217_202 := Aside0.mk (zm_ hg BK202); replace BK202 := za_ BK202 hb; clear hb hbox hg; obtain ⟨Ao35, co35, eo35⟩ := Kd.R_slice HO212.out; subst eo35; have hnb36 := NB217_201.out; have hnc36 := NB201_217.out; have hnb37 := NB217_202.out; have hnc37 := NB202_217.out; have hcz38_0 := zx_ (v := .slice none 0 0) BK217 0; have hcz38_1 := zx_ (v := .slice none 0 0) BK217 1; have hfz38_0 := blk_frozen BK217.out 0; have hfz38_1 := blk_frozen BK217.out 1; obtain ⟨Ao39, co39, eo39⟩ := Kd.R_slice HO215.out; subst eo39; have hnb40 := NB201_202.out; have hnc40 := NB202_201.out; have hcz41_0 := zx_ (v := .slice A0_0 l0_0.length c0_0) BK201 0; have hcz41_1 := zx_ (v := .slice A0_1 l0_1.length c0_1) BK201 1; have hfz41_0 := blk_frozen BK201.out 0; have hfz41_1 := blk_frozen BK201.out 1) | ((with_reducible refine gate_callee (f := 55) rfl ?_); refine zg_ (some 47) Try.func55 #[.slice A1 l1.length c1, .slice A0_0 l0_0.length c0_0] (h := ?_); (with_reducible refine (shape_Spread.calls kj18 _ _ l1 _ _ l0_0 t218 _ ?side1 ?side2 ?side3 ?side4 A32.out).mono ?_); (case side1 => exact Kd.C_below HR1.out (zw3_ HB GE201 GE202 GE217)); (case side2 => exact HC1.out); (case side3 => exact Kd.C_below HR0_0.out (zw3_ HB GE201 GE202 GE217)); (case side4 => exact HC0_0.out); rintro e w42 ⟨v219, rfl, ho0, hb⟩; refine ⟨_, rfl, ?_⟩; replace HO215 := Aside0.mk (Kd.R_below (zr_ ((zf_ HO215 BK217 (.slice Ao35 t210.length co35) (.slice Ao39 t213.length co39)))) hb); have HO220 := Aside0.mk (Kd.R_lower (Kd.R_new' ho0 (Kd.R_lt (zr_ ((zf_ HO212 BK217 (.slice Ao35 t210.length co35) (.slice Ao39 t213.length co39)))))) (below_size (zw3_ HB GE201 GE202 GE217))); replace HO212 := Aside0.mk (Kd.R_elder' (zr_ ((zf_ HO212 BK217 (.slice Ao35 t210.length co35) (.slice Ao39 t213.length co39)))) (Kd.R_base ho0) hb); replace BK201 := Aside0.mk (blk_below (g := gb201) (o := .cells #[.slice A0_0 l0_0.length c0_0, .slice A0_1 l0_1.length c0_1] 27 (0, 0)) (zv1_ BK201 NB201_217) hb); replace BK202 := Aside0.mk (blk_below (g := gb202) (o := .cells #[.slice none 0 0, .slice none 0 0] 27 (0, 0)) (zv1_ BK202 NB202_217) hb); replace BK217 := Aside0.mk (blk_below (g := gb217) (o := .cells #[.slice Ao35 t210.length co35, .slice Ao39 t213.length co39] 27 (0, 0)) (zo2_ BK217) hb); replace HB := Aside0.mk (below_step (zw3_ HB GE201 GE202 GE217) hb); (try clear hb); (try clear hk); (try clear ho0); have hcz43_0 := zx_ (v := .slice A0_0 l0_0.length c0_0) BK201 0; have hcz43_1 := zx_ (v := .slice A0_1 l0_1.length c0_1) BK201 1; have hfz43_0 := blk_frozen BK201.out 0; have hfz43_1 := blk_frozen BK201.out 1))
     go_loopg [51] kj18 (fun kq v51 w' => ∃ (x51_3 : Int) (x218001_3 : List Int) (u218001 : Value), v51 = .int .i64 x51_3 ∧ Aside0 (tens_Fold.l0 kq t218 l0_1 (l0_1.length : Int) x51_3 t210 x218001_3 = some (r1, r2, r3)) ∧ Aside0 (kq ≤ kj18) ∧ Aside0 (Kd.R (Kd.int .i64) 3 w' w.heap.size (fun k_ => some k_ ≠ ((.slice Ao35 t210.length co35) : Value).ownBlock) v219 t218) ∧ Aside0 (Kd.R (Kd.int .i64) 3 w' w.heap.size (fun k_ => some k_ ≠ (v219 : Value).ownBlock) (.slice Ao35 t210.length co35) t210) ∧ Aside0 (Kd.R (Kd.int .i64) 23 w' w.heap.size (fun _ => True) u218001 x218001_3) ∧ Aside0 (w'.heap[gb201]? = some (.cells #[(.slice A0_0 l0_0.length c0_0), (.slice A0_1 l0_1.length c0_1)] 27 (0, 0))) ∧ Aside0 (w'.heap[gb202]? = some (.cells #[(.slice none 0 0), (.slice none 0 0)] 27 (0, 0))) ∧ Aside0 (w'.heap[gb217]? = some (.cells #[(.slice Ao35 t210.length co35), u218001] 27 (0, 0))) ∧ Aside0 (Below w.heap.size w w'))
     case atStart => exact ⟨(0), (t213), (.slice Ao39 t213.length co39), z1_, H', ⟨Nat.le_refl _⟩, ⟨zr_ (Kd.R_mono HO220.out (fun _ hk => hk.2))⟩, ⟨zr_ (Kd.R_mono HO212.out (fun _ hk => hk.2))⟩, ⟨zr_ HO215.out⟩, ⟨zb_ BK201⟩, ⟨zb_ BK202⟩, ⟨zb_ BK217⟩, ⟨zw3_ HB GE201 GE202 GE217⟩⟩
     case round =>
      clear H'
      try clear c1
      try clear c2
      try clear p2
      try clear c3
      try clear c4
      try clear c5
      try clear c7
      try clear c9
      try clear c12
      try clear c15
      try clear c16
      try clear c20
      try clear c23
      try clear c23b0
      try clear c23b1
      try clear c25
      try clear c26
      try clear c28
      try clear c29
      try clear c36
      try clear c37
      try clear c40
      try clear hcz10_0
      try clear hcz10_1
      try clear hcz13_0
      try clear hcz13_1
      try clear hcz17_0
      try clear hcz17_1
      try clear hcz21_0
      try clear hcz21_1
      try clear hcz26_0
      try clear hcz26_1
      try clear hcz30_0
      try clear hcz30_1
      try clear hcz38_0
      try clear hcz38_1
      try clear hcz41_0
      try clear hcz41_1
      try clear hcz43_0
      try clear hcz43_1
      try clear hfz10_0
      try clear hfz10_1
      try clear hfz13_0
      try clear hfz13_1
      try clear hfz17_0
      try clear hfz17_1
      try clear hfz21_0
      try clear hfz21_1
      try clear hfz26_0
      try clear hfz26_1
      try clear hfz30_0
      try clear hfz30_1
      try clear hfz38_0
      try clear hfz38_1
      try clear hfz41_0
      try clear hfz41_1
      try clear hfz43_0
      try clear hfz43_1
      try clear p2
      obtain ⟨x51_3, x218001_3, u218001, rfl, HA, HK3, HO_10, HO_218000, HO_218001, BK201, BK202, BK217, HB⟩ := hrel
      cases gk with
      | zero => exact absurd HA.out (by simp [tens_Fold.l0])
      | succ k3 =>
       have H := HA.out
       clear HA
       simp only [tens_Fold.l0] at H
       by_cases c44 : x51_3 < (l0_1.length : Int)
       rotate_left
       ·rw [if_neg c44] at H
        have c44b0 : decide (x51_3 < (l0_1.length : Int)) = false := decide_eq_false c44
        clear c44
        simp only [Option.some.injEq, Prod.mk.injEq] at H
        obtain ⟨rfl, rfl, rfl⟩ := H
        have hnb56 := NB217_201.out
        have hnc56 := NB201_217.out
        have hnb57 := NB217_202.out
        have hnc57 := NB202_217.out
        have hcz58_0 := zx_ (v := .slice Ao35 t210.length co35) BK217 0
        have hcz58_1 := zx_ (v := u218001) BK217 1
        have hfz58_0 := blk_frozen BK217.out 0
        have hfz58_1 := blk_frozen BK217.out 1
        have hnb59 := NB202_201.out
        have hnc59 := NB201_202.out
        have hcz60_0 := zx_ (v := .slice none 0 0) BK202 0
        have hcz60_1 := zx_ (v := .slice none 0 0) BK202 1
        have hfz60_0 := blk_frozen BK202.out 0
        have hfz60_1 := blk_frozen BK202.out 1
        obtain ⟨Ao61, co61, eo61⟩ := Kd.R_slice HO_218001.out
        subst eo61
        go_wp2
        refine bodyPost_ret (results_ct rfl _ _ gb202 27 #[.slice Ao35 t210.length co35, .slice Ao61 x218001_3.length co61] (0, 0) _ rfl (zo2_ BK202) Try.underlying27 rfl (by kernel_rfl)) rfl ?_
        exact ⟨_, _, z0_, zr_ (Kd.R_mono (Kd.R_far (p := ⟨gb202, 1, none⟩) (Kd.R_far (p := ⟨gb202, 0, none⟩) (Kd.R_types HO_218000.out BK202.out (by decide)) (fun _ hk => hk.2) (.slice Ao35 t210.length co35)) (fun _ hk => hk.2) (.slice Ao61 x218001_3.length co61)) (fun _ hk => trivial)), zr_ (Kd.R_mono (Kd.R_far (p := ⟨gb202, 1, none⟩) (Kd.R_far (p := ⟨gb202, 0, none⟩) (Kd.R_types HO_218001.out BK202.out (by decide)) (fun _ hk => hk.2) (.slice Ao35 t210.length co35)) (fun _ hk => hk.2) (.slice Ao61 x218001_3.length co61)) (fun _ hk => trivial)), zw3_ HB GE201 GE202 GE217⟩
       rw [if_pos c44] at H
       have c44b0 : decide (x51_3 < (l0_1.length : Int)) = true := decide_eq_true c44
       clear c44
       by_cases c45 : 0 ≤ x51_3
       rotate_left
       ·rw [if_neg c45] at H
        exact absurd H (by simp)
       rw [if_pos c45] at H
       have c45b0 : decide (0 ≤ x51_3) = true := decide_eq_true c45
       clear c45
       by_cases c46 : x51_3 < (l0_1.length : Int)
       rotate_left
       ·rw [if_neg c46] at H
        exact absurd H (by simp)
       rw [if_pos c46] at H
       have c46b0 : decide (x51_3 < (l0_1.length : Int)) = true := decide_eq_true c46
       clear c46
       by_cases c47 : x51_3 < (t218.length : Int)
       rotate_left
       ·rw [if_neg c47] at H
        exact absurd H (by simp)
       rw [if_pos c47] at H
       have c47b0 : decide (x51_3 < (t218.length : Int)) = true := decide_eq_true c47
       clear c47
       by_cases c48 : 0 ≤ (rd t218 x51_3)
       rotate_left
       ·rw [if_neg c48] at H
        exact absurd H (by simp)
       rw [if_pos c48] at H
       have c48b0 : decide (0 ≤ (rd t218 x51_3)) = true := decide_eq_true c48
       clear c48
       by_cases c49 : (rd t218 x51_3) < (x218001_3.length : Int)
       rotate_left
       ·rw [if_neg c49] at H
        exact absurd H (by simp)
       rw [if_pos c49] at H
       have c49b0 : decide ((rd t218 x51_3) < (x218001_3.length : Int)) = true := decide_eq_true c49
       clear c49
       replace H := Option.bind_eq_some_iff.mp H
       obtain ⟨t225, A500, H⟩ := H
       (try dsimp only at H)
       have A50 := Aside0.mk A500
       clear A500
       obtain ⟨y226, hy226⟩ : ∃ y_ : List Int, y_ = (x218001_3.set ((rd t218 x51_3) : Int).toNat t225) := ⟨_, rfl⟩
       replace H : (tens_Fold.l0 k3 t218 l0_1 (l0_1.length : Int) (wrap64 (x51_3 + 1)) t210 y226) = some (r1, r2, r3) := by first | (rw [hy226]; with_reducible exact H) | (have H2_ := (Option.bind_some _ _).symm.trans H; rw [hy226]; with_reducible exact H2_) | (have H2_ := (Option.bind_some _ _).symm.trans H; with_reducible exact H2_) | with_reducible exact H | (rw [hy226]; exact H) | exact H
       have Ny226 := Aside0.mk hy226
       clear hy226
       have H' := Aside0.mk H
       clear H
       have p221 : 0 ≤ (x51_3 : Int) := of_decide_eq_true (by first | (with_reducible assumption) | assumption)
       have q221 : x51_3 < (l0_1.length : Int) := of_decide_eq_true (by first | (with_reducible assumption) | assumption)
       obtain ⟨ad221, e221, hx221_0⟩ := Kd.at_int HR0_1.out x51_3 p221 q221
       cases e221
       replace hx221_0 := (HB.out.cell (World.block_lt_of_cell? w _ hx221_0)).trans hx221_0
       replace p221 := eq_true p221
       replace q221 := eq_true q221
       try go_wp2
       replace HO_10 := Aside0.mk (Kd.R_drew HO_10.out)
       replace HO_218000 := Aside0.mk (Kd.R_drew HO_218000.out)
       replace HO_218001 := Aside0.mk (Kd.R_drew HO_218001.out)
       replace BK201 := Aside0.mk (blk_drew BK201.out)
       replace BK202 := Aside0.mk (blk_drew BK202.out)
       replace BK217 := Aside0.mk (blk_drew BK217.out)
       replace HB := Aside0.mk (below_drew1 HB.out)
       obtain ⟨Ao53, co53, eo53⟩ := Kd.R_slice HO_10.out
       (first | subst eo53 | (injection eo53 with f1_ f2_ f3_; have f4_ := f1_.symm; have f5_ := f3_.symm; clear f1_ f2_ f3_; subst f4_; subst f5_))
       have p222 : 0 ≤ (x51_3 : Int) := of_decide_eq_true (by first | (with_reducible assumption) | assumption)
       have q222 : x51_3 < (t218.length : Int) := of_decide_eq_true (by first | (with_reducible assumption) | assumption)
       obtain ⟨ad222, e222, hx222_0⟩ := Kd.at_int (Kd.R_reads' HO_10.out).2.2 x51_3 p222 q222
       cases e222
       replace p222 := eq_true p222
       replace q222 := eq_true q222
       have p223 : 0 ≤ (x51_3 : Int) := of_decide_eq_true (by first | (with_reducible assumption) | assumption)
       have q223 : x51_3 < (t218.length : Int) := of_decide_eq_true (by first | (with_reducible assumption) | assumption)
       obtain ⟨ad223, e223, hx223_0⟩ := Kd.at_int (Kd.R_reads' HO_10.out).2.2 x51_3 p223 q223
       obtain rfl : ad222 = ad223 := (by injection e223)
       replace p223 := eq_true p223
       replace q223 := eq_true q223
       obtain ⟨Ao54, co54, eo54⟩ := Kd.R_slice HO_218001.out
       (first | subst eo54 | (injection eo54 with f1_ f2_ f3_; have f4_ := f1_.symm; have f5_ := f3_.symm; clear f1_ f2_ f3_; subst f4_; subst f5_))
       have p224 : 0 ≤ ((rd t218 x51_3) : Int) := of_decide_eq_true (by first | (with_reducible assumption) | assumption)
       have q224 : (rd t218 x51_3) < (x218001_3.length : Int) := of_decide_eq_true (by first | (with_reducible assumption) | assumption)
       obtain ⟨ad224, e224, hx224_0⟩ := Kd.at_int (Kd.R_reads' HO_218001.out).2.2 (rd t218 x51_3) p224 q224
       cases e224
       replace p224 := eq_true p224
       replace q224 := eq_true q224
       refine start_ (n := 18) (S := fun w' => w'.cell? ⟨gb217, 0, none⟩ = some (.slice Ao35 t210.length co35) ∧ w'.cell? ⟨gb217, 1, none⟩ = some (.slice (some ad224) x218001_3.length co54) ∧ w'.cell? (ad222.add (x51_3).toNat) = some (.int .i64 (rd t218 x51_3)) ∧ w'.cell? (ad222.add (x51_3).toNat) = some (.int .i64 (rd t218 x51_3)) ∧ w'.cell? (ad224.add ((rd t218 x51_3)).toNat) = some (.int .i64 (rd x218001_3 (rd t218 x51_3)))) (ds := [17]) #[false, false, false, false, false, false, false, false, false, false, false, false, false, false, false, false, false, false] (by kernel_rfl) rfl rfl ⟨(blk_cell BK217.out 0).trans rfl, (blk_cell BK217.out 1).trans rfl, hx222_0, hx223_0, hx224_0⟩ (fun hHeld => ?_); refine with_tabW tens_Fold.tab11 tens_Fold.bits11 (fun HT_ HW_ => ?_)
       generalize wr.drew = w52 at HO_10 HO_218000 HO_218001 BK201 BK202 BK217 HB hx222_0 hx223_0 hx224_0 hHeld ⊢
       refine yp_ ?_ 0 56
       refine yp_ ?_ 2 58
       refine yp_ ?_ 3 59
       refine yp_ ?_ 4 60
       refine yp_ ?_ 6 62
       refine yp_ ?_ 8 64
       refine yp_ ?_ 9 65
       refine yp_ ?_ 10 66
       refine yp_ ?_ 14 70
       refine yt5_ ?_ 1 57
       refine yt5_ ?_ 5 61
       refine yt5_ ?_ 7 63
       refine yt5_ ?_ 11 67
       refine yp_ ?_ 12 68
       refine yt5_ ?_ 13 69
       refine yo_ 15 (some 71) (fun K hK => ?_)
       refine yg_ Try.func40 #[.int .i64 (rd x218001_3 (rd t218 x51_3)), .int .i64 (rd l0_1 x51_3)] ?_
       with_reducible refine (fix_Add.calls k3 (rd x218001_3 (rd t218 x51_3)) (rd l0_1 x51_3) t225 _ A50.out).mono ?_
       rintro e w' ⟨rfl, ⟨nd, rfl⟩⟩
       refine ⟨_, rfl, ?_⟩
       have p51 : 0 ≤ ((rd t218 x51_3) : Int) := of_decide_eq_true (by first | (with_reducible assumption) | assumption)
       have q51 : ((rd t218 x51_3) : Int) < ((x218001_3.length : Int) : Int) := of_decide_eq_true (by first | (with_reducible assumption) | assumption)
       obtain ⟨go51, co51, eo51, gb51, gl51, cl51, HG51⟩ := Kd.R_form HO_218001.out (by omega)
       (first | cases eo51 | (injection eo51 with ea_ en_ ec_; (first | subst ea_ | (injection ea_ with ea_; subst ea_)); subst ec_; clear en_))
       have GB51 := Aside0.mk gb51
       have GG51 := Aside0.mk HG51
       clear gb51 gl51 HG51
       (first | simp only [add_plain] at hx224_0 | skip)
       obtain ⟨hx51_0, hf51_0⟩ := Kd.R_celln 0 HO_218001.out ((rd t218 x51_3) : Int) p51 q51
       replace p51 := eq_true p51
       replace q51 := eq_true q51
       have HP55 := Kd.R_putn HO_218001.out ((rd t218 x51_3) : Int) t225
       rw [← Ny226.out] at HP55
       have HQ55 := Aside0.mk HP55
       clear HP55
       refine hK.out _ _ ⟨(blk_cell BK217.out 0).trans rfl, (blk_cell BK217.out 1).trans rfl, hHeld.2.2.1, hHeld.2.2.2.1, hHeld.2.2.2.2⟩ (fun hHeld => ?_)
       clear hK K
       refine zq_ (some 71) (h := ?_)
       refine yp_ ?_ 16 72
       refine yl_ 17 none (fun K hK => ?_)
       refine skip_ (w1 := ?_) (by rfl) rfl ?_ ?_
       rotate_left
       ·go_simp
        rfl
       refine hK.out _ _ ?_
       clear hK K
       refine done_ (done_of HT_.out (by kernel_rfl)) ?_
       try go_wp2
       go_roundg k3
       case measure => have := HJ2.out; have := HJ18.out; have := HK3.out; omega
       case rel => exact ⟨(wrap64 (x51_3 + 1)), (y226), (.slice (some ⟨go51, 0, none⟩) x218001_3.length co54), z1_, H', ⟨by have := HJ2.out; have := HJ18.out; have := HK3.out; omega⟩, ⟨zr_ (Kd.R_mono (Kd.R_far (p := ⟨go51, ((rd t218 x51_3) : Int).toNat, none⟩) (Kd.R_types HO_10.out GG51.out (by decide)) (fun _ hk => hk.2) (.int .i64 t225)) (fun _ hk => hk.1))⟩, ⟨zr_ (Kd.R_mono (Kd.R_far (p := ⟨go51, ((rd t218 x51_3) : Int).toNat, none⟩) (Kd.R_types HO_218000.out GG51.out (by decide)) (fun _ hk => hk.2) (.int .i64 t225)) (fun _ hk => hk.1))⟩, ⟨zr_ HQ55.out⟩, ⟨by (with_reducible repeat (first | refine blk_drewN ?_ _ | refine blk_drew ?_ | refine blk_alloc ?_ _)); refine blk_far ?_ (by have h_ := Kd.R_ne HO_218001.out BK201.out (by decide); intro e_; exact h_ (by rw [e_]; rfl)) _; (with_reducible repeat (first | refine blk_drewN ?_ _ | refine blk_drew ?_ | refine blk_alloc ?_ _)); exact BK201.out⟩, ⟨by (with_reducible repeat (first | refine blk_drewN ?_ _ | refine blk_drew ?_ | refine blk_alloc ?_ _)); refine blk_far ?_ (by have h_ := Kd.R_ne HO_218001.out BK202.out (by decide); intro e_; exact h_ (by rw [e_]; rfl)) _; (with_reducible repeat (first | refine blk_drewN ?_ _ | refine blk_drew ?_ | refine blk_alloc ?_ _)); exact BK202.out⟩, ⟨by (with_reducible repeat (first | refine blk_drewN ?_ _ | refine blk_drew ?_ | refine blk_alloc ?_ _)); refine blk_far ?_ (by have h_ := Kd.R_ne HO_218001.out BK217.out (by decide); intro e_; exact h_ (by rw [e_]; rfl)) _; (with_reducible repeat (first | refine blk_drewN ?_ _ | refine blk_drew ?_ | refine blk_alloc ?_ _)); exact BK217.out⟩, ⟨by repeat (first | (with_reducible first | exact HB.out | apply below_alloc | apply pw_below_drewN | apply below_drew1 | refine below_set ?_ GB51.out | refine below_set ?_ GE201.out | refine below_set ?_ GE202.out | refine below_set ?_ GE217.out) | exact HB.out)⟩⟩

/-! ### carousellaw6_row: function 28 -/
def carousellaw6_row.f (l0 : List Int) : Option (List Int × List Int) := some ((([(l0.length : Int)] : List Int)), l0)
set_option maxHeartbeats 8000000 in
set_option maxRecDepth 100000 in
theorem carousellaw6_row.calls (P0_ : Nat → Prop) (u9000_ : Value) (l0 : List Int) (r1 : List Int) (r2 : List Int) (w0 w : World) (hB : Below w0.heap.size w0 w) (ho0 : Kd.R (Kd.int .i64) 23 w w0.heap.size P0_ u9000_ l0) (h : carousellaw6_row.f l0 = some (r1, r2)) :
  Calls Try.prog 28 #[u9000_] w fun e w' => ∃ v0_ v1_ : Value, e = .returned (.agg #[v0_, v1_]) ∧ Kd.R (Kd.int .i64) 3 w' w0.heap.size (fun k_ => (P0_ k_ ∨ w.heap.size ≤ k_)) v0_ r1 ∧ Kd.R (Kd.int .i64) 23 w' w0.heap.size (fun k_ => (P0_ k_ ∨ w.heap.size ≤ k_)) v1_ r2 ∧ Below w0.heap.size w0 w' ∧ Kept w w' (fun k_ => P0_ k_) := by
 have hu27 := Try.underlying27
 have HO0 := Aside0.mk (show Kd.R (Kd.int .i64) 23 w w0.heap.size (fun k_ => (P0_ k_ ∨ w.heap.size ≤ k_)) u9000_ l0 from Kd.R_mono ho0 (fun k_ hk => (.inl hk)))
 have HK := Aside0.mk (Kept.refl w (fun k_ => P0_ k_))
 have HW0 := Aside0.mk hB.size
 have HB := Aside0.mk hB
 clear hB
 have H : (some ((([(l0.length : Int)] : List Int)), l0)) = some (r1, r2) := h
 clear h
 obtain ⟨y228, hy228⟩ : ∃ y_ : List Int, y_ = (([(l0.length : Int)] : List Int)) := ⟨_, rfl⟩
 replace H : (some (y228, l0)) = some (r1, r2) := by first | (rw [hy228]; with_reducible exact H) | (have H2_ := (Option.bind_some _ _).symm.trans H; rw [hy228]; with_reducible exact H2_) | (have H2_ := (Option.bind_some _ _).symm.trans H; with_reducible exact H2_) | with_reducible exact H | (rw [hy228]; exact H) | exact H
 have Ny228 := Aside0.mk hy228
 clear hy228
 simp only [Option.some.injEq, Prod.mk.injEq] at H
 obtain ⟨rfl, rfl⟩ := H
 go_enter Try.func28, Try.ntmps28
 go_wp2_with (first | ((with_reducible refine gate_dst (N := 2) rfl ?_); refine box_event ?hg (N := 2) ?hd (cs := #[.slice none 0 0, .slice none 0 0]) (t := 27) ?hr ?_; (case hd => rfl); (case hg => rfl); (case hr => first | (go_simp; done) | (go_simp; rfl)); intro gb227 hg w2 hbox hb; replace HO0 := zy_ HO0 hb; have BK227 := Aside0.mk (hbox); have GW227 := Aside0.mk ((by rw [hg]; exact (by first | exact HK.out.1 | exact (show Kept w _ (fun k_ => P0_ k_) from by repeat (first | (with_reducible first | exact HK.out | apply Kept.alloc | apply Kept.drewN | apply Kept.drew) | exact HK.out)).1) : w.heap.size ≤ gb227)); replace HK := Aside0.mk (Kept.below (S := (fun k_ => P0_ k_)) (by repeat (first | (with_reducible first | exact HK.out | apply Kept.alloc | apply Kept.drewN | apply Kept.drew) | exact HK.out)) hb); have GE227 := Aside0.mk ((by rw [hg]; exact (below_size (zw0_ HB)) : w0.heap.size ≤ gb227)); replace HB := Aside0.mk (below_step (zw0_ HB) hb); clear hb hbox hg; obtain ⟨Ao3, co3, eo3⟩ := Kd.R_slice HO0.out; subst eo3) | ((with_reducible refine gate_dst (N := 5) rfl ?_); refine Kd.R_lit (Kd.int .i64) _ 3 ?hg (N := 5) ?hd (xs := ([(l0.length : Int)] : List Int)) (inner := [.int .i64 (l0.length : Int)]) (ok := fun _ => True) (okp := fun _ => True) ?hr ?hp (fun _ hk => hk) trivial (Below.refl _ _) (Nat.le_refl _) (by simp) ?_; (case hd => rfl); (case hg => rfl); (case hr => first | (go_simp; done) | (go_simp; rfl)); (case hp => exact (Reps.one (show Kd.M (Kd.int .i64) _ _ _ (l0.length : Int) [.int .i64 (l0.length : Int)] from rfl) (Reps.none _ _))); intro v229 w4 ho5 hb hg_ hnew_; clear hg_ hnew_; (first | rw [← Ny228.out] at ho5 | (simp only [Int.reduceToNat] at ho5; rw [← Ny228.out] at ho5)); replace HO0 := zy_ HO0 hb; have HO230 := Aside0.mk (Kd.R_lower (Kd.R_newM (M := fun k_ => (P0_ k_ ∨ w.heap.size ≤ k_)) ho5 (by first | exact HK.out.1 | exact (show Kept w _ (fun k_ => P0_ k_) from by repeat (first | (with_reducible first | exact HK.out | apply Kept.alloc | apply Kept.drewN | apply Kept.drew | refine Kept.setCell ?_ (.inr GW227.out) _) | exact HK.out)).1) (fun k_ h_ => .inr h_)) (below_size (zw1_ HB GE227))); replace BK227 := za_ BK227 hb; replace HK := Aside0.mk (Kept.below (S := (fun k_ => P0_ k_)) (by repeat (first | (with_reducible first | exact HK.out | apply Kept.alloc | apply Kept.drewN | apply Kept.drew | refine Kept.setCell ?_ (.inr GW227.out) _) | exact HK.out)) hb); replace HB := Aside0.mk (below_step (zw1_ HB GE227) hb); clear hb ho5; obtain ⟨Ao6, co6, eo6⟩ := Kd.R_slice HO230.out; subst eo6; have hcz7_0 := zx_ (v := .slice none 0 0) BK227 0; have hcz7_1 := zx_ (v := .slice none 0 0) BK227 1; have hfz7_0 := blk_frozen BK227.out 0; have hfz7_1 := blk_frozen BK227.out 1))
 refine bodyPost_ret (results_cell_row rfl _ _ gb227 27 #[.slice Ao6 y228.length co6, .slice Ao3 l0.length co3] (0, 0) _ rfl (zo2_ BK227) Try.underlying27 rfl (by kernel_rfl)) rfl ?_
 exact ⟨_, _, z0_, zr_ (Kd.R_mono (Kd.R_far (p := ⟨gb227, 1, none⟩) (Kd.R_far (p := ⟨gb227, 0, none⟩) (Kd.R_types HO230.out BK227.out (by decide)) (fun _ hk => hk.2) (.slice Ao6 y228.length co6)) (fun _ hk => hk.2) (.slice Ao3 l0.length co3)) (fun _ hk => hk.1.1)), zr_ (Kd.R_mono (Kd.R_far (p := ⟨gb227, 1, none⟩) (Kd.R_far (p := ⟨gb227, 0, none⟩) (Kd.R_types HO0.out BK227.out (by decide)) (fun _ hk => hk.2) (.slice Ao6 y228.length co6)) (fun _ hk => hk.2) (.slice Ao3 l0.length co3)) (fun _ hk => hk.1)), zw1_ HB GE227, by repeat (first | (with_reducible first | exact HK.out | apply Kept.alloc | apply Kept.drewN | apply Kept.drew | refine Kept.setCell ?_ (.inr GW227.out) _) | exact HK.out)⟩

end Go.Proofs.Ytbdhabpplidgfaa.PTensKnown
