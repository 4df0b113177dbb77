/- The functions that the law TensTurns reaches, as Lean functions, and that each call of the Go function does what its Lean function says, wherever that one answers. Written by a program of mine over the print of the kit; Lean checks it. -/
import Derived.Test.YtbdhabpplidgfaaPTensTurnsx0
import Derived.Test.YtbdhabpplidgfaaPTensTurnsx1
import Derived.Test.YtbdhabpplidgfaaPTensTurnsx2
import Derived.Test.YtbdhabpplidgfaaPTensTurnsx3
namespace Go.Proofs.Ytbdhabpplidgfaa.PTensTurns
open Go.RowKit Go.Proofs.YtbdhabpplidgfaaW.PrintWords Go.Proofs.YtbdhabpplidgfaaW.PrintLast Go.Proofs.YtbdhabpplidgfaaW.PrintMore
attribute [local go_sem] max2_int min2_int max_two min_two max_three min_three max_four min_four   -- for this text's walks alone
set_option linter.unusedVariables false
set_option linter.unusedSimpArgs false

/-! ### tens_Fold: function 26 -/
mutual
def tens_Fold.j0 : Nat → List Int → Bool → List Int → List Int → Option (List Int × List Int × Int)
 | 0, _, _, _, _ => none
 | k + 1, x1, x20, x163000, x163001 => if x20 = true then (some (([] : List Int), ([] : List Int), 1)) else ((shape_Join.f k x1 x163000).bind fun bt166 => (if bt166.2 = 0 then ((shape_Same.f k bt166.1 x163000).bind fun t170 => (tens_Fold.j1 k x1 (!t170) x163000 x163001)) else (tens_Fold.j1 k x1 true x163000 x163001)))
def tens_Fold.j1 : Nat → List Int → Bool → List Int → List Int → Option (List Int × List Int × Int)
 | 0, _, _, _, _ => none
 | k + 1, x1, x37, x163000, x163001 => if x37 = true then (some (([] : List Int), ([] : List Int), 4)) else ((tens_New.f k x1 0).bind fun bt171 => ((shape_Spread.f k x1 x163000).bind fun t179 => (tens_Fold.l0 k t179 x163001 (x163001.length : Int) 0 bt171.1 bt171.2.1)))
def tens_Fold.l0 : Nat → List Int → List Int → Int → Int → List Int → List Int → Option (List Int × List Int × Int)
 | 0, _, _, _, _, _, _ => none
 | k + 1, x10, x49, x50, x51, x179000, x179001 => if x51 < x50 then (if 0 ≤ x51 then (if x51 < (x49.length : Int) then (if x51 < (x10.length : Int) then (if 0 ≤ (rd x10 x51) then (if (rd x10 x51) < (x179001.length : Int) then ((fix_Add.f k (rd x179001 (rd x10 x51)) (rd x49 x51)).bind fun t186 => (tens_Fold.l0 k x10 x49 x50 (wrap64 (x51 + 1)) x179000 (x179001.set ((rd x10 x51) : Int).toNat t186))) else (none)) else (none)) else (none)) else (none)) else (none)) else (some (x179000, x179001, 0))
end
def tens_Fold.f (k : Nat) (l0_0 : List Int) (l0_1 : List Int) (l1 : List Int) : Option (List Int × List Int × Int) := (tens_Good.f k l0_0 l0_1).bind fun t164 => (if t164 = true then ((shape_Good.f k l1).bind fun t165 => (tens_Fold.j0 k l1 (!t165) l0_0 l0_1)) else (tens_Fold.j0 k l1 true l0_0 l0_1))
theorem tens_Fold.mono_l : ∀ k, (∀ y0 y1 y2 y3, LeO (tens_Fold.j0 k y0 y1 y2 y3) (tens_Fold.j0 (k + 1) y0 y1 y2 y3)) ∧ (∀ y0 y1 y2 y3, LeO (tens_Fold.j1 k y0 y1 y2 y3) (tens_Fold.j1 (k + 1) y0 y1 y2 y3)) ∧ (∀ y0 y1 y2 y3 y4 y5, LeO (tens_Fold.l0 k y0 y1 y2 y3 y4 y5) (tens_Fold.l0 (k + 1) y0 y1 y2 y3 y4 y5))
 | 0 => ⟨fun _ _ _ _ r h => by simp [tens_Fold.j0] at h, fun _ _ _ _ r h => by simp [tens_Fold.j1] at h, fun _ _ _ _ _ _ r h => by simp [tens_Fold.l0] at h⟩
 | k + 1 => by
  obtain ⟨ih0, ih1, ih2⟩ := tens_Fold.mono_l k
  refine ⟨?_, ?_, ?_⟩
  ·intro y0 y1 y2 y3
   unfold tens_Fold.j0
   repeat' first
   | (with_reducible exact ih0 _ _ _ _)
   | (with_reducible exact ih1 _ _ _ _)
   | (with_reducible exact ih2 _ _ _ _ _ _)
   | (with_reducible exact shape_Join.mono _ _ _)
   | (with_reducible exact shape_Same.mono _ _ _)
   | (with_reducible exact LeO.refl _)
   | (with_reducible exact LeO.none _)
   | (with_reducible refine LeO.ite ?_ ?_)
   | (with_reducible refine LeO.bind ?_ (fun _ => ?_))
   | exact ih0 _ _ _ _
   | exact ih1 _ _ _ _
   | exact ih2 _ _ _ _ _ _
   | exact shape_Join.mono _ _ _
   | exact shape_Same.mono _ _ _
   | exact LeO.none _
   | refine LeO.ite ?_ ?_
   | refine LeO.bind ?_ (fun _ => ?_)
  ·intro y0 y1 y2 y3
   unfold tens_Fold.j1
   repeat' first
   | (with_reducible exact ih0 _ _ _ _)
   | (with_reducible exact ih1 _ _ _ _)
   | (with_reducible exact ih2 _ _ _ _ _ _)
   | (with_reducible exact shape_Spread.mono _ _ _)
   | (with_reducible exact tens_New.mono _ _ _)
   | (with_reducible exact LeO.refl _)
   | (with_reducible exact LeO.none _)
   | (with_reducible refine LeO.ite ?_ ?_)
   | (with_reducible refine LeO.bind ?_ (fun _ => ?_))
   | exact ih0 _ _ _ _
   | exact ih1 _ _ _ _
   | exact ih2 _ _ _ _ _ _
   | exact shape_Spread.mono _ _ _
   | exact tens_New.mono _ _ _
   | exact LeO.none _
   | refine LeO.ite ?_ ?_
   | refine LeO.bind ?_ (fun _ => ?_)
  ·intro y0 y1 y2 y3 y4 y5
   unfold tens_Fold.l0
   repeat' first
   | (with_reducible exact ih0 _ _ _ _)
   | (with_reducible exact ih1 _ _ _ _)
   | (with_reducible exact ih2 _ _ _ _ _ _)
   | (with_reducible exact fix_Add.mono _ _ _)
   | (with_reducible exact LeO.refl _)
   | (with_reducible exact LeO.none _)
   | (with_reducible refine LeO.ite ?_ ?_)
   | (with_reducible refine LeO.bind ?_ (fun _ => ?_))
   | exact ih0 _ _ _ _
   | exact ih1 _ _ _ _
   | exact ih2 _ _ _ _ _ _
   | exact fix_Add.mono _ _ _
   | exact LeO.none _
   | refine LeO.ite ?_ ?_
   | refine LeO.bind ?_ (fun _ => ?_)
theorem tens_Fold.mono : ∀ a0 a1 a2 k, LeO (tens_Fold.f k a0 a1 a2) (tens_Fold.f (k + 1) a0 a1 a2) := by
 intro a0 a1 a2 k
 obtain ⟨ih0, ih1, ih2⟩ := tens_Fold.mono_l k
 unfold tens_Fold.f
 repeat' first
   | (with_reducible exact ih0 _ _ _ _)
   | (with_reducible exact ih1 _ _ _ _)
   | (with_reducible exact ih2 _ _ _ _ _ _)
   | (with_reducible exact shape_Good.mono _ _)
   | (with_reducible exact tens_Good.mono _ _ _)
   | (with_reducible exact LeO.refl _)
   | (with_reducible exact LeO.none _)
   | (with_reducible refine LeO.ite ?_ ?_)
   | (with_reducible refine LeO.bind ?_ (fun _ => ?_))
   | exact ih0 _ _ _ _
   | exact ih1 _ _ _ _
   | exact ih2 _ _ _ _ _ _
   | exact shape_Good.mono _ _
   | exact tens_Good.mono _ _ _
   | exact LeO.none _
   | refine LeO.ite ?_ ?_
   | refine LeO.bind ?_ (fun _ => ?_)
def tens_Fold.T11 : Bool × List (List Nat × List Nat) := (true, [([], []), ([0], [0]), ([], []), ([], []), ([2, 3], [2, 3]), ([4], [4]), ([], []), ([6], [6]), ([], []), ([], []), ([8, 9], [8, 9]), ([10], [10]), ([7, 11], [7, 11]), ([12], [12]), ([], []), ([13, 14], [13, 14]), ([1, 5, 0, 1, 2, 3, 4, 5, 6, 7, 8, 9, 10, 11, 12, 13, 14, 15], [1, 5]), ([16, 15, 15, 0, 1, 2, 3, 4, 5, 6, 7, 8, 9, 10, 11, 12, 13, 14, 15], [15, 16])])
def tens_Fold.B11 : List Nat := [0, 1, 0, 0, 12, 28, 0, 64, 0, 0, 768, 1792, 4032, 8128, 0, 32704, 65535, 131071]
theorem tens_Fold.tab11 : rtab .any (opsOf Try.f26 11) = tens_Fold.T11 := by kernel_rfl
theorem tens_Fold.bits11 : waitsOk tens_Fold.T11.2 tens_Fold.B11 = true := by kernel_rfl
set_option maxHeartbeats 8000000 in
set_option maxRecDepth 100000 in
theorem tens_Fold.calls (k : Nat) (A0_0 : Option Addr) (c0_0 : Nat) (l0_0 : List Int) (A0_1 : Option Addr) (c0_1 : Nat) (l0_1 : List Int) (A1 : Option Addr) (c1 : Nat) (l1 : List Int) (r1 : List Int) (r2 : List Int) (r3 : Int) (w : World) (hr0_0 : Kd.C (Kd.int .i64) w A0_0 l0_0.length l0_0) (hc0_0 : l0_0.length ≤ c0_0) (hr0_1 : Kd.C (Kd.int .i64) w A0_1 l0_1.length l0_1) (hc0_1 : l0_1.length ≤ c0_1) (hr1 : Kd.C (Kd.int .i64) w A1 l1.length l1) (hc1 : l1.length ≤ c1) (h : tens_Fold.f k l0_0 l0_1 l1 = some (r1, r2, r3)) :
  Calls Try.prog 26 #[.agg #[.slice A0_0 l0_0.length c0_0, .slice A0_1 l0_1.length c0_1], .slice A1 l1.length c1] w fun e w' => ∃ v0_ v1_ : Value, e = .returned (.tuple #[.agg #[v0_, v1_], .int .i64 r3]) ∧ Kd.R (Kd.int .i64) 3 w' w.heap.size (fun _ => True) v0_ r1 ∧ Kd.R (Kd.int .i64) 23 w' w.heap.size (fun _ => True) v1_ r2 ∧ Below w.heap.size w w' := by
 have hu27 := Try.underlying27
 have HR0_0 := Aside0.mk hr0_0
 have HC0_0 := Aside0.mk hc0_0
 clear hr0_0 hc0_0
 have HR0_1 := Aside0.mk hr0_1
 have HC0_1 := Aside0.mk hc0_1
 clear hr0_1 hc0_1
 have HR1 := Aside0.mk hr1
 have HC1 := Aside0.mk hc1
 clear hr1 hc1
 have HB := Aside0.mk (Below.refl w.heap.size w)
 have H : ((tens_Good.f k l0_0 l0_1).bind fun t164 => (if t164 = true then ((shape_Good.f k l1).bind fun t165 => (tens_Fold.j0 k l1 (!t165) l0_0 l0_1)) else (tens_Fold.j0 k l1 true l0_0 l0_1))) = some (r1, r2, r3) := h
 clear h
 have HC3 := Aside0.mk H
 clear H
 go_enter Try.func26, Try.ntmps26
 go_upto_region 1 with (first | ((with_reducible refine gate_dst (N := 2) rfl ?_); refine box_event ?hg (N := 2) ?hd (cs := #[.slice A0_0 l0_0.length c0_0, .slice A0_1 l0_1.length c0_1]) (t := 27) ?hr ?_; (case hd => rfl); (case hg => rfl); (case hr => first | (go_simp; done) | (go_simp; rfl)); intro gb162 hg w4 hbox hb; have BK162 := Aside0.mk (hbox); have GW162 := Aside0.mk (zs_ hg (zw0_ HB)); have GE162 := Aside0.mk (zs_ hg (zw0_ HB)); replace HB := Aside0.mk (below_step (zw0_ HB) hb); clear hb hbox hg) | ((with_reducible refine gate_dst (N := 4) rfl ?_); refine box_event ?hg (N := 4) ?hd (cs := #[.slice none 0 0, .slice none 0 0]) (t := 27) ?hr ?_; (case hd => rfl); (case hg => rfl); (case hr => first | (go_simp; done) | (go_simp; rfl)); intro gb163 hg w5 hbox hb; have BK163 := Aside0.mk (hbox); have GW163 := Aside0.mk (zs_ hg (zw1_ HB GE162)); have GE163 := Aside0.mk (zs_ hg (zw1_ HB GE162)); replace HB := Aside0.mk (below_step (zw1_ HB GE162) hb); have NB162_163 := Aside0.mk (zn_ hg BK162); have NB163_162 := Aside0.mk (zm_ hg BK162); replace BK162 := za_ BK162 hb; clear hb hbox hg))
 (try simp only [Act.put, List.setIfInBounds_toArray, List.set_cons_zero, List.set_cons_succ])
 go_cut [20] (fun v20 wc => ∃ (kq : Nat) (x20_2 : Bool), v20 = .bool x20_2 ∧ Aside0 (tens_Fold.j0 kq l1 x20_2 l0_0 l0_1 = some (r1, r2, r3)) ∧ Aside0 (kq ≤ k) ∧ Aside0 (wc.heap[gb162]? = some (.cells #[(.slice A0_0 l0_0.length c0_0), (.slice A0_1 l0_1.length c0_1)] 27 (0, 0))) ∧ Aside0 (wc.heap[gb163]? = some (.cells #[(.slice none 0 0), (.slice none 0 0)] 27 (0, 0))) ∧ Aside0 (Below w.heap.size w wc))
 case first =>
  have H := HC3.out
  clear HC3
  replace H := Option.bind_eq_some_iff.mp H
  obtain ⟨t164, A60, H⟩ := H
  (try dsimp only at H)
  have A6 := Aside0.mk A60
  clear A60
  by_cases c7 : t164 = true
  rotate_left
  ·replace c7 := Bool.eq_false_iff.mpr c7
   subst c7
   have H1 : (tens_Fold.j0 k l1 true l0_0 l0_1) = some (r1, r2, r3) := by rw [if_neg (show ¬ (false = true) by decide)] at H; exact H
   clear H
   have H := H1
   clear H1
   have H' := Aside0.mk H
   clear H
   have hnb12 := NB162_163.out
   have hnc12 := NB163_162.out
   have hcz13_0 := zx_ (v := .slice A0_0 l0_0.length c0_0) BK162 0
   have hcz13_1 := zx_ (v := .slice A0_1 l0_1.length c0_1) BK162 1
   have hfz13_0 := blk_frozen BK162.out 0
   have hfz13_1 := blk_frozen BK162.out 1
   go_wp2_with (first | ((with_reducible refine gate_callee (f := 16) rfl ?_); refine zg_ (some 14) Try.func16 #[.agg #[.slice A0_0 l0_0.length c0_0, .slice A0_1 l0_1.length c0_1]] (h := ?_); (with_reducible refine (tens_Good.calls k _ _ l0_0 _ _ l0_1 false _ ?side1 ?side2 ?side3 ?side4 A6.out).mono ?_); (case side1 => exact zk_ (Kd.C_below HR0_0.out HB.out)); (case side2 => exact HC0_0.out); (case side3 => exact zk_ (Kd.C_below HR0_1.out HB.out)); (case side4 => exact HC0_1.out); rintro e w14 ⟨rfl, hb⟩; refine ⟨_, rfl, ?_⟩; replace BK162 := za_ BK162 hb; replace BK163 := za_ BK163 hb; replace HB := Aside0.mk (below_step (zw2_ HB GE162 GE163) hb); (try clear hb)))
   go_meet
   case rel => exact ⟨_, (true), z1_, H', ⟨by first | omega | exact Nat.le_refl _⟩, ⟨zb_ BK162⟩, ⟨zb_ BK163⟩, ⟨zw2_ HB GE162 GE163⟩⟩
  subst c7
  have H1 : ((shape_Good.f k l1).bind fun t165 => (tens_Fold.j0 k l1 (!t165) l0_0 l0_1)) = some (r1, r2, r3) := by rw [if_pos rfl] at H; exact H
  clear H
  have H := H1
  clear H1
  replace H := Option.bind_eq_some_iff.mp H
  obtain ⟨t165, A80, H⟩ := H
  replace H : (tens_Fold.j0 k l1 (!t165) l0_0 l0_1) = some (r1, r2, r3) := H
  have A8 := Aside0.mk A80
  clear A80
  have H' := Aside0.mk H
  clear H
  have hnb9 := NB162_163.out
  have hnc9 := NB163_162.out
  have hcz10_0 := zx_ (v := .slice A0_0 l0_0.length c0_0) BK162 0
  have hcz10_1 := zx_ (v := .slice A0_1 l0_1.length c0_1) BK162 1
  have hfz10_0 := blk_frozen BK162.out 0
  have hfz10_1 := blk_frozen BK162.out 1
  go_wp2_with (first | ((with_reducible refine gate_callee (f := 16) rfl ?_); refine zg_ (some 14) Try.func16 #[.agg #[.slice A0_0 l0_0.length c0_0, .slice A0_1 l0_1.length c0_1]] (h := ?_); (with_reducible refine (tens_Good.calls k _ _ l0_0 _ _ l0_1 true _ ?side1 ?side2 ?side3 ?side4 A6.out).mono ?_); (case side1 => exact zk_ (Kd.C_below HR0_0.out HB.out)); (case side2 => exact HC0_0.out); (case side3 => exact zk_ (Kd.C_below HR0_1.out HB.out)); (case side4 => exact HC0_1.out); rintro e w11 ⟨rfl, hb⟩; refine ⟨_, rfl, ?_⟩; replace BK162 := za_ BK162 hb; replace BK163 := za_ BK163 hb; replace HB := Aside0.mk (below_step (zw2_ HB GE162 GE163) hb); (try clear hb)) | (go_at_call 33; (with_reducible refine (shape_Good.calls k _ _ l1 t165 _ ?side1 ?side2 A8.out).mono ?_); (case side1 => exact zk_ (Kd.C_below HR1.out HB.out)); (case side2 => exact HC1.out); rintro e w' ⟨rfl, ⟨nd, rfl⟩⟩))
  go_meet
  case rel => exact ⟨_, (!t165), z1_, H', ⟨by first | omega | exact Nat.le_refl _⟩, ⟨zb_ BK162⟩, ⟨zb_ BK163⟩, ⟨zw2_ HB GE162 GE163⟩⟩
 case rest =>
  clear HC3
  try clear c1
  try clear c2
  try clear p2
  try clear c7
  try clear c9
  try clear c12
  try clear hcz10_0
  try clear hcz10_1
  try clear hcz13_0
  try clear hcz13_1
  try clear hfz10_0
  try clear hfz10_1
  try clear hfz13_0
  try clear hfz13_1
  obtain ⟨kq, x20_2, rfl, HA, HJ2, BK162, BK163, HB⟩ := hcut
  cases kq with
  | zero => exact absurd HA.out (by simp [tens_Fold.j0])
  | succ kj2 =>
   have H := HA.out
   clear HA
   simp only [tens_Fold.j0] at H
   by_cases c15 : x20_2 = true
   ·subst c15
    have H1 : (some (([] : List Int), ([] : List Int), 1)) = some (r1, r2, r3) := by rw [if_pos rfl] at H; exact H
    clear H
    have H := H1
    clear H1
    simp only [Option.some.injEq, Prod.mk.injEq] at H
    obtain ⟨rfl, rfl, rfl⟩ := H
    have hnb16 := NB163_162.out
    have hnc16 := NB162_163.out
    have hcz17_0 := zx_ (v := .slice none 0 0) BK163 0
    have hcz17_1 := zx_ (v := .slice none 0 0) BK163 1
    have hfz17_0 := blk_frozen BK163.out 0
    have hfz17_1 := blk_frozen BK163.out 1
    go_wp2
    refine bodyPost_ret (results_ct rfl _ _ gb163 27 #[.slice none 0 0, .slice none 0 0] (0, 0) _ rfl (zo2_ BK163) Try.underlying27 rfl (by kernel_rfl)) rfl ?_
    exact ⟨_, _, z0_, z2_, z2_, zw2_ HB GE162 GE163⟩
   replace c15 := Bool.eq_false_iff.mpr c15
   subst c15
   have H1 := H
   rw [if_neg (show ¬ (false = true) by decide)] at H1
   clear H
   have H := H1
   clear H1
   replace H := Option.bind_eq_some_iff.mp H
   obtain ⟨⟨t166, t167⟩, A180, H⟩ := H
   (try dsimp only at H)
   have A18 := Aside0.mk A180
   clear A180
   have HC19 := Aside0.mk H
   clear H
   have hnb20 := NB162_163.out
   have hnc20 := NB163_162.out
   have hcz21_0 := zx_ (v := .slice A0_0 l0_0.length c0_0) BK162 0
   have hcz21_1 := zx_ (v := .slice A0_1 l0_1.length c0_1) BK162 1
   have hfz21_0 := blk_frozen BK162.out 0
   have hfz21_1 := blk_frozen BK162.out 1
   go_upto_region 4 with (first | ((with_reducible refine gate_callee (f := 54) rfl ?_); refine zg_ (some 26) Try.func54 #[.slice A1 l1.length c1, .slice A0_0 l0_0.length c0_0] (h := ?_); (with_reducible refine (shape_Join.calls kj2 _ _ l1 _ _ l0_0 t166 t167 _ ?side1 ?side2 ?side3 ?side4 A18.out).mono ?_); (case side1 => exact zk_ (Kd.C_below HR1.out HB.out)); (case side2 => exact HC1.out); (case side3 => exact zk_ (Kd.C_below HR0_0.out HB.out)); (case side4 => exact HC0_0.out); rintro e w22 ⟨v168, rfl, ho0, hb⟩; refine ⟨_, rfl, ?_⟩; have HO169 := Aside0.mk (Kd.R_lower ho0 (below_size (zw2_ HB GE162 GE163))); replace BK162 := za_ BK162 hb; replace BK163 := za_ BK163 hb; replace HB := Aside0.mk (below_step (zw2_ HB GE162 GE163) hb); (try clear hb); (try clear ho0)))
   (try simp only [Act.put, List.setIfInBounds_toArray, List.set_cons_zero, List.set_cons_succ])
   go_cut [37] (fun v37 wc => ∃ (kq : Nat) (x37_18 : Bool), v37 = .bool x37_18 ∧ Aside0 (tens_Fold.j1 kq l1 x37_18 l0_0 l0_1 = some (r1, r2, r3)) ∧ Aside0 (kq ≤ kj2) ∧ Aside0 (wc.heap[gb162]? = some (.cells #[(.slice A0_0 l0_0.length c0_0), (.slice A0_1 l0_1.length c0_1)] 27 (0, 0))) ∧ Aside0 (wc.heap[gb163]? = some (.cells #[(.slice none 0 0), (.slice none 0 0)] 27 (0, 0))) ∧ Aside0 (Below w.heap.size w wc))
   case first =>
    have H := HC19.out
    clear HC19
    by_cases c23 : t167 = 0
    rotate_left
    ·rw [if_neg c23] at H
     have c23b0 : (t167 == 0) = false := beq_eq_false_iff_ne.mpr c23
     have c23b1 : (t167 != 0) = true := bne_iff_ne.mpr c23
     (first | rw [c23b0] | (simp only [i64_w, i32_w]; rw [c23b0]) | skip)
     have H' := Aside0.mk H
     clear H
     go_wp2
     go_meet
     case rel => exact ⟨_, (true), z1_, H', ⟨by have := HJ2.out; first | omega | exact Nat.le_refl _⟩, ⟨zb_ BK162⟩, ⟨zb_ BK163⟩, ⟨zw2_ HB GE162 GE163⟩⟩
    rw [if_pos c23] at H
    have c23b0 : (t167 == 0) = true := beq_iff_eq.mpr c23
    have c23b1 : (t167 != 0) = false := bne_eq_false_iff_eq.mpr c23
    clear c23
    (first | rw [c23b0] | (simp only [i64_w, i32_w]; rw [c23b0]) | skip)
    replace H := Option.bind_eq_some_iff.mp H
    obtain ⟨t170, A240, H⟩ := H
    replace H : (tens_Fold.j1 kj2 l1 (!t170) l0_0 l0_1) = some (r1, r2, r3) := H
    have A24 := Aside0.mk A240
    clear A240
    have H' := Aside0.mk H
    clear H
    have hnb25 := NB162_163.out
    have hnc25 := NB163_162.out
    have hcz26_0 := zx_ (v := .slice A0_0 l0_0.length c0_0) BK162 0
    have hcz26_1 := zx_ (v := .slice A0_1 l0_1.length c0_1) BK162 1
    have hfz26_0 := blk_frozen BK162.out 0
    have hfz26_1 := blk_frozen BK162.out 1
    obtain ⟨Ao27, co27, eo27⟩ := Kd.R_slice HO169.out
    subst eo27
    go_wp2_with (first | (go_at_call 42; (with_reducible refine (shape_Same.calls kj2 _ _ t166 _ _ l0_0 t170 _ ?side1 ?side2 ?side3 ?side4 A24.out).mono ?_); (case side1 => exact zk_ ((Kd.R_reads' HO169.out).2.2)); (case side2 => exact (Kd.R_reads' HO169.out).2.1); (case side3 => exact zk_ (Kd.C_below HR0_0.out HB.out)); (case side4 => exact HC0_0.out); rintro e w' ⟨rfl, ⟨nd, rfl⟩⟩))
    go_meet
    case rel => exact ⟨_, (!t170), z1_, H', ⟨by have := HJ2.out; first | omega | exact Nat.le_refl _⟩, ⟨zb_ BK162⟩, ⟨zb_ BK163⟩, ⟨zw2_ HB GE162 GE163⟩⟩
   case rest =>
    clear HC19
    try clear c1
    try clear c2
    try clear p2
    try clear c5
    try clear c7
    try clear c9
    try clear c12
    try clear c15
    try clear c16
    try clear c20
    try clear c23
    try clear c23b0
    try clear c23b1
    try clear c25
    try clear c26
    try clear hcz10_0
    try clear hcz10_1
    try clear hcz13_0
    try clear hcz13_1
    try clear hcz17_0
    try clear hcz17_1
    try clear hcz21_0
    try clear hcz21_1
    try clear hcz26_0
    try clear hcz26_1
    try clear hfz10_0
    try clear hfz10_1
    try clear hfz13_0
    try clear hfz13_1
    try clear hfz17_0
    try clear hfz17_1
    try clear hfz21_0
    try clear hfz21_1
    try clear hfz26_0
    try clear hfz26_1
    try clear p2
    obtain ⟨kq, x37_18, rfl, HA, HJ18, BK162, BK163, HB⟩ := hcut
    cases kq with
    | zero => exact absurd HA.out (by simp [tens_Fold.j1])
    | succ kj18 =>
     have H := HA.out
     clear HA
     simp only [tens_Fold.j1] at H
     by_cases c28 : x37_18 = true
     ·subst c28
      have H1 : (some (([] : List Int), ([] : List Int), 4)) = some (r1, r2, r3) := by rw [if_pos rfl] at H; exact H
      clear H
      have H := H1
      clear H1
      simp only [Option.some.injEq, Prod.mk.injEq] at H
      obtain ⟨rfl, rfl, rfl⟩ := H
      have hnb29 := NB163_162.out
      have hnc29 := NB162_163.out
      have hcz30_0 := zx_ (v := .slice none 0 0) BK163 0
      have hcz30_1 := zx_ (v := .slice none 0 0) BK163 1
      have hfz30_0 := blk_frozen BK163.out 0
      have hfz30_1 := blk_frozen BK163.out 1
      go_wp2
      refine bodyPost_ret (results_ct rfl _ _ gb163 27 #[.slice none 0 0, .slice none 0 0] (0, 0) _ rfl (zo2_ BK163) Try.underlying27 rfl (by kernel_rfl)) rfl ?_
      exact ⟨_, _, z0_, z2_, z2_, zw2_ HB GE162 GE163⟩
     replace c28 := Bool.eq_false_iff.mpr c28
     subst c28
     have H1 := H
     rw [if_neg (show ¬ (false = true) by decide)] at H1
     clear H
     have H := H1
     clear H1
     replace H := Option.bind_eq_some_iff.mp H
     obtain ⟨⟨t171, t174, t177⟩, A310, H⟩ := H
     (try dsimp only at H)
     have A31 := Aside0.mk A310
     clear A310
     replace H := Option.bind_eq_some_iff.mp H
     obtain ⟨t179, A320, H⟩ := H
     replace H : (tens_Fold.l0 kj18 t179 l0_1 (l0_1.length : Int) 0 t171 t174) = some (r1, r2, r3) := H
     have A32 := Aside0.mk A320
     clear A320
     have H' := Aside0.mk H
     clear H
     go_wp2_with (first | ((with_reducible refine gate_callee (f := 12) rfl ?_); refine zg_ (some 41) Try.func12 #[.slice A1 l1.length c1, .int .i64 0] (h := ?_); (with_reducible refine (tens_New.calls kj18 _ _ l1 0 t171 t174 t177 _ ?side1 ?side2 A31.out).mono ?_); (case side1 => exact zk_ (Kd.C_below HR1.out HB.out)); (case side2 => exact HC1.out); rintro e w33 ⟨v172, v175, rfl, ho0, ho1, hb⟩; refine ⟨_, rfl, ?_⟩; have HO173 := Aside0.mk (Kd.R_lower ho0 (below_size (zw2_ HB GE162 GE163))); have HO176 := Aside0.mk (Kd.R_lower ho1 (below_size (zw2_ HB GE162 GE163))); replace BK162 := za_ BK162 hb; replace BK163 := za_ BK163 hb; replace HB := Aside0.mk (below_step (zw2_ HB GE162 GE163) hb); (try clear hb); (try clear ho0); (try clear ho1)) | ((with_reducible refine gate_dst (N := 8) rfl ?_); refine box_event ?hg (N := 8) ?hd (cs := #[.slice none 0 0, .slice none 0 0]) (t := 27) ?hr ?_; (case hd => rfl); (case hg => rfl); (case hr => first | (go_simp; done) | (go_simp; rfl)); intro gb178 hg w34 hbox hb; replace HO173 := zy_ HO173 hb; replace HO176 := zy_ HO176 hb; have BK178 := Aside0.mk (hbox); have GW178 := Aside0.mk (zs_ hg (zw2_ HB GE162 GE163)); have GE178 := Aside0.mk (zs_ hg (zw2_ HB GE162 GE163)); replace HB := Aside0.mk (below_step (zw2_ HB GE162 GE163) hb); have NB162_178 := Aside0.mk (zn_ hg BK162); have NB178_162 := Aside0.mk (zm_ hg BK162); replace BK162 := za_ BK162 hb; have NB163_178 := Aside0.mk (zn_ hg BK163); have NB178_163 := Aside0.mk (zm_ hg BK163); replace BK163 := za_ BK163 hb; clear hb hbox hg; obtain ⟨Ao35, co35, eo35⟩ := Kd.R_slice HO173.out; subst eo35; have hnb36 := NB178_162.out; have hnc36 := NB162_178.out; have hnb37 := NB178_163.out; have hnc37 := NB163_178.out; have hcz38_0 := zx_ (v := .slice none 0 0) BK178 0; have hcz38_1 := zx_ (v := .slice none 0 0) BK178 1; have hfz38_0 := blk_frozen BK178.out 0; have hfz38_1 := blk_frozen BK178.out 1; obtain ⟨Ao39, co39, eo39⟩ := Kd.R_slice HO176.out; subst eo39; have hnb40 := NB162_163.out; have hnc40 := NB163_162.out; have hcz41_0 := zx_ (v := .slice A0_0 l0_0.length c0_0) BK162 0; have hcz41_1 := zx_ (v := .slice A0_1 l0_1.length c0_1) BK162 1; have hfz41_0 := blk_frozen BK162.out 0; have hfz41_1 := blk_frozen BK162.out 1) | ((with_reducible refine gate_callee (f := 55) rfl ?_); refine zg_ (some 47) Try.func55 #[.slice A1 l1.length c1, .slice A0_0 l0_0.length c0_0] (h := ?_); (with_reducible refine (shape_Spread.calls kj18 _ _ l1 _ _ l0_0 t179 _ ?side1 ?side2 ?side3 ?side4 A32.out).mono ?_); (case side1 => exact Kd.C_below HR1.out (zw3_ HB GE162 GE163 GE178)); (case side2 => exact HC1.out); (case side3 => exact Kd.C_below HR0_0.out (zw3_ HB GE162 GE163 GE178)); (case side4 => exact HC0_0.out); rintro e w42 ⟨v180, rfl, ho0, hb⟩; refine ⟨_, rfl, ?_⟩; replace HO176 := Aside0.mk (Kd.R_below (zr_ ((zf_ HO176 BK178 (.slice Ao35 t171.length co35) (.slice Ao39 t174.length co39)))) hb); have HO181 := Aside0.mk (Kd.R_lower (Kd.R_new' ho0 (Kd.R_lt (zr_ ((zf_ HO173 BK178 (.slice Ao35 t171.length co35) (.slice Ao39 t174.length co39)))))) (below_size (zw3_ HB GE162 GE163 GE178))); replace HO173 := Aside0.mk (Kd.R_elder' (zr_ ((zf_ HO173 BK178 (.slice Ao35 t171.length co35) (.slice Ao39 t174.length co39)))) (Kd.R_base ho0) hb); replace BK162 := Aside0.mk (blk_below (g := gb162) (o := .cells #[.slice A0_0 l0_0.length c0_0, .slice A0_1 l0_1.length c0_1] 27 (0, 0)) (zv1_ BK162 NB162_178) hb); replace BK163 := Aside0.mk (blk_below (g := gb163) (o := .cells #[.slice none 0 0, .slice none 0 0] 27 (0, 0)) (zv1_ BK163 NB163_178) hb); replace BK178 := Aside0.mk (blk_below (g := gb178) (o := .cells #[.slice Ao35 t171.length co35, .slice Ao39 t174.length co39] 27 (0, 0)) (zo2_ BK178) hb); replace HB := Aside0.mk (below_step (zw3_ HB GE162 GE163 GE178) hb); (try clear hb); (try clear hk); (try clear ho0); have hcz43_0 := zx_ (v := .slice A0_0 l0_0.length c0_0) BK162 0; have hcz43_1 := zx_ (v := .slice A0_1 l0_1.length c0_1) BK162 1; have hfz43_0 := blk_frozen BK162.out 0; have hfz43_1 := blk_frozen BK162.out 1))
     go_loopg [51] kj18 (fun kq v51 w' => ∃ (x51_3 : Int) (x179001_3 : List Int) (u179001 : Value), v51 = .int .i64 x51_3 ∧ Aside0 (tens_Fold.l0 kq t179 l0_1 (l0_1.length : Int) x51_3 t171 x179001_3 = some (r1, r2, r3)) ∧ Aside0 (kq ≤ kj18) ∧ Aside0 (Kd.R (Kd.int .i64) 3 w' w.heap.size (fun k_ => some k_ ≠ ((.slice Ao35 t171.length co35) : Value).ownBlock) v180 t179) ∧ Aside0 (Kd.R (Kd.int .i64) 3 w' w.heap.size (fun k_ => some k_ ≠ (v180 : Value).ownBlock) (.slice Ao35 t171.length co35) t171) ∧ Aside0 (Kd.R (Kd.int .i64) 23 w' w.heap.size (fun _ => True) u179001 x179001_3) ∧ Aside0 (w'.heap[gb162]? = some (.cells #[(.slice A0_0 l0_0.length c0_0), (.slice A0_1 l0_1.length c0_1)] 27 (0, 0))) ∧ Aside0 (w'.heap[gb163]? = some (.cells #[(.slice none 0 0), (.slice none 0 0)] 27 (0, 0))) ∧ Aside0 (w'.heap[gb178]? = some (.cells #[(.slice Ao35 t171.length co35), u179001] 27 (0, 0))) ∧ Aside0 (Below w.heap.size w w'))
     case atStart => exact ⟨(0), (t174), (.slice Ao39 t174.length co39), z1_, H', ⟨Nat.le_refl _⟩, ⟨zr_ (Kd.R_mono HO181.out (fun _ hk => hk.2))⟩, ⟨zr_ (Kd.R_mono HO173.out (fun _ hk => hk.2))⟩, ⟨zr_ HO176.out⟩, ⟨zb_ BK162⟩, ⟨zb_ BK163⟩, ⟨zb_ BK178⟩, ⟨zw3_ HB GE162 GE163 GE178⟩⟩
     case round =>
      clear H'
      try clear c1
      try clear c2
      try clear p2
      try clear c3
      try clear c4
      try clear c5
      try clear c7
      try clear c9
      try clear c12
      try clear c15
      try clear c16
      try clear c20
      try clear c23
      try clear c23b0
      try clear c23b1
      try clear c25
      try clear c26
      try clear c28
      try clear c29
      try clear c36
      try clear c37
      try clear c40
      try clear hcz10_0
      try clear hcz10_1
      try clear hcz13_0
      try clear hcz13_1
      try clear hcz17_0
      try clear hcz17_1
      try clear hcz21_0
      try clear hcz21_1
      try clear hcz26_0
      try clear hcz26_1
      try clear hcz30_0
      try clear hcz30_1
      try clear hcz38_0
      try clear hcz38_1
      try clear hcz41_0
      try clear hcz41_1
      try clear hcz43_0
      try clear hcz43_1
      try clear hfz10_0
      try clear hfz10_1
      try clear hfz13_0
      try clear hfz13_1
      try clear hfz17_0
      try clear hfz17_1
      try clear hfz21_0
      try clear hfz21_1
      try clear hfz26_0
      try clear hfz26_1
      try clear hfz30_0
      try clear hfz30_1
      try clear hfz38_0
      try clear hfz38_1
      try clear hfz41_0
      try clear hfz41_1
      try clear hfz43_0
      try clear hfz43_1
      try clear p2
      obtain ⟨x51_3, x179001_3, u179001, rfl, HA, HK3, HO_10, HO_179000, HO_179001, BK162, BK163, BK178, HB⟩ := hrel
      cases gk with
      | zero => exact absurd HA.out (by simp [tens_Fold.l0])
      | succ k3 =>
       have H := HA.out
       clear HA
       simp only [tens_Fold.l0] at H
       by_cases c44 : x51_3 < (l0_1.length : Int)
       rotate_left
       ·rw [if_neg c44] at H
        have c44b0 : decide (x51_3 < (l0_1.length : Int)) = false := decide_eq_false c44
        clear c44
        simp only [Option.some.injEq, Prod.mk.injEq] at H
        obtain ⟨rfl, rfl, rfl⟩ := H
        have hnb56 := NB178_162.out
        have hnc56 := NB162_178.out
        have hnb57 := NB178_163.out
        have hnc57 := NB163_178.out
        have hcz58_0 := zx_ (v := .slice Ao35 t171.length co35) BK178 0
        have hcz58_1 := zx_ (v := u179001) BK178 1
        have hfz58_0 := blk_frozen BK178.out 0
        have hfz58_1 := blk_frozen BK178.out 1
        have hnb59 := NB163_162.out
        have hnc59 := NB162_163.out
        have hcz60_0 := zx_ (v := .slice none 0 0) BK163 0
        have hcz60_1 := zx_ (v := .slice none 0 0) BK163 1
        have hfz60_0 := blk_frozen BK163.out 0
        have hfz60_1 := blk_frozen BK163.out 1
        obtain ⟨Ao61, co61, eo61⟩ := Kd.R_slice HO_179001.out
        subst eo61
        go_wp2
        refine bodyPost_ret (results_ct rfl _ _ gb163 27 #[.slice Ao35 t171.length co35, .slice Ao61 x179001_3.length co61] (0, 0) _ rfl (zo2_ BK163) Try.underlying27 rfl (by kernel_rfl)) rfl ?_
        exact ⟨_, _, z0_, zr_ (Kd.R_mono (Kd.R_far (p := ⟨gb163, 1, none⟩) (Kd.R_far (p := ⟨gb163, 0, none⟩) (Kd.R_types HO_179000.out BK163.out (by decide)) (fun _ hk => hk.2) (.slice Ao35 t171.length co35)) (fun _ hk => hk.2) (.slice Ao61 x179001_3.length co61)) (fun _ hk => trivial)), zr_ (Kd.R_mono (Kd.R_far (p := ⟨gb163, 1, none⟩) (Kd.R_far (p := ⟨gb163, 0, none⟩) (Kd.R_types HO_179001.out BK163.out (by decide)) (fun _ hk => hk.2) (.slice Ao35 t171.length co35)) (fun _ hk => hk.2) (.slice Ao61 x179001_3.length co61)) (fun _ hk => trivial)), zw3_ HB GE162 GE163 GE178⟩
       rw [if_pos c44] at H
       have c44b0 : decide (x51_3 < (l0_1.length : Int)) = true := decide_eq_true c44
       clear c44
       by_cases c45 : 0 ≤ x51_3
       rotate_left
       ·rw [if_neg c45] at H
        exact absurd H (by simp)
       rw [if_pos c45] at H
       have c45b0 : decide (0 ≤ x51_3) = true := decide_eq_true c45
       clear c45
       by_cases c46 : x51_3 < (l0_1.length : Int)
       rotate_left
       ·rw [if_neg c46] at H
        exact absurd H (by simp)
       rw [if_pos c46] at H
       have c46b0 : decide (x51_3 < (l0_1.length : Int)) = true := decide_eq_true c46
       clear c46
       by_cases c47 : x51_3 < (t179.length : Int)
       rotate_left
       ·rw [if_neg c47] at H
        exact absurd H (by simp)
       rw [if_pos c47] at H
       have c47b0 : decide (x51_3 < (t179.length : Int)) = true := decide_eq_true c47
       clear c47
       by_cases c48 : 0 ≤ (rd t179 x51_3)
       rotate_left
       ·rw [if_neg c48] at H
        exact absurd H (by simp)
       rw [if_pos c48] at H
       have c48b0 : decide (0 ≤ (rd t179 x51_3)) = true := decide_eq_true c48
       clear c48
       by_cases c49 : (rd t179 x51_3) < (x179001_3.length : Int)
       rotate_left
       ·rw [if_neg c49] at H
        exact absurd H (by simp)
       rw [if_pos c49] at H
       have c49b0 : decide ((rd t179 x51_3) < (x179001_3.length : Int)) = true := decide_eq_true c49
       clear c49
       replace H := Option.bind_eq_some_iff.mp H
       obtain ⟨t186, A500, H⟩ := H
       (try dsimp only at H)
       have A50 := Aside0.mk A500
       clear A500
       obtain ⟨y187, hy187⟩ : ∃ y_ : List Int, y_ = (x179001_3.set ((rd t179 x51_3) : Int).toNat t186) := ⟨_, rfl⟩
       replace H : (tens_Fold.l0 k3 t179 l0_1 (l0_1.length : Int) (wrap64 (x51_3 + 1)) t171 y187) = some (r1, r2, r3) := by first | (rw [hy187]; with_reducible exact H) | (have H2_ := (Option.bind_some _ _).symm.trans H; rw [hy187]; with_reducible exact H2_) | (have H2_ := (Option.bind_some _ _).symm.trans H; with_reducible exact H2_) | with_reducible exact H | (rw [hy187]; exact H) | exact H
       have Ny187 := Aside0.mk hy187
       clear hy187
       have H' := Aside0.mk H
       clear H
       have p182 : 0 ≤ (x51_3 : Int) := of_decide_eq_true (by first | (with_reducible assumption) | assumption)
       have q182 : x51_3 < (l0_1.length : Int) := of_decide_eq_true (by first | (with_reducible assumption) | assumption)
       obtain ⟨ad182, e182, hx182_0⟩ := Kd.at_int HR0_1.out x51_3 p182 q182
       cases e182
       replace hx182_0 := (HB.out.cell (World.block_lt_of_cell? w _ hx182_0)).trans hx182_0
       replace p182 := eq_true p182
       replace q182 := eq_true q182
       try go_wp2
       replace HO_10 := Aside0.mk (Kd.R_drew HO_10.out)
       replace HO_179000 := Aside0.mk (Kd.R_drew HO_179000.out)
       replace HO_179001 := Aside0.mk (Kd.R_drew HO_179001.out)
       replace BK162 := Aside0.mk (blk_drew BK162.out)
       replace BK163 := Aside0.mk (blk_drew BK163.out)
       replace BK178 := Aside0.mk (blk_drew BK178.out)
       replace HB := Aside0.mk (below_drew1 HB.out)
       obtain ⟨Ao53, co53, eo53⟩ := Kd.R_slice HO_10.out
       (first | subst eo53 | (injection eo53 with f1_ f2_ f3_; have f4_ := f1_.symm; have f5_ := f3_.symm; clear f1_ f2_ f3_; subst f4_; subst f5_))
       have p183 : 0 ≤ (x51_3 : Int) := of_decide_eq_true (by first | (with_reducible assumption) | assumption)
       have q183 : x51_3 < (t179.length : Int) := of_decide_eq_true (by first | (with_reducible assumption) | assumption)
       obtain ⟨ad183, e183, hx183_0⟩ := Kd.at_int (Kd.R_reads' HO_10.out).2.2 x51_3 p183 q183
       cases e183
       replace p183 := eq_true p183
       replace q183 := eq_true q183
       have p184 : 0 ≤ (x51_3 : Int) := of_decide_eq_true (by first | (with_reducible assumption) | assumption)
       have q184 : x51_3 < (t179.length : Int) := of_decide_eq_true (by first | (with_reducible assumption) | assumption)
       obtain ⟨ad184, e184, hx184_0⟩ := Kd.at_int (Kd.R_reads' HO_10.out).2.2 x51_3 p184 q184
       obtain rfl : ad183 = ad184 := (by injection e184)
       replace p184 := eq_true p184
       replace q184 := eq_true q184
       obtain ⟨Ao54, co54, eo54⟩ := Kd.R_slice HO_179001.out
       (first | subst eo54 | (injection eo54 with f1_ f2_ f3_; have f4_ := f1_.symm; have f5_ := f3_.symm; clear f1_ f2_ f3_; subst f4_; subst f5_))
       have p185 : 0 ≤ ((rd t179 x51_3) : Int) := of_decide_eq_true (by first | (with_reducible assumption) | assumption)
       have q185 : (rd t179 x51_3) < (x179001_3.length : Int) := of_decide_eq_true (by first | (with_reducible assumption) | assumption)
       obtain ⟨ad185, e185, hx185_0⟩ := Kd.at_int (Kd.R_reads' HO_179001.out).2.2 (rd t179 x51_3) p185 q185
       cases e185
       replace p185 := eq_true p185
       replace q185 := eq_true q185
       refine start_ (n := 18) (S := fun w' => w'.cell? ⟨gb178, 0, none⟩ = some (.slice Ao35 t171.length co35) ∧ w'.cell? ⟨gb178, 1, none⟩ = some (.slice (some ad185) x179001_3.length co54) ∧ w'.cell? (ad183.add (x51_3).toNat) = some (.int .i64 (rd t179 x51_3)) ∧ w'.cell? (ad183.add (x51_3).toNat) = some (.int .i64 (rd t179 x51_3)) ∧ w'.cell? (ad185.add ((rd t179 x51_3)).toNat) = some (.int .i64 (rd x179001_3 (rd t179 x51_3)))) (ds := [17]) #[false, false, false, false, false, false, false, false, false, false, false, false, false, false, false, false, false, false] (by kernel_rfl) rfl rfl ⟨(blk_cell BK178.out 0).trans rfl, (blk_cell BK178.out 1).trans rfl, hx183_0, hx184_0, hx185_0⟩ (fun hHeld => ?_); refine with_tabW tens_Fold.tab11 tens_Fold.bits11 (fun HT_ HW_ => ?_)
       generalize wr.drew = w52 at HO_10 HO_179000 HO_179001 BK162 BK163 BK178 HB hx183_0 hx184_0 hx185_0 hHeld ⊢
       refine yp_ ?_ 0 56
       refine yp_ ?_ 2 58
       refine yp_ ?_ 3 59
       refine yp_ ?_ 4 60
       refine yp_ ?_ 6 62
       refine yp_ ?_ 8 64
       refine yp_ ?_ 9 65
       refine yp_ ?_ 10 66
       refine yp_ ?_ 14 70
       refine yt5_ ?_ 1 57
       refine yt5_ ?_ 5 61
       refine yt5_ ?_ 7 63
       refine yt5_ ?_ 11 67
       refine yp_ ?_ 12 68
       refine yt5_ ?_ 13 69
       refine yo_ 15 (some 71) (fun K hK => ?_)
       refine yg_ Try.func40 #[.int .i64 (rd x179001_3 (rd t179 x51_3)), .int .i64 (rd l0_1 x51_3)] ?_
       with_reducible refine (fix_Add.calls k3 (rd x179001_3 (rd t179 x51_3)) (rd l0_1 x51_3) t186 _ A50.out).mono ?_
       rintro e w' ⟨rfl, ⟨nd, rfl⟩⟩
       refine ⟨_, rfl, ?_⟩
       have p51 : 0 ≤ ((rd t179 x51_3) : Int) := of_decide_eq_true (by first | (with_reducible assumption) | assumption)
       have q51 : ((rd t179 x51_3) : Int) < ((x179001_3.length : Int) : Int) := of_decide_eq_true (by first | (with_reducible assumption) | assumption)
       obtain ⟨go51, co51, eo51, gb51, gl51, cl51, HG51⟩ := Kd.R_form HO_179001.out (by omega)
       (first | cases eo51 | (injection eo51 with ea_ en_ ec_; (first | subst ea_ | (injection ea_ with ea_; subst ea_)); subst ec_; clear en_))
       have GB51 := Aside0.mk gb51
       have GG51 := Aside0.mk HG51
       clear gb51 gl51 HG51
       (first | simp only [add_plain] at hx185_0 | skip)
       obtain ⟨hx51_0, hf51_0⟩ := Kd.R_celln 0 HO_179001.out ((rd t179 x51_3) : Int) p51 q51
       replace p51 := eq_true p51
       replace q51 := eq_true q51
       have HP55 := Kd.R_putn HO_179001.out ((rd t179 x51_3) : Int) t186
       rw [← Ny187.out] at HP55
       have HQ55 := Aside0.mk HP55
       clear HP55
       refine hK.out _ _ ⟨(blk_cell BK178.out 0).trans rfl, (blk_cell BK178.out 1).trans rfl, hHeld.2.2.1, hHeld.2.2.2.1, hHeld.2.2.2.2⟩ (fun hHeld => ?_)
       clear hK K
       refine zq_ (some 71) (h := ?_)
       refine yp_ ?_ 16 72
       refine yl_ 17 none (fun K hK => ?_)
       refine skip_ (w1 := ?_) (by rfl) rfl ?_ ?_
       rotate_left
       ·go_simp
        rfl
       refine hK.out _ _ ?_
       clear hK K
       refine done_ (done_of HT_.out (by kernel_rfl)) ?_
       try go_wp2
       go_roundg k3
       case measure => have := HJ2.out; have := HJ18.out; have := HK3.out; omega
       case rel => exact ⟨(wrap64 (x51_3 + 1)), (y187), (.slice (some ⟨go51, 0, none⟩) x179001_3.length co54), z1_, H', ⟨by have := HJ2.out; have := HJ18.out; have := HK3.out; omega⟩, ⟨zr_ (Kd.R_mono (Kd.R_far (p := ⟨go51, ((rd t179 x51_3) : Int).toNat, none⟩) (Kd.R_types HO_10.out GG51.out (by decide)) (fun _ hk => hk.2) (.int .i64 t186)) (fun _ hk => hk.1))⟩, ⟨zr_ (Kd.R_mono (Kd.R_far (p := ⟨go51, ((rd t179 x51_3) : Int).toNat, none⟩) (Kd.R_types HO_179000.out GG51.out (by decide)) (fun _ hk => hk.2) (.int .i64 t186)) (fun _ hk => hk.1))⟩, ⟨zr_ HQ55.out⟩, ⟨by (with_reducible repeat (first | refine blk_drewN ?_ _ | refine blk_drew ?_ | refine blk_alloc ?_ _)); refine blk_far ?_ (by have h_ := Kd.R_ne HO_179001.out BK162.out (by decide); intro e_; exact h_ (by rw [e_]; rfl)) _; (with_reducible repeat (first | refine blk_drewN ?_ _ | refine blk_drew ?_ | refine blk_alloc ?_ _)); exact BK162.out⟩, ⟨by (with_reducible repeat (first | refine blk_drewN ?_ _ | refine blk_drew ?_ | refine blk_alloc ?_ _)); refine blk_far ?_ (by have h_ := Kd.R_ne HO_179001.out BK163.out (by decide); intro e_; exact h_ (by rw [e_]; rfl)) _; (with_reducible repeat (first | refine blk_drewN ?_ _ | refine blk_drew ?_ | refine blk_alloc ?_ _)); exact BK163.out⟩, ⟨by (with_reducible repeat (first | refine blk_drewN ?_ _ | refine blk_drew ?_ | refine blk_alloc ?_ _)); refine blk_far ?_ (by have h_ := Kd.R_ne HO_179001.out BK178.out (by decide); intro e_; exact h_ (by rw [e_]; rfl)) _; (with_reducible repeat (first | refine blk_drewN ?_ _ | refine blk_drew ?_ | refine blk_alloc ?_ _)); exact BK178.out⟩, ⟨by repeat (first | (with_reducible first | exact HB.out | apply below_alloc | apply pw_below_drewN | apply below_drew1 | refine below_set ?_ GB51.out | refine below_set ?_ GE162.out | refine below_set ?_ GE163.out | refine below_set ?_ GE178.out) | exact HB.out)⟩⟩

/-! ### carousellaw6_row: function 28 -/
def carousellaw6_row.f (l0 : List Int) : Option (List Int × List Int) := some ((([(l0.length : Int)] : List Int)), l0)
set_option maxHeartbeats 8000000 in
set_option maxRecDepth 100000 in
theorem carousellaw6_row.calls (P0_ : Nat → Prop) (u9000_ : Value) (l0 : List Int) (r1 : List Int) (r2 : List Int) (w0 w : World) (hB : Below w0.heap.size w0 w) (ho0 : Kd.R (Kd.int .i64) 23 w w0.heap.size P0_ u9000_ l0) (h : carousellaw6_row.f l0 = some (r1, r2)) :
  Calls Try.prog 28 #[u9000_] w fun e w' => ∃ v0_ v1_ : Value, e = .returned (.agg #[v0_, v1_]) ∧ Kd.R (Kd.int .i64) 3 w' w0.heap.size (fun k_ => (P0_ k_ ∨ w.heap.size ≤ k_)) v0_ r1 ∧ Kd.R (Kd.int .i64) 23 w' w0.heap.size (fun k_ => (P0_ k_ ∨ w.heap.size ≤ k_)) v1_ r2 ∧ Below w0.heap.size w0 w' ∧ Kept w w' (fun k_ => P0_ k_) := by
 have hu27 := Try.underlying27
 have HO0 := Aside0.mk (show Kd.R (Kd.int .i64) 23 w w0.heap.size (fun k_ => (P0_ k_ ∨ w.heap.size ≤ k_)) u9000_ l0 from Kd.R_mono ho0 (fun k_ hk => (.inl hk)))
 have HK := Aside0.mk (Kept.refl w (fun k_ => P0_ k_))
 have HW0 := Aside0.mk hB.size
 have HB := Aside0.mk hB
 clear hB
 have H : (some ((([(l0.length : Int)] : List Int)), l0)) = some (r1, r2) := h
 clear h
 obtain ⟨y189, hy189⟩ : ∃ y_ : List Int, y_ = (([(l0.length : Int)] : List Int)) := ⟨_, rfl⟩
 replace H : (some (y189, l0)) = some (r1, r2) := by first | (rw [hy189]; with_reducible exact H) | (have H2_ := (Option.bind_some _ _).symm.trans H; rw [hy189]; with_reducible exact H2_) | (have H2_ := (Option.bind_some _ _).symm.trans H; with_reducible exact H2_) | with_reducible exact H | (rw [hy189]; exact H) | exact H
 have Ny189 := Aside0.mk hy189
 clear hy189
 simp only [Option.some.injEq, Prod.mk.injEq] at H
 obtain ⟨rfl, rfl⟩ := H
 go_enter Try.func28, Try.ntmps28
 go_wp2_with (first | ((with_reducible refine gate_dst (N := 2) rfl ?_); refine box_event ?hg (N := 2) ?hd (cs := #[.slice none 0 0, .slice none 0 0]) (t := 27) ?hr ?_; (case hd => rfl); (case hg => rfl); (case hr => first | (go_simp; done) | (go_simp; rfl)); intro gb188 hg w2 hbox hb; replace HO0 := zy_ HO0 hb; have BK188 := Aside0.mk (hbox); have GW188 := Aside0.mk ((by rw [hg]; exact (by first | exact HK.out.1 | exact (show Kept w _ (fun k_ => P0_ k_) from by repeat (first | (with_reducible first | exact HK.out | apply Kept.alloc | apply Kept.drewN | apply Kept.drew) | exact HK.out)).1) : w.heap.size ≤ gb188)); replace HK := Aside0.mk (Kept.below (S := (fun k_ => P0_ k_)) (by repeat (first | (with_reducible first | exact HK.out | apply Kept.alloc | apply Kept.drewN | apply Kept.drew) | exact HK.out)) hb); have GE188 := Aside0.mk ((by rw [hg]; exact (below_size (zw0_ HB)) : w0.heap.size ≤ gb188)); replace HB := Aside0.mk (below_step (zw0_ HB) hb); clear hb hbox hg; obtain ⟨Ao3, co3, eo3⟩ := Kd.R_slice HO0.out; subst eo3) | ((with_reducible refine gate_dst (N := 5) rfl ?_); refine Kd.R_lit (Kd.int .i64) _ 3 ?hg (N := 5) ?hd (xs := ([(l0.length : Int)] : List Int)) (inner := [.int .i64 (l0.length : Int)]) (ok := fun _ => True) (okp := fun _ => True) ?hr ?hp (fun _ hk => hk) trivial (Below.refl _ _) (Nat.le_refl _) (by simp) ?_; (case hd => rfl); (case hg => rfl); (case hr => first | (go_simp; done) | (go_simp; rfl)); (case hp => exact (Reps.one (show Kd.M (Kd.int .i64) _ _ _ (l0.length : Int) [.int .i64 (l0.length : Int)] from rfl) (Reps.none _ _))); intro v190 w4 ho5 hb hg_ hnew_; clear hg_ hnew_; (first | rw [← Ny189.out] at ho5 | (simp only [Int.reduceToNat] at ho5; rw [← Ny189.out] at ho5)); replace HO0 := zy_ HO0 hb; have HO191 := Aside0.mk (Kd.R_lower (Kd.R_newM (M := fun k_ => (P0_ k_ ∨ w.heap.size ≤ k_)) ho5 (by first | exact HK.out.1 | exact (show Kept w _ (fun k_ => P0_ k_) from by repeat (first | (with_reducible first | exact HK.out | apply Kept.alloc | apply Kept.drewN | apply Kept.drew | refine Kept.setCell ?_ (.inr GW188.out) _) | exact HK.out)).1) (fun k_ h_ => .inr h_)) (below_size (zw1_ HB GE188))); replace BK188 := za_ BK188 hb; replace HK := Aside0.mk (Kept.below (S := (fun k_ => P0_ k_)) (by repeat (first | (with_reducible first | exact HK.out | apply Kept.alloc | apply Kept.drewN | apply Kept.drew | refine Kept.setCell ?_ (.inr GW188.out) _) | exact HK.out)) hb); replace HB := Aside0.mk (below_step (zw1_ HB GE188) hb); clear hb ho5; obtain ⟨Ao6, co6, eo6⟩ := Kd.R_slice HO191.out; subst eo6; have hcz7_0 := zx_ (v := .slice none 0 0) BK188 0; have hcz7_1 := zx_ (v := .slice none 0 0) BK188 1; have hfz7_0 := blk_frozen BK188.out 0; have hfz7_1 := blk_frozen BK188.out 1))
 refine bodyPost_ret (results_cell_row rfl _ _ gb188 27 #[.slice Ao6 y189.length co6, .slice Ao3 l0.length co3] (0, 0) _ rfl (zo2_ BK188) Try.underlying27 rfl (by kernel_rfl)) rfl ?_
 exact ⟨_, _, z0_, zr_ (Kd.R_mono (Kd.R_far (p := ⟨gb188, 1, none⟩) (Kd.R_far (p := ⟨gb188, 0, none⟩) (Kd.R_types HO191.out BK188.out (by decide)) (fun _ hk => hk.2) (.slice Ao6 y189.length co6)) (fun _ hk => hk.2) (.slice Ao3 l0.length co3)) (fun _ hk => hk.1.1)), zr_ (Kd.R_mono (Kd.R_far (p := ⟨gb188, 1, none⟩) (Kd.R_far (p := ⟨gb188, 0, none⟩) (Kd.R_types HO0.out BK188.out (by decide)) (fun _ hk => hk.2) (.slice Ao6 y189.length co6)) (fun _ hk => hk.2) (.slice Ao3 l0.length co3)) (fun _ hk => hk.1)), zw1_ HB GE188, by repeat (first | (with_reducible first | exact HK.out | apply Kept.alloc | apply Kept.drewN | apply Kept.drew | refine Kept.setCell ?_ (.inr GW188.out) _) | exact HK.out)⟩

end Go.Proofs.Ytbdhabpplidgfaa.PTensTurns
