/- The functions that the law ConvKnown reaches, as Lean functions, and that each call of the Go function does what its Lean function says, wherever that one answers. Written by a program of mine over the print of the kit; Lean checks it. -/
import Derived.Test.YtcipfhlcgnomaaaPConvKnownx0
import Derived.Test.YtcipfhlcgnomaaaPConvKnownx2
import Derived.Test.YtcipfhlcgnomaaaPConvKnownx3
namespace Go.Proofs.Ytcipfhlcgnomaaa.PConvKnown
open Go.RowKit Go.Proofs.YtcipfhlcgnomaaaW.PrintWords Go.Proofs.YtcipfhlcgnomaaaW.PrintLast Go.Proofs.YtcipfhlcgnomaaaW.PrintMore
attribute [local go_sem] max2_int min2_int max_two min_two max_three min_three max_four min_four   -- for this text's walks alone
set_option linter.unusedVariables false
set_option linter.unusedSimpArgs false

/-! ### wide_Shift: function 46 -/
mutual
def wide_Shift.j0 : Nat → Int → Bool → Int → Int → Option (Int × Int)
 | 0, _, _, _, _ => none
 | k + 1, x1, x13, x162000, x162001 => if x13 = true then (some (x162000, x162001)) else ((wide_down.f x162000 x162001 x1).bind fun bt163 => (if bt163.2.2.1 > 9223372036854775808 then (wide_Shift.j1 k true bt163.1 bt163.2.1) else (if bt163.2.2.1 = 9223372036854775808 then (if bt163.2.2.2 > 0 then (wide_Shift.j1 k true bt163.1 bt163.2.1) else (wide_Shift.j1 k ((Go.bits .and .u64 bt163.2.1 1) == 1) bt163.1 bt163.2.1)) else (wide_Shift.j1 k false bt163.1 bt163.2.1))))
def wide_Shift.j1 : Nat → Bool → Int → Int → Option (Int × Int)
 | 0, _, _, _ => none
 | k + 1, x37, x168000, x168001 => if x37 = true then ((wide_Of.f 1).bind fun bt168 => ((wide_Add.f x168000 x168001 bt168.1 bt168.2).bind fun bt170 => (some (bt170.1, bt170.2)))) else (some (x168000, x168001))
end
def wide_Shift.f (k : Nat) (a0_0 : Int) (a0_1 : Int) (a1 : Int) : Option (Int × Int) := if a1 < 1 then (wide_Shift.j0 k a1 true a0_0 a0_1) else (wide_Shift.j0 k a1 (decide (a1 > 126)) a0_0 a0_1)
theorem wide_Shift.mono_l : ∀ k, (∀ y0 y1 y2 y3, LeO (wide_Shift.j0 k y0 y1 y2 y3) (wide_Shift.j0 (k + 1) y0 y1 y2 y3)) ∧ (∀ y0 y1 y2, LeO (wide_Shift.j1 k y0 y1 y2) (wide_Shift.j1 (k + 1) y0 y1 y2))
 | 0 => ⟨fun _ _ _ _ r h => by simp [wide_Shift.j0] at h, fun _ _ _ r h => by simp [wide_Shift.j1] at h⟩
 | k + 1 => by
  obtain ⟨ih0, ih1⟩ := wide_Shift.mono_l k
  refine ⟨?_, ?_⟩
  ·intro y0 y1 y2 y3
   unfold wide_Shift.j0
   repeat' first
   | (with_reducible exact ih0 _ _ _ _)
   | (with_reducible exact ih1 _ _ _)
   | (with_reducible exact LeO.refl _)
   | (with_reducible exact LeO.none _)
   | (with_reducible refine LeO.ite ?_ ?_)
   | (with_reducible refine LeO.bind ?_ (fun _ => ?_))
   | exact ih0 _ _ _ _
   | exact ih1 _ _ _
   | exact LeO.none _
   | refine LeO.ite ?_ ?_
   | refine LeO.bind ?_ (fun _ => ?_)
  ·intro y0 y1 y2
   unfold wide_Shift.j1
   repeat' first
   | (with_reducible exact ih0 _ _ _ _)
   | (with_reducible exact ih1 _ _ _)
   | (with_reducible exact LeO.refl _)
   | (with_reducible exact LeO.none _)
   | (with_reducible refine LeO.ite ?_ ?_)
   | (with_reducible refine LeO.bind ?_ (fun _ => ?_))
   | exact ih0 _ _ _ _
   | exact ih1 _ _ _
   | exact LeO.none _
   | refine LeO.ite ?_ ?_
   | refine LeO.bind ?_ (fun _ => ?_)
theorem wide_Shift.mono : ∀ a0 a1 a2 k, LeO (wide_Shift.f k a0 a1 a2) (wide_Shift.f (k + 1) a0 a1 a2) := by
 intro a0 a1 a2 k
 obtain ⟨ih0, ih1⟩ := wide_Shift.mono_l k
 unfold wide_Shift.f
 repeat' first
   | (with_reducible exact ih0 _ _ _ _)
   | (with_reducible exact ih1 _ _ _)
   | (with_reducible exact LeO.refl _)
   | (with_reducible exact LeO.none _)
   | (with_reducible refine LeO.ite ?_ ?_)
   | (with_reducible refine LeO.bind ?_ (fun _ => ?_))
   | exact ih0 _ _ _ _
   | exact ih1 _ _ _
   | exact LeO.none _
   | refine LeO.ite ?_ ?_
   | refine LeO.bind ?_ (fun _ => ?_)
set_option maxHeartbeats 8000000 in
set_option maxRecDepth 100000 in
theorem wide_Shift.calls (k : Nat) (a0_0 : Int) (a0_1 : Int) (a1 : Int) (r1 : Int) (r2 : Int) (w : World) (h : wide_Shift.f k a0_0 a0_1 a1 = some (r1, r2)) :
  Calls Try.prog 46 #[.agg #[.int .i64 a0_0, .int .u64 a0_1], .int .i64 a1] w fun e w' => e = .returned (.agg #[.int .i64 r1, .int .u64 r2]) ∧ Below w.heap.size w w' := by
 have hu52 := Try.underlying52
 have HB := Aside0.mk (Below.refl w.heap.size w)
 have H : (if a1 < 1 then (wide_Shift.j0 k a1 true a0_0 a0_1) else (wide_Shift.j0 k a1 (decide (a1 > 126)) a0_0 a0_1)) = some (r1, r2) := h
 clear h
 have HC3 := Aside0.mk H
 clear H
 go_enter Try.func46, Try.ntmps46
 go_upto_region 1 with (first | ((with_reducible refine gate_dst (N := 2) rfl ?_); refine box_event ?hg (N := 2) ?hd (cs := #[.int .i64 a0_0, .int .u64 a0_1]) (t := 52) ?hr ?_; (case hd => rfl); (case hg => rfl); (case hr => first | (go_simp; done) | (go_simp; rfl)); intro gb161 hg w4 hbox hb; have BK161 := Aside0.mk (hbox); have GW161 := Aside0.mk (zs_ hg (zw0_ HB)); have GE161 := Aside0.mk (zs_ hg (zw0_ HB)); replace HB := Aside0.mk (below_step (zw0_ HB) hb); clear hb hbox hg) | ((with_reducible refine gate_dst (N := 4) rfl ?_); refine box_event ?hg (N := 4) ?hd (cs := #[.int .i64 0, .int .u64 0]) (t := 52) ?hr ?_; (case hd => rfl); (case hg => rfl); (case hr => first | (go_simp; done) | (go_simp; rfl)); intro gb162 hg w5 hbox hb; have BK162 := Aside0.mk (hbox); have GW162 := Aside0.mk (zs_ hg (zw1_ HB GE161)); have GE162 := Aside0.mk (zs_ hg (zw1_ HB GE161)); replace HB := Aside0.mk (below_step (zw1_ HB GE161) hb); have NB161_162 := Aside0.mk (zn_ hg BK161); have NB162_161 := Aside0.mk (zm_ hg BK161); replace BK161 := za_ BK161 hb; clear hb hbox hg))
 (try simp only [Act.put, List.setIfInBounds_toArray, List.set_cons_zero, List.set_cons_succ])
 go_cut [13] (fun v13 wc => ∃ (kq : Nat) (x13_2 : Bool), v13 = .bool x13_2 ∧ Aside0 (wide_Shift.j0 kq a1 x13_2 a0_0 a0_1 = some (r1, r2)) ∧ Aside0 (kq ≤ k) ∧ Aside0 (wc.heap[gb161]? = some (.cells #[.int .i64 a0_0, .int .u64 a0_1] 52 (0, 0))) ∧ Aside0 (wc.heap[gb162]? = some (.cells #[.int .i64 0, .int .u64 0] 52 (0, 0))) ∧ Aside0 (Below w.heap.size w wc))
 case first =>
  have H := HC3.out
  clear HC3
  by_cases c6 : a1 < 1
  ·rw [if_pos c6] at H
   have c6b0 : decide (a1 < 1) = true := decide_eq_true c6
   clear c6
   (first | rw [c6b0] | (simp only [i64_w, i32_w]; rw [c6b0]) | skip)
   have H' := Aside0.mk H
   clear H
   go_wp2
   go_meet
   case rel => exact ⟨_, (true), z1_, H', ⟨by first | omega | exact Nat.le_refl _⟩, ⟨zb_ BK161⟩, ⟨zb_ BK162⟩, ⟨zw2_ HB GE161 GE162⟩⟩
  rw [if_neg c6] at H
  have c6b0 : decide (a1 < 1) = false := decide_eq_false c6
  clear c6
  (first | rw [c6b0] | (simp only [i64_w, i32_w]; rw [c6b0]) | skip)
  have H' := Aside0.mk H
  clear H
  go_wp2
  go_meet
  case rel => exact ⟨_, (decide (a1 > 126)), z1_, H', ⟨by first | omega | exact Nat.le_refl _⟩, ⟨zb_ BK161⟩, ⟨zb_ BK162⟩, ⟨zw2_ HB GE161 GE162⟩⟩
 case rest =>
  clear HC3
  try clear p2
  try clear c4
  try clear c6
  try clear c6b0
  obtain ⟨kq, x13_2, rfl, HA, HJ2, BK161, BK162, HB⟩ := hcut
  cases kq with
  | zero => exact absurd HA.out (by simp [wide_Shift.j0])
  | succ kj2 =>
   have H := HA.out
   clear HA
   simp only [wide_Shift.j0] at H
   by_cases c7 : x13_2 = true
   ·subst c7
    have H1 : (some (a0_0, a0_1)) = some (r1, r2) := by rw [if_pos rfl] at H; exact H
    clear H
    have H := H1
    clear H1
    simp only [Option.some.injEq, Prod.mk.injEq] at H
    obtain ⟨rfl, rfl⟩ := H
    have hnb8 := NB161_162.out
    have hnc8 := NB162_161.out
    have hcz9_0 := zx_ (v := .int .i64 a0_0) BK161 0
    have hcz9_1 := zx_ (v := .int .u64 a0_1) BK161 1
    have hfz9_0 := blk_frozen BK161.out 0
    have hfz9_1 := blk_frozen BK161.out 1
    have hcz10_0 := zx_ (v := .int .i64 0) BK162 0
    have hcz10_1 := zx_ (v := .int .u64 0) BK162 1
    have hfz10_0 := blk_frozen BK162.out 0
    have hfz10_1 := blk_frozen BK162.out 1
    go_wp2
    refine bodyPost_ret (results_cell_row rfl _ _ gb162 52 #[.int .i64 a0_0, .int .u64 a0_1] (0, 0) _ rfl (zo2_ BK162) Try.underlying52 rfl (by kernel_rfl)) rfl ?_
    exact ⟨z0_, zw2_ HB GE161 GE162⟩
   replace c7 := Bool.eq_false_iff.mpr c7
   subst c7
   have H1 := H
   rw [if_neg (show ¬ (false = true) by decide)] at H1
   clear H
   have H := H1
   clear H1
   replace H := Option.bind_eq_some_iff.mp H
   obtain ⟨⟨t163, t164, t165, t166⟩, A110, H⟩ := H
   (try dsimp only at H)
   have A11 := Aside0.mk A110
   clear A110
   have HC12 := Aside0.mk H
   clear H
   have hnb13 := NB161_162.out
   have hnc13 := NB162_161.out
   have hcz14_0 := zx_ (v := .int .i64 a0_0) BK161 0
   have hcz14_1 := zx_ (v := .int .u64 a0_1) BK161 1
   have hfz14_0 := blk_frozen BK161.out 0
   have hfz14_1 := blk_frozen BK161.out 1
   go_upto_region 4 with (first | ((with_reducible refine gate_callee (f := 59) rfl ?_); refine zg_ (some 18) Try.func59 #[.agg #[.int .i64 a0_0, .int .u64 a0_1], .int .i64 a1] (h := ?_); (with_reducible refine (wide_down.calls a0_0 a0_1 a1 t163 t164 t165 t166 _ A11.out).mono ?_); rintro e w15 ⟨rfl, hb⟩; refine ⟨_, rfl, ?_⟩; replace BK161 := za_ BK161 hb; replace BK162 := za_ BK162 hb; replace HB := Aside0.mk (below_step (zw2_ HB GE161 GE162) hb); (try clear hb)) | ((with_reducible refine gate_dst (N := 5) rfl ?_); refine box_event ?hg (N := 5) ?hd (cs := #[.int .i64 0, .int .u64 0]) (t := 52) ?hr ?_; (case hd => rfl); (case hg => rfl); (case hr => first | (go_simp; done) | (go_simp; rfl)); intro gb167 hg w16 hbox hb; have BK167 := Aside0.mk (hbox); have GW167 := Aside0.mk (zs_ hg (zw2_ HB GE161 GE162)); have GE167 := Aside0.mk (zs_ hg (zw2_ HB GE161 GE162)); replace HB := Aside0.mk (below_step (zw2_ HB GE161 GE162) hb); have NB161_167 := Aside0.mk (zn_ hg BK161); have NB167_161 := Aside0.mk (zm_ hg BK161); replace BK161 := za_ BK161 hb; have NB162_167 := Aside0.mk (zn_ hg BK162); have NB167_162 := Aside0.mk (zm_ hg BK162); replace BK162 := za_ BK162 hb; clear hb hbox hg; have hnb17 := NB167_161.out; have hnc17 := NB161_167.out; have hnb18 := NB167_162.out; have hnc18 := NB162_167.out; have hcz19_0 := zx_ (v := .int .i64 0) BK167 0; have hcz19_1 := zx_ (v := .int .u64 0) BK167 1; have hfz19_0 := blk_frozen BK167.out 0; have hfz19_1 := blk_frozen BK167.out 1))
   (try simp only [Act.put, List.setIfInBounds_toArray, List.set_cons_zero, List.set_cons_succ])
   go_cut [37] (fun v37 wc => ∃ (kq : Nat) (x37_11 : Bool), v37 = .bool x37_11 ∧ Aside0 (wide_Shift.j1 kq x37_11 t163 t164 = some (r1, r2)) ∧ Aside0 (kq ≤ kj2) ∧ Aside0 (wc.heap[gb161]? = some (.cells #[.int .i64 a0_0, .int .u64 a0_1] 52 (0, 0))) ∧ Aside0 (wc.heap[gb162]? = some (.cells #[.int .i64 0, .int .u64 0] 52 (0, 0))) ∧ Aside0 (wc.heap[gb167]? = some (.cells #[.int .i64 t163, .int .u64 t164] 52 (0, 0))) ∧ Aside0 (Below w.heap.size w wc))
   case first =>
    have H := HC12.out
    clear HC12
    by_cases c20 : t165 > 9223372036854775808
    ·rw [if_pos c20] at H
     have c20b0 : decide (9223372036854775808 < t165) = true := decide_eq_true c20
     clear c20
     (first | rw [c20b0] | (simp only [i64_w, i32_w]; rw [c20b0]) | skip)
     have H' := Aside0.mk H
     clear H
     go_wp2
     go_meet
     case rel => exact ⟨_, (true), z1_, H', ⟨by have := HJ2.out; first | omega | exact Nat.le_refl _⟩, ⟨zv1_ BK161 NB161_167⟩, ⟨zv1_ BK162 NB162_167⟩, ⟨zo2_ BK167⟩, ⟨zw3_ HB GE161 GE162 GE167⟩⟩
    rw [if_neg c20] at H
    have c20b0 : decide (9223372036854775808 < t165) = false := decide_eq_false c20
    clear c20
    (first | rw [c20b0] | (simp only [i64_w, i32_w]; rw [c20b0]) | skip)
    by_cases c21 : t165 = 9223372036854775808
    rotate_left
    ·rw [if_neg c21] at H
     have c21b0 : (t165 == 9223372036854775808) = false := beq_eq_false_iff_ne.mpr c21
     have c21b1 : (t165 != 9223372036854775808) = true := bne_iff_ne.mpr c21
     have H' := Aside0.mk H
     clear H
     go_wp2
     go_meet
     case rel => exact ⟨_, (false), z1_, H', ⟨by have := HJ2.out; first | omega | exact Nat.le_refl _⟩, ⟨zv1_ BK161 NB161_167⟩, ⟨zv1_ BK162 NB162_167⟩, ⟨zo2_ BK167⟩, ⟨zw3_ HB GE161 GE162 GE167⟩⟩
    rw [if_pos c21] at H
    have c21b0 : (t165 == 9223372036854775808) = true := beq_iff_eq.mpr c21
    have c21b1 : (t165 != 9223372036854775808) = false := bne_eq_false_iff_eq.mpr c21
    clear c21
    by_cases c22 : t166 > 0
    ·rw [if_pos c22] at H
     have c22b0 : decide (0 < t166) = true := decide_eq_true c22
     clear c22
     have H' := Aside0.mk H
     clear H
     go_wp2
     go_meet
     case rel => exact ⟨_, (true), z1_, H', ⟨by have := HJ2.out; first | omega | exact Nat.le_refl _⟩, ⟨zv1_ BK161 NB161_167⟩, ⟨zv1_ BK162 NB162_167⟩, ⟨zo2_ BK167⟩, ⟨zw3_ HB GE161 GE162 GE167⟩⟩
    rw [if_neg c22] at H
    have c22b0 : decide (0 < t166) = false := decide_eq_false c22
    clear c22
    have H' := Aside0.mk H
    clear H
    have hnb23 := NB167_161.out
    have hnc23 := NB161_167.out
    have hnb24 := NB167_162.out
    have hnc24 := NB162_167.out
    have hcz25_0 := zx_ (v := .int .i64 0) BK167 0
    have hcz25_1 := zx_ (v := .int .u64 0) BK167 1
    have hfz25_0 := blk_frozen BK167.out 0
    have hfz25_1 := blk_frozen BK167.out 1
    go_wp2
    go_meet
    case rel => exact ⟨_, (((Go.bits .and .u64 t164 1) == 1)), z1_, H', ⟨by have := HJ2.out; first | omega | exact Nat.le_refl _⟩, ⟨zv1_ BK161 NB161_167⟩, ⟨zv1_ BK162 NB162_167⟩, ⟨zo2_ BK167⟩, ⟨zw3_ HB GE161 GE162 GE167⟩⟩
   case rest =>
    clear HC12
    try clear c1
    try clear c2
    try clear p2
    try clear c4
    try clear c5
    try clear c6
    try clear c6b0
    try clear c7
    try clear c8
    try clear c13
    try clear c17
    try clear c18
    try clear c20
    try clear c20b0
    try clear c21
    try clear c21b0
    try clear c21b1
    try clear c22
    try clear c22b0
    try clear c23
    try clear c24
    try clear hcz10_0
    try clear hcz10_1
    try clear hcz14_0
    try clear hcz14_1
    try clear hcz19_0
    try clear hcz19_1
    try clear hcz25_0
    try clear hcz25_1
    try clear hcz9_0
    try clear hcz9_1
    try clear hfz10_0
    try clear hfz10_1
    try clear hfz14_0
    try clear hfz14_1
    try clear hfz19_0
    try clear hfz19_1
    try clear hfz25_0
    try clear hfz25_1
    try clear hfz9_0
    try clear hfz9_1
    try clear p2
    obtain ⟨kq, x37_11, rfl, HA, HJ11, BK161, BK162, BK167, HB⟩ := hcut
    cases kq with
    | zero => exact absurd HA.out (by simp [wide_Shift.j1])
    | succ kj11 =>
     have H := HA.out
     clear HA
     simp only [wide_Shift.j1] at H
     by_cases c26 : x37_11 = true
     rotate_left
     ·replace c26 := Bool.eq_false_iff.mpr c26
      subst c26
      have H1 : (some (t163, t164)) = some (r1, r2) := by rw [if_neg (show ¬ (false = true) by decide)] at H; exact H
      clear H
      have H := H1
      clear H1
      simp only [Option.some.injEq, Prod.mk.injEq] at H
      obtain ⟨rfl, rfl⟩ := H
      have hnb34 := NB167_161.out
      have hnc34 := NB161_167.out
      have hnb35 := NB167_162.out
      have hnc35 := NB162_167.out
      have hcz36_0 := zx_ (v := .int .i64 t163) BK167 0
      have hcz36_1 := zx_ (v := .int .u64 t164) BK167 1
      have hfz36_0 := blk_frozen BK167.out 0
      have hfz36_1 := blk_frozen BK167.out 1
      have hnb37 := NB162_161.out
      have hnc37 := NB161_162.out
      have hcz38_0 := zx_ (v := .int .i64 0) BK162 0
      have hcz38_1 := zx_ (v := .int .u64 0) BK162 1
      have hfz38_0 := blk_frozen BK162.out 0
      have hfz38_1 := blk_frozen BK162.out 1
      go_wp2
      refine bodyPost_ret (results_cell_row rfl _ _ gb162 52 #[.int .i64 t163, .int .u64 t164] (0, 0) _ rfl (zo2_ BK162) Try.underlying52 rfl (by kernel_rfl)) rfl ?_
      exact ⟨z0_, zw3_ HB GE161 GE162 GE167⟩
     subst c26
     have H1 := H
     rw [if_pos rfl] at H1
     clear H
     have H := H1
     clear H1
     replace H := Option.bind_eq_some_iff.mp H
     obtain ⟨⟨t168, t169⟩, A270, H⟩ := H
     replace H : ((wide_Add.f t163 t164 t168 t169).bind fun bt170 => (some (bt170.1, bt170.2))) = some (r1, r2) := H
     have A27 := Aside0.mk A270
     clear A270
     replace H := Option.bind_eq_some_iff.mp H
     obtain ⟨⟨t170, t171⟩, A280, H⟩ := H
     replace H : (some (t170, t171)) = some (r1, r2) := H
     have A28 := Aside0.mk A280
     clear A280
     simp only [Option.some.injEq, Prod.mk.injEq] at H
     obtain ⟨rfl, rfl⟩ := H
     try go_wp2
     replace BK161 := Aside0.mk (blk_drew BK161.out)
     replace BK162 := Aside0.mk (blk_drew BK162.out)
     replace BK167 := Aside0.mk (blk_drew BK167.out)
     replace HB := Aside0.mk (below_drew1 HB.out)
     refine start_ (n := 4) (S := fun w' => w'.cell? ⟨gb167, 0, none⟩ = some (.int .i64 t163) ∧ w'.cell? ⟨gb167, 1, none⟩ = some (.int .u64 t164)) (ds := []) #[false, false, false, false] (by kernel_rfl) rfl rfl ⟨(blk_cell BK167.out 0).trans rfl, (blk_cell BK167.out 1).trans rfl⟩ (fun hHeld => ?_)
     generalize wc.drew = w29 at BK161 BK162 BK167 HB hHeld ⊢
     refine take_ (i := 0) (N := some 38) (v := ?_) (a' := ?_) #[true, false, false, false] rfl rfl (by kernel_rfl) (fun _ _ _ h => h) (Or.inl ⟨by rfl, ?_⟩) hHeld ?_ ?_
     rotate_left
     ·rintro w' ⟨s0, s1⟩
      go_simp
      with_reducible rfl
     rotate_left
     ·simp only [Act.put, List.setIfInBounds_toArray, List.set_cons_zero, List.set_cons_succ, i64_w, i32_w]
      rfl
     refine one_ (i := 1) (N := some 39) #[true, true, false, false] rfl rfl (by kernel_rfl) (by decide) (fun K hK => ?_)
     refine yg_ Try.func61 #[.int .i64 1] ?_
     with_reducible refine (wide_Of.calls 1 t168 t169 _ A27.out).mono ?_
     rintro e w30 ⟨rfl, hb⟩
     refine ⟨_, rfl, ?_⟩
     replace BK161 := za_ BK161 hb
     replace BK162 := za_ BK162 hb
     replace BK167 := za_ BK167 hb
     replace HB := Aside0.mk (below_step (zw3_ HB GE161 GE162 GE167) hb)
     (try clear hb)
     (try clear hb2)
     (try clear hk)
     (try clear hi)
     refine hK.out _ _ ⟨zx_ BK167 0, zx_ BK167 1⟩ (fun hHeld => ?_)
     clear hK K
     refine zq_ (some 39) (h := ?_)
     refine one_ (i := 2) (N := some 40) #[true, true, true, false] rfl rfl (by kernel_rfl) (by decide) (fun K hK => ?_)
     refine yg_ Try.func60 #[.agg #[.int .i64 t163, .int .u64 t164], .agg #[.int .i64 t168, .int .u64 t169]] ?_
     with_reducible refine (wide_Add.calls t163 t164 t168 t169 t170 t171 _ A28.out).mono ?_
     rintro e w31 ⟨rfl, hb⟩
     refine ⟨_, rfl, ?_⟩
     replace BK161 := za_ BK161 hb
     replace BK162 := za_ BK162 hb
     replace BK167 := za_ BK167 hb
     replace HB := Aside0.mk (below_step (zw3_ HB GE161 GE162 GE167) hb)
     (try clear hb)
     (try clear hb2)
     (try clear hk)
     (try clear hi)
     refine hK.out _ _ ⟨zx_ BK167 0, zx_ BK167 1⟩ (fun hHeld => ?_)
     clear hK K
     refine zq_ (some 40) (h := ?_)
     refine one_ (i := 3) (N := none) #[true, true, true, true] rfl rfl (by kernel_rfl) (by decide) (fun K hK => ?_)
     have hs32 := zx_ (v := .int .i64 0) BK162 0
     have hfs32 := blk_frozen BK162.out 0
     have hns32_0 := NB161_162.out
     have hns32_2 := NB167_162.out
     have hms32_0 := NB162_161.out
     have hms32_2 := NB162_167.out
     have hs33 := zx_ (v := .int .u64 0) BK162 1
     have hfs33 := blk_frozen BK162.out 1
     have hns33_0 := NB161_162.out
     have hns33_2 := NB167_162.out
     have hms33_0 := NB162_161.out
     have hms33_2 := NB162_167.out
     refine skip_ (w1 := ?_) (by rfl) rfl ?_ ?_
     rotate_left
     ·go_simp
      rfl
     refine hK.out _ _ ⟨((cell_far (p := ⟨gb162, _, none⟩) NB167_162.out _).trans (((cell_far (p := ⟨gb162, _, none⟩) NB167_162.out _).trans (hHeld.1)))), ((cell_far (p := ⟨gb162, _, none⟩) NB167_162.out _).trans (((cell_far (p := ⟨gb162, _, none⟩) NB167_162.out _).trans (hHeld.2))))⟩ (fun hHeld => ?_)
     clear hK K
     refine done_ (by kernel_rfl) ?_
     try go_wp2
     refine bodyPost_ret (results_cell_row rfl _ _ gb162 52 #[.int .i64 t170, .int .u64 t171] (0, 0) _ rfl (zo2_ BK162) Try.underlying52 rfl (by kernel_rfl)) rfl ?_
     exact ⟨z0_, zw3_ HB GE161 GE162 GE167⟩

/-! ### wide_Acc_Fix: function 31 -/
def wide_Acc_Fix.f (k : Nat) (a0_0 : Int) (a0_1 : Int) (a0_2 : Int) (a1 : Int) : Option (Int) := if a0_0 = (a0_1 / 9223372036854775808) then ((wide_Shift.f k a0_1 a0_2 a1).bind fun bt179 => ((wide_Fix.f k bt179.1 bt179.2).bind fun t181 => (some t181))) else (if a0_0 < 0 then (some (-9223372036854775808)) else (some 9223372036854775807))
theorem wide_Acc_Fix.mono : ∀ a0 a1 a2 a3 k, LeO (wide_Acc_Fix.f k a0 a1 a2 a3) (wide_Acc_Fix.f (k + 1) a0 a1 a2 a3) := by
 intro a0 a1 a2 a3 k
 unfold wide_Acc_Fix.f
 repeat' first
  | (with_reducible exact wide_Fix.mono _ _ _)
  | (with_reducible exact wide_Shift.mono _ _ _ _)
  | (with_reducible exact LeO.refl _)
  | (with_reducible exact LeO.none _)
  | (with_reducible refine LeO.ite ?_ ?_)
  | (with_reducible refine LeO.bind ?_ (fun _ => ?_))
set_option maxHeartbeats 8000000 in
set_option maxRecDepth 100000 in
theorem wide_Acc_Fix.calls (k : Nat) (g : Nat) (a0_0 a0_1 a0_2 a1 r : Int) (w : World) (hb0 : w.heap[g]? = some (.cells #[.int .i64 a0_0, .int .i64 a0_1, .int .u64 a0_2] 54 (0, 0))) (h : wide_Acc_Fix.f k a0_0 a0_1 a0_2 a1 = some r) :
  Calls Try.prog 31 #[.pointer (some ⟨g, 0, none⟩), .int .i64 a1] w fun e w' => e = .returned (.int .i64 r) ∧ Below w.heap.size w w' := by
 have hu52 := Try.underlying52
 have HB := Aside0.mk (Below.refl w.heap.size w)
 have hcz11_0 : w.cell? ⟨g, 0, none⟩ = some (.int .i64 a0_0) := (blk_cell hb0 0).trans rfl
 have hcz11_1 : w.cell? ⟨g, 1, none⟩ = some (.int .i64 a0_1) := (blk_cell hb0 1).trans rfl
 have hcz11_2 : w.cell? ⟨g, 2, none⟩ = some (.int .u64 a0_2) := (blk_cell hb0 2).trans rfl
 have hfz11_0 := blk_frozen hb0 0
 have hfz11_1 := blk_frozen hb0 1
 have hfz11_2 := blk_frozen hb0 2
 clear hb0
 have H : (if a0_0 = (a0_1 / 9223372036854775808) then ((wide_Shift.f k a0_1 a0_2 a1).bind fun bt179 => ((wide_Fix.f k bt179.1 bt179.2).bind fun t181 => (some t181))) else (if a0_0 < 0 then (some (-9223372036854775808)) else (some 9223372036854775807))) = some r := h
 clear h
 by_cases c3 : a0_0 = (a0_1 / 9223372036854775808)
 ·rw [if_pos c3] at H
  have c3b0 : (a0_0 == (a0_1 / 9223372036854775808)) = true := beq_iff_eq.mpr c3
  have c3b1 : (a0_0 != (a0_1 / 9223372036854775808)) = false := bne_eq_false_iff_eq.mpr c3
  clear c3
  replace H := Option.bind_eq_some_iff.mp H
  obtain ⟨⟨t179, t180⟩, A40, H⟩ := H
  (try dsimp only at H)
  have A4 := Aside0.mk A40
  clear A40
  replace H := Option.bind_eq_some_iff.mp H
  obtain ⟨t181, A50, H⟩ := H
  (try dsimp only at H)
  have A5 := Aside0.mk A50
  clear A50
  obtain rfl := Option.some.inj H
  go_enter Try.func31, Try.ntmps31
  try go_wp2
  go_quiet (fail)
  go_wp2_with (first | (go_at_call 46; (with_reducible refine (wide_Shift.calls k a0_1 a0_2 a1 t179 t180 _ A4.out).mono ?_); rintro e w7 ⟨rfl, hb⟩; replace HB := Aside0.mk (below_step (zw0_ HB) hb); clear hb) | (go_at_call 45; (with_reducible refine (wide_Fix.calls k t179 t180 t181 _ A5.out).mono ?_); rintro e w8 ⟨rfl, hb⟩; replace HB := Aside0.mk (below_step (zw0_ HB) hb); clear hb))
  go_ret
  exact ⟨by first | rfl | trivial, zw0_ HB⟩
 rw [if_neg c3] at H
 have c3b0 : (a0_0 == (a0_1 / 9223372036854775808)) = false := beq_eq_false_iff_ne.mpr c3
 have c3b1 : (a0_0 != (a0_1 / 9223372036854775808)) = true := bne_iff_ne.mpr c3
 by_cases c9 : a0_0 < 0
 ·rw [if_pos c9] at H
  have c9b0 : decide (a0_0 < 0) = true := decide_eq_true c9
  clear c9
  obtain rfl := Option.some.inj H
  go_enter Try.func31, Try.ntmps31
  try go_wp2
  repeat (go_quiet (fail); try go_wp2)
  go_ret
  exact ⟨by first | rfl | trivial, zw0_ HB⟩
 rw [if_neg c9] at H
 have c9b0 : decide (a0_0 < 0) = false := decide_eq_false c9
 clear c9
 obtain rfl := Option.some.inj H
 go_enter Try.func31, Try.ntmps31
 try go_wp2
 repeat (go_quiet (fail); try go_wp2)
 go_ret
 exact ⟨by first | rfl | trivial, zw0_ HB⟩

end Go.Proofs.Ytcipfhlcgnomaaa.PConvKnown
