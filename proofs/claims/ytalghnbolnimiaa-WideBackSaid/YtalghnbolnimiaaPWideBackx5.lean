/- The functions that the law WideBack reaches, as Lean functions, and that each call of the Go function does what its Lean function says, wherever that one answers. Written by a program of mine over the print of the kit; Lean checks it. -/
import Derived.Test.YtalghnbolnimiaaPWideBackx0
import Derived.Test.YtalghnbolnimiaaPWideBackx4
namespace Go.Proofs.Ytalghnbolnimiaa.PWideBack
open Go.RowKit Go.Proofs.YtalghnbolnimiaaW.PrintWords Go.Proofs.YtalghnbolnimiaaW.PrintLast Go.Proofs.YtalghnbolnimiaaW.PrintMore
attribute [local go_sem] max2_int min2_int max_two min_two max_three min_three max_four min_four   -- for this text's walks alone
set_option linter.unusedVariables false
set_option linter.unusedSimpArgs false

/-! ### wide_Put: function 26 -/
def wide_Put.f (k : Nat) (a0_0 : Int) (a0_1 : Int) : Option (List Int) := (pack_U64.f k ([] : List Int) (IntKind.u64.wrap (a0_0))).bind fun t165 => ((pack_U64.f k t165 a0_1).bind fun t168 => (some t168))
theorem wide_Put.mono : ∀ a0 a1 k, LeO (wide_Put.f k a0 a1) (wide_Put.f (k + 1) a0 a1) := by
 intro a0 a1 k
 unfold wide_Put.f
 repeat' first
   | (with_reducible exact pack_U64.mono _ _ _)
   | (with_reducible exact LeO.refl _)
   | (with_reducible exact LeO.none _)
   | (with_reducible refine LeO.ite ?_ ?_)
   | (with_reducible refine LeO.bind ?_ (fun _ => ?_))
   | exact pack_U64.mono _ _ _
   | exact LeO.none _
   | refine LeO.ite ?_ ?_
   | refine LeO.bind ?_ (fun _ => ?_)
def wide_Put.T1 : Bool × List (List Nat × List Nat) := (true, [([], []), ([0], [0]), ([1], [1]), ([2], [2]), ([], []), ([4], [4]), ([3, 5, 3], [3, 5]), ([6, 6, 0, 1, 2, 3, 4, 5, 6], [6])])
def wide_Put.B1 : List Nat := [0, 1, 3, 7, 0, 16, 63, 127]
theorem wide_Put.tab1 : rtab .any (opsOf Try.f26 1) = wide_Put.T1 := by kernel_rfl
theorem wide_Put.bits1 : waitsOk wide_Put.T1.2 wide_Put.B1 = true := by kernel_rfl
set_option maxHeartbeats 8000000 in
set_option maxRecDepth 100000 in
theorem wide_Put.calls (k : Nat) (a0_0 : Int) (a0_1 : Int) (r : List Int) (w : World) (h : wide_Put.f k a0_0 a0_1 = some r) :
  Calls Try.prog 26 #[.agg #[.int .i64 a0_0, .int .u64 a0_1]] w fun e w' => ∃ v0_ : Value, e = .returned (v0_) ∧ Kd.R (Kd.int .u8) 5 w' w.heap.size (fun _ => True) v0_ r ∧ Below w.heap.size w w' := by
 have hu25 := Try.underlying25
 have HB := Aside0.mk (Below.refl w.heap.size w)
 have H : ((pack_U64.f k ([] : List Int) (IntKind.u64.wrap (a0_0))).bind fun t165 => ((pack_U64.f k t165 a0_1).bind fun t168 => (some t168))) = some r := h
 clear h
 replace H := Option.bind_eq_some_iff.mp H
 obtain ⟨t165, A20, H⟩ := H
 replace H : ((pack_U64.f k t165 a0_1).bind fun t168 => (some t168)) = some r := H
 have A2 := Aside0.mk A20
 clear A20
 replace H := Option.bind_eq_some_iff.mp H
 obtain ⟨t168, A30, H⟩ := H
 replace H : (some t168) = some r := H
 have A3 := Aside0.mk A30
 clear A30
 obtain rfl := Option.some.inj H
 go_enter Try.func26, Try.ntmps26
 try go_wp2_with (first | ((with_reducible refine gate_dst (N := 1) rfl ?_); refine box_event ?hg (N := 1) ?hd (cs := #[.int .i64 a0_0, .int .u64 a0_1]) (t := 25) ?hr ?_; (case hd => rfl); (case hg => rfl); (case hr => first | (go_simp; done) | (go_simp; rfl)); intro gb164 hg w4 hbox hb; have BK164 := Aside0.mk (hbox); have GW164 := Aside0.mk (zs_ hg (zw0_ HB)); have GE164 := Aside0.mk (zs_ hg (zw0_ HB)); replace HB := Aside0.mk (below_step (zw0_ HB) hb); clear hb hbox hg))
 replace BK164 := Aside0.mk (blk_drew BK164.out)
 replace HB := Aside0.mk (below_drew1 HB.out)
 refine start_ (n := 8) (S := fun w' => w'.cell? ⟨gb164, 0, none⟩ = some (.int .i64 a0_0) ∧ w'.cell? ⟨gb164, 1, none⟩ = some (.int .u64 a0_1)) (ds := []) #[false, false, false, false, false, false, false, false] (by kernel_rfl) rfl rfl ⟨(blk_cell BK164.out 0).trans rfl, (blk_cell BK164.out 1).trans rfl⟩ (fun hHeld => ?_); refine with_tabW wide_Put.tab1 wide_Put.bits1 (fun HT_ HW_ => ?_)
 generalize w4.drew = w5 at BK164 HB hHeld ⊢
 refine yp_ ?_ 0 3
 refine yp_ ?_ 4 7
 refine yt2_ ?_ 1 4
 refine yp_ ?_ 2 5
 refine yt2_ ?_ 5 8
 refine yo_ 3 (some 6) (fun K hK => ?_)
 refine yg_ Try.func48 #[.slice none 0 0, .int .u64 (IntKind.u64.wrap (a0_0))] ?_
 refine (pack_U64.calls k _ _ ([] : List Int) (IntKind.u64.wrap (a0_0)) t165 _ ?side1 ?side2 A2.out).mono ?_
 (case side1 => exact Kd.C_nil _ _)
 (case side2 => exact Nat.le_refl _)
 rintro e w6 ⟨v166, rfl, ho0, hb⟩
 refine ⟨_, rfl, ?_⟩
 have HO167 := Aside0.mk (Kd.R_lower ho0 (below_size (zw1_ HB GE164)))
 replace BK164 := za_ BK164 hb
 replace HB := Aside0.mk (below_step (zw1_ HB GE164) hb)
 (try clear hb)
 (try clear hb2)
 (try clear hk)
 (try clear hi)
 (try clear ho0)
 obtain ⟨Ao7, co7, eo7⟩ := Kd.R_slice HO167.out
 (first | subst eo7 | (injection eo7 with f1_ f2_ f3_; have f4_ := f1_.symm; have f5_ := f3_.symm; clear f1_ f2_ f3_; subst f4_; subst f5_))
 refine hK.out _ _ ⟨zx_ BK164 0, zx_ BK164 1⟩ (fun hHeld => ?_)
 clear hK K
 refine zq_ (some 6) (h := ?_)
 refine yo_ 6 (some 9) (fun K hK => ?_)
 refine yg_ Try.func48 #[.slice Ao7 t165.length co7, .int .u64 a0_1] ?_
 with_reducible refine (pack_U64.calls k _ _ t165 a0_1 t168 _ ?side1 ?side2 A3.out).mono ?_
 (case side1 => exact zk_ ((Kd.R_reads' HO167.out).2.2))
 (case side2 => exact (Kd.R_reads' HO167.out).2.1)
 rintro e w8 ⟨v169, rfl, ho0, hb⟩
 refine ⟨_, rfl, ?_⟩
 have HO170 := Aside0.mk (Kd.R_lower (Kd.R_new' ho0 (Kd.R_lt (zr_ HO167.out))) (below_size (zw1_ HB GE164)))
 replace HO167 := ze_ HO167 ho0 hb
 replace BK164 := za_ BK164 hb
 replace HB := Aside0.mk (below_step (zw1_ HB GE164) hb)
 (try clear hb)
 (try clear hb2)
 (try clear hk)
 (try clear hi)
 (try clear ho0)
 refine hK.out _ _ ⟨zx_ BK164 0, zx_ BK164 1⟩ (fun hHeld => ?_)
 clear hK K
 refine zq_ (some 9) (h := ?_)
 refine yp_ ?_ 7 2
 refine done_ (done_of HT_.out (by kernel_rfl)) ?_
 try go_wp2
 go_ret
 exact ⟨_, z0_, zr_ (Kd.R_mono HO170.out (fun _ hk => trivial)), zw1_ HB GE164⟩

/-! ### carouselref1_U16: function 67 -/
def carouselref1_U16.f (l0 : List Int) (a1 : Int) : Option (List Int) := (some (([] : List Int) : List Int)).bind fun y171 => (if y171.length + l0.length < 140737488355328 then ((some (y171 ++ l0 : List Int)).bind fun y174 => ((some (([(a1 / 256) % 256, (a1) % 256] : List Int) : List Int)).bind fun y177 => (if y174.length + y177.length < 140737488355328 then (some (y174 ++ y177)) else (none)))) else (none))
set_option maxHeartbeats 8000000 in
set_option maxRecDepth 100000 in
theorem carouselref1_U16.calls (A0 : Option Addr) (c0 : Nat) (l0 : List Int) (a1 : Int) (r : List Int) (w : World) (hr0 : Kd.C (Kd.int .u8) w A0 l0.length l0) (hc0 : l0.length ≤ c0) (h : carouselref1_U16.f l0 a1 = some r) :
  Calls Try.prog 67 #[.slice A0 l0.length c0, .int .i64 a1] w fun e w' => ∃ v0_ : Value, e = .returned (v0_) ∧ Kd.R (Kd.int .u8) 5 w' w.heap.size (fun _ => True) v0_ r ∧ Below w.heap.size w w' := by
 have HR0 := Aside0.mk hr0
 have HC0 := Aside0.mk hc0
 clear hr0 hc0
 have HB := Aside0.mk (Below.refl w.heap.size w)
 have H : ((some (([] : List Int) : List Int)).bind fun y171 => (if y171.length + l0.length < 140737488355328 then ((some (y171 ++ l0 : List Int)).bind fun y174 => ((some (([(a1 / 256) % 256, (a1) % 256] : List Int) : List Int)).bind fun y177 => (if y174.length + y177.length < 140737488355328 then (some (y174 ++ y177)) else (none)))) else (none))) = some r := h
 clear h
 obtain ⟨y171, hy171⟩ : ∃ y_ : List Int, y_ = (([] : List Int)) := ⟨_, rfl⟩
 replace H : (if y171.length + l0.length < 140737488355328 then ((some (y171 ++ l0 : List Int)).bind fun y174 => ((some (([(a1 / 256) % 256, (a1) % 256] : List Int) : List Int)).bind fun y177 => (if y174.length + y177.length < 140737488355328 then (some (y174 ++ y177)) else (none)))) else (none)) = some r := by first | (rw [hy171]; with_reducible exact H) | (have H2_ := (Option.bind_some _ _).symm.trans H; rw [hy171]; with_reducible exact H2_) | (have H2_ := (Option.bind_some _ _).symm.trans H; with_reducible exact H2_) | with_reducible exact H | (rw [hy171]; exact H) | exact H
 have Ny171 := Aside0.mk hy171
 clear hy171
 by_cases c3 : y171.length + l0.length < 140737488355328
 rotate_left
 ·rw [if_neg c3] at H
  exact absurd H (by simp)
 rw [if_pos c3] at H
 have LMc3 := Aside0.mk c3
 clear c3
 obtain ⟨y174, hy174⟩ : ∃ y_ : List Int, y_ = (y171 ++ l0) := ⟨_, rfl⟩
 replace H : ((some (([(a1 / 256) % 256, (a1) % 256] : List Int) : List Int)).bind fun y177 => (if y174.length + y177.length < 140737488355328 then (some (y174 ++ y177)) else (none))) = some r := by first | (rw [hy174]; with_reducible exact H) | (have H2_ := (Option.bind_some _ _).symm.trans H; rw [hy174]; with_reducible exact H2_) | (have H2_ := (Option.bind_some _ _).symm.trans H; with_reducible exact H2_) | with_reducible exact H | (rw [hy174]; exact H) | exact H
 have Ny174 := Aside0.mk hy174
 clear hy174
 obtain ⟨y177, hy177⟩ : ∃ y_ : List Int, y_ = (([(a1 / 256) % 256, (a1) % 256] : List Int)) := ⟨_, rfl⟩
 replace H : (if y174.length + y177.length < 140737488355328 then (some (y174 ++ y177)) else (none)) = some r := by first | (rw [hy177]; with_reducible exact H) | (have H2_ := (Option.bind_some _ _).symm.trans H; rw [hy177]; with_reducible exact H2_) | (have H2_ := (Option.bind_some _ _).symm.trans H; with_reducible exact H2_) | with_reducible exact H | (rw [hy177]; exact H) | exact H
 have Ny177 := Aside0.mk hy177
 clear hy177
 by_cases c4 : y174.length + y177.length < 140737488355328
 rotate_left
 ·rw [if_neg c4] at H
  exact absurd H (by simp)
 rw [if_pos c4] at H
 have LMc4 := Aside0.mk c4
 clear c4
 obtain ⟨y180, hy180⟩ : ∃ y_ : List Int, y_ = (y174 ++ y177) := ⟨_, rfl⟩
 replace H : (some y180) = some r := by first | (rw [hy180]; with_reducible exact H) | (have H2_ := (Option.bind_some _ _).symm.trans H; rw [hy180]; with_reducible exact H2_) | (have H2_ := (Option.bind_some _ _).symm.trans H; with_reducible exact H2_) | with_reducible exact H | (rw [hy180]; exact H) | exact H
 have Ny180 := Aside0.mk hy180
 clear hy180
 obtain rfl := Option.some.inj H
 go_enter Try.func67, Try.ntmps67
 go_wp2_with (first | ((with_reducible refine gate_dst (N := 5) rfl ?_); refine Kd.R_lit (Kd.int .u8) _ 5 ?hg (N := 5) ?hd (xs := ([] : List Int)) (inner := []) (ok := fun _ => True) (okp := fun _ => True) ?hr ?hp (fun _ hk => hk) trivial (Below.refl _ _) (Nat.le_refl _) (by simp) ?_; (case hd => rfl); (case hg => rfl); (case hr => first | (go_simp; done) | (go_simp; rfl)); (case hp => exact (Reps.none _ _)); intro v172 w5 ho6 hb hg_ hnew_; clear hg_ hnew_; (first | rw [← Ny171.out] at ho6 | (simp only [Int.reduceToNat] at ho6; rw [← Ny171.out] at ho6)); have HO173 := Aside0.mk (Kd.R_lower ho6 (below_size (zw0_ HB))); replace HB := Aside0.mk (below_step (zw0_ HB) hb); clear hb ho6) | ((with_reducible refine gate_builtin (b := .append) (xs := #[.tmp 5, .tmp 6]) rfl ?_); at_builtin; refine Kd.R_append_rows (Kd.int .u8) (w0 := w) w.heap.size rfl (.tmp 5) (.tmp 6) 47 5 (.int .u8 0) 1 rfl Try.underlying47 info5 rfl (by decide) (by omega) v172 y171 l0 _ _ _ (fun _ => True) (fun _ => False) rfl rfl ?aO ?aR (fun _ _ h => h) (fun _ h => h.elim) ?aF ?aB ?aS ?aL ?_; (case aR => exact zk_ (Kd.C_below HR0.out HB.out)); (case aB => exact (zw0_ HB)); (case aF => exact (fun _ _ => trivial)); (case aO => exact (zr_ HO173.out)); (case aS => exact (below_size (zw0_ HB))); (case aL => have := LMc3.out; omega); intro v175 w7 ho hb hg hat; rw [← Ny174.out] at ho; replace HB := Aside0.mk (hb); have HO176 := Aside0.mk (ho); clear HO173; clear ho hb hg hat) | ((with_reducible refine gate_dst (N := 13) rfl ?_); refine Kd.R_lit (Kd.int .u8) _ 5 ?hg (N := 13) ?hd (xs := ([(a1 / 256) % 256, (a1) % 256] : List Int)) (inner := [.int .u8 ((a1 / 256) % 256), .int .u8 ((a1) % 256)]) (ok := fun _ => True) (okp := fun _ => True) ?hr ?hp (fun _ hk => hk) trivial (Below.refl _ _) (Nat.le_refl _) (by simp) ?_; (case hd => rfl); (case hg => rfl); (case hr => first | (go_simp; done) | (go_simp; rfl)); (case hp => exact (Reps.one (show Kd.M (Kd.int .u8) _ _ _ ((a1 / 256) % 256) [.int .u8 ((a1 / 256) % 256)] from rfl) (Reps.one (show Kd.M (Kd.int .u8) _ _ _ ((a1) % 256) [.int .u8 ((a1) % 256)] from rfl) (Reps.none _ _)))); intro v178 w8 ho9 hb hg_ hnew_; clear hg_ hnew_; (first | rw [← Ny177.out] at ho9 | (simp only [Int.reduceToNat] at ho9; rw [← Ny177.out] at ho9)); have HO179 := Aside0.mk (Kd.R_lower (Kd.R_new' ho9 (Kd.R_lt (zr_ HO176.out))) (below_size (zw0_ HB))); replace HO176 := ze_ HO176 ho9 hb; replace HB := Aside0.mk (below_step (zw0_ HB) hb); clear hb ho9; obtain ⟨Ao11, co11, eo11⟩ := Kd.R_slice HO179.out; subst eo11) | ((with_reducible refine gate_builtin (b := .append) (xs := #[.tmp 7, .tmp 13]) rfl ?_); at_builtin; refine Kd.R_append_rows (Kd.int .u8) (w0 := w) w.heap.size rfl (.tmp 7) (.tmp 13) 47 5 (.int .u8 0) 1 rfl Try.underlying47 info5 rfl (by decide) (by omega) v175 y174 y177 _ _ _ (fun k_ => some k_ ≠ (.slice Ao11 y177.length co11 : Value).ownBlock) (fun _ => False) rfl rfl ?aO ?aR (fun _ _ h => h) (fun _ h => h.elim) ?aF ?aB ?aS ?aL ?_; (case aR => exact zk_ ((Kd.R_reads' HO179.out).2.2)); (case aB => exact (zw0_ HB)); (case aF => exact (fun k_ hk => Kd.fresh' (Kd.R_lt (zr_ HO179.out)) k_ hk)); (case aO => exact (zr_ (Kd.R_mono HO176.out (fun _ hk => hk.2)))); (case aS => exact (below_size (zw0_ HB))); (case aL => have := LMc4.out; omega); intro v181 w10 ho hb hg hat; rw [← Ny180.out] at ho; replace HO179 := Aside0.mk (Kd.R_after (ok := (fun _ => True)) (zr_ HO179.out) hg hat); replace HB := Aside0.mk (hb); have HO182 := Aside0.mk (ho); clear HO176; clear ho hb hg hat))
 go_ret
 exact ⟨_, z0_, zr_ (Kd.R_mono HO182.out (fun _ hk => trivial)), zw0_ HB⟩

/-! ### carouselref1_U32: function 61 -/
def carouselref1_U32.f (l0 : List Int) (a1 : Int) : Option (List Int) := (carouselref1_U16.f l0 (wrap64 (a1 / 65536))).bind fun t183 => ((carouselref1_U16.f t183 (wrap64 (Go.bits .and .u32 a1 65535))).bind fun t186 => (some t186))
set_option maxHeartbeats 8000000 in
set_option maxRecDepth 100000 in
theorem carouselref1_U32.calls (A0 : Option Addr) (c0 : Nat) (l0 : List Int) (a1 : Int) (r : List Int) (w : World) (hr0 : Kd.C (Kd.int .u8) w A0 l0.length l0) (hc0 : l0.length ≤ c0) (h : carouselref1_U32.f l0 a1 = some r) :
  Calls Try.prog 61 #[.slice A0 l0.length c0, .int .u32 a1] w fun e w' => ∃ v0_ : Value, e = .returned (v0_) ∧ Kd.R (Kd.int .u8) 5 w' w.heap.size (fun _ => True) v0_ r ∧ Below w.heap.size w w' := by
 have HR0 := Aside0.mk hr0
 have HC0 := Aside0.mk hc0
 clear hr0 hc0
 have HB := Aside0.mk (Below.refl w.heap.size w)
 have H : ((carouselref1_U16.f l0 (wrap64 (a1 / 65536))).bind fun t183 => ((carouselref1_U16.f t183 (wrap64 (Go.bits .and .u32 a1 65535))).bind fun t186 => (some t186))) = some r := h
 clear h
 replace H := Option.bind_eq_some_iff.mp H
 obtain ⟨t183, A30, H⟩ := H
 replace H : ((carouselref1_U16.f t183 (wrap64 (Go.bits .and .u32 a1 65535))).bind fun t186 => (some t186)) = some r := H
 have A3 := Aside0.mk A30
 clear A30
 replace H := Option.bind_eq_some_iff.mp H
 obtain ⟨t186, A40, H⟩ := H
 replace H : (some t186) = some r := H
 have A4 := Aside0.mk A40
 clear A40
 obtain rfl := Option.some.inj H
 go_enter Try.func61, Try.ntmps61
 go_wp2_with (first | ((with_reducible refine gate_callee (f := 67) rfl ?_); refine zg_ (some 9) Try.func67 #[.slice A0 l0.length c0, .int .i64 (wrap64 (a1 / 65536))] (h := ?_); (with_reducible refine (carouselref1_U16.calls _ _ l0 (wrap64 (a1 / 65536)) t183 _ ?side1 ?side2 A3.out).mono ?_); (case side1 => repeat (first | exact HR0.out | (with_reducible refine Kd.C_alloc ?_ _) | (with_reducible refine Kd.C_drewN ?_ _) | (with_reducible refine Kd.C_drew ?_))); (case side2 => exact HC0.out); rintro e w5 ⟨v184, rfl, ho0, hb⟩; refine ⟨_, rfl, ?_⟩; have HO185 := Aside0.mk (Kd.R_lower ho0 (below_size (zw0_ HB))); replace HB := Aside0.mk (below_step (zw0_ HB) hb); (try clear hb); (try clear ho0); obtain ⟨Ao6, co6, eo6⟩ := Kd.R_slice HO185.out; subst eo6) | ((with_reducible refine gate_callee (f := 67) rfl ?_); refine zg_ (some 13) Try.func67 #[.slice Ao6 t183.length co6, .int .i64 (wrap64 (Go.bits .and .u32 a1 65535))] (h := ?_); (with_reducible refine (carouselref1_U16.calls _ _ t183 (wrap64 (Go.bits .and .u32 a1 65535)) t186 _ ?side1 ?side2 A4.out).mono ?_); (case side1 => exact zk_ ((Kd.R_reads' HO185.out).2.2)); (case side2 => exact (Kd.R_reads' HO185.out).2.1); rintro e w7 ⟨v187, rfl, ho0, hb⟩; refine ⟨_, rfl, ?_⟩; have HO188 := Aside0.mk (Kd.R_lower (Kd.R_new' ho0 (Kd.R_lt (zr_ HO185.out))) (below_size (zw0_ HB))); replace HO185 := ze_ HO185 ho0 hb; replace HB := Aside0.mk (below_step (zw0_ HB) hb); (try clear hb); (try clear ho0)))
 go_ret
 exact ⟨_, z0_, zr_ (Kd.R_mono HO188.out (fun _ hk => trivial)), zw0_ HB⟩

/-! ### carouselref1_U64: function 49 -/
def carouselref1_U64.f (l0 : List Int) (a1 : Int) : Option (List Int) := (carouselref1_U32.f l0 ((a1 / 4294967296) % 4294967296)).bind fun t189 => ((carouselref1_U32.f t189 ((Go.bits .and .u64 a1 4294967295) % 4294967296)).bind fun t192 => (some t192))
set_option maxHeartbeats 8000000 in
set_option maxRecDepth 100000 in
theorem carouselref1_U64.calls (A0 : Option Addr) (c0 : Nat) (l0 : List Int) (a1 : Int) (r : List Int) (w : World) (hr0 : Kd.C (Kd.int .u8) w A0 l0.length l0) (hc0 : l0.length ≤ c0) (h : carouselref1_U64.f l0 a1 = some r) :
  Calls Try.prog 49 #[.slice A0 l0.length c0, .int .u64 a1] w fun e w' => ∃ v0_ : Value, e = .returned (v0_) ∧ Kd.R (Kd.int .u8) 5 w' w.heap.size (fun _ => True) v0_ r ∧ Below w.heap.size w w' := by
 have HR0 := Aside0.mk hr0
 have HC0 := Aside0.mk hc0
 clear hr0 hc0
 have HB := Aside0.mk (Below.refl w.heap.size w)
 have H : ((carouselref1_U32.f l0 ((a1 / 4294967296) % 4294967296)).bind fun t189 => ((carouselref1_U32.f t189 ((Go.bits .and .u64 a1 4294967295) % 4294967296)).bind fun t192 => (some t192))) = some r := h
 clear h
 replace H := Option.bind_eq_some_iff.mp H
 obtain ⟨t189, A30, H⟩ := H
 replace H : ((carouselref1_U32.f t189 ((Go.bits .and .u64 a1 4294967295) % 4294967296)).bind fun t192 => (some t192)) = some r := H
 have A3 := Aside0.mk A30
 clear A30
 replace H := Option.bind_eq_some_iff.mp H
 obtain ⟨t192, A40, H⟩ := H
 replace H : (some t192) = some r := H
 have A4 := Aside0.mk A40
 clear A40
 obtain rfl := Option.some.inj H
 go_enter Try.func49, Try.ntmps49
 go_wp2_with (first | ((with_reducible refine gate_callee (f := 61) rfl ?_); refine zg_ (some 9) Try.func61 #[.slice A0 l0.length c0, .int .u32 ((a1 / 4294967296) % 4294967296)] (h := ?_); (with_reducible refine (carouselref1_U32.calls _ _ l0 ((a1 / 4294967296) % 4294967296) t189 _ ?side1 ?side2 A3.out).mono ?_); (case side1 => repeat (first | exact HR0.out | (with_reducible refine Kd.C_alloc ?_ _) | (with_reducible refine Kd.C_drewN ?_ _) | (with_reducible refine Kd.C_drew ?_))); (case side2 => exact HC0.out); rintro e w5 ⟨v190, rfl, ho0, hb⟩; refine ⟨_, rfl, ?_⟩; have HO191 := Aside0.mk (Kd.R_lower ho0 (below_size (zw0_ HB))); replace HB := Aside0.mk (below_step (zw0_ HB) hb); (try clear hb); (try clear ho0); obtain ⟨Ao6, co6, eo6⟩ := Kd.R_slice HO191.out; subst eo6) | ((with_reducible refine gate_callee (f := 61) rfl ?_); refine zg_ (some 13) Try.func61 #[.slice Ao6 t189.length co6, .int .u32 ((Go.bits .and .u64 a1 4294967295) % 4294967296)] (h := ?_); (with_reducible refine (carouselref1_U32.calls _ _ t189 ((Go.bits .and .u64 a1 4294967295) % 4294967296) t192 _ ?side1 ?side2 A4.out).mono ?_); (case side1 => exact zk_ ((Kd.R_reads' HO191.out).2.2)); (case side2 => exact (Kd.R_reads' HO191.out).2.1); rintro e w7 ⟨v193, rfl, ho0, hb⟩; refine ⟨_, rfl, ?_⟩; have HO194 := Aside0.mk (Kd.R_lower (Kd.R_new' ho0 (Kd.R_lt (zr_ HO191.out))) (below_size (zw0_ HB))); replace HO191 := ze_ HO191 ho0 hb; replace HB := Aside0.mk (below_step (zw0_ HB) hb); (try clear hb); (try clear ho0)))
 go_ret
 exact ⟨_, z0_, zr_ (Kd.R_mono HO194.out (fun _ hk => trivial)), zw0_ HB⟩

/-! ### carouselref1_WPut: function 27 -/
def carouselref1_WPut.f (a0_0 : Int) (a0_1 : Int) : Option (List Int) := (carouselref1_U64.f ([] : List Int) (IntKind.u64.wrap (a0_0))).bind fun t196 => ((carouselref1_U64.f t196 a0_1).bind fun t199 => (some t199))
def carouselref1_WPut.T1 : Bool × List (List Nat × List Nat) := (true, [([], []), ([0], [0]), ([1], [1]), ([2], [2]), ([], []), ([4], [4]), ([3, 5, 3], [3, 5]), ([6, 6, 0, 1, 2, 3, 4, 5, 6], [6])])
def carouselref1_WPut.B1 : List Nat := [0, 1, 3, 7, 0, 16, 63, 127]
theorem carouselref1_WPut.tab1 : rtab .any (opsOf Try.f27 1) = carouselref1_WPut.T1 := by kernel_rfl
theorem carouselref1_WPut.bits1 : waitsOk carouselref1_WPut.T1.2 carouselref1_WPut.B1 = true := by kernel_rfl
set_option maxHeartbeats 8000000 in
set_option maxRecDepth 100000 in
theorem carouselref1_WPut.calls (a0_0 : Int) (a0_1 : Int) (r : List Int) (w : World) (h : carouselref1_WPut.f a0_0 a0_1 = some r) :
  Calls Try.prog 27 #[.agg #[.int .i64 a0_0, .int .u64 a0_1]] w fun e w' => ∃ v0_ : Value, e = .returned (v0_) ∧ Kd.R (Kd.int .u8) 5 w' w.heap.size (fun _ => True) v0_ r ∧ Below w.heap.size w w' := by
 have hu25 := Try.underlying25
 have HB := Aside0.mk (Below.refl w.heap.size w)
 have H : ((carouselref1_U64.f ([] : List Int) (IntKind.u64.wrap (a0_0))).bind fun t196 => ((carouselref1_U64.f t196 a0_1).bind fun t199 => (some t199))) = some r := h
 clear h
 replace H := Option.bind_eq_some_iff.mp H
 obtain ⟨t196, A20, H⟩ := H
 replace H : ((carouselref1_U64.f t196 a0_1).bind fun t199 => (some t199)) = some r := H
 have A2 := Aside0.mk A20
 clear A20
 replace H := Option.bind_eq_some_iff.mp H
 obtain ⟨t199, A30, H⟩ := H
 replace H : (some t199) = some r := H
 have A3 := Aside0.mk A30
 clear A30
 obtain rfl := Option.some.inj H
 go_enter Try.func27, Try.ntmps27
 try go_wp2_with (first | ((with_reducible refine gate_dst (N := 1) rfl ?_); refine box_event ?hg (N := 1) ?hd (cs := #[.int .i64 a0_0, .int .u64 a0_1]) (t := 25) ?hr ?_; (case hd => rfl); (case hg => rfl); (case hr => first | (go_simp; done) | (go_simp; rfl)); intro gb195 hg w4 hbox hb; have BK195 := Aside0.mk (hbox); have GW195 := Aside0.mk (zs_ hg (zw0_ HB)); have GE195 := Aside0.mk (zs_ hg (zw0_ HB)); replace HB := Aside0.mk (below_step (zw0_ HB) hb); clear hb hbox hg))
 replace BK195 := Aside0.mk (blk_drew BK195.out)
 replace HB := Aside0.mk (below_drew1 HB.out)
 refine start_ (n := 8) (S := fun w' => w'.cell? ⟨gb195, 0, none⟩ = some (.int .i64 a0_0) ∧ w'.cell? ⟨gb195, 1, none⟩ = some (.int .u64 a0_1)) (ds := []) #[false, false, false, false, false, false, false, false] (by kernel_rfl) rfl rfl ⟨(blk_cell BK195.out 0).trans rfl, (blk_cell BK195.out 1).trans rfl⟩ (fun hHeld => ?_); refine with_tabW carouselref1_WPut.tab1 carouselref1_WPut.bits1 (fun HT_ HW_ => ?_)
 generalize w4.drew = w5 at BK195 HB hHeld ⊢
 refine yp_ ?_ 0 3
 refine yp_ ?_ 4 7
 refine yt2_ ?_ 1 4
 refine yp_ ?_ 2 5
 refine yt2_ ?_ 5 8
 refine yo_ 3 (some 6) (fun K hK => ?_)
 refine yg_ Try.func49 #[.slice none 0 0, .int .u64 (IntKind.u64.wrap (a0_0))] ?_
 refine (carouselref1_U64.calls _ _ ([] : List Int) (IntKind.u64.wrap (a0_0)) t196 _ ?side1 ?side2 A2.out).mono ?_
 (case side1 => exact Kd.C_nil _ _)
 (case side2 => exact Nat.le_refl _)
 rintro e w6 ⟨v197, rfl, ho0, hb⟩
 refine ⟨_, rfl, ?_⟩
 have HO198 := Aside0.mk (Kd.R_lower ho0 (below_size (zw1_ HB GE195)))
 replace BK195 := za_ BK195 hb
 replace HB := Aside0.mk (below_step (zw1_ HB GE195) hb)
 (try clear hb)
 (try clear hb2)
 (try clear hk)
 (try clear hi)
 (try clear ho0)
 obtain ⟨Ao7, co7, eo7⟩ := Kd.R_slice HO198.out
 (first | subst eo7 | (injection eo7 with f1_ f2_ f3_; have f4_ := f1_.symm; have f5_ := f3_.symm; clear f1_ f2_ f3_; subst f4_; subst f5_))
 refine hK.out _ _ ⟨zx_ BK195 0, zx_ BK195 1⟩ (fun hHeld => ?_)
 clear hK K
 refine zq_ (some 6) (h := ?_)
 refine yo_ 6 (some 9) (fun K hK => ?_)
 refine yg_ Try.func49 #[.slice Ao7 t196.length co7, .int .u64 a0_1] ?_
 with_reducible refine (carouselref1_U64.calls _ _ t196 a0_1 t199 _ ?side1 ?side2 A3.out).mono ?_
 (case side1 => exact zk_ ((Kd.R_reads' HO198.out).2.2))
 (case side2 => exact (Kd.R_reads' HO198.out).2.1)
 rintro e w8 ⟨v200, rfl, ho0, hb⟩
 refine ⟨_, rfl, ?_⟩
 have HO201 := Aside0.mk (Kd.R_lower (Kd.R_new' ho0 (Kd.R_lt (zr_ HO198.out))) (below_size (zw1_ HB GE195)))
 replace HO198 := ze_ HO198 ho0 hb
 replace BK195 := za_ BK195 hb
 replace HB := Aside0.mk (below_step (zw1_ HB GE195) hb)
 (try clear hb)
 (try clear hb2)
 (try clear hk)
 (try clear hi)
 (try clear ho0)
 refine hK.out _ _ ⟨zx_ BK195 0, zx_ BK195 1⟩ (fun hHeld => ?_)
 clear hK K
 refine zq_ (some 9) (h := ?_)
 refine yp_ ?_ 7 2
 refine done_ (done_of HT_.out (by kernel_rfl)) ?_
 try go_wp2
 go_ret
 exact ⟨_, z0_, zr_ (Kd.R_mono HO201.out (fun _ hk => trivial)), zw1_ HB GE195⟩

end Go.Proofs.Ytalghnbolnimiaa.PWideBack
