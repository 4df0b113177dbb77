/- The functions that the law OptKnown reaches, as Lean functions, and that each call of the Go function does what its Lean function says, wherever that one answers. Written by a program of mine over the print of the kit; Lean checks it. -/
import Derived.Test.YtaanhfcioemekaaPOptKnownx0
import Derived.Test.YtaanhfcioemekaaPOptKnownx2
import Derived.Test.YtaanhfcioemekaaPOptKnownx6
import Derived.Test.YtaanhfcioemekaaPOptKnownx7
namespace Go.Proofs.Ytaanhfcioemekaa.POptKnown
open Go.RowKit Go.Proofs.YtaanhfcioemekaaW.PrintWords Go.Proofs.YtaanhfcioemekaaW.PrintLast Go.Proofs.YtaanhfcioemekaaW.PrintMore
attribute [local go_sem] max2_int min2_int max_two min_two max_three min_three max_four min_four   -- for this text's walks alone
theorem bs_3 {w w' : World} {g : Nat} {o : Obj} (h : Aside0 (w.heap[g]? = some o)) (t : w.heap[g]? = some o → w'.heap[g]? = some o := by intro h_; (with_reducible repeat (first | refine blk_drewN ?_ _ | refine blk_drew ?_ | refine blk_alloc ?_ _)); exact h_) : w'.heap[g]? = some o := t h.out
theorem rs_3 {α : Type} {d : Kd α} {e b : Nat} {w w' : World} {ok : Nat → Prop} {v : Value} {xs : List α} (h : Kd.R d e w b ok v xs) (t : Kd.R d e w b ok v xs → Kd.R d e w' b ok v xs := by intro h_; (with_reducible repeat (first | apply Kd.R_alloc | apply Kd.R_drewN | apply Kd.R_drew)); exact h_) : Kd.R d e w' b ok v xs := t h
theorem ws_3 {b : Nat} {w0 w w' : World} (h : Aside0 (Below b w0 w)) (t : Below b w0 w → Below b w0 w' := by intro h_; repeat (first | (with_reducible first | exact h_ | apply below_alloc | apply pw_below_drewN | apply below_drew1) | exact h_)) : Below b w0 w' := t h.out
theorem ws1_3 {b g : Nat} {w0 w w' : World} (h : Aside0 (Below b w0 w)) (i : Aside0 (b ≤ g)) (t : Below b w0 w → b ≤ g → Below b w0 w' := by intro h_ i_; repeat (first | (with_reducible first | exact h_ | apply below_alloc | apply pw_below_drewN | apply below_drew1 | refine below_set ?_ i_) | exact h_)) : Below b w0 w' := t h.out i.out
theorem ws2_3 {b g g2 : Nat} {w0 w w' : World} (h : Aside0 (Below b w0 w)) (i : Aside0 (b ≤ g)) (j : Aside0 (b ≤ g2)) (t : Below b w0 w → b ≤ g → b ≤ g2 → Below b w0 w' := by intro h_ i_ j_; repeat (first | (with_reducible first | exact h_ | apply below_alloc | apply pw_below_drewN | apply below_drew1 | refine below_set ?_ i_ | refine below_set ?_ j_) | exact h_)) : Below b w0 w' := t h.out i.out j.out
set_option linter.unusedVariables false
set_option linter.unusedSimpArgs false

/-! ### carousellaw15_OptKnown: function 3 -/
def carousellaw15_OptKnown.f (k : Nat)  : Option (Bool) := (carousellaw15_awake.f k).bind fun t217 => (if t217 = true then ((opt_New.f (([5] : List Int))).bind fun bt221 => ((wide_Of.f 100).bind fun bt228 => ((some (([(⟨bt228.1, bt228.2⟩ : S30)] : List (S30)) : List (S30))).bind fun y230 => ((opt_Apply.f k bt221.1 bt221.2 ([] : List (S30)) 1 0 0 0).bind fun bt233 => ((opt_Apply.f k bt221.1 bt221.2 y230 0 0 0 0).bind fun bt241 => ((opt_Apply.f k bt221.1 bt221.2 y230 1 0 0 (-1)).bind fun bt249 => ((opt_Apply.f k bt221.1 bt221.2 y230 1 4294967296 0 7).bind fun bt257 => ((wide_Of.f (-100)).bind fun bt265 => ((opt_Apply.f k bt221.1 bt221.2 (([(⟨bt265.1, bt265.2⟩ : S30)] : List (S30))) 3 4294967296 0 50).bind fun bt270 => (if bt233.2.2 = 4 then (if bt241.2.2 = 1 then (if bt249.2.2 = 1 then (if bt257.2.2 = 0 then (if 0 < (bt257.2.1.length : Int) then (if (rd bt257.2.1 0) = 7 then (if 0 < (bt257.1.length : Int) then (if (rd bt257.1 0) = (-2) then (if bt270.2.2 = 0 then (if 0 < (bt270.2.1.length : Int) then (if (rd bt270.2.1 0) = (-33) then (if 0 < (bt270.1.length : Int) then (some ((rd bt270.1 0) == 38)) else (none)) else (none)) else (none)) else (none)) else (none)) else (none)) else (none)) else (none)) else (none)) else (none)) else (none)) else (none))))))))))) else (none))
theorem carousellaw15_OptKnown.mono : ∀ k, LeO (carousellaw15_OptKnown.f k ) (carousellaw15_OptKnown.f (k + 1) ) := by
 intro  k
 unfold carousellaw15_OptKnown.f
 repeat' first
   | (with_reducible exact carousellaw15_awake.mono _)
   | (with_reducible exact opt_Apply.mono _ _ _ _ _ _ _ _)
   | (with_reducible exact LeO.refl _)
   | (with_reducible exact LeO.none _)
   | (with_reducible refine LeO.ite ?_ ?_)
   | (with_reducible refine LeO.bind ?_ (fun _ => ?_))
   | exact carousellaw15_awake.mono _
   | exact opt_Apply.mono _ _ _ _ _ _ _ _
   | exact LeO.none _
   | refine LeO.ite ?_ ?_
   | refine LeO.bind ?_ (fun _ => ?_)
def carousellaw15_OptKnown.T9 : Bool × List (List Nat × List Nat) := (true, [([], []), ([], []), ([1], [1]), ([], []), ([0, 2, 3, 1], [0, 2, 3]), ([4], [4]), ([5], [5]), ([5], [5]), ([], []), ([8, 6, 4, 0, 1, 2, 3, 4, 5, 6, 8], [6, 8]), ([7, 9, 0, 1, 2, 3, 4, 5, 6, 7, 8, 9], [7])])
def carousellaw15_OptKnown.B9 : List Nat := [0, 0, 2, 0, 15, 31, 63, 63, 0, 383, 1023]
theorem carousellaw15_OptKnown.tab9 : rtab .any (opsOf Try.f3 9) = carousellaw15_OptKnown.T9 := by kernel_rfl
theorem carousellaw15_OptKnown.bits9 : waitsOk carousellaw15_OptKnown.T9.2 carousellaw15_OptKnown.B9 = true := by kernel_rfl
set_option maxHeartbeats 8000000 in
set_option maxRecDepth 100000 in
theorem carousellaw15_OptKnown.calls (k : Nat)  (r : Bool) (w : World) (h : carousellaw15_OptKnown.f k  = some r) :
  Calls Try.prog 3 #[] w fun e w' => e = .returned (.bool r) ∧ Below w.heap.size w w' := by
 have hu25 := Try.underlying25
 have hu37 := Try.underlying37
 have HB := Aside0.mk (Below.refl w.heap.size w)
 have H : ((carousellaw15_awake.f k).bind fun t217 => (if t217 = true then ((opt_New.f (([5] : List Int))).bind fun bt221 => ((wide_Of.f 100).bind fun bt228 => ((some (([(⟨bt228.1, bt228.2⟩ : S30)] : List (S30)) : List (S30))).bind fun y230 => ((opt_Apply.f k bt221.1 bt221.2 ([] : List (S30)) 1 0 0 0).bind fun bt233 => ((opt_Apply.f k bt221.1 bt221.2 y230 0 0 0 0).bind fun bt241 => ((opt_Apply.f k bt221.1 bt221.2 y230 1 0 0 (-1)).bind fun bt249 => ((opt_Apply.f k bt221.1 bt221.2 y230 1 4294967296 0 7).bind fun bt257 => ((wide_Of.f (-100)).bind fun bt265 => ((opt_Apply.f k bt221.1 bt221.2 (([(⟨bt265.1, bt265.2⟩ : S30)] : List (S30))) 3 4294967296 0 50).bind fun bt270 => (if bt233.2.2 = 4 then (if bt241.2.2 = 1 then (if bt249.2.2 = 1 then (if bt257.2.2 = 0 then (if 0 < (bt257.2.1.length : Int) then (if (rd bt257.2.1 0) = 7 then (if 0 < (bt257.1.length : Int) then (if (rd bt257.1 0) = (-2) then (if bt270.2.2 = 0 then (if 0 < (bt270.2.1.length : Int) then (if (rd bt270.2.1 0) = (-33) then (if 0 < (bt270.1.length : Int) then (some ((rd bt270.1 0) == 38)) else (none)) else (none)) else (none)) else (none)) else (none)) else (none)) else (none)) else (none)) else (none)) else (none)) else (none)) else (none))))))))))) else (none))) = some r := h
 clear h
 replace H := Option.bind_eq_some_iff.mp H
 obtain ⟨t217, A10, H⟩ := H
 (try dsimp only at H)
 have A1 := Aside0.mk A10
 clear A10
 by_cases c2 : t217 = true
 ·subst c2
  have H1 := H
  rw [if_pos rfl] at H1
  clear H
  have H := H1
  clear H1
  obtain ⟨y218, hy218⟩ : ∃ y_ : List Int, y_ = (([5] : List Int)) := ⟨_, rfl⟩
  replace H : ((opt_New.f y218).bind fun bt221 => ((wide_Of.f 100).bind fun bt228 => ((some (([(⟨bt228.1, bt228.2⟩ : S30)] : List (S30)) : List (S30))).bind fun y230 => ((opt_Apply.f k bt221.1 bt221.2 ([] : List (S30)) 1 0 0 0).bind fun bt233 => ((opt_Apply.f k bt221.1 bt221.2 y230 0 0 0 0).bind fun bt241 => ((opt_Apply.f k bt221.1 bt221.2 y230 1 0 0 (-1)).bind fun bt249 => ((opt_Apply.f k bt221.1 bt221.2 y230 1 4294967296 0 7).bind fun bt257 => ((wide_Of.f (-100)).bind fun bt265 => ((opt_Apply.f k bt221.1 bt221.2 (([(⟨bt265.1, bt265.2⟩ : S30)] : List (S30))) 3 4294967296 0 50).bind fun bt270 => (if bt233.2.2 = 4 then (if bt241.2.2 = 1 then (if bt249.2.2 = 1 then (if bt257.2.2 = 0 then (if 0 < (bt257.2.1.length : Int) then (if (rd bt257.2.1 0) = 7 then (if 0 < (bt257.1.length : Int) then (if (rd bt257.1 0) = (-2) then (if bt270.2.2 = 0 then (if 0 < (bt270.2.1.length : Int) then (if (rd bt270.2.1 0) = (-33) then (if 0 < (bt270.1.length : Int) then (some ((rd bt270.1 0) == 38)) else (none)) else (none)) else (none)) else (none)) else (none)) else (none)) else (none)) else (none)) else (none)) else (none)) else (none)) else (none))))))))))) = some r := by first | (rw [hy218]; with_reducible exact H) | (have H2_ := (Option.bind_some _ _).symm.trans H; rw [hy218]; with_reducible exact H2_) | (have H2_ := (Option.bind_some _ _).symm.trans H; with_reducible exact H2_) | with_reducible exact H | (rw [hy218]; exact H) | exact H
  have Ny218 := Aside0.mk hy218
  clear hy218
  replace H := Option.bind_eq_some_iff.mp H
  obtain ⟨⟨t221, t224⟩, A30, H⟩ := H
  (try dsimp only at H)
  have A3 := Aside0.mk A30
  clear A30
  replace H := Option.bind_eq_some_iff.mp H
  obtain ⟨⟨t228, t229⟩, A40, H⟩ := H
  (try dsimp only at H)
  have A4 := Aside0.mk A40
  clear A40
  obtain ⟨y230, hy230⟩ : ∃ y_ : List (S30), y_ = (([(⟨t228, t229⟩ : S30)] : List (S30))) := ⟨_, rfl⟩
  replace H : ((opt_Apply.f k t221 t224 ([] : List (S30)) 1 0 0 0).bind fun bt233 => ((opt_Apply.f k t221 t224 y230 0 0 0 0).bind fun bt241 => ((opt_Apply.f k t221 t224 y230 1 0 0 (-1)).bind fun bt249 => ((opt_Apply.f k t221 t224 y230 1 4294967296 0 7).bind fun bt257 => ((wide_Of.f (-100)).bind fun bt265 => ((opt_Apply.f k t221 t224 (([(⟨bt265.1, bt265.2⟩ : S30)] : List (S30))) 3 4294967296 0 50).bind fun bt270 => (if bt233.2.2 = 4 then (if bt241.2.2 = 1 then (if bt249.2.2 = 1 then (if bt257.2.2 = 0 then (if 0 < (bt257.2.1.length : Int) then (if (rd bt257.2.1 0) = 7 then (if 0 < (bt257.1.length : Int) then (if (rd bt257.1 0) = (-2) then (if bt270.2.2 = 0 then (if 0 < (bt270.2.1.length : Int) then (if (rd bt270.2.1 0) = (-33) then (if 0 < (bt270.1.length : Int) then (some ((rd bt270.1 0) == 38)) else (none)) else (none)) else (none)) else (none)) else (none)) else (none)) else (none)) else (none)) else (none)) else (none)) else (none)) else (none)))))))) = some r := by first | (rw [hy230]; with_reducible exact H) | (have H2_ := (Option.bind_some _ _).symm.trans H; rw [hy230]; with_reducible exact H2_) | (have H2_ := (Option.bind_some _ _).symm.trans H; with_reducible exact H2_) | with_reducible exact H | (rw [hy230]; exact H) | exact H
  have Ny230 := Aside0.mk hy230
  clear hy230
  replace H := Option.bind_eq_some_iff.mp H
  obtain ⟨⟨t233, t236, t239⟩, A50, H⟩ := H
  (try dsimp only at H)
  have A5 := Aside0.mk A50
  clear A50
  replace H := Option.bind_eq_some_iff.mp H
  obtain ⟨⟨t241, t244, t247⟩, A60, H⟩ := H
  (try dsimp only at H)
  have A6 := Aside0.mk A60
  clear A60
  replace H := Option.bind_eq_some_iff.mp H
  obtain ⟨⟨t249, t252, t255⟩, A70, H⟩ := H
  (try dsimp only at H)
  have A7 := Aside0.mk A70
  clear A70
  replace H := Option.bind_eq_some_iff.mp H
  obtain ⟨⟨t257, t260, t263⟩, A80, H⟩ := H
  (try dsimp only at H)
  have A8 := Aside0.mk A80
  clear A80
  replace H := Option.bind_eq_some_iff.mp H
  obtain ⟨⟨t265, t266⟩, A90, H⟩ := H
  (try dsimp only at H)
  have A9 := Aside0.mk A90
  clear A90
  obtain ⟨y267, hy267⟩ : ∃ y_ : List (S30), y_ = (([(⟨t265, t266⟩ : S30)] : List (S30))) := ⟨_, rfl⟩
  replace H : ((opt_Apply.f k t221 t224 y267 3 4294967296 0 50).bind fun bt270 => (if t239 = 4 then (if t247 = 1 then (if t255 = 1 then (if t263 = 0 then (if 0 < (t260.length : Int) then (if (rd t260 0) = 7 then (if 0 < (t257.length : Int) then (if (rd t257 0) = (-2) then (if bt270.2.2 = 0 then (if 0 < (bt270.2.1.length : Int) then (if (rd bt270.2.1 0) = (-33) then (if 0 < (bt270.1.length : Int) then (some ((rd bt270.1 0) == 38)) else (none)) else (none)) else (none)) else (none)) else (none)) else (none)) else (none)) else (none)) else (none)) else (none)) else (none)) else (none))) = some r := by first | (rw [hy267]; with_reducible exact H) | (have H2_ := (Option.bind_some _ _).symm.trans H; rw [hy267]; with_reducible exact H2_) | (have H2_ := (Option.bind_some _ _).symm.trans H; with_reducible exact H2_) | with_reducible exact H | (rw [hy267]; exact H) | exact H
  have Ny267 := Aside0.mk hy267
  clear hy267
  replace H := Option.bind_eq_some_iff.mp H
  obtain ⟨⟨t270, t273, t276⟩, A100, H⟩ := H
  (try dsimp only at H)
  have A10 := Aside0.mk A100
  clear A100
  by_cases c11 : t239 = 4
  ·rw [if_pos c11] at H
   have c11b0 : (t239 == 4) = true := beq_iff_eq.mpr c11
   have c11b1 : (t239 != 4) = false := bne_eq_false_iff_eq.mpr c11
   clear c11
   by_cases c12 : t247 = 1
   ·rw [if_pos c12] at H
    have c12b0 : (t247 == 1) = true := beq_iff_eq.mpr c12
    have c12b1 : (t247 != 1) = false := bne_eq_false_iff_eq.mpr c12
    clear c12
    by_cases c13 : t255 = 1
    ·rw [if_pos c13] at H
     have c13b0 : (t255 == 1) = true := beq_iff_eq.mpr c13
     have c13b1 : (t255 != 1) = false := bne_eq_false_iff_eq.mpr c13
     clear c13
     by_cases c14 : t263 = 0
     ·rw [if_pos c14] at H
      have c14b0 : (t263 == 0) = true := beq_iff_eq.mpr c14
      have c14b1 : (t263 != 0) = false := bne_eq_false_iff_eq.mpr c14
      clear c14
      by_cases c15 : 0 < (t260.length : Int)
      ·rw [if_pos c15] at H
       have c15b0 : decide (0 < (t260.length : Int)) = true := decide_eq_true c15
       have c15b1 : decide (0 < t260.length) = true := decide_eq_true (by omega)
       clear c15
       by_cases c16 : (rd t260 0) = 7
       ·rw [if_pos c16] at H
        have c16b0 : ((rd t260 0) == 7) = true := beq_iff_eq.mpr c16
        have c16b1 : ((rd t260 0) != 7) = false := bne_eq_false_iff_eq.mpr c16
        clear c16
        by_cases c17 : 0 < (t257.length : Int)
        ·rw [if_pos c17] at H
         have c17b0 : decide (0 < (t257.length : Int)) = true := decide_eq_true c17
         have c17b1 : decide (0 < t257.length) = true := decide_eq_true (by omega)
         clear c17
         by_cases c18 : (rd t257 0) = (-2)
         ·rw [if_pos c18] at H
          have c18b0 : ((rd t257 0) == (-2)) = true := beq_iff_eq.mpr c18
          have c18b1 : ((rd t257 0) != (-2)) = false := bne_eq_false_iff_eq.mpr c18
          clear c18
          by_cases c19 : t276 = 0
          ·rw [if_pos c19] at H
           have c19b0 : (t276 == 0) = true := beq_iff_eq.mpr c19
           have c19b1 : (t276 != 0) = false := bne_eq_false_iff_eq.mpr c19
           clear c19
           by_cases c20 : 0 < (t273.length : Int)
           ·rw [if_pos c20] at H
            have c20b0 : decide (0 < (t273.length : Int)) = true := decide_eq_true c20
            have c20b1 : decide (0 < t273.length) = true := decide_eq_true (by omega)
            clear c20
            by_cases c21 : (rd t273 0) = (-33)
            ·rw [if_pos c21] at H
             have c21b0 : ((rd t273 0) == (-33)) = true := beq_iff_eq.mpr c21
             have c21b1 : ((rd t273 0) != (-33)) = false := bne_eq_false_iff_eq.mpr c21
             clear c21
             by_cases c22 : 0 < (t270.length : Int)
             ·rw [if_pos c22] at H
              have c22b0 : decide (0 < (t270.length : Int)) = true := decide_eq_true c22
              have c22b1 : decide (0 < t270.length) = true := decide_eq_true (by omega)
              clear c22
              obtain rfl := Option.some.inj H
              go_enter Try.func3, Try.ntmps3
              try go_wp2_with (first | ((with_reducible refine gate_callee (f := 9) rfl ?_); refine goesL_ (some 13) rfl rfl Try.func9 (by kernel_rfl) rfl #[] rfl (by (try simp only [List.map_toArray, List.map_cons, List.map_nil]); first | done | rfl | (simp only [List.length_drop, List.length_take]; rfl)) ?_; (with_reducible refine (carousellaw15_awake.calls k  true _ A1.out).mono ?_); rintro e w23 ⟨rfl, hb⟩; refine ⟨_, rfl, ?_⟩; have n0_ := Aside0.mk (below_step (ws_3 HB) hb); clear HB; have HB := n0_; clear n0_; (try clear hb); (try clear hb2); (try clear hk); (try clear hi)) | ((with_reducible refine gate_dst (N := 15) rfl ?_); refine Kd.R_lit (Kd.int .i64) _ 27 ?hg (N := 15) ?hd (xs := ([5] : List Int)) (inner := [.int .i64 5]) (ok := fun _ => True) (okp := fun _ => True) ?hr ?hp (fun _ hk => hk) trivial (Below.refl _ _) (Nat.le_refl _) (by simp) ?_; (case hd => rfl); (case hg => rfl); (case hr => first | (go_simp; done) | (go_simp; rfl)); (case hp => exact (Reps.one (show Kd.M (Kd.int .i64) _ _ _ 5 [.int .i64 5] from rfl) (Reps.none _ _))); intro v219 w24 ho25 hb hg_ hnew_; clear hg_ hnew_; (first | rw [← Ny218.out] at ho25 | (simp only [Int.reduceToNat] at ho25; rw [← Ny218.out] at ho25)); have n0_ := Aside0.mk (Kd.R_lower ho25 (below_size (ws_3 HB))); have n1_ := Aside0.mk (below_step (ws_3 HB) hb); clear HB; have HO220 := n0_; have HB := n1_; clear n0_ n1_; clear hb ho25; obtain ⟨Ao26, co26, eo26⟩ := Kd.R_slice HO220.out; subst eo26) | ((with_reducible refine gate_callee (f := 10) rfl ?_); refine goesL_ (some 16) rfl rfl Try.func10 (by kernel_rfl) rfl #[.slice Ao26 y218.length co26] rfl (by (try simp only [List.map_toArray, List.map_cons, List.map_nil]); first | done | rfl | (simp only [List.length_drop, List.length_take]; rfl)) ?_; (with_reducible refine (opt_New.calls _ _ y218 t221 t224 _ ?side1 ?side2 A3.out).mono ?_); (case side1 => repeat (first | exact (Kd.R_reads' HO220.out).2.2 | (with_reducible refine Kd.C_alloc ?_ _) | (with_reducible refine Kd.C_drewN ?_ _) | (with_reducible refine Kd.C_drew ?_))); (case side2 => exact (Kd.R_reads' HO220.out).2.1); rintro e w27 ⟨v222, v225, rfl, ho0, ho1, hb⟩; refine ⟨_, rfl, ?_⟩; have n0_ := Aside0.mk (Kd.R_mono (Kd.R_told (Kd.R_told (Kd.R_old (rs_3 HO220.out) hb) (Kd.R_base ho0)) (Kd.R_base ho1)) (fun _ h_ => h_.1)); have n1_ := Aside0.mk (Kd.R_lower (Kd.R_new' ho0 (Kd.R_lt (rs_3 HO220.out))) (below_size (ws_3 HB))); have n2_ := Aside0.mk (Kd.R_lower (Kd.R_new' ho1 (Kd.R_lt (rs_3 HO220.out))) (below_size (ws_3 HB))); have n3_ := Aside0.mk (below_step (ws_3 HB) hb); clear HO220; clear HB; have HO220 := n0_; have HO223 := n1_; have HO226 := n2_; have HB := n3_; clear n0_ n1_ n2_ n3_; (try clear hb); (try clear hb2); (try clear hk); (try clear hi); (try clear ho0); (try clear ho1)) | ((with_reducible refine gate_dst (N := 1) rfl ?_); refine box_event ?hg (N := 1) ?hd (cs := #[.slice none 0 0, .slice none 0 0]) (t := 25) ?hr ?_; (case hd => rfl); (case hg => rfl); (case hr => first | (go_simp; done) | (go_simp; rfl)); intro gb227 hg w28 hbox hb; have n0_ := Aside0.mk (Kd.R_below (rs_3 HO220.out) hb); have n1_ := Aside0.mk (Kd.R_below (rs_3 HO223.out) hb); have n2_ := Aside0.mk (Kd.R_below (rs_3 HO226.out) hb); have n3_ := Aside0.mk (below_step (ws_3 HB) hb); have n4_ := Aside0.mk (hbox); have n5_ := Aside0.mk ((by rw [hg]; exact (below_size (ws_3 HB)) : w.heap.size ≤ gb227)); have n6_ := Aside0.mk ((by rw [hg]; exact (below_size (ws_3 HB)) : w.heap.size ≤ gb227)); clear HO220; clear HO223; clear HO226; clear HB; have HO220 := n0_; have HO223 := n1_; have HO226 := n2_; have HB := n3_; have BK227 := n4_; have GW227 := n5_; have GE227 := n6_; clear n0_ n1_ n2_ n3_ n4_ n5_ n6_; clear hb hbox hg; obtain ⟨Ao29, co29, eo29⟩ := Kd.R_slice HO223.out; subst eo29; have hcz30_0 : w28.cell? ⟨gb227, 0, none⟩ = some (.slice none 0 0) := (blk_cell BK227.out 0).trans rfl; have hcz30_1 : w28.cell? ⟨gb227, 1, none⟩ = some (.slice none 0 0) := (blk_cell BK227.out 1).trans rfl; have hfz30_0 := blk_frozen BK227.out 0; have hfz30_1 := blk_frozen BK227.out 1; obtain ⟨Ao31, co31, eo31⟩ := Kd.R_slice HO226.out; subst eo31) | ((with_reducible refine gate_callee (f := 11) rfl ?_); refine goesL_ (some 17) rfl rfl Try.func11 (by kernel_rfl) rfl #[.int .i64 100] rfl (by (try simp only [List.map_toArray, List.map_cons, List.map_nil]); first | done | rfl | (simp only [List.length_drop, List.length_take]; rfl)) ?_; (with_reducible refine (wide_Of.calls 100 t228 t229 _ A4.out).mono ?_); rintro e w32 ⟨rfl, hb⟩; refine ⟨_, rfl, ?_⟩; have n0_ := Aside0.mk (Kd.R_below (rs_3 ((Kd.R_mono (Kd.R_far (p := ⟨gb227, 1, none⟩) (Kd.R_far (p := ⟨gb227, 0, none⟩) (Kd.R_types HO220.out BK227.out (by decide)) (fun _ hk => hk.2) (.slice Ao29 t221.length co29)) (fun _ hk => hk.2) (.slice Ao31 t224.length co31)) (fun _ h_ => h_.1)))) hb); have n1_ := Aside0.mk (Kd.R_below (rs_3 ((Kd.R_mono (Kd.R_far (p := ⟨gb227, 1, none⟩) (Kd.R_far (p := ⟨gb227, 0, none⟩) (Kd.R_types HO223.out BK227.out (by decide)) (fun _ hk => hk.2) (.slice Ao29 t221.length co29)) (fun _ hk => hk.2) (.slice Ao31 t224.length co31)) (fun _ h_ => h_.1)))) hb); have n2_ := Aside0.mk (Kd.R_below (rs_3 ((Kd.R_mono (Kd.R_far (p := ⟨gb227, 1, none⟩) (Kd.R_far (p := ⟨gb227, 0, none⟩) (Kd.R_types HO226.out BK227.out (by decide)) (fun _ hk => hk.2) (.slice Ao29 t221.length co29)) (fun _ hk => hk.2) (.slice Ao31 t224.length co31)) (fun _ h_ => h_.1)))) hb); have n3_ := Aside0.mk (blk_below (g := gb227) (o := .cells #[.slice Ao29 t221.length co29, .slice Ao31 t224.length co31] 25 (0, 0)) (by (with_reducible repeat (first | refine blk_drewN ?_ _ | refine blk_drew ?_ | refine blk_alloc ?_ _)); refine blk_put (cs := #[.slice Ao29 t221.length co29, .slice none 0 0]) ?_ 1 _ rfl; (with_reducible repeat (first | refine blk_drewN ?_ _ | refine blk_drew ?_ | refine blk_alloc ?_ _)); refine blk_put (cs := #[.slice none 0 0, .slice none 0 0]) ?_ 0 _ rfl; (with_reducible repeat (first | refine blk_drewN ?_ _ | refine blk_drew ?_ | refine blk_alloc ?_ _)); exact BK227.out) hb); have n4_ := Aside0.mk (below_step (ws1_3 HB GE227) hb); clear HO220; clear HO223; clear HO226; clear BK227; clear HB; have HO220 := n0_; have HO223 := n1_; have HO226 := n2_; have BK227 := n3_; have HB := n4_; clear n0_ n1_ n2_ n3_ n4_; (try clear hb); (try clear hb2); (try clear hk); (try clear hi)) | ((with_reducible refine gate_dst (N := 18) rfl ?_); refine Kd.R_lit k30 _ 30 ?hg (N := 18) ?hd (xs := ([(⟨t228, t229⟩ : S30)] : List (S30))) (inner := [.int .i64 t228, .int .u64 t229]) (ok := fun _ => True) (okp := fun _ => True) ?hr ?hp (fun _ hk => hk) trivial (Below.refl _ _) (Nat.le_refl _) (by simp) ?_; (case hd => rfl); (case hg => rfl); (case hr => first | (go_simp; done) | (go_simp; rfl)); (case hp => exact (Reps.c2 (show Kd.M k30 _ _ _ (⟨t228, t229⟩ : S30) [.int .i64 t228, .int .u64 t229] from (k30_mkM _ _ _ (⟨t228, t229⟩ : S30) )) (Reps.none _ _))); intro v231 w33 ho34 hb hg_ hnew_; clear hg_ hnew_; (first | rw [← Ny230.out] at ho34 | (simp only [Int.reduceToNat] at ho34; rw [← Ny230.out] at ho34)); have n0_ := Aside0.mk (Kd.R_below (rs_3 HO220.out) hb); have n1_ := Aside0.mk (Kd.R_below (rs_3 HO223.out) hb); have n2_ := Aside0.mk (Kd.R_below (rs_3 HO226.out) hb); have n3_ := Aside0.mk (Kd.R_lower ho34 (below_size (ws1_3 HB GE227))); have n4_ := Aside0.mk (blk_below (g := gb227) (o := .cells #[.slice Ao29 t221.length co29, .slice Ao31 t224.length co31] 25 (0, 0)) (bs_3 BK227) hb); have n5_ := Aside0.mk (below_step (ws1_3 HB GE227) hb); clear HO220; clear HO223; clear HO226; clear BK227; clear HB; have HO220 := n0_; have HO223 := n1_; have HO226 := n2_; have HO232 := n3_; have BK227 := n4_; have HB := n5_; clear n0_ n1_ n2_ n3_ n4_ n5_; clear hb ho34; have hcz35_0 : w33.cell? ⟨gb227, 0, none⟩ = some (.slice Ao29 t221.length co29) := (blk_cell BK227.out 0).trans rfl; have hcz35_1 : w33.cell? ⟨gb227, 1, none⟩ = some (.slice Ao31 t224.length co31) := (blk_cell BK227.out 1).trans rfl; have hfz35_0 := blk_frozen BK227.out 0; have hfz35_1 := blk_frozen BK227.out 1) | ((with_reducible refine gate_callee (f := 12) rfl ?_); refine goesL_ (some 22) rfl rfl Try.func12 (by kernel_rfl) rfl #[.agg #[.slice Ao29 t221.length co29, .slice Ao31 t224.length co31], .slice none 0 0, .int .i64 1, .agg #[.int .i64 0, .int .i64 0, .int .i64 0]] rfl (by (try simp only [List.map_toArray, List.map_cons, List.map_nil]); first | done | rfl | (simp only [List.length_drop, List.length_take]; rfl)) ?_; (refine (opt_Apply.calls k _ _ t221 _ _ t224 _ _ ([] : List (S30)) 1 0 0 0 t233 t236 t239 _ ?side1 ?side2 ?side3 ?side4 ?side5 ?side6 A5.out).mono ?_); (case side1 => repeat (first | exact (Kd.R_reads' HO223.out).2.2 | (with_reducible refine Kd.C_alloc ?_ _) | (with_reducible refine Kd.C_drewN ?_ _) | (with_reducible refine Kd.C_drew ?_))); (case side2 => exact (Kd.R_reads' HO223.out).2.1); (case side3 => repeat (first | exact (Kd.R_reads' HO226.out).2.2 | (with_reducible refine Kd.C_alloc ?_ _) | (with_reducible refine Kd.C_drewN ?_ _) | (with_reducible refine Kd.C_drew ?_))); (case side4 => exact (Kd.R_reads' HO226.out).2.1); (case side5 => exact Kd.C_nil _ _); (case side6 => exact Nat.le_refl _); rintro e w36 ⟨v234, v237, rfl, ho0, ho1, hb⟩; refine ⟨_, rfl, ?_⟩; have n0_ := Aside0.mk (Kd.R_mono (Kd.R_told (Kd.R_told (Kd.R_old (rs_3 HO220.out) hb) (Kd.R_base ho0)) (Kd.R_base ho1)) (fun _ h_ => h_.1)); have n1_ := Aside0.mk (Kd.R_mono (Kd.R_told (Kd.R_told (Kd.R_old (rs_3 HO223.out) hb) (Kd.R_base ho0)) (Kd.R_base ho1)) (fun _ h_ => h_.1)); have n2_ := Aside0.mk (Kd.R_mono (Kd.R_told (Kd.R_told (Kd.R_old (rs_3 HO226.out) hb) (Kd.R_base ho0)) (Kd.R_base ho1)) (fun _ h_ => h_.1)); have n3_ := Aside0.mk (Kd.R_below (rs_3 HO232.out) hb); have n4_ := Aside0.mk (Kd.R_lower (Kd.R_new' (Kd.R_new' (Kd.R_new' ho0 (Kd.R_lt (rs_3 HO220.out))) (Kd.R_lt (rs_3 HO223.out))) (Kd.R_lt (rs_3 HO226.out))) (below_size (ws1_3 HB GE227))); have n5_ := Aside0.mk (Kd.R_lower (Kd.R_new' (Kd.R_new' (Kd.R_new' ho1 (Kd.R_lt (rs_3 HO220.out))) (Kd.R_lt (rs_3 HO223.out))) (Kd.R_lt (rs_3 HO226.out))) (below_size (ws1_3 HB GE227))); have n6_ := Aside0.mk (blk_below (g := gb227) (o := .cells #[.slice Ao29 t221.length co29, .slice Ao31 t224.length co31] 25 (0, 0)) (bs_3 BK227) hb); have n7_ := Aside0.mk (below_step (ws1_3 HB GE227) hb); clear HO220; clear HO223; clear HO226; clear HO232; clear BK227; clear HB; have HO220 := n0_; have HO223 := n1_; have HO226 := n2_; have HO232 := n3_; have HO235 := n4_; have HO238 := n5_; have BK227 := n6_; have HB := n7_; clear n0_ n1_ n2_ n3_ n4_ n5_ n6_ n7_; (try clear hb); (try clear hb2); (try clear hk); (try clear hi); (try clear ho0); (try clear ho1)) | ((with_reducible refine gate_dst (N := 3) rfl ?_); refine box_event ?hg (N := 3) ?hd (cs := #[.slice none 0 0, .slice none 0 0]) (t := 25) ?hr ?_; (case hd => rfl); (case hg => rfl); (case hr => first | (go_simp; done) | (go_simp; rfl)); intro gb240 hg w37 hbox hb; have n0_ := Aside0.mk (Kd.R_below (rs_3 HO220.out) hb); have n1_ := Aside0.mk (Kd.R_below (rs_3 HO223.out) hb); have n2_ := Aside0.mk (Kd.R_below (rs_3 HO226.out) hb); have n3_ := Aside0.mk (Kd.R_below (rs_3 HO232.out) hb); have n4_ := Aside0.mk (Kd.R_below (rs_3 HO235.out) hb); have n5_ := Aside0.mk (Kd.R_below (rs_3 HO238.out) hb); have n6_ := Aside0.mk (blk_below (g := gb227) (o := .cells #[.slice Ao29 t221.length co29, .slice Ao31 t224.length co31] 25 (0, 0)) (bs_3 BK227) hb); have n7_ := Aside0.mk (below_step (ws1_3 HB GE227) hb); have n8_ := Aside0.mk (hbox); have n9_ := Aside0.mk ((by rw [hg]; exact (below_size (ws1_3 HB GE227)) : w.heap.size ≤ gb240)); have n10_ := Aside0.mk ((by rw [hg]; exact (below_size (ws1_3 HB GE227)) : w.heap.size ≤ gb240)); have n11_ := Aside0.mk ((by rw [hg]; exact Nat.ne_of_lt (blk_lt (g := gb227) (o := .cells #[.slice Ao29 t221.length co29, .slice Ao31 t224.length co31] 25 (0, 0)) (bs_3 BK227)) : gb227 ≠ gb240)); have n12_ := Aside0.mk ((by rw [hg]; exact Nat.ne_of_gt (blk_lt (g := gb227) (o := .cells #[.slice Ao29 t221.length co29, .slice Ao31 t224.length co31] 25 (0, 0)) (bs_3 BK227)) : gb240 ≠ gb227)); clear HO220; clear HO223; clear HO226; clear HO232; clear HO235; clear HO238; clear BK227; clear HB; have HO220 := n0_; have HO223 := n1_; have HO226 := n2_; have HO232 := n3_; have HO235 := n4_; have HO238 := n5_; have BK227 := n6_; have HB := n7_; have BK240 := n8_; have GW240 := n9_; have GE240 := n10_; have NB227_240 := n11_; have NB240_227 := n12_; clear n0_ n1_ n2_ n3_ n4_ n5_ n6_ n7_ n8_ n9_ n10_ n11_ n12_; clear hb hbox hg; obtain ⟨Ao38, co38, eo38⟩ := Kd.R_slice HO235.out; subst eo38; have hnb39 := NB240_227.out; have hnc39 := NB227_240.out; have hcz40_0 : w37.cell? ⟨gb240, 0, none⟩ = some (.slice none 0 0) := (blk_cell BK240.out 0).trans rfl; have hcz40_1 : w37.cell? ⟨gb240, 1, none⟩ = some (.slice none 0 0) := (blk_cell BK240.out 1).trans rfl; have hfz40_0 := blk_frozen BK240.out 0; have hfz40_1 := blk_frozen BK240.out 1; obtain ⟨Ao41, co41, eo41⟩ := Kd.R_slice HO238.out; subst eo41; have hcz42_0 : w37.cell? ⟨gb227, 0, none⟩ = some (.slice Ao29 t221.length co29) := (blk_cell BK227.out 0).trans rfl; have hcz42_1 : w37.cell? ⟨gb227, 1, none⟩ = some (.slice Ao31 t224.length co31) := (blk_cell BK227.out 1).trans rfl; have hfz42_0 := blk_frozen BK227.out 0; have hfz42_1 := blk_frozen BK227.out 1; obtain ⟨Ao43, co43, eo43⟩ := Kd.R_slice HO232.out; subst eo43) | ((with_reducible refine gate_callee (f := 12) rfl ?_); refine goesL_ (some 29) rfl rfl Try.func12 (by kernel_rfl) rfl #[.agg #[.slice Ao29 t221.length co29, .slice Ao31 t224.length co31], .slice Ao43 y230.length co43, .int .i64 0, .agg #[.int .i64 0, .int .i64 0, .int .i64 0]] rfl (by (try simp only [List.map_toArray, List.map_cons, List.map_nil]); first | done | rfl | (simp only [List.length_drop, List.length_take]; rfl)) ?_; (with_reducible refine (opt_Apply.calls k _ _ t221 _ _ t224 _ _ y230 0 0 0 0 t241 t244 t247 _ ?side1 ?side2 ?side3 ?side4 ?side5 ?side6 A6.out).mono ?_); (case side1 => refine (Kd.R_reads' (e := 27) (base := w.heap.size) (ok := fun k_ => (((some k_ ≠ (.slice Ao31 t224.length co31 : Value).ownBlock ∧ some k_ ≠ (.slice Ao26 y218.length co26 : Value).ownBlock) ∧ some k_ ≠ (.slice Ao38 t233.length co38 : Value).ownBlock) ∧ some k_ ≠ (.slice Ao41 t236.length co41 : Value).ownBlock)) (n := t221.length) (c := co29) ?_).2.2; exact (rs_3 ((Kd.R_mono (Kd.R_far (p := ⟨gb240, 1, none⟩) (Kd.R_far (p := ⟨gb240, 0, none⟩) (Kd.R_types HO223.out BK240.out (by decide)) (fun _ hk => hk.2) (.slice Ao38 t233.length co38)) (fun _ hk => hk.2) (.slice Ao41 t236.length co41)) (fun _ h_ => h_.1))))); (case side2 => exact (Kd.R_reads' HO223.out).2.1); (case side3 => refine (Kd.R_reads' (e := 27) (base := w.heap.size) (ok := fun k_ => (((some k_ ≠ (.slice Ao29 t221.length co29 : Value).ownBlock ∧ some k_ ≠ (.slice Ao26 y218.length co26 : Value).ownBlock) ∧ some k_ ≠ (.slice Ao38 t233.length co38 : Value).ownBlock) ∧ some k_ ≠ (.slice Ao41 t236.length co41 : Value).ownBlock)) (n := t224.length) (c := co31) ?_).2.2; exact (rs_3 ((Kd.R_mono (Kd.R_far (p := ⟨gb240, 1, none⟩) (Kd.R_far (p := ⟨gb240, 0, none⟩) (Kd.R_types HO226.out BK240.out (by decide)) (fun _ hk => hk.2) (.slice Ao38 t233.length co38)) (fun _ hk => hk.2) (.slice Ao41 t236.length co41)) (fun _ h_ => h_.1))))); (case side4 => exact (Kd.R_reads' HO226.out).2.1); (case side5 => refine (Kd.R_reads' (e := 30) (base := w.heap.size) (ok := fun k_ => True) (n := y230.length) (c := co43) ?_).2.2; exact (rs_3 ((Kd.R_mono (Kd.R_far (p := ⟨gb240, 1, none⟩) (Kd.R_far (p := ⟨gb240, 0, none⟩) (Kd.R_types HO232.out BK240.out (by decide)) (fun _ hk => hk.2) (.slice Ao38 t233.length co38)) (fun _ hk => hk.2) (.slice Ao41 t236.length co41)) (fun _ h_ => h_.1))))); (case side6 => exact (Kd.R_reads' HO232.out).2.1); rintro e w44 ⟨v242, v245, rfl, ho0, ho1, hb⟩; refine ⟨_, rfl, ?_⟩; have n0_ := Aside0.mk (Kd.R_mono (Kd.R_told (Kd.R_told (Kd.R_old (rs_3 ((Kd.R_mono (Kd.R_far (p := ⟨gb240, 1, none⟩) (Kd.R_far (p := ⟨gb240, 0, none⟩) (Kd.R_types HO220.out BK240.out (by decide)) (fun _ hk => hk.2) (.slice Ao38 t233.length co38)) (fun _ hk => hk.2) (.slice Ao41 t236.length co41)) (fun _ h_ => h_.1)))) hb) (Kd.R_base ho0)) (Kd.R_base ho1)) (fun _ h_ => h_.1)); have n1_ := Aside0.mk (Kd.R_mono (Kd.R_told (Kd.R_told (Kd.R_old (rs_3 ((Kd.R_mono (Kd.R_far (p := ⟨gb240, 1, none⟩) (Kd.R_far (p := ⟨gb240, 0, none⟩) (Kd.R_types HO223.out BK240.out (by decide)) (fun _ hk => hk.2) (.slice Ao38 t233.length co38)) (fun _ hk => hk.2) (.slice Ao41 t236.length co41)) (fun _ h_ => h_.1)))) hb) (Kd.R_base ho0)) (Kd.R_base ho1)) (fun _ h_ => h_.1)); have n2_ := Aside0.mk (Kd.R_mono (Kd.R_told (Kd.R_told (Kd.R_old (rs_3 ((Kd.R_mono (Kd.R_far (p := ⟨gb240, 1, none⟩) (Kd.R_far (p := ⟨gb240, 0, none⟩) (Kd.R_types HO226.out BK240.out (by decide)) (fun _ hk => hk.2) (.slice Ao38 t233.length co38)) (fun _ hk => hk.2) (.slice Ao41 t236.length co41)) (fun _ h_ => h_.1)))) hb) (Kd.R_base ho0)) (Kd.R_base ho1)) (fun _ h_ => h_.1)); have n3_ := Aside0.mk (Kd.R_below (rs_3 ((Kd.R_mono (Kd.R_far (p := ⟨gb240, 1, none⟩) (Kd.R_far (p := ⟨gb240, 0, none⟩) (Kd.R_types HO232.out BK240.out (by decide)) (fun _ hk => hk.2) (.slice Ao38 t233.length co38)) (fun _ hk => hk.2) (.slice Ao41 t236.length co41)) (fun _ h_ => h_.1)))) hb); have n4_ := Aside0.mk (Kd.R_mono (Kd.R_told (Kd.R_told (Kd.R_old (rs_3 ((Kd.R_mono (Kd.R_far (p := ⟨gb240, 1, none⟩) (Kd.R_far (p := ⟨gb240, 0, none⟩) (Kd.R_types HO235.out BK240.out (by decide)) (fun _ hk => hk.2) (.slice Ao38 t233.length co38)) (fun _ hk => hk.2) (.slice Ao41 t236.length co41)) (fun _ h_ => h_.1)))) hb) (Kd.R_base ho0)) (Kd.R_base ho1)) (fun _ h_ => h_.1)); have n5_ := Aside0.mk (Kd.R_mono (Kd.R_told (Kd.R_told (Kd.R_old (rs_3 ((Kd.R_mono (Kd.R_far (p := ⟨gb240, 1, none⟩) (Kd.R_far (p := ⟨gb240, 0, none⟩) (Kd.R_types HO238.out BK240.out (by decide)) (fun _ hk => hk.2) (.slice Ao38 t233.length co38)) (fun _ hk => hk.2) (.slice Ao41 t236.length co41)) (fun _ h_ => h_.1)))) hb) (Kd.R_base ho0)) (Kd.R_base ho1)) (fun _ h_ => h_.1)); have n6_ := Aside0.mk (Kd.R_lower (Kd.R_new' (Kd.R_new' (Kd.R_new' (Kd.R_new' (Kd.R_new' ho0 (Kd.R_lt (rs_3 ((Kd.R_mono (Kd.R_far (p := ⟨gb240, 1, none⟩) (Kd.R_far (p := ⟨gb240, 0, none⟩) (Kd.R_types HO220.out BK240.out (by decide)) (fun _ hk => hk.2) (.slice Ao38 t233.length co38)) (fun _ hk => hk.2) (.slice Ao41 t236.length co41)) (fun _ h_ => h_.1)))))) (Kd.R_lt (rs_3 ((Kd.R_mono (Kd.R_far (p := ⟨gb240, 1, none⟩) (Kd.R_far (p := ⟨gb240, 0, none⟩) (Kd.R_types HO223.out BK240.out (by decide)) (fun _ hk => hk.2) (.slice Ao38 t233.length co38)) (fun _ hk => hk.2) (.slice Ao41 t236.length co41)) (fun _ h_ => h_.1)))))) (Kd.R_lt (rs_3 ((Kd.R_mono (Kd.R_far (p := ⟨gb240, 1, none⟩) (Kd.R_far (p := ⟨gb240, 0, none⟩) (Kd.R_types HO226.out BK240.out (by decide)) (fun _ hk => hk.2) (.slice Ao38 t233.length co38)) (fun _ hk => hk.2) (.slice Ao41 t236.length co41)) (fun _ h_ => h_.1)))))) (Kd.R_lt (rs_3 ((Kd.R_mono (Kd.R_far (p := ⟨gb240, 1, none⟩) (Kd.R_far (p := ⟨gb240, 0, none⟩) (Kd.R_types HO235.out BK240.out (by decide)) (fun _ hk => hk.2) (.slice Ao38 t233.length co38)) (fun _ hk => hk.2) (.slice Ao41 t236.length co41)) (fun _ h_ => h_.1)))))) (Kd.R_lt (rs_3 ((Kd.R_mono (Kd.R_far (p := ⟨gb240, 1, none⟩) (Kd.R_far (p := ⟨gb240, 0, none⟩) (Kd.R_types HO238.out BK240.out (by decide)) (fun _ hk => hk.2) (.slice Ao38 t233.length co38)) (fun _ hk => hk.2) (.slice Ao41 t236.length co41)) (fun _ h_ => h_.1)))))) (below_size (ws2_3 HB GE227 GE240))); have n7_ := Aside0.mk (Kd.R_lower (Kd.R_new' (Kd.R_new' (Kd.R_new' (Kd.R_new' (Kd.R_new' ho1 (Kd.R_lt (rs_3 ((Kd.R_mono (Kd.R_far (p := ⟨gb240, 1, none⟩) (Kd.R_far (p := ⟨gb240, 0, none⟩) (Kd.R_types HO220.out BK240.out (by decide)) (fun _ hk => hk.2) (.slice Ao38 t233.length co38)) (fun _ hk => hk.2) (.slice Ao41 t236.length co41)) (fun _ h_ => h_.1)))))) (Kd.R_lt (rs_3 ((Kd.R_mono (Kd.R_far (p := ⟨gb240, 1, none⟩) (Kd.R_far (p := ⟨gb240, 0, none⟩) (Kd.R_types HO223.out BK240.out (by decide)) (fun _ hk => hk.2) (.slice Ao38 t233.length co38)) (fun _ hk => hk.2) (.slice Ao41 t236.length co41)) (fun _ h_ => h_.1)))))) (Kd.R_lt (rs_3 ((Kd.R_mono (Kd.R_far (p := ⟨gb240, 1, none⟩) (Kd.R_far (p := ⟨gb240, 0, none⟩) (Kd.R_types HO226.out BK240.out (by decide)) (fun _ hk => hk.2) (.slice Ao38 t233.length co38)) (fun _ hk => hk.2) (.slice Ao41 t236.length co41)) (fun _ h_ => h_.1)))))) (Kd.R_lt (rs_3 ((Kd.R_mono (Kd.R_far (p := ⟨gb240, 1, none⟩) (Kd.R_far (p := ⟨gb240, 0, none⟩) (Kd.R_types HO235.out BK240.out (by decide)) (fun _ hk => hk.2) (.slice Ao38 t233.length co38)) (fun _ hk => hk.2) (.slice Ao41 t236.length co41)) (fun _ h_ => h_.1)))))) (Kd.R_lt (rs_3 ((Kd.R_mono (Kd.R_far (p := ⟨gb240, 1, none⟩) (Kd.R_far (p := ⟨gb240, 0, none⟩) (Kd.R_types HO238.out BK240.out (by decide)) (fun _ hk => hk.2) (.slice Ao38 t233.length co38)) (fun _ hk => hk.2) (.slice Ao41 t236.length co41)) (fun _ h_ => h_.1)))))) (below_size (ws2_3 HB GE227 GE240))); have n8_ := Aside0.mk (blk_below (g := gb227) (o := .cells #[.slice Ao29 t221.length co29, .slice Ao31 t224.length co31] 25 (0, 0)) (by (with_reducible repeat (first | refine blk_drewN ?_ _ | refine blk_drew ?_ | refine blk_alloc ?_ _)); refine blk_far ?_ NB227_240.out _; (with_reducible repeat (first | refine blk_drewN ?_ _ | refine blk_drew ?_ | refine blk_alloc ?_ _)); refine blk_far ?_ NB227_240.out _; (with_reducible repeat (first | refine blk_drewN ?_ _ | refine blk_drew ?_ | refine blk_alloc ?_ _)); exact BK227.out) hb); have n9_ := Aside0.mk (blk_below (g := gb240) (o := .cells #[.slice Ao38 t233.length co38, .slice Ao41 t236.length co41] 25 (0, 0)) (by (with_reducible repeat (first | refine blk_drewN ?_ _ | refine blk_drew ?_ | refine blk_alloc ?_ _)); refine blk_put (cs := #[.slice Ao38 t233.length co38, .slice none 0 0]) ?_ 1 _ rfl; (with_reducible repeat (first | refine blk_drewN ?_ _ | refine blk_drew ?_ | refine blk_alloc ?_ _)); refine blk_put (cs := #[.slice none 0 0, .slice none 0 0]) ?_ 0 _ rfl; (with_reducible repeat (first | refine blk_drewN ?_ _ | refine blk_drew ?_ | refine blk_alloc ?_ _)); exact BK240.out) hb); have n10_ := Aside0.mk (below_step (ws2_3 HB GE227 GE240) hb); clear HO220; clear HO223; clear HO226; clear HO232; clear HO235; clear HO238; clear BK227; clear BK240; clear HB; have HO220 := n0_; have HO223 := n1_; have HO226 := n2_; have HO232 := n3_; have HO235 := n4_; have HO238 := n5_; have HO243 := n6_; have HO246 := n7_; have BK227 := n8_; have BK240 := n9_; have HB := n10_; clear n0_ n1_ n2_ n3_ n4_ n5_ n6_ n7_ n8_ n9_ n10_; (try clear hb); (try clear hb2); (try clear hk); (try clear hi); (try clear ho0); (try clear ho1)) | ((with_reducible refine gate_dst (N := 5) rfl ?_); refine box_event ?hg (N := 5) ?hd (cs := #[.slice none 0 0, .slice none 0 0]) (t := 25) ?hr ?_; (case hd => rfl); (case hg => rfl); (case hr => first | (go_simp; done) | (go_simp; rfl)); intro gb248 hg w45 hbox hb; have n0_ := Aside0.mk (Kd.R_below (rs_3 HO220.out) hb); have n1_ := Aside0.mk (Kd.R_below (rs_3 HO223.out) hb); have n2_ := Aside0.mk (Kd.R_below (rs_3 HO226.out) hb); have n3_ := Aside0.mk (Kd.R_below (rs_3 HO232.out) hb); have n4_ := Aside0.mk (Kd.R_below (rs_3 HO235.out) hb); have n5_ := Aside0.mk (Kd.R_below (rs_3 HO238.out) hb); have n6_ := Aside0.mk (Kd.R_below (rs_3 HO243.out) hb); have n7_ := Aside0.mk (Kd.R_below (rs_3 HO246.out) hb); have n8_ := Aside0.mk (blk_below (g := gb227) (o := .cells #[.slice Ao29 t221.length co29, .slice Ao31 t224.length co31] 25 (0, 0)) (bs_3 BK227) hb); have n9_ := Aside0.mk (blk_below (g := gb240) (o := .cells #[.slice Ao38 t233.length co38, .slice Ao41 t236.length co41] 25 (0, 0)) (bs_3 BK240) hb); have n10_ := Aside0.mk (below_step (ws2_3 HB GE227 GE240) hb); have n11_ := Aside0.mk (hbox); have n12_ := Aside0.mk ((by rw [hg]; exact (below_size (ws2_3 HB GE227 GE240)) : w.heap.size ≤ gb248)); have n13_ := Aside0.mk ((by rw [hg]; exact (below_size (ws2_3 HB GE227 GE240)) : w.heap.size ≤ gb248)); have n14_ := Aside0.mk ((by rw [hg]; exact Nat.ne_of_lt (blk_lt (g := gb227) (o := .cells #[.slice Ao29 t221.length co29, .slice Ao31 t224.length co31] 25 (0, 0)) (bs_3 BK227)) : gb227 ≠ gb248)); have n15_ := Aside0.mk ((by rw [hg]; exact Nat.ne_of_gt (blk_lt (g := gb227) (o := .cells #[.slice Ao29 t221.length co29, .slice Ao31 t224.length co31] 25 (0, 0)) (bs_3 BK227)) : gb248 ≠ gb227)); have n16_ := Aside0.mk ((by rw [hg]; exact Nat.ne_of_lt (blk_lt (g := gb240) (o := .cells #[.slice Ao38 t233.length co38, .slice Ao41 t236.length co41] 25 (0, 0)) (bs_3 BK240)) : gb240 ≠ gb248)); have n17_ := Aside0.mk ((by rw [hg]; exact Nat.ne_of_gt (blk_lt (g := gb240) (o := .cells #[.slice Ao38 t233.length co38, .slice Ao41 t236.length co41] 25 (0, 0)) (bs_3 BK240)) : gb248 ≠ gb240)); clear HO220; clear HO223; clear HO226; clear HO232; clear HO235; clear HO238; clear HO243; clear HO246; clear BK227; clear BK240; clear HB; have HO220 := n0_; have HO223 := n1_; have HO226 := n2_; have HO232 := n3_; have HO235 := n4_; have HO238 := n5_; have HO243 := n6_; have HO246 := n7_; have BK227 := n8_; have BK240 := n9_; have HB := n10_; have BK248 := n11_; have GW248 := n12_; have GE248 := n13_; have NB227_248 := n14_; have NB248_227 := n15_; have NB240_248 := n16_; have NB248_240 := n17_; clear n0_ n1_ n2_ n3_ n4_ n5_ n6_ n7_ n8_ n9_ n10_ n11_ n12_ n13_ n14_ n15_ n16_ n17_; clear hb hbox hg; obtain ⟨Ao46, co46, eo46⟩ := Kd.R_slice HO243.out; subst eo46; have hnb47 := NB248_227.out; have hnc47 := NB227_248.out; have hnb48 := NB248_240.out; have hnc48 := NB240_248.out; have hcz49_0 : w45.cell? ⟨gb248, 0, none⟩ = some (.slice none 0 0) := (blk_cell BK248.out 0).trans rfl; have hcz49_1 : w45.cell? ⟨gb248, 1, none⟩ = some (.slice none 0 0) := (blk_cell BK248.out 1).trans rfl; have hfz49_0 := blk_frozen BK248.out 0; have hfz49_1 := blk_frozen BK248.out 1; obtain ⟨Ao50, co50, eo50⟩ := Kd.R_slice HO246.out; subst eo50; have hcz51_0 : w45.cell? ⟨gb227, 0, none⟩ = some (.slice Ao29 t221.length co29) := (blk_cell BK227.out 0).trans rfl; have hcz51_1 : w45.cell? ⟨gb227, 1, none⟩ = some (.slice Ao31 t224.length co31) := (blk_cell BK227.out 1).trans rfl; have hfz51_0 := blk_frozen BK227.out 0; have hfz51_1 := blk_frozen BK227.out 1) | ((with_reducible refine gate_callee (f := 12) rfl ?_); refine goesL_ (some 36) rfl rfl Try.func12 (by kernel_rfl) rfl #[.agg #[.slice Ao29 t221.length co29, .slice Ao31 t224.length co31], .slice Ao43 y230.length co43, .int .i64 1, .agg #[.int .i64 0, .int .i64 0, .int .i64 (-1)]] rfl (by (try simp only [List.map_toArray, List.map_cons, List.map_nil]); first | done | rfl | (simp only [List.length_drop, List.length_take]; rfl)) ?_; (with_reducible refine (opt_Apply.calls k _ _ t221 _ _ t224 _ _ y230 1 0 0 (-1) t249 t252 t255 _ ?side1 ?side2 ?side3 ?side4 ?side5 ?side6 A7.out).mono ?_); (case side1 => refine (Kd.R_reads' (e := 27) (base := w.heap.size) (ok := fun k_ => (((((some k_ ≠ (.slice Ao31 t224.length co31 : Value).ownBlock ∧ some k_ ≠ (.slice Ao26 y218.length co26 : Value).ownBlock) ∧ some k_ ≠ (.slice Ao38 t233.length co38 : Value).ownBlock) ∧ some k_ ≠ (.slice Ao41 t236.length co41 : Value).ownBlock) ∧ some k_ ≠ (.slice Ao46 t241.length co46 : Value).ownBlock) ∧ some k_ ≠ (.slice Ao50 t244.length co50 : Value).ownBlock)) (n := t221.length) (c := co29) ?_).2.2; exact (rs_3 ((Kd.R_mono (Kd.R_far (p := ⟨gb248, 1, none⟩) (Kd.R_far (p := ⟨gb248, 0, none⟩) (Kd.R_types HO223.out BK248.out (by decide)) (fun _ hk => hk.2) (.slice Ao46 t241.length co46)) (fun _ hk => hk.2) (.slice Ao50 t244.length co50)) (fun _ h_ => h_.1))))); (case side2 => exact (Kd.R_reads' HO223.out).2.1); (case side3 => refine (Kd.R_reads' (e := 27) (base := w.heap.size) (ok := fun k_ => (((((some k_ ≠ (.slice Ao29 t221.length co29 : Value).ownBlock ∧ some k_ ≠ (.slice Ao26 y218.length co26 : Value).ownBlock) ∧ some k_ ≠ (.slice Ao38 t233.length co38 : Value).ownBlock) ∧ some k_ ≠ (.slice Ao41 t236.length co41 : Value).ownBlock) ∧ some k_ ≠ (.slice Ao46 t241.length co46 : Value).ownBlock) ∧ some k_ ≠ (.slice Ao50 t244.length co50 : Value).ownBlock)) (n := t224.length) (c := co31) ?_).2.2; exact (rs_3 ((Kd.R_mono (Kd.R_far (p := ⟨gb248, 1, none⟩) (Kd.R_far (p := ⟨gb248, 0, none⟩) (Kd.R_types HO226.out BK248.out (by decide)) (fun _ hk => hk.2) (.slice Ao46 t241.length co46)) (fun _ hk => hk.2) (.slice Ao50 t244.length co50)) (fun _ h_ => h_.1))))); (case side4 => exact (Kd.R_reads' HO226.out).2.1); (case side5 => refine (Kd.R_reads' (e := 30) (base := w.heap.size) (ok := fun k_ => True) (n := y230.length) (c := co43) ?_).2.2; exact (rs_3 ((Kd.R_mono (Kd.R_far (p := ⟨gb248, 1, none⟩) (Kd.R_far (p := ⟨gb248, 0, none⟩) (Kd.R_types HO232.out BK248.out (by decide)) (fun _ hk => hk.2) (.slice Ao46 t241.length co46)) (fun _ hk => hk.2) (.slice Ao50 t244.length co50)) (fun _ h_ => h_.1))))); (case side6 => exact (Kd.R_reads' HO232.out).2.1); rintro e w52 ⟨v250, v253, rfl, ho0, ho1, hb⟩; refine ⟨_, rfl, ?_⟩; have n0_ := Aside0.mk (Kd.R_mono (Kd.R_told (Kd.R_told (Kd.R_old (rs_3 ((Kd.R_mono (Kd.R_far (p := ⟨gb248, 1, none⟩) (Kd.R_far (p := ⟨gb248, 0, none⟩) (Kd.R_types HO220.out BK248.out (by decide)) (fun _ hk => hk.2) (.slice Ao46 t241.length co46)) (fun _ hk => hk.2) (.slice Ao50 t244.length co50)) (fun _ h_ => h_.1)))) hb) (Kd.R_base ho0)) (Kd.R_base ho1)) (fun _ h_ => h_.1)); have n1_ := Aside0.mk (Kd.R_mono (Kd.R_told (Kd.R_told (Kd.R_old (rs_3 ((Kd.R_mono (Kd.R_far (p := ⟨gb248, 1, none⟩) (Kd.R_far (p := ⟨gb248, 0, none⟩) (Kd.R_types HO223.out BK248.out (by decide)) (fun _ hk => hk.2) (.slice Ao46 t241.length co46)) (fun _ hk => hk.2) (.slice Ao50 t244.length co50)) (fun _ h_ => h_.1)))) hb) (Kd.R_base ho0)) (Kd.R_base ho1)) (fun _ h_ => h_.1)); have n2_ := Aside0.mk (Kd.R_mono (Kd.R_told (Kd.R_told (Kd.R_old (rs_3 ((Kd.R_mono (Kd.R_far (p := ⟨gb248, 1, none⟩) (Kd.R_far (p := ⟨gb248, 0, none⟩) (Kd.R_types HO226.out BK248.out (by decide)) (fun _ hk => hk.2) (.slice Ao46 t241.length co46)) (fun _ hk => hk.2) (.slice Ao50 t244.length co50)) (fun _ h_ => h_.1)))) hb) (Kd.R_base ho0)) (Kd.R_base ho1)) (fun _ h_ => h_.1)); have n3_ := Aside0.mk (Kd.R_below (rs_3 ((Kd.R_mono (Kd.R_far (p := ⟨gb248, 1, none⟩) (Kd.R_far (p := ⟨gb248, 0, none⟩) (Kd.R_types HO232.out BK248.out (by decide)) (fun _ hk => hk.2) (.slice Ao46 t241.length co46)) (fun _ hk => hk.2) (.slice Ao50 t244.length co50)) (fun _ h_ => h_.1)))) hb); have n4_ := Aside0.mk (Kd.R_mono (Kd.R_told (Kd.R_told (Kd.R_old (rs_3 ((Kd.R_mono (Kd.R_far (p := ⟨gb248, 1, none⟩) (Kd.R_far (p := ⟨gb248, 0, none⟩) (Kd.R_types HO235.out BK248.out (by decide)) (fun _ hk => hk.2) (.slice Ao46 t241.length co46)) (fun _ hk => hk.2) (.slice Ao50 t244.length co50)) (fun _ h_ => h_.1)))) hb) (Kd.R_base ho0)) (Kd.R_base ho1)) (fun _ h_ => h_.1)); have n5_ := Aside0.mk (Kd.R_mono (Kd.R_told (Kd.R_told (Kd.R_old (rs_3 ((Kd.R_mono (Kd.R_far (p := ⟨gb248, 1, none⟩) (Kd.R_far (p := ⟨gb248, 0, none⟩) (Kd.R_types HO238.out BK248.out (by decide)) (fun _ hk => hk.2) (.slice Ao46 t241.length co46)) (fun _ hk => hk.2) (.slice Ao50 t244.length co50)) (fun _ h_ => h_.1)))) hb) (Kd.R_base ho0)) (Kd.R_base ho1)) (fun _ h_ => h_.1)); have n6_ := Aside0.mk (Kd.R_mono (Kd.R_told (Kd.R_told (Kd.R_old (rs_3 ((Kd.R_mono (Kd.R_far (p := ⟨gb248, 1, none⟩) (Kd.R_far (p := ⟨gb248, 0, none⟩) (Kd.R_types HO243.out BK248.out (by decide)) (fun _ hk => hk.2) (.slice Ao46 t241.length co46)) (fun _ hk => hk.2) (.slice Ao50 t244.length co50)) (fun _ h_ => h_.1)))) hb) (Kd.R_base ho0)) (Kd.R_base ho1)) (fun _ h_ => h_.1)); have n7_ := Aside0.mk (Kd.R_mono (Kd.R_told (Kd.R_told (Kd.R_old (rs_3 ((Kd.R_mono (Kd.R_far (p := ⟨gb248, 1, none⟩) (Kd.R_far (p := ⟨gb248, 0, none⟩) (Kd.R_types HO246.out BK248.out (by decide)) (fun _ hk => hk.2) (.slice Ao46 t241.length co46)) (fun _ hk => hk.2) (.slice Ao50 t244.length co50)) (fun _ h_ => h_.1)))) hb) (Kd.R_base ho0)) (Kd.R_base ho1)) (fun _ h_ => h_.1)); have n8_ := Aside0.mk (Kd.R_lower (Kd.R_new' (Kd.R_new' (Kd.R_new' (Kd.R_new' (Kd.R_new' (Kd.R_new' (Kd.R_new' ho0 (Kd.R_lt (rs_3 ((Kd.R_mono (Kd.R_far (p := ⟨gb248, 1, none⟩) (Kd.R_far (p := ⟨gb248, 0, none⟩) (Kd.R_types HO220.out BK248.out (by decide)) (fun _ hk => hk.2) (.slice Ao46 t241.length co46)) (fun _ hk => hk.2) (.slice Ao50 t244.length co50)) (fun _ h_ => h_.1)))))) (Kd.R_lt (rs_3 ((Kd.R_mono (Kd.R_far (p := ⟨gb248, 1, none⟩) (Kd.R_far (p := ⟨gb248, 0, none⟩) (Kd.R_types HO223.out BK248.out (by decide)) (fun _ hk => hk.2) (.slice Ao46 t241.length co46)) (fun _ hk => hk.2) (.slice Ao50 t244.length co50)) (fun _ h_ => h_.1)))))) (Kd.R_lt (rs_3 ((Kd.R_mono (Kd.R_far (p := ⟨gb248, 1, none⟩) (Kd.R_far (p := ⟨gb248, 0, none⟩) (Kd.R_types HO226.out BK248.out (by decide)) (fun _ hk => hk.2) (.slice Ao46 t241.length co46)) (fun _ hk => hk.2) (.slice Ao50 t244.length co50)) (fun _ h_ => h_.1)))))) (Kd.R_lt (rs_3 ((Kd.R_mono (Kd.R_far (p := ⟨gb248, 1, none⟩) (Kd.R_far (p := ⟨gb248, 0, none⟩) (Kd.R_types HO235.out BK248.out (by decide)) (fun _ hk => hk.2) (.slice Ao46 t241.length co46)) (fun _ hk => hk.2) (.slice Ao50 t244.length co50)) (fun _ h_ => h_.1)))))) (Kd.R_lt (rs_3 ((Kd.R_mono (Kd.R_far (p := ⟨gb248, 1, none⟩) (Kd.R_far (p := ⟨gb248, 0, none⟩) (Kd.R_types HO238.out BK248.out (by decide)) (fun _ hk => hk.2) (.slice Ao46 t241.length co46)) (fun _ hk => hk.2) (.slice Ao50 t244.length co50)) (fun _ h_ => h_.1)))))) (Kd.R_lt (rs_3 ((Kd.R_mono (Kd.R_far (p := ⟨gb248, 1, none⟩) (Kd.R_far (p := ⟨gb248, 0, none⟩) (Kd.R_types HO243.out BK248.out (by decide)) (fun _ hk => hk.2) (.slice Ao46 t241.length co46)) (fun _ hk => hk.2) (.slice Ao50 t244.length co50)) (fun _ h_ => h_.1)))))) (Kd.R_lt (rs_3 ((Kd.R_mono (Kd.R_far (p := ⟨gb248, 1, none⟩) (Kd.R_far (p := ⟨gb248, 0, none⟩) (Kd.R_types HO246.out BK248.out (by decide)) (fun _ hk => hk.2) (.slice Ao46 t241.length co46)) (fun _ hk => hk.2) (.slice Ao50 t244.length co50)) (fun _ h_ => h_.1)))))) (below_size (by repeat (first | (with_reducible first | exact HB.out | apply below_alloc | apply pw_below_drewN | apply below_drew1 | refine below_set ?_ GE227.out | refine below_set ?_ GE240.out | refine below_set ?_ GE248.out) | exact HB.out)))); have n9_ := Aside0.mk (Kd.R_lower (Kd.R_new' (Kd.R_new' (Kd.R_new' (Kd.R_new' (Kd.R_new' (Kd.R_new' (Kd.R_new' ho1 (Kd.R_lt (rs_3 ((Kd.R_mono (Kd.R_far (p := ⟨gb248, 1, none⟩) (Kd.R_far (p := ⟨gb248, 0, none⟩) (Kd.R_types HO220.out BK248.out (by decide)) (fun _ hk => hk.2) (.slice Ao46 t241.length co46)) (fun _ hk => hk.2) (.slice Ao50 t244.length co50)) (fun _ h_ => h_.1)))))) (Kd.R_lt (rs_3 ((Kd.R_mono (Kd.R_far (p := ⟨gb248, 1, none⟩) (Kd.R_far (p := ⟨gb248, 0, none⟩) (Kd.R_types HO223.out BK248.out (by decide)) (fun _ hk => hk.2) (.slice Ao46 t241.length co46)) (fun _ hk => hk.2) (.slice Ao50 t244.length co50)) (fun _ h_ => h_.1)))))) (Kd.R_lt (rs_3 ((Kd.R_mono (Kd.R_far (p := ⟨gb248, 1, none⟩) (Kd.R_far (p := ⟨gb248, 0, none⟩) (Kd.R_types HO226.out BK248.out (by decide)) (fun _ hk => hk.2) (.slice Ao46 t241.length co46)) (fun _ hk => hk.2) (.slice Ao50 t244.length co50)) (fun _ h_ => h_.1)))))) (Kd.R_lt (rs_3 ((Kd.R_mono (Kd.R_far (p := ⟨gb248, 1, none⟩) (Kd.R_far (p := ⟨gb248, 0, none⟩) (Kd.R_types HO235.out BK248.out (by decide)) (fun _ hk => hk.2) (.slice Ao46 t241.length co46)) (fun _ hk => hk.2) (.slice Ao50 t244.length co50)) (fun _ h_ => h_.1)))))) (Kd.R_lt (rs_3 ((Kd.R_mono (Kd.R_far (p := ⟨gb248, 1, none⟩) (Kd.R_far (p := ⟨gb248, 0, none⟩) (Kd.R_types HO238.out BK248.out (by decide)) (fun _ hk => hk.2) (.slice Ao46 t241.length co46)) (fun _ hk => hk.2) (.slice Ao50 t244.length co50)) (fun _ h_ => h_.1)))))) (Kd.R_lt (rs_3 ((Kd.R_mono (Kd.R_far (p := ⟨gb248, 1, none⟩) (Kd.R_far (p := ⟨gb248, 0, none⟩) (Kd.R_types HO243.out BK248.out (by decide)) (fun _ hk => hk.2) (.slice Ao46 t241.length co46)) (fun _ hk => hk.2) (.slice Ao50 t244.length co50)) (fun _ h_ => h_.1)))))) (Kd.R_lt (rs_3 ((Kd.R_mono (Kd.R_far (p := ⟨gb248, 1, none⟩) (Kd.R_far (p := ⟨gb248, 0, none⟩) (Kd.R_types HO246.out BK248.out (by decide)) (fun _ hk => hk.2) (.slice Ao46 t241.length co46)) (fun _ hk => hk.2) (.slice Ao50 t244.length co50)) (fun _ h_ => h_.1)))))) (below_size (by repeat (first | (with_reducible first | exact HB.out | apply below_alloc | apply pw_below_drewN | apply below_drew1 | refine below_set ?_ GE227.out | refine below_set ?_ GE240.out | refine below_set ?_ GE248.out) | exact HB.out)))); have n10_ := Aside0.mk (blk_below (g := gb227) (o := .cells #[.slice Ao29 t221.length co29, .slice Ao31 t224.length co31] 25 (0, 0)) (by (with_reducible repeat (first | refine blk_drewN ?_ _ | refine blk_drew ?_ | refine blk_alloc ?_ _)); refine blk_far ?_ NB227_248.out _; (with_reducible repeat (first | refine blk_drewN ?_ _ | refine blk_drew ?_ | refine blk_alloc ?_ _)); refine blk_far ?_ NB227_248.out _; (with_reducible repeat (first | refine blk_drewN ?_ _ | refine blk_drew ?_ | refine blk_alloc ?_ _)); exact BK227.out) hb); have n11_ := Aside0.mk (blk_below (g := gb240) (o := .cells #[.slice Ao38 t233.length co38, .slice Ao41 t236.length co41] 25 (0, 0)) (by (with_reducible repeat (first | refine blk_drewN ?_ _ | refine blk_drew ?_ | refine blk_alloc ?_ _)); refine blk_far ?_ NB240_248.out _; (with_reducible repeat (first | refine blk_drewN ?_ _ | refine blk_drew ?_ | refine blk_alloc ?_ _)); refine blk_far ?_ NB240_248.out _; (with_reducible repeat (first | refine blk_drewN ?_ _ | refine blk_drew ?_ | refine blk_alloc ?_ _)); exact BK240.out) hb); have n12_ := Aside0.mk (blk_below (g := gb248) (o := .cells #[.slice Ao46 t241.length co46, .slice Ao50 t244.length co50] 25 (0, 0)) (by (with_reducible repeat (first | refine blk_drewN ?_ _ | refine blk_drew ?_ | refine blk_alloc ?_ _)); refine blk_put (cs := #[.slice Ao46 t241.length co46, .slice none 0 0]) ?_ 1 _ rfl; (with_reducible repeat (first | refine blk_drewN ?_ _ | refine blk_drew ?_ | refine blk_alloc ?_ _)); refine blk_put (cs := #[.slice none 0 0, .slice none 0 0]) ?_ 0 _ rfl; (with_reducible repeat (first | refine blk_drewN ?_ _ | refine blk_drew ?_ | refine blk_alloc ?_ _)); exact BK248.out) hb); have n13_ := Aside0.mk (below_step (by repeat (first | (with_reducible first | exact HB.out | apply below_alloc | apply pw_below_drewN | apply below_drew1 | refine below_set ?_ GE227.out | refine below_set ?_ GE240.out | refine below_set ?_ GE248.out) | exact HB.out)) hb); clear HO220; clear HO223; clear HO226; clear HO232; clear HO235; clear HO238; clear HO243; clear HO246; clear BK227; clear BK240; clear BK248; clear HB; have HO220 := n0_; have HO223 := n1_; have HO226 := n2_; have HO232 := n3_; have HO235 := n4_; have HO238 := n5_; have HO243 := n6_; have HO246 := n7_; have HO251 := n8_; have HO254 := n9_; have BK227 := n10_; have BK240 := n11_; have BK248 := n12_; have HB := n13_; clear n0_ n1_ n2_ n3_ n4_ n5_ n6_ n7_ n8_ n9_ n10_ n11_ n12_ n13_; (try clear hb); (try clear hb2); (try clear hk); (try clear hi); (try clear ho0); (try clear ho1)) | ((with_reducible refine gate_dst (N := 7) rfl ?_); refine box_event ?hg (N := 7) ?hd (cs := #[.slice none 0 0, .slice none 0 0]) (t := 25) ?hr ?_; (case hd => rfl); (case hg => rfl); (case hr => first | (go_simp; done) | (go_simp; rfl)); intro gb256 hg w53 hbox hb; have n0_ := Aside0.mk (Kd.R_below (rs_3 HO220.out) hb); have n1_ := Aside0.mk (Kd.R_below (rs_3 HO223.out) hb); have n2_ := Aside0.mk (Kd.R_below (rs_3 HO226.out) hb); have n3_ := Aside0.mk (Kd.R_below (rs_3 HO232.out) hb); have n4_ := Aside0.mk (Kd.R_below (rs_3 HO235.out) hb); have n5_ := Aside0.mk (Kd.R_below (rs_3 HO238.out) hb); have n6_ := Aside0.mk (Kd.R_below (rs_3 HO243.out) hb); have n7_ := Aside0.mk (Kd.R_below (rs_3 HO246.out) hb); have n8_ := Aside0.mk (Kd.R_below (rs_3 HO251.out) hb); have n9_ := Aside0.mk (Kd.R_below (rs_3 HO254.out) hb); have n10_ := Aside0.mk (blk_below (g := gb227) (o := .cells #[.slice Ao29 t221.length co29, .slice Ao31 t224.length co31] 25 (0, 0)) (bs_3 BK227) hb); have n11_ := Aside0.mk (blk_below (g := gb240) (o := .cells #[.slice Ao38 t233.length co38, .slice Ao41 t236.length co41] 25 (0, 0)) (bs_3 BK240) hb); have n12_ := Aside0.mk (blk_below (g := gb248) (o := .cells #[.slice Ao46 t241.length co46, .slice Ao50 t244.length co50] 25 (0, 0)) (bs_3 BK248) hb); have n13_ := Aside0.mk (below_step (by repeat (first | (with_reducible first | exact HB.out | apply below_alloc | apply pw_below_drewN | apply below_drew1 | refine below_set ?_ GE227.out | refine below_set ?_ GE240.out | refine below_set ?_ GE248.out) | exact HB.out)) hb); have n14_ := Aside0.mk (hbox); have n15_ := Aside0.mk ((by rw [hg]; exact (below_size (by repeat (first | (with_reducible first | exact HB.out | apply below_alloc | apply pw_below_drewN | apply below_drew1 | refine below_set ?_ GE227.out | refine below_set ?_ GE240.out | refine below_set ?_ GE248.out) | exact HB.out))) : w.heap.size ≤ gb256)); have n16_ := Aside0.mk ((by rw [hg]; exact (below_size (by repeat (first | (with_reducible first | exact HB.out | apply below_alloc | apply pw_below_drewN | apply below_drew1 | refine below_set ?_ GE227.out | refine below_set ?_ GE240.out | refine below_set ?_ GE248.out) | exact HB.out))) : w.heap.size ≤ gb256)); have n17_ := Aside0.mk ((by rw [hg]; exact Nat.ne_of_lt (blk_lt (g := gb227) (o := .cells #[.slice Ao29 t221.length co29, .slice Ao31 t224.length co31] 25 (0, 0)) (bs_3 BK227)) : gb227 ≠ gb256)); have n18_ := Aside0.mk ((by rw [hg]; exact Nat.ne_of_gt (blk_lt (g := gb227) (o := .cells #[.slice Ao29 t221.length co29, .slice Ao31 t224.length co31] 25 (0, 0)) (bs_3 BK227)) : gb256 ≠ gb227)); have n19_ := Aside0.mk ((by rw [hg]; exact Nat.ne_of_lt (blk_lt (g := gb240) (o := .cells #[.slice Ao38 t233.length co38, .slice Ao41 t236.length co41] 25 (0, 0)) (bs_3 BK240)) : gb240 ≠ gb256)); have n20_ := Aside0.mk ((by rw [hg]; exact Nat.ne_of_gt (blk_lt (g := gb240) (o := .cells #[.slice Ao38 t233.length co38, .slice Ao41 t236.length co41] 25 (0, 0)) (bs_3 BK240)) : gb256 ≠ gb240)); have n21_ := Aside0.mk ((by rw [hg]; exact Nat.ne_of_lt (blk_lt (g := gb248) (o := .cells #[.slice Ao46 t241.length co46, .slice Ao50 t244.length co50] 25 (0, 0)) (bs_3 BK248)) : gb248 ≠ gb256)); have n22_ := Aside0.mk ((by rw [hg]; exact Nat.ne_of_gt (blk_lt (g := gb248) (o := .cells #[.slice Ao46 t241.length co46, .slice Ao50 t244.length co50] 25 (0, 0)) (bs_3 BK248)) : gb256 ≠ gb248)); clear HO220; clear HO223; clear HO226; clear HO232; clear HO235; clear HO238; clear HO243; clear HO246; clear HO251; clear HO254; clear BK227; clear BK240; clear BK248; clear HB; have HO220 := n0_; have HO223 := n1_; have HO226 := n2_; have HO232 := n3_; have HO235 := n4_; have HO238 := n5_; have HO243 := n6_; have HO246 := n7_; have HO251 := n8_; have HO254 := n9_; have BK227 := n10_; have BK240 := n11_; have BK248 := n12_; have HB := n13_; have BK256 := n14_; have GW256 := n15_; have GE256 := n16_; have NB227_256 := n17_; have NB256_227 := n18_; have NB240_256 := n19_; have NB256_240 := n20_; have NB248_256 := n21_; have NB256_248 := n22_; clear n0_ n1_ n2_ n3_ n4_ n5_ n6_ n7_ n8_ n9_ n10_ n11_ n12_ n13_ n14_ n15_ n16_ n17_ n18_ n19_ n20_ n21_ n22_; clear hb hbox hg; obtain ⟨Ao54, co54, eo54⟩ := Kd.R_slice HO251.out; subst eo54; have hnb55 := NB256_227.out; have hnc55 := NB227_256.out; have hnb56 := NB256_240.out; have hnc56 := NB240_256.out; have hnb57 := NB256_248.out; have hnc57 := NB248_256.out; have hcz58_0 : w53.cell? ⟨gb256, 0, none⟩ = some (.slice none 0 0) := (blk_cell BK256.out 0).trans rfl; have hcz58_1 : w53.cell? ⟨gb256, 1, none⟩ = some (.slice none 0 0) := (blk_cell BK256.out 1).trans rfl; have hfz58_0 := blk_frozen BK256.out 0; have hfz58_1 := blk_frozen BK256.out 1; obtain ⟨Ao59, co59, eo59⟩ := Kd.R_slice HO254.out; subst eo59; have hcz60_0 : w53.cell? ⟨gb227, 0, none⟩ = some (.slice Ao29 t221.length co29) := (blk_cell BK227.out 0).trans rfl; have hcz60_1 : w53.cell? ⟨gb227, 1, none⟩ = some (.slice Ao31 t224.length co31) := (blk_cell BK227.out 1).trans rfl; have hfz60_0 := blk_frozen BK227.out 0; have hfz60_1 := blk_frozen BK227.out 1) | ((with_reducible refine gate_callee (f := 12) rfl ?_); refine goesL_ (some 43) rfl rfl Try.func12 (by kernel_rfl) rfl #[.agg #[.slice Ao29 t221.length co29, .slice Ao31 t224.length co31], .slice Ao43 y230.length co43, .int .i64 1, .agg #[.int .i64 4294967296, .int .i64 0, .int .i64 7]] rfl (by (try simp only [List.map_toArray, List.map_cons, List.map_nil]); first | done | rfl | (simp only [List.length_drop, List.length_take]; rfl)) ?_; (with_reducible refine (opt_Apply.calls k _ _ t221 _ _ t224 _ _ y230 1 4294967296 0 7 t257 t260 t263 _ ?side1 ?side2 ?side3 ?side4 ?side5 ?side6 A8.out).mono ?_); (case side1 => refine (Kd.R_reads' (e := 27) (base := w.heap.size) (ok := fun k_ => (((((((some k_ ≠ (.slice Ao31 t224.length co31 : Value).ownBlock ∧ some k_ ≠ (.slice Ao26 y218.length co26 : Value).ownBlock) ∧ some k_ ≠ (.slice Ao38 t233.length co38 : Value).ownBlock) ∧ some k_ ≠ (.slice Ao41 t236.length co41 : Value).ownBlock) ∧ some k_ ≠ (.slice Ao46 t241.length co46 : Value).ownBlock) ∧ some k_ ≠ (.slice Ao50 t244.length co50 : Value).ownBlock) ∧ some k_ ≠ (.slice Ao54 t249.length co54 : Value).ownBlock) ∧ some k_ ≠ (.slice Ao59 t252.length co59 : Value).ownBlock)) (n := t221.length) (c := co29) ?_).2.2; exact (rs_3 ((Kd.R_mono (Kd.R_far (p := ⟨gb256, 1, none⟩) (Kd.R_far (p := ⟨gb256, 0, none⟩) (Kd.R_types HO223.out BK256.out (by decide)) (fun _ hk => hk.2) (.slice Ao54 t249.length co54)) (fun _ hk => hk.2) (.slice Ao59 t252.length co59)) (fun _ h_ => h_.1))))); (case side2 => exact (Kd.R_reads' HO223.out).2.1); (case side3 => refine (Kd.R_reads' (e := 27) (base := w.heap.size) (ok := fun k_ => (((((((some k_ ≠ (.slice Ao29 t221.length co29 : Value).ownBlock ∧ some k_ ≠ (.slice Ao26 y218.length co26 : Value).ownBlock) ∧ some k_ ≠ (.slice Ao38 t233.length co38 : Value).ownBlock) ∧ some k_ ≠ (.slice Ao41 t236.length co41 : Value).ownBlock) ∧ some k_ ≠ (.slice Ao46 t241.length co46 : Value).ownBlock) ∧ some k_ ≠ (.slice Ao50 t244.length co50 : Value).ownBlock) ∧ some k_ ≠ (.slice Ao54 t249.length co54 : Value).ownBlock) ∧ some k_ ≠ (.slice Ao59 t252.length co59 : Value).ownBlock)) (n := t224.length) (c := co31) ?_).2.2; exact (rs_3 ((Kd.R_mono (Kd.R_far (p := ⟨gb256, 1, none⟩) (Kd.R_far (p := ⟨gb256, 0, none⟩) (Kd.R_types HO226.out BK256.out (by decide)) (fun _ hk => hk.2) (.slice Ao54 t249.length co54)) (fun _ hk => hk.2) (.slice Ao59 t252.length co59)) (fun _ h_ => h_.1))))); (case side4 => exact (Kd.R_reads' HO226.out).2.1); (case side5 => refine (Kd.R_reads' (e := 30) (base := w.heap.size) (ok := fun k_ => True) (n := y230.length) (c := co43) ?_).2.2; exact (rs_3 ((Kd.R_mono (Kd.R_far (p := ⟨gb256, 1, none⟩) (Kd.R_far (p := ⟨gb256, 0, none⟩) (Kd.R_types HO232.out BK256.out (by decide)) (fun _ hk => hk.2) (.slice Ao54 t249.length co54)) (fun _ hk => hk.2) (.slice Ao59 t252.length co59)) (fun _ h_ => h_.1))))); (case side6 => exact (Kd.R_reads' HO232.out).2.1); rintro e w61 ⟨v258, v261, rfl, ho0, ho1, hb⟩; refine ⟨_, rfl, ?_⟩; have n0_ := Aside0.mk (Kd.R_mono (Kd.R_told (Kd.R_told (Kd.R_old (rs_3 ((Kd.R_mono (Kd.R_far (p := ⟨gb256, 1, none⟩) (Kd.R_far (p := ⟨gb256, 0, none⟩) (Kd.R_types HO220.out BK256.out (by decide)) (fun _ hk => hk.2) (.slice Ao54 t249.length co54)) (fun _ hk => hk.2) (.slice Ao59 t252.length co59)) (fun _ h_ => h_.1)))) hb) (Kd.R_base ho0)) (Kd.R_base ho1)) (fun _ h_ => h_.1)); have n1_ := Aside0.mk (Kd.R_mono (Kd.R_told (Kd.R_told (Kd.R_old (rs_3 ((Kd.R_mono (Kd.R_far (p := ⟨gb256, 1, none⟩) (Kd.R_far (p := ⟨gb256, 0, none⟩) (Kd.R_types HO223.out BK256.out (by decide)) (fun _ hk => hk.2) (.slice Ao54 t249.length co54)) (fun _ hk => hk.2) (.slice Ao59 t252.length co59)) (fun _ h_ => h_.1)))) hb) (Kd.R_base ho0)) (Kd.R_base ho1)) (fun _ h_ => h_.1)); have n2_ := Aside0.mk (Kd.R_mono (Kd.R_told (Kd.R_told (Kd.R_old (rs_3 ((Kd.R_mono (Kd.R_far (p := ⟨gb256, 1, none⟩) (Kd.R_far (p := ⟨gb256, 0, none⟩) (Kd.R_types HO226.out BK256.out (by decide)) (fun _ hk => hk.2) (.slice Ao54 t249.length co54)) (fun _ hk => hk.2) (.slice Ao59 t252.length co59)) (fun _ h_ => h_.1)))) hb) (Kd.R_base ho0)) (Kd.R_base ho1)) (fun _ h_ => h_.1)); have n3_ := Aside0.mk (Kd.R_below (rs_3 ((Kd.R_mono (Kd.R_far (p := ⟨gb256, 1, none⟩) (Kd.R_far (p := ⟨gb256, 0, none⟩) (Kd.R_types HO232.out BK256.out (by decide)) (fun _ hk => hk.2) (.slice Ao54 t249.length co54)) (fun _ hk => hk.2) (.slice Ao59 t252.length co59)) (fun _ h_ => h_.1)))) hb); have n4_ := Aside0.mk (Kd.R_mono (Kd.R_told (Kd.R_told (Kd.R_old (rs_3 ((Kd.R_mono (Kd.R_far (p := ⟨gb256, 1, none⟩) (Kd.R_far (p := ⟨gb256, 0, none⟩) (Kd.R_types HO235.out BK256.out (by decide)) (fun _ hk => hk.2) (.slice Ao54 t249.length co54)) (fun _ hk => hk.2) (.slice Ao59 t252.length co59)) (fun _ h_ => h_.1)))) hb) (Kd.R_base ho0)) (Kd.R_base ho1)) (fun _ h_ => h_.1)); have n5_ := Aside0.mk (Kd.R_mono (Kd.R_told (Kd.R_told (Kd.R_old (rs_3 ((Kd.R_mono (Kd.R_far (p := ⟨gb256, 1, none⟩) (Kd.R_far (p := ⟨gb256, 0, none⟩) (Kd.R_types HO238.out BK256.out (by decide)) (fun _ hk => hk.2) (.slice Ao54 t249.length co54)) (fun _ hk => hk.2) (.slice Ao59 t252.length co59)) (fun _ h_ => h_.1)))) hb) (Kd.R_base ho0)) (Kd.R_base ho1)) (fun _ h_ => h_.1)); have n6_ := Aside0.mk (Kd.R_mono (Kd.R_told (Kd.R_told (Kd.R_old (rs_3 ((Kd.R_mono (Kd.R_far (p := ⟨gb256, 1, none⟩) (Kd.R_far (p := ⟨gb256, 0, none⟩) (Kd.R_types HO243.out BK256.out (by decide)) (fun _ hk => hk.2) (.slice Ao54 t249.length co54)) (fun _ hk => hk.2) (.slice Ao59 t252.length co59)) (fun _ h_ => h_.1)))) hb) (Kd.R_base ho0)) (Kd.R_base ho1)) (fun _ h_ => h_.1)); have n7_ := Aside0.mk (Kd.R_mono (Kd.R_told (Kd.R_told (Kd.R_old (rs_3 ((Kd.R_mono (Kd.R_far (p := ⟨gb256, 1, none⟩) (Kd.R_far (p := ⟨gb256, 0, none⟩) (Kd.R_types HO246.out BK256.out (by decide)) (fun _ hk => hk.2) (.slice Ao54 t249.length co54)) (fun _ hk => hk.2) (.slice Ao59 t252.length co59)) (fun _ h_ => h_.1)))) hb) (Kd.R_base ho0)) (Kd.R_base ho1)) (fun _ h_ => h_.1)); have n8_ := Aside0.mk (Kd.R_mono (Kd.R_told (Kd.R_told (Kd.R_old (rs_3 ((Kd.R_mono (Kd.R_far (p := ⟨gb256, 1, none⟩) (Kd.R_far (p := ⟨gb256, 0, none⟩) (Kd.R_types HO251.out BK256.out (by decide)) (fun _ hk => hk.2) (.slice Ao54 t249.length co54)) (fun _ hk => hk.2) (.slice Ao59 t252.length co59)) (fun _ h_ => h_.1)))) hb) (Kd.R_base ho0)) (Kd.R_base ho1)) (fun _ h_ => h_.1)); have n9_ := Aside0.mk (Kd.R_mono (Kd.R_told (Kd.R_told (Kd.R_old (rs_3 ((Kd.R_mono (Kd.R_far (p := ⟨gb256, 1, none⟩) (Kd.R_far (p := ⟨gb256, 0, none⟩) (Kd.R_types HO254.out BK256.out (by decide)) (fun _ hk => hk.2) (.slice Ao54 t249.length co54)) (fun _ hk => hk.2) (.slice Ao59 t252.length co59)) (fun _ h_ => h_.1)))) hb) (Kd.R_base ho0)) (Kd.R_base ho1)) (fun _ h_ => h_.1)); have n10_ := Aside0.mk (Kd.R_lower (Kd.R_new' (Kd.R_new' (Kd.R_new' (Kd.R_new' (Kd.R_new' (Kd.R_new' (Kd.R_new' (Kd.R_new' (Kd.R_new' ho0 (Kd.R_lt (rs_3 ((Kd.R_mono (Kd.R_far (p := ⟨gb256, 1, none⟩) (Kd.R_far (p := ⟨gb256, 0, none⟩) (Kd.R_types HO220.out BK256.out (by decide)) (fun _ hk => hk.2) (.slice Ao54 t249.length co54)) (fun _ hk => hk.2) (.slice Ao59 t252.length co59)) (fun _ h_ => h_.1)))))) (Kd.R_lt (rs_3 ((Kd.R_mono (Kd.R_far (p := ⟨gb256, 1, none⟩) (Kd.R_far (p := ⟨gb256, 0, none⟩) (Kd.R_types HO223.out BK256.out (by decide)) (fun _ hk => hk.2) (.slice Ao54 t249.length co54)) (fun _ hk => hk.2) (.slice Ao59 t252.length co59)) (fun _ h_ => h_.1)))))) (Kd.R_lt (rs_3 ((Kd.R_mono (Kd.R_far (p := ⟨gb256, 1, none⟩) (Kd.R_far (p := ⟨gb256, 0, none⟩) (Kd.R_types HO226.out BK256.out (by decide)) (fun _ hk => hk.2) (.slice Ao54 t249.length co54)) (fun _ hk => hk.2) (.slice Ao59 t252.length co59)) (fun _ h_ => h_.1)))))) (Kd.R_lt (rs_3 ((Kd.R_mono (Kd.R_far (p := ⟨gb256, 1, none⟩) (Kd.R_far (p := ⟨gb256, 0, none⟩) (Kd.R_types HO235.out BK256.out (by decide)) (fun _ hk => hk.2) (.slice Ao54 t249.length co54)) (fun _ hk => hk.2) (.slice Ao59 t252.length co59)) (fun _ h_ => h_.1)))))) (Kd.R_lt (rs_3 ((Kd.R_mono (Kd.R_far (p := ⟨gb256, 1, none⟩) (Kd.R_far (p := ⟨gb256, 0, none⟩) (Kd.R_types HO238.out BK256.out (by decide)) (fun _ hk => hk.2) (.slice Ao54 t249.length co54)) (fun _ hk => hk.2) (.slice Ao59 t252.length co59)) (fun _ h_ => h_.1)))))) (Kd.R_lt (rs_3 ((Kd.R_mono (Kd.R_far (p := ⟨gb256, 1, none⟩) (Kd.R_far (p := ⟨gb256, 0, none⟩) (Kd.R_types HO243.out BK256.out (by decide)) (fun _ hk => hk.2) (.slice Ao54 t249.length co54)) (fun _ hk => hk.2) (.slice Ao59 t252.length co59)) (fun _ h_ => h_.1)))))) (Kd.R_lt (rs_3 ((Kd.R_mono (Kd.R_far (p := ⟨gb256, 1, none⟩) (Kd.R_far (p := ⟨gb256, 0, none⟩) (Kd.R_types HO246.out BK256.out (by decide)) (fun _ hk => hk.2) (.slice Ao54 t249.length co54)) (fun _ hk => hk.2) (.slice Ao59 t252.length co59)) (fun _ h_ => h_.1)))))) (Kd.R_lt (rs_3 ((Kd.R_mono (Kd.R_far (p := ⟨gb256, 1, none⟩) (Kd.R_far (p := ⟨gb256, 0, none⟩) (Kd.R_types HO251.out BK256.out (by decide)) (fun _ hk => hk.2) (.slice Ao54 t249.length co54)) (fun _ hk => hk.2) (.slice Ao59 t252.length co59)) (fun _ h_ => h_.1)))))) (Kd.R_lt (rs_3 ((Kd.R_mono (Kd.R_far (p := ⟨gb256, 1, none⟩) (Kd.R_far (p := ⟨gb256, 0, none⟩) (Kd.R_types HO254.out BK256.out (by decide)) (fun _ hk => hk.2) (.slice Ao54 t249.length co54)) (fun _ hk => hk.2) (.slice Ao59 t252.length co59)) (fun _ h_ => h_.1)))))) (below_size (by repeat (first | (with_reducible first | exact HB.out | apply below_alloc | apply pw_below_drewN | apply below_drew1 | refine below_set ?_ GE227.out | refine below_set ?_ GE240.out | refine below_set ?_ GE248.out | refine below_set ?_ GE256.out) | exact HB.out)))); have n11_ := Aside0.mk (Kd.R_lower (Kd.R_new' (Kd.R_new' (Kd.R_new' (Kd.R_new' (Kd.R_new' (Kd.R_new' (Kd.R_new' (Kd.R_new' (Kd.R_new' ho1 (Kd.R_lt (rs_3 ((Kd.R_mono (Kd.R_far (p := ⟨gb256, 1, none⟩) (Kd.R_far (p := ⟨gb256, 0, none⟩) (Kd.R_types HO220.out BK256.out (by decide)) (fun _ hk => hk.2) (.slice Ao54 t249.length co54)) (fun _ hk => hk.2) (.slice Ao59 t252.length co59)) (fun _ h_ => h_.1)))))) (Kd.R_lt (rs_3 ((Kd.R_mono (Kd.R_far (p := ⟨gb256, 1, none⟩) (Kd.R_far (p := ⟨gb256, 0, none⟩) (Kd.R_types HO223.out BK256.out (by decide)) (fun _ hk => hk.2) (.slice Ao54 t249.length co54)) (fun _ hk => hk.2) (.slice Ao59 t252.length co59)) (fun _ h_ => h_.1)))))) (Kd.R_lt (rs_3 ((Kd.R_mono (Kd.R_far (p := ⟨gb256, 1, none⟩) (Kd.R_far (p := ⟨gb256, 0, none⟩) (Kd.R_types HO226.out BK256.out (by decide)) (fun _ hk => hk.2) (.slice Ao54 t249.length co54)) (fun _ hk => hk.2) (.slice Ao59 t252.length co59)) (fun _ h_ => h_.1)))))) (Kd.R_lt (rs_3 ((Kd.R_mono (Kd.R_far (p := ⟨gb256, 1, none⟩) (Kd.R_far (p := ⟨gb256, 0, none⟩) (Kd.R_types HO235.out BK256.out (by decide)) (fun _ hk => hk.2) (.slice Ao54 t249.length co54)) (fun _ hk => hk.2) (.slice Ao59 t252.length co59)) (fun _ h_ => h_.1)))))) (Kd.R_lt (rs_3 ((Kd.R_mono (Kd.R_far (p := ⟨gb256, 1, none⟩) (Kd.R_far (p := ⟨gb256, 0, none⟩) (Kd.R_types HO238.out BK256.out (by decide)) (fun _ hk => hk.2) (.slice Ao54 t249.length co54)) (fun _ hk => hk.2) (.slice Ao59 t252.length co59)) (fun _ h_ => h_.1)))))) (Kd.R_lt (rs_3 ((Kd.R_mono (Kd.R_far (p := ⟨gb256, 1, none⟩) (Kd.R_far (p := ⟨gb256, 0, none⟩) (Kd.R_types HO243.out BK256.out (by decide)) (fun _ hk => hk.2) (.slice Ao54 t249.length co54)) (fun _ hk => hk.2) (.slice Ao59 t252.length co59)) (fun _ h_ => h_.1)))))) (Kd.R_lt (rs_3 ((Kd.R_mono (Kd.R_far (p := ⟨gb256, 1, none⟩) (Kd.R_far (p := ⟨gb256, 0, none⟩) (Kd.R_types HO246.out BK256.out (by decide)) (fun _ hk => hk.2) (.slice Ao54 t249.length co54)) (fun _ hk => hk.2) (.slice Ao59 t252.length co59)) (fun _ h_ => h_.1)))))) (Kd.R_lt (rs_3 ((Kd.R_mono (Kd.R_far (p := ⟨gb256, 1, none⟩) (Kd.R_far (p := ⟨gb256, 0, none⟩) (Kd.R_types HO251.out BK256.out (by decide)) (fun _ hk => hk.2) (.slice Ao54 t249.length co54)) (fun _ hk => hk.2) (.slice Ao59 t252.length co59)) (fun _ h_ => h_.1)))))) (Kd.R_lt (rs_3 ((Kd.R_mono (Kd.R_far (p := ⟨gb256, 1, none⟩) (Kd.R_far (p := ⟨gb256, 0, none⟩) (Kd.R_types HO254.out BK256.out (by decide)) (fun _ hk => hk.2) (.slice Ao54 t249.length co54)) (fun _ hk => hk.2) (.slice Ao59 t252.length co59)) (fun _ h_ => h_.1)))))) (below_size (by repeat (first | (with_reducible first | exact HB.out | apply below_alloc | apply pw_below_drewN | apply below_drew1 | refine below_set ?_ GE227.out | refine below_set ?_ GE240.out | refine below_set ?_ GE248.out | refine below_set ?_ GE256.out) | exact HB.out)))); have n12_ := Aside0.mk (blk_below (g := gb227) (o := .cells #[.slice Ao29 t221.length co29, .slice Ao31 t224.length co31] 25 (0, 0)) (by (with_reducible repeat (first | refine blk_drewN ?_ _ | refine blk_drew ?_ | refine blk_alloc ?_ _)); refine blk_far ?_ NB227_256.out _; (with_reducible repeat (first | refine blk_drewN ?_ _ | refine blk_drew ?_ | refine blk_alloc ?_ _)); refine blk_far ?_ NB227_256.out _; (with_reducible repeat (first | refine blk_drewN ?_ _ | refine blk_drew ?_ | refine blk_alloc ?_ _)); exact BK227.out) hb); have n13_ := Aside0.mk (blk_below (g := gb240) (o := .cells #[.slice Ao38 t233.length co38, .slice Ao41 t236.length co41] 25 (0, 0)) (by (with_reducible repeat (first | refine blk_drewN ?_ _ | refine blk_drew ?_ | refine blk_alloc ?_ _)); refine blk_far ?_ NB240_256.out _; (with_reducible repeat (first | refine blk_drewN ?_ _ | refine blk_drew ?_ | refine blk_alloc ?_ _)); refine blk_far ?_ NB240_256.out _; (with_reducible repeat (first | refine blk_drewN ?_ _ | refine blk_drew ?_ | refine blk_alloc ?_ _)); exact BK240.out) hb); have n14_ := Aside0.mk (blk_below (g := gb248) (o := .cells #[.slice Ao46 t241.length co46, .slice Ao50 t244.length co50] 25 (0, 0)) (by (with_reducible repeat (first | refine blk_drewN ?_ _ | refine blk_drew ?_ | refine blk_alloc ?_ _)); refine blk_far ?_ NB248_256.out _; (with_reducible repeat (first | refine blk_drewN ?_ _ | refine blk_drew ?_ | refine blk_alloc ?_ _)); refine blk_far ?_ NB248_256.out _; (with_reducible repeat (first | refine blk_drewN ?_ _ | refine blk_drew ?_ | refine blk_alloc ?_ _)); exact BK248.out) hb); have n15_ := Aside0.mk (blk_below (g := gb256) (o := .cells #[.slice Ao54 t249.length co54, .slice Ao59 t252.length co59] 25 (0, 0)) (by (with_reducible repeat (first | refine blk_drewN ?_ _ | refine blk_drew ?_ | refine blk_alloc ?_ _)); refine blk_put (cs := #[.slice Ao54 t249.length co54, .slice none 0 0]) ?_ 1 _ rfl; (with_reducible repeat (first | refine blk_drewN ?_ _ | refine blk_drew ?_ | refine blk_alloc ?_ _)); refine blk_put (cs := #[.slice none 0 0, .slice none 0 0]) ?_ 0 _ rfl; (with_reducible repeat (first | refine blk_drewN ?_ _ | refine blk_drew ?_ | refine blk_alloc ?_ _)); exact BK256.out) hb); have n16_ := Aside0.mk (below_step (by repeat (first | (with_reducible first | exact HB.out | apply below_alloc | apply pw_below_drewN | apply below_drew1 | refine below_set ?_ GE227.out | refine below_set ?_ GE240.out | refine below_set ?_ GE248.out | refine below_set ?_ GE256.out) | exact HB.out)) hb); clear HO220; clear HO223; clear HO226; clear HO232; clear HO235; clear HO238; clear HO243; clear HO246; clear HO251; clear HO254; clear BK227; clear BK240; clear BK248; clear BK256; clear HB; have HO220 := n0_; have HO223 := n1_; have HO226 := n2_; have HO232 := n3_; have HO235 := n4_; have HO238 := n5_; have HO243 := n6_; have HO246 := n7_; have HO251 := n8_; have HO254 := n9_; have HO259 := n10_; have HO262 := n11_; have BK227 := n12_; have BK240 := n13_; have BK248 := n14_; have BK256 := n15_; have HB := n16_; clear n0_ n1_ n2_ n3_ n4_ n5_ n6_ n7_ n8_ n9_ n10_ n11_ n12_ n13_ n14_ n15_ n16_; (try clear hb); (try clear hb2); (try clear hk); (try clear hi); (try clear ho0); (try clear ho1)) | ((with_reducible refine gate_dst (N := 9) rfl ?_); refine box_event ?hg (N := 9) ?hd (cs := #[.slice none 0 0, .slice none 0 0]) (t := 25) ?hr ?_; (case hd => rfl); (case hg => rfl); (case hr => first | (go_simp; done) | (go_simp; rfl)); intro gb264 hg w62 hbox hb; have n0_ := Aside0.mk (Kd.R_below (rs_3 HO220.out) hb); have n1_ := Aside0.mk (Kd.R_below (rs_3 HO223.out) hb); have n2_ := Aside0.mk (Kd.R_below (rs_3 HO226.out) hb); have n3_ := Aside0.mk (Kd.R_below (rs_3 HO232.out) hb); have n4_ := Aside0.mk (Kd.R_below (rs_3 HO235.out) hb); have n5_ := Aside0.mk (Kd.R_below (rs_3 HO238.out) hb); have n6_ := Aside0.mk (Kd.R_below (rs_3 HO243.out) hb); have n7_ := Aside0.mk (Kd.R_below (rs_3 HO246.out) hb); have n8_ := Aside0.mk (Kd.R_below (rs_3 HO251.out) hb); have n9_ := Aside0.mk (Kd.R_below (rs_3 HO254.out) hb); have n10_ := Aside0.mk (Kd.R_below (rs_3 HO259.out) hb); have n11_ := Aside0.mk (Kd.R_below (rs_3 HO262.out) hb); have n12_ := Aside0.mk (blk_below (g := gb227) (o := .cells #[.slice Ao29 t221.length co29, .slice Ao31 t224.length co31] 25 (0, 0)) (bs_3 BK227) hb); have n13_ := Aside0.mk (blk_below (g := gb240) (o := .cells #[.slice Ao38 t233.length co38, .slice Ao41 t236.length co41] 25 (0, 0)) (bs_3 BK240) hb); have n14_ := Aside0.mk (blk_below (g := gb248) (o := .cells #[.slice Ao46 t241.length co46, .slice Ao50 t244.length co50] 25 (0, 0)) (bs_3 BK248) hb); have n15_ := Aside0.mk (blk_below (g := gb256) (o := .cells #[.slice Ao54 t249.length co54, .slice Ao59 t252.length co59] 25 (0, 0)) (bs_3 BK256) hb); have n16_ := Aside0.mk (below_step (by repeat (first | (with_reducible first | exact HB.out | apply below_alloc | apply pw_below_drewN | apply below_drew1 | refine below_set ?_ GE227.out | refine below_set ?_ GE240.out | refine below_set ?_ GE248.out | refine below_set ?_ GE256.out) | exact HB.out)) hb); have n17_ := Aside0.mk (hbox); have n18_ := Aside0.mk ((by rw [hg]; exact (below_size (by repeat (first | (with_reducible first | exact HB.out | apply below_alloc | apply pw_below_drewN | apply below_drew1 | refine below_set ?_ GE227.out | refine below_set ?_ GE240.out | refine below_set ?_ GE248.out | refine below_set ?_ GE256.out) | exact HB.out))) : w.heap.size ≤ gb264)); have n19_ := Aside0.mk ((by rw [hg]; exact (below_size (by repeat (first | (with_reducible first | exact HB.out | apply below_alloc | apply pw_below_drewN | apply below_drew1 | refine below_set ?_ GE227.out | refine below_set ?_ GE240.out | refine below_set ?_ GE248.out | refine below_set ?_ GE256.out) | exact HB.out))) : w.heap.size ≤ gb264)); have n20_ := Aside0.mk ((by rw [hg]; exact Nat.ne_of_lt (blk_lt (g := gb227) (o := .cells #[.slice Ao29 t221.length co29, .slice Ao31 t224.length co31] 25 (0, 0)) (bs_3 BK227)) : gb227 ≠ gb264)); have n21_ := Aside0.mk ((by rw [hg]; exact Nat.ne_of_gt (blk_lt (g := gb227) (o := .cells #[.slice Ao29 t221.length co29, .slice Ao31 t224.length co31] 25 (0, 0)) (bs_3 BK227)) : gb264 ≠ gb227)); have n22_ := Aside0.mk ((by rw [hg]; exact Nat.ne_of_lt (blk_lt (g := gb240) (o := .cells #[.slice Ao38 t233.length co38, .slice Ao41 t236.length co41] 25 (0, 0)) (bs_3 BK240)) : gb240 ≠ gb264)); have n23_ := Aside0.mk ((by rw [hg]; exact Nat.ne_of_gt (blk_lt (g := gb240) (o := .cells #[.slice Ao38 t233.length co38, .slice Ao41 t236.length co41] 25 (0, 0)) (bs_3 BK240)) : gb264 ≠ gb240)); have n24_ := Aside0.mk ((by rw [hg]; exact Nat.ne_of_lt (blk_lt (g := gb248) (o := .cells #[.slice Ao46 t241.length co46, .slice Ao50 t244.length co50] 25 (0, 0)) (bs_3 BK248)) : gb248 ≠ gb264)); have n25_ := Aside0.mk ((by rw [hg]; exact Nat.ne_of_gt (blk_lt (g := gb248) (o := .cells #[.slice Ao46 t241.length co46, .slice Ao50 t244.length co50] 25 (0, 0)) (bs_3 BK248)) : gb264 ≠ gb248)); have n26_ := Aside0.mk ((by rw [hg]; exact Nat.ne_of_lt (blk_lt (g := gb256) (o := .cells #[.slice Ao54 t249.length co54, .slice Ao59 t252.length co59] 25 (0, 0)) (bs_3 BK256)) : gb256 ≠ gb264)); have n27_ := Aside0.mk ((by rw [hg]; exact Nat.ne_of_gt (blk_lt (g := gb256) (o := .cells #[.slice Ao54 t249.length co54, .slice Ao59 t252.length co59] 25 (0, 0)) (bs_3 BK256)) : gb264 ≠ gb256)); clear HO220; clear HO223; clear HO226; clear HO232; clear HO235; clear HO238; clear HO243; clear HO246; clear HO251; clear HO254; clear HO259; clear HO262; clear BK227; clear BK240; clear BK248; clear BK256; clear HB; have HO220 := n0_; have HO223 := n1_; have HO226 := n2_; have HO232 := n3_; have HO235 := n4_; have HO238 := n5_; have HO243 := n6_; have HO246 := n7_; have HO251 := n8_; have HO254 := n9_; have HO259 := n10_; have HO262 := n11_; have BK227 := n12_; have BK240 := n13_; have BK248 := n14_; have BK256 := n15_; have HB := n16_; have BK264 := n17_; have GW264 := n18_; have GE264 := n19_; have NB227_264 := n20_; have NB264_227 := n21_; have NB240_264 := n22_; have NB264_240 := n23_; have NB248_264 := n24_; have NB264_248 := n25_; have NB256_264 := n26_; have NB264_256 := n27_; clear n0_ n1_ n2_ n3_ n4_ n5_ n6_ n7_ n8_ n9_ n10_ n11_ n12_ n13_ n14_ n15_ n16_ n17_ n18_ n19_ n20_ n21_ n22_ n23_ n24_ n25_ n26_ n27_; clear hb hbox hg; obtain ⟨Ao63, co63, eo63⟩ := Kd.R_slice HO259.out; subst eo63; have hnb64 := NB264_227.out; have hnc64 := NB227_264.out; have hnb65 := NB264_240.out; have hnc65 := NB240_264.out; have hnb66 := NB264_248.out; have hnc66 := NB248_264.out; have hnb67 := NB264_256.out; have hnc67 := NB256_264.out; have hcz68_0 : w62.cell? ⟨gb264, 0, none⟩ = some (.slice none 0 0) := (blk_cell BK264.out 0).trans rfl; have hcz68_1 : w62.cell? ⟨gb264, 1, none⟩ = some (.slice none 0 0) := (blk_cell BK264.out 1).trans rfl; have hfz68_0 := blk_frozen BK264.out 0; have hfz68_1 := blk_frozen BK264.out 1; obtain ⟨Ao69, co69, eo69⟩ := Kd.R_slice HO262.out; subst eo69))
              have n0_ : Aside0 (Kd.R (Kd.int .i64) 27 ((w62.setCell ⟨gb264, 0, none⟩ (.slice Ao63 t257.length co63)).setCell ⟨gb264, 1, none⟩ (.slice Ao69 t260.length co69)) w.heap.size (fun k_ => some k_ ≠ (.slice Ao29 t221.length co29 : Value).ownBlock ∧ some k_ ≠ (.slice Ao31 t224.length co31 : Value).ownBlock ∧ some k_ ≠ (.slice Ao38 t233.length co38 : Value).ownBlock ∧ some k_ ≠ (.slice Ao41 t236.length co41 : Value).ownBlock ∧ some k_ ≠ (.slice Ao46 t241.length co46 : Value).ownBlock ∧ some k_ ≠ (.slice Ao50 t244.length co50 : Value).ownBlock ∧ some k_ ≠ (.slice Ao54 t249.length co54 : Value).ownBlock ∧ some k_ ≠ (.slice Ao59 t252.length co59 : Value).ownBlock ∧ some k_ ≠ (.slice Ao63 t257.length co63 : Value).ownBlock ∧ some k_ ≠ (.slice Ao69 t260.length co69 : Value).ownBlock) (.slice Ao26 y218.length co26) y218) := ⟨rs_3 (Kd.R_mono (Kd.R_far (p := ⟨gb264, 1, none⟩) (Kd.R_far (p := ⟨gb264, 0, none⟩) (Kd.R_types HO220.out BK264.out (by decide)) (fun _ hk => hk.2) (.slice Ao63 t257.length co63)) (fun _ hk => hk.2) (.slice Ao69 t260.length co69)) (fun _ hk => ⟨hk.1.1.1.1.1.1.1.1.1.1.2, ⟨hk.1.1.1.1.1.1.1.1.1.2, ⟨hk.1.1.1.1.1.1.1.1.2, ⟨hk.1.1.1.1.1.1.1.2, ⟨hk.1.1.1.1.1.1.2, ⟨hk.1.1.1.1.1.2, ⟨hk.1.1.1.1.2, ⟨hk.1.1.1.2, ⟨hk.1.1.2, hk.1.2⟩⟩⟩⟩⟩⟩⟩⟩⟩))⟩
              have n1_ : Aside0 (Kd.R (Kd.int .i64) 27 ((w62.setCell ⟨gb264, 0, none⟩ (.slice Ao63 t257.length co63)).setCell ⟨gb264, 1, none⟩ (.slice Ao69 t260.length co69)) w.heap.size (fun k_ => some k_ ≠ (.slice Ao26 y218.length co26 : Value).ownBlock ∧ some k_ ≠ (.slice Ao31 t224.length co31 : Value).ownBlock ∧ some k_ ≠ (.slice Ao38 t233.length co38 : Value).ownBlock ∧ some k_ ≠ (.slice Ao41 t236.length co41 : Value).ownBlock ∧ some k_ ≠ (.slice Ao46 t241.length co46 : Value).ownBlock ∧ some k_ ≠ (.slice Ao50 t244.length co50 : Value).ownBlock ∧ some k_ ≠ (.slice Ao54 t249.length co54 : Value).ownBlock ∧ some k_ ≠ (.slice Ao59 t252.length co59 : Value).ownBlock ∧ some k_ ≠ (.slice Ao63 t257.length co63 : Value).ownBlock ∧ some k_ ≠ (.slice Ao69 t260.length co69 : Value).ownBlock) (.slice Ao29 t221.length co29) t221) := ⟨rs_3 (Kd.R_mono (Kd.R_far (p := ⟨gb264, 1, none⟩) (Kd.R_far (p := ⟨gb264, 0, none⟩) (Kd.R_types HO223.out BK264.out (by decide)) (fun _ hk => hk.2) (.slice Ao63 t257.length co63)) (fun _ hk => hk.2) (.slice Ao69 t260.length co69)) (fun _ hk => ⟨hk.1.1.1.1.1.1.1.1.1.2, ⟨hk.1.1.1.1.1.1.1.1.1.1, ⟨hk.1.1.1.1.1.1.1.1.2, ⟨hk.1.1.1.1.1.1.1.2, ⟨hk.1.1.1.1.1.1.2, ⟨hk.1.1.1.1.1.2, ⟨hk.1.1.1.1.2, ⟨hk.1.1.1.2, ⟨hk.1.1.2, hk.1.2⟩⟩⟩⟩⟩⟩⟩⟩⟩))⟩
              have n2_ : Aside0 (Kd.R (Kd.int .i64) 27 ((w62.setCell ⟨gb264, 0, none⟩ (.slice Ao63 t257.length co63)).setCell ⟨gb264, 1, none⟩ (.slice Ao69 t260.length co69)) w.heap.size (fun k_ => some k_ ≠ (.slice Ao26 y218.length co26 : Value).ownBlock ∧ some k_ ≠ (.slice Ao29 t221.length co29 : Value).ownBlock ∧ some k_ ≠ (.slice Ao38 t233.length co38 : Value).ownBlock ∧ some k_ ≠ (.slice Ao41 t236.length co41 : Value).ownBlock ∧ some k_ ≠ (.slice Ao46 t241.length co46 : Value).ownBlock ∧ some k_ ≠ (.slice Ao50 t244.length co50 : Value).ownBlock ∧ some k_ ≠ (.slice Ao54 t249.length co54 : Value).ownBlock ∧ some k_ ≠ (.slice Ao59 t252.length co59 : Value).ownBlock ∧ some k_ ≠ (.slice Ao63 t257.length co63 : Value).ownBlock ∧ some k_ ≠ (.slice Ao69 t260.length co69 : Value).ownBlock) (.slice Ao31 t224.length co31) t224) := ⟨rs_3 (Kd.R_mono (Kd.R_far (p := ⟨gb264, 1, none⟩) (Kd.R_far (p := ⟨gb264, 0, none⟩) (Kd.R_types HO226.out BK264.out (by decide)) (fun _ hk => hk.2) (.slice Ao63 t257.length co63)) (fun _ hk => hk.2) (.slice Ao69 t260.length co69)) (fun _ hk => ⟨hk.1.1.1.1.1.1.1.1.1.2, ⟨hk.1.1.1.1.1.1.1.1.1.1, ⟨hk.1.1.1.1.1.1.1.1.2, ⟨hk.1.1.1.1.1.1.1.2, ⟨hk.1.1.1.1.1.1.2, ⟨hk.1.1.1.1.1.2, ⟨hk.1.1.1.1.2, ⟨hk.1.1.1.2, ⟨hk.1.1.2, hk.1.2⟩⟩⟩⟩⟩⟩⟩⟩⟩))⟩
              have n3_ : Aside0 (Kd.R k30 30 ((w62.setCell ⟨gb264, 0, none⟩ (.slice Ao63 t257.length co63)).setCell ⟨gb264, 1, none⟩ (.slice Ao69 t260.length co69)) w.heap.size (fun _ => True) (.slice Ao43 y230.length co43) y230) := ⟨rs_3 (Kd.R_mono (Kd.R_far (p := ⟨gb264, 1, none⟩) (Kd.R_far (p := ⟨gb264, 0, none⟩) (Kd.R_types HO232.out BK264.out (by decide)) (fun _ hk => hk.2) (.slice Ao63 t257.length co63)) (fun _ hk => hk.2) (.slice Ao69 t260.length co69)) (fun _ hk => trivial))⟩
              have n4_ : Aside0 (Kd.R (Kd.int .i64) 27 ((w62.setCell ⟨gb264, 0, none⟩ (.slice Ao63 t257.length co63)).setCell ⟨gb264, 1, none⟩ (.slice Ao69 t260.length co69)) w.heap.size (fun k_ => some k_ ≠ (.slice Ao26 y218.length co26 : Value).ownBlock ∧ some k_ ≠ (.slice Ao29 t221.length co29 : Value).ownBlock ∧ some k_ ≠ (.slice Ao31 t224.length co31 : Value).ownBlock ∧ some k_ ≠ (.slice Ao41 t236.length co41 : Value).ownBlock ∧ some k_ ≠ (.slice Ao46 t241.length co46 : Value).ownBlock ∧ some k_ ≠ (.slice Ao50 t244.length co50 : Value).ownBlock ∧ some k_ ≠ (.slice Ao54 t249.length co54 : Value).ownBlock ∧ some k_ ≠ (.slice Ao59 t252.length co59 : Value).ownBlock ∧ some k_ ≠ (.slice Ao63 t257.length co63 : Value).ownBlock ∧ some k_ ≠ (.slice Ao69 t260.length co69 : Value).ownBlock) (.slice Ao38 t233.length co38) t233) := ⟨rs_3 (Kd.R_mono (Kd.R_far (p := ⟨gb264, 1, none⟩) (Kd.R_far (p := ⟨gb264, 0, none⟩) (Kd.R_types HO235.out BK264.out (by decide)) (fun _ hk => hk.2) (.slice Ao63 t257.length co63)) (fun _ hk => hk.2) (.slice Ao69 t260.length co69)) (fun _ hk => ⟨hk.1.1.1.1.1.1.1.1.1.2, ⟨hk.1.1.1.1.1.1.1.1.2, ⟨hk.1.1.1.1.1.1.1.2, ⟨hk.1.1.1.1.1.1.1.1.1.1, ⟨hk.1.1.1.1.1.1.2, ⟨hk.1.1.1.1.1.2, ⟨hk.1.1.1.1.2, ⟨hk.1.1.1.2, ⟨hk.1.1.2, hk.1.2⟩⟩⟩⟩⟩⟩⟩⟩⟩))⟩
              have n5_ : Aside0 (Kd.R (Kd.int .i64) 27 ((w62.setCell ⟨gb264, 0, none⟩ (.slice Ao63 t257.length co63)).setCell ⟨gb264, 1, none⟩ (.slice Ao69 t260.length co69)) w.heap.size (fun k_ => some k_ ≠ (.slice Ao26 y218.length co26 : Value).ownBlock ∧ some k_ ≠ (.slice Ao29 t221.length co29 : Value).ownBlock ∧ some k_ ≠ (.slice Ao31 t224.length co31 : Value).ownBlock ∧ some k_ ≠ (.slice Ao38 t233.length co38 : Value).ownBlock ∧ some k_ ≠ (.slice Ao46 t241.length co46 : Value).ownBlock ∧ some k_ ≠ (.slice Ao50 t244.length co50 : Value).ownBlock ∧ some k_ ≠ (.slice Ao54 t249.length co54 : Value).ownBlock ∧ some k_ ≠ (.slice Ao59 t252.length co59 : Value).ownBlock ∧ some k_ ≠ (.slice Ao63 t257.length co63 : Value).ownBlock ∧ some k_ ≠ (.slice Ao69 t260.length co69 : Value).ownBlock) (.slice Ao41 t236.length co41) t236) := ⟨rs_3 (Kd.R_mono (Kd.R_far (p := ⟨gb264, 1, none⟩) (Kd.R_far (p := ⟨gb264, 0, none⟩) (Kd.R_types HO238.out BK264.out (by decide)) (fun _ hk => hk.2) (.slice Ao63 t257.length co63)) (fun _ hk => hk.2) (.slice Ao69 t260.length co69)) (fun _ hk => ⟨hk.1.1.1.1.1.1.1.1.1.2, ⟨hk.1.1.1.1.1.1.1.1.2, ⟨hk.1.1.1.1.1.1.1.2, ⟨hk.1.1.1.1.1.1.1.1.1.1, ⟨hk.1.1.1.1.1.1.2, ⟨hk.1.1.1.1.1.2, ⟨hk.1.1.1.1.2, ⟨hk.1.1.1.2, ⟨hk.1.1.2, hk.1.2⟩⟩⟩⟩⟩⟩⟩⟩⟩))⟩
              have n6_ : Aside0 (Kd.R (Kd.int .i64) 27 ((w62.setCell ⟨gb264, 0, none⟩ (.slice Ao63 t257.length co63)).setCell ⟨gb264, 1, none⟩ (.slice Ao69 t260.length co69)) w.heap.size (fun k_ => some k_ ≠ (.slice Ao26 y218.length co26 : Value).ownBlock ∧ some k_ ≠ (.slice Ao29 t221.length co29 : Value).ownBlock ∧ some k_ ≠ (.slice Ao31 t224.length co31 : Value).ownBlock ∧ some k_ ≠ (.slice Ao38 t233.length co38 : Value).ownBlock ∧ some k_ ≠ (.slice Ao41 t236.length co41 : Value).ownBlock ∧ some k_ ≠ (.slice Ao50 t244.length co50 : Value).ownBlock ∧ some k_ ≠ (.slice Ao54 t249.length co54 : Value).ownBlock ∧ some k_ ≠ (.slice Ao59 t252.length co59 : Value).ownBlock ∧ some k_ ≠ (.slice Ao63 t257.length co63 : Value).ownBlock ∧ some k_ ≠ (.slice Ao69 t260.length co69 : Value).ownBlock) (.slice Ao46 t241.length co46) t241) := ⟨rs_3 (Kd.R_mono (Kd.R_far (p := ⟨gb264, 1, none⟩) (Kd.R_far (p := ⟨gb264, 0, none⟩) (Kd.R_types HO243.out BK264.out (by decide)) (fun _ hk => hk.2) (.slice Ao63 t257.length co63)) (fun _ hk => hk.2) (.slice Ao69 t260.length co69)) (fun _ hk => ⟨hk.1.1.1.1.1.1.1.1.1.2, ⟨hk.1.1.1.1.1.1.1.1.2, ⟨hk.1.1.1.1.1.1.1.2, ⟨hk.1.1.1.1.1.1.2, ⟨hk.1.1.1.1.1.2, ⟨hk.1.1.1.1.1.1.1.1.1.1, ⟨hk.1.1.1.1.2, ⟨hk.1.1.1.2, ⟨hk.1.1.2, hk.1.2⟩⟩⟩⟩⟩⟩⟩⟩⟩))⟩
              have n7_ : Aside0 (Kd.R (Kd.int .i64) 27 ((w62.setCell ⟨gb264, 0, none⟩ (.slice Ao63 t257.length co63)).setCell ⟨gb264, 1, none⟩ (.slice Ao69 t260.length co69)) w.heap.size (fun k_ => some k_ ≠ (.slice Ao26 y218.length co26 : Value).ownBlock ∧ some k_ ≠ (.slice Ao29 t221.length co29 : Value).ownBlock ∧ some k_ ≠ (.slice Ao31 t224.length co31 : Value).ownBlock ∧ some k_ ≠ (.slice Ao38 t233.length co38 : Value).ownBlock ∧ some k_ ≠ (.slice Ao41 t236.length co41 : Value).ownBlock ∧ some k_ ≠ (.slice Ao46 t241.length co46 : Value).ownBlock ∧ some k_ ≠ (.slice Ao54 t249.length co54 : Value).ownBlock ∧ some k_ ≠ (.slice Ao59 t252.length co59 : Value).ownBlock ∧ some k_ ≠ (.slice Ao63 t257.length co63 : Value).ownBlock ∧ some k_ ≠ (.slice Ao69 t260.length co69 : Value).ownBlock) (.slice Ao50 t244.length co50) t244) := ⟨rs_3 (Kd.R_mono (Kd.R_far (p := ⟨gb264, 1, none⟩) (Kd.R_far (p := ⟨gb264, 0, none⟩) (Kd.R_types HO246.out BK264.out (by decide)) (fun _ hk => hk.2) (.slice Ao63 t257.length co63)) (fun _ hk => hk.2) (.slice Ao69 t260.length co69)) (fun _ hk => ⟨hk.1.1.1.1.1.1.1.1.1.2, ⟨hk.1.1.1.1.1.1.1.1.2, ⟨hk.1.1.1.1.1.1.1.2, ⟨hk.1.1.1.1.1.1.2, ⟨hk.1.1.1.1.1.2, ⟨hk.1.1.1.1.1.1.1.1.1.1, ⟨hk.1.1.1.1.2, ⟨hk.1.1.1.2, ⟨hk.1.1.2, hk.1.2⟩⟩⟩⟩⟩⟩⟩⟩⟩))⟩
              have n8_ : Aside0 (Kd.R (Kd.int .i64) 27 ((w62.setCell ⟨gb264, 0, none⟩ (.slice Ao63 t257.length co63)).setCell ⟨gb264, 1, none⟩ (.slice Ao69 t260.length co69)) w.heap.size (fun k_ => some k_ ≠ (.slice Ao26 y218.length co26 : Value).ownBlock ∧ some k_ ≠ (.slice Ao29 t221.length co29 : Value).ownBlock ∧ some k_ ≠ (.slice Ao31 t224.length co31 : Value).ownBlock ∧ some k_ ≠ (.slice Ao38 t233.length co38 : Value).ownBlock ∧ some k_ ≠ (.slice Ao41 t236.length co41 : Value).ownBlock ∧ some k_ ≠ (.slice Ao46 t241.length co46 : Value).ownBlock ∧ some k_ ≠ (.slice Ao50 t244.length co50 : Value).ownBlock ∧ some k_ ≠ (.slice Ao59 t252.length co59 : Value).ownBlock ∧ some k_ ≠ (.slice Ao63 t257.length co63 : Value).ownBlock ∧ some k_ ≠ (.slice Ao69 t260.length co69 : Value).ownBlock) (.slice Ao54 t249.length co54) t249) := ⟨rs_3 (Kd.R_mono (Kd.R_far (p := ⟨gb264, 1, none⟩) (Kd.R_far (p := ⟨gb264, 0, none⟩) (Kd.R_types HO251.out BK264.out (by decide)) (fun _ hk => hk.2) (.slice Ao63 t257.length co63)) (fun _ hk => hk.2) (.slice Ao69 t260.length co69)) (fun _ hk => ⟨hk.1.1.1.1.1.1.1.1.1.2, ⟨hk.1.1.1.1.1.1.1.1.2, ⟨hk.1.1.1.1.1.1.1.2, ⟨hk.1.1.1.1.1.1.2, ⟨hk.1.1.1.1.1.2, ⟨hk.1.1.1.1.2, ⟨hk.1.1.1.2, ⟨hk.1.1.1.1.1.1.1.1.1.1, ⟨hk.1.1.2, hk.1.2⟩⟩⟩⟩⟩⟩⟩⟩⟩))⟩
              have n9_ : Aside0 (Kd.R (Kd.int .i64) 27 ((w62.setCell ⟨gb264, 0, none⟩ (.slice Ao63 t257.length co63)).setCell ⟨gb264, 1, none⟩ (.slice Ao69 t260.length co69)) w.heap.size (fun k_ => some k_ ≠ (.slice Ao26 y218.length co26 : Value).ownBlock ∧ some k_ ≠ (.slice Ao29 t221.length co29 : Value).ownBlock ∧ some k_ ≠ (.slice Ao31 t224.length co31 : Value).ownBlock ∧ some k_ ≠ (.slice Ao38 t233.length co38 : Value).ownBlock ∧ some k_ ≠ (.slice Ao41 t236.length co41 : Value).ownBlock ∧ some k_ ≠ (.slice Ao46 t241.length co46 : Value).ownBlock ∧ some k_ ≠ (.slice Ao50 t244.length co50 : Value).ownBlock ∧ some k_ ≠ (.slice Ao54 t249.length co54 : Value).ownBlock ∧ some k_ ≠ (.slice Ao63 t257.length co63 : Value).ownBlock ∧ some k_ ≠ (.slice Ao69 t260.length co69 : Value).ownBlock) (.slice Ao59 t252.length co59) t252) := ⟨rs_3 (Kd.R_mono (Kd.R_far (p := ⟨gb264, 1, none⟩) (Kd.R_far (p := ⟨gb264, 0, none⟩) (Kd.R_types HO254.out BK264.out (by decide)) (fun _ hk => hk.2) (.slice Ao63 t257.length co63)) (fun _ hk => hk.2) (.slice Ao69 t260.length co69)) (fun _ hk => ⟨hk.1.1.1.1.1.1.1.1.1.2, ⟨hk.1.1.1.1.1.1.1.1.2, ⟨hk.1.1.1.1.1.1.1.2, ⟨hk.1.1.1.1.1.1.2, ⟨hk.1.1.1.1.1.2, ⟨hk.1.1.1.1.2, ⟨hk.1.1.1.2, ⟨hk.1.1.1.1.1.1.1.1.1.1, ⟨hk.1.1.2, hk.1.2⟩⟩⟩⟩⟩⟩⟩⟩⟩))⟩
              have n10_ : Aside0 (Kd.R (Kd.int .i64) 27 ((w62.setCell ⟨gb264, 0, none⟩ (.slice Ao63 t257.length co63)).setCell ⟨gb264, 1, none⟩ (.slice Ao69 t260.length co69)) w.heap.size (fun k_ => some k_ ≠ (.slice Ao26 y218.length co26 : Value).ownBlock ∧ some k_ ≠ (.slice Ao29 t221.length co29 : Value).ownBlock ∧ some k_ ≠ (.slice Ao31 t224.length co31 : Value).ownBlock ∧ some k_ ≠ (.slice Ao38 t233.length co38 : Value).ownBlock ∧ some k_ ≠ (.slice Ao41 t236.length co41 : Value).ownBlock ∧ some k_ ≠ (.slice Ao46 t241.length co46 : Value).ownBlock ∧ some k_ ≠ (.slice Ao50 t244.length co50 : Value).ownBlock ∧ some k_ ≠ (.slice Ao54 t249.length co54 : Value).ownBlock ∧ some k_ ≠ (.slice Ao59 t252.length co59 : Value).ownBlock ∧ some k_ ≠ (.slice Ao69 t260.length co69 : Value).ownBlock) (.slice Ao63 t257.length co63) t257) := ⟨rs_3 (Kd.R_mono (Kd.R_far (p := ⟨gb264, 1, none⟩) (Kd.R_far (p := ⟨gb264, 0, none⟩) (Kd.R_types HO259.out BK264.out (by decide)) (fun _ hk => hk.2) (.slice Ao63 t257.length co63)) (fun _ hk => hk.2) (.slice Ao69 t260.length co69)) (fun _ hk => ⟨hk.1.1.1.1.1.1.1.1.1.2, ⟨hk.1.1.1.1.1.1.1.1.2, ⟨hk.1.1.1.1.1.1.1.2, ⟨hk.1.1.1.1.1.1.2, ⟨hk.1.1.1.1.1.2, ⟨hk.1.1.1.1.2, ⟨hk.1.1.1.2, ⟨hk.1.1.2, ⟨hk.1.2, hk.1.1.1.1.1.1.1.1.1.1⟩⟩⟩⟩⟩⟩⟩⟩⟩))⟩
              have n11_ : Aside0 (Kd.R (Kd.int .i64) 27 ((w62.setCell ⟨gb264, 0, none⟩ (.slice Ao63 t257.length co63)).setCell ⟨gb264, 1, none⟩ (.slice Ao69 t260.length co69)) w.heap.size (fun k_ => some k_ ≠ (.slice Ao26 y218.length co26 : Value).ownBlock ∧ some k_ ≠ (.slice Ao29 t221.length co29 : Value).ownBlock ∧ some k_ ≠ (.slice Ao31 t224.length co31 : Value).ownBlock ∧ some k_ ≠ (.slice Ao38 t233.length co38 : Value).ownBlock ∧ some k_ ≠ (.slice Ao41 t236.length co41 : Value).ownBlock ∧ some k_ ≠ (.slice Ao46 t241.length co46 : Value).ownBlock ∧ some k_ ≠ (.slice Ao50 t244.length co50 : Value).ownBlock ∧ some k_ ≠ (.slice Ao54 t249.length co54 : Value).ownBlock ∧ some k_ ≠ (.slice Ao59 t252.length co59 : Value).ownBlock ∧ some k_ ≠ (.slice Ao63 t257.length co63 : Value).ownBlock) (.slice Ao69 t260.length co69) t260) := ⟨rs_3 (Kd.R_mono (Kd.R_far (p := ⟨gb264, 1, none⟩) (Kd.R_far (p := ⟨gb264, 0, none⟩) (Kd.R_types HO262.out BK264.out (by decide)) (fun _ hk => hk.2) (.slice Ao63 t257.length co63)) (fun _ hk => hk.2) (.slice Ao69 t260.length co69)) (fun _ hk => ⟨hk.1.1.1.1.1.1.1.1.1.2, ⟨hk.1.1.1.1.1.1.1.1.2, ⟨hk.1.1.1.1.1.1.1.2, ⟨hk.1.1.1.1.1.1.2, ⟨hk.1.1.1.1.1.2, ⟨hk.1.1.1.1.2, ⟨hk.1.1.1.2, ⟨hk.1.1.2, ⟨hk.1.2, hk.1.1.1.1.1.1.1.1.1.1⟩⟩⟩⟩⟩⟩⟩⟩⟩))⟩
              have n12_ : Aside0 (((w62.setCell ⟨gb264, 0, none⟩ (.slice Ao63 t257.length co63)).setCell ⟨gb264, 1, none⟩ (.slice Ao69 t260.length co69)).heap[gb227]? = some (.cells #[.slice Ao29 t221.length co29, .slice Ao31 t224.length co31] 25 (0, 0))) := ⟨by (with_reducible repeat (first | refine blk_drewN ?_ _ | refine blk_drew ?_ | refine blk_alloc ?_ _)); refine blk_far ?_ NB227_264.out _; (with_reducible repeat (first | refine blk_drewN ?_ _ | refine blk_drew ?_ | refine blk_alloc ?_ _)); refine blk_far ?_ NB227_264.out _; (with_reducible repeat (first | refine blk_drewN ?_ _ | refine blk_drew ?_ | refine blk_alloc ?_ _)); exact BK227.out⟩
              have n13_ : Aside0 (((w62.setCell ⟨gb264, 0, none⟩ (.slice Ao63 t257.length co63)).setCell ⟨gb264, 1, none⟩ (.slice Ao69 t260.length co69)).heap[gb240]? = some (.cells #[.slice Ao38 t233.length co38, .slice Ao41 t236.length co41] 25 (0, 0))) := ⟨by (with_reducible repeat (first | refine blk_drewN ?_ _ | refine blk_drew ?_ | refine blk_alloc ?_ _)); refine blk_far ?_ NB240_264.out _; (with_reducible repeat (first | refine blk_drewN ?_ _ | refine blk_drew ?_ | refine blk_alloc ?_ _)); refine blk_far ?_ NB240_264.out _; (with_reducible repeat (first | refine blk_drewN ?_ _ | refine blk_drew ?_ | refine blk_alloc ?_ _)); exact BK240.out⟩
              have n14_ : Aside0 (((w62.setCell ⟨gb264, 0, none⟩ (.slice Ao63 t257.length co63)).setCell ⟨gb264, 1, none⟩ (.slice Ao69 t260.length co69)).heap[gb248]? = some (.cells #[.slice Ao46 t241.length co46, .slice Ao50 t244.length co50] 25 (0, 0))) := ⟨by (with_reducible repeat (first | refine blk_drewN ?_ _ | refine blk_drew ?_ | refine blk_alloc ?_ _)); refine blk_far ?_ NB248_264.out _; (with_reducible repeat (first | refine blk_drewN ?_ _ | refine blk_drew ?_ | refine blk_alloc ?_ _)); refine blk_far ?_ NB248_264.out _; (with_reducible repeat (first | refine blk_drewN ?_ _ | refine blk_drew ?_ | refine blk_alloc ?_ _)); exact BK248.out⟩
              have n15_ : Aside0 (((w62.setCell ⟨gb264, 0, none⟩ (.slice Ao63 t257.length co63)).setCell ⟨gb264, 1, none⟩ (.slice Ao69 t260.length co69)).heap[gb256]? = some (.cells #[.slice Ao54 t249.length co54, .slice Ao59 t252.length co59] 25 (0, 0))) := ⟨by (with_reducible repeat (first | refine blk_drewN ?_ _ | refine blk_drew ?_ | refine blk_alloc ?_ _)); refine blk_far ?_ NB256_264.out _; (with_reducible repeat (first | refine blk_drewN ?_ _ | refine blk_drew ?_ | refine blk_alloc ?_ _)); refine blk_far ?_ NB256_264.out _; (with_reducible repeat (first | refine blk_drewN ?_ _ | refine blk_drew ?_ | refine blk_alloc ?_ _)); exact BK256.out⟩
              have n16_ : Aside0 (((w62.setCell ⟨gb264, 0, none⟩ (.slice Ao63 t257.length co63)).setCell ⟨gb264, 1, none⟩ (.slice Ao69 t260.length co69)).heap[gb264]? = some (.cells #[.slice Ao63 t257.length co63, .slice Ao69 t260.length co69] 25 (0, 0))) := ⟨by (with_reducible repeat (first | refine blk_drewN ?_ _ | refine blk_drew ?_ | refine blk_alloc ?_ _)); refine blk_put (cs := #[.slice Ao63 t257.length co63, .slice none 0 0]) ?_ 1 _ rfl; (with_reducible repeat (first | refine blk_drewN ?_ _ | refine blk_drew ?_ | refine blk_alloc ?_ _)); refine blk_put (cs := #[.slice none 0 0, .slice none 0 0]) ?_ 0 _ rfl; (with_reducible repeat (first | refine blk_drewN ?_ _ | refine blk_drew ?_ | refine blk_alloc ?_ _)); exact BK264.out⟩
              have n17_ : Aside0 (Below w.heap.size w ((w62.setCell ⟨gb264, 0, none⟩ (.slice Ao63 t257.length co63)).setCell ⟨gb264, 1, none⟩ (.slice Ao69 t260.length co69))) := ⟨by repeat (first | (with_reducible first | exact HB.out | apply below_alloc | apply pw_below_drewN | apply below_drew1 | refine below_set ?_ GE227.out | refine below_set ?_ GE240.out | refine below_set ?_ GE248.out | refine below_set ?_ GE256.out | refine below_set ?_ GE264.out) | exact HB.out)⟩
              (try clear HO220)
              (try clear HO223)
              (try clear HO226)
              (try clear HO232)
              (try clear HO235)
              (try clear HO238)
              (try clear HO243)
              (try clear HO246)
              (try clear HO251)
              (try clear HO254)
              (try clear HO259)
              (try clear HO262)
              (try clear BK227)
              (try clear BK240)
              (try clear BK248)
              (try clear BK256)
              (try clear BK264)
              (try clear HB)
              generalize ((w62.setCell ⟨gb264, 0, none⟩ (.slice Ao63 t257.length co63)).setCell ⟨gb264, 1, none⟩ (.slice Ao69 t260.length co69)) = w70 at n0_ n1_ n2_ n3_ n4_ n5_ n6_ n7_ n8_ n9_ n10_ n11_ n12_ n13_ n14_ n15_ n16_ n17_ ⊢
              have HO220 := n0_
              have HO223 := n1_
              have HO226 := n2_
              have HO232 := n3_
              have HO235 := n4_
              have HO238 := n5_
              have HO243 := n6_
              have HO246 := n7_
              have HO251 := n8_
              have HO254 := n9_
              have HO259 := n10_
              have HO262 := n11_
              have BK227 := n12_
              have BK240 := n13_
              have BK248 := n14_
              have BK256 := n15_
              have BK264 := n16_
              have HB := n17_
              clear n0_ n1_ n2_ n3_ n4_ n5_ n6_ n7_ n8_ n9_ n10_ n11_ n12_ n13_ n14_ n15_ n16_ n17_
              have n0_ := Aside0.mk (Kd.R_drew HO220.out)
              have n1_ := Aside0.mk (Kd.R_drew HO223.out)
              have n2_ := Aside0.mk (Kd.R_drew HO226.out)
              have n3_ := Aside0.mk (Kd.R_drew HO232.out)
              have n4_ := Aside0.mk (Kd.R_drew HO235.out)
              have n5_ := Aside0.mk (Kd.R_drew HO238.out)
              have n6_ := Aside0.mk (Kd.R_drew HO243.out)
              have n7_ := Aside0.mk (Kd.R_drew HO246.out)
              have n8_ := Aside0.mk (Kd.R_drew HO251.out)
              have n9_ := Aside0.mk (Kd.R_drew HO254.out)
              have n10_ := Aside0.mk (Kd.R_drew HO259.out)
              have n11_ := Aside0.mk (Kd.R_drew HO262.out)
              have n12_ := Aside0.mk (blk_drew BK227.out)
              have n13_ := Aside0.mk (blk_drew BK240.out)
              have n14_ := Aside0.mk (blk_drew BK248.out)
              have n15_ := Aside0.mk (blk_drew BK256.out)
              have n16_ := Aside0.mk (blk_drew BK264.out)
              have n17_ := Aside0.mk (below_drew1 HB.out)
              clear HO220
              clear HO223
              clear HO226
              clear HO232
              clear HO235
              clear HO238
              clear HO243
              clear HO246
              clear HO251
              clear HO254
              clear HO259
              clear HO262
              clear BK227
              clear BK240
              clear BK248
              clear BK256
              clear BK264
              clear HB
              have HO220 := n0_
              have HO223 := n1_
              have HO226 := n2_
              have HO232 := n3_
              have HO235 := n4_
              have HO238 := n5_
              have HO243 := n6_
              have HO246 := n7_
              have HO251 := n8_
              have HO254 := n9_
              have HO259 := n10_
              have HO262 := n11_
              have BK227 := n12_
              have BK240 := n13_
              have BK248 := n14_
              have BK256 := n15_
              have BK264 := n16_
              have HB := n17_
              clear n0_ n1_ n2_ n3_ n4_ n5_ n6_ n7_ n8_ n9_ n10_ n11_ n12_ n13_ n14_ n15_ n16_ n17_
              refine start_ (n := 11) (S := fun w' => w'.cell? ⟨gb227, 0, none⟩ = some (.slice Ao29 t221.length co29) ∧ w'.cell? ⟨gb227, 1, none⟩ = some (.slice Ao31 t224.length co31)) (ds := []) #[false, false, false, false, false, false, false, false, false, false, false] (by kernel_rfl) rfl rfl ⟨(blk_cell BK227.out 0).trans rfl, (blk_cell BK227.out 1).trans rfl⟩ (fun hHeld => ?_); refine with_tabW carousellaw15_OptKnown.tab9 carousellaw15_OptKnown.bits9 (fun HT_ HW_ => ?_)
              generalize w70.drew = w71 at HO220 HO223 HO226 HO232 HO235 HO238 HO243 HO246 HO251 HO254 HO259 HO262 BK227 BK240 BK248 BK256 BK264 HB hHeld ⊢
              refine pure_ (i := 3) (N := some 50) (v := ?_) (a' := ?_) #[false, false, false, true, false, false, false, false, false, false, false] rfl rfl (any_of HT_.out (by kernel_rfl)) (fun _ _ _ h => h) (Or.inl ⟨by rfl, ?_⟩) ?_ ?_
              rotate_left
              ·intro w'
               go_simp
               with_reducible rfl
              rotate_left
              ·simp only [Act.put, List.setIfInBounds_toArray, List.set_cons_zero, List.set_cons_succ, i64_w, i32_w]
               rfl
              refine take_ (i := 0) (N := some 47) (v := ?_) (a' := ?_) #[true, false, false, true, false, false, false, false, false, false, false] rfl rfl (take_ofW HT_.out HW_.out (by kernel_rfl)) (fun _ _ _ h => h) (Or.inl ⟨by rfl, ?_⟩) hHeld ?_ ?_
              rotate_left
              ·rintro w' ⟨s0, s1⟩
               go_simp
               with_reducible rfl
              rotate_left
              ·simp only [Act.put, List.setIfInBounds_toArray, List.set_cons_zero, List.set_cons_succ, i64_w, i32_w]
               rfl
              refine join_ (σ := Value × Value × Value × Nat) 2 #[true, true, true, true, true, true, true, true, true, false, false] (fun s_ => [(48, .agg #[.int .i64 t265, .int .u64 t266]), (49, s_.1), (51, .tuple #[.agg #[s_.2.1, s_.2.2.1], .int .i64 t276]), (11, .pointer (some ⟨s_.2.2.2, 0, none⟩)), (46, .tuple #[.agg #[s_.2.1, s_.2.2.1], .int .i64 t276]), (52, .agg #[s_.2.1, s_.2.2.1]), (53, .int .i64 t276)]) (fun s_ w' => (w'.cell? ⟨gb227, 0, none⟩ = some (.slice Ao29 t221.length co29) ∧ w'.cell? ⟨gb227, 1, none⟩ = some (.slice Ao31 t224.length co31)) ∧ (Kd.R (Kd.int .i64) 27 w' w.heap.size (fun k_ => some k_ ≠ (.slice Ao29 t221.length co29 : Value).ownBlock ∧ some k_ ≠ (.slice Ao31 t224.length co31 : Value).ownBlock ∧ some k_ ≠ (.slice Ao38 t233.length co38 : Value).ownBlock ∧ some k_ ≠ (.slice Ao41 t236.length co41 : Value).ownBlock ∧ some k_ ≠ (.slice Ao46 t241.length co46 : Value).ownBlock ∧ some k_ ≠ (.slice Ao50 t244.length co50 : Value).ownBlock ∧ some k_ ≠ (.slice Ao54 t249.length co54 : Value).ownBlock ∧ some k_ ≠ (.slice Ao59 t252.length co59 : Value).ownBlock ∧ some k_ ≠ (.slice Ao63 t257.length co63 : Value).ownBlock ∧ some k_ ≠ (.slice Ao69 t260.length co69 : Value).ownBlock ∧ some k_ ≠ (s_.2.1 : Value).ownBlock ∧ some k_ ≠ (s_.2.2.1 : Value).ownBlock) (.slice Ao26 y218.length co26) y218) ∧ (Kd.R (Kd.int .i64) 27 w' w.heap.size (fun k_ => some k_ ≠ (.slice Ao26 y218.length co26 : Value).ownBlock ∧ some k_ ≠ (.slice Ao31 t224.length co31 : Value).ownBlock ∧ some k_ ≠ (.slice Ao38 t233.length co38 : Value).ownBlock ∧ some k_ ≠ (.slice Ao41 t236.length co41 : Value).ownBlock ∧ some k_ ≠ (.slice Ao46 t241.length co46 : Value).ownBlock ∧ some k_ ≠ (.slice Ao50 t244.length co50 : Value).ownBlock ∧ some k_ ≠ (.slice Ao54 t249.length co54 : Value).ownBlock ∧ some k_ ≠ (.slice Ao59 t252.length co59 : Value).ownBlock ∧ some k_ ≠ (.slice Ao63 t257.length co63 : Value).ownBlock ∧ some k_ ≠ (.slice Ao69 t260.length co69 : Value).ownBlock ∧ some k_ ≠ (s_.2.1 : Value).ownBlock ∧ some k_ ≠ (s_.2.2.1 : Value).ownBlock) (.slice Ao29 t221.length co29) t221) ∧ (Kd.R (Kd.int .i64) 27 w' w.heap.size (fun k_ => some k_ ≠ (.slice Ao26 y218.length co26 : Value).ownBlock ∧ some k_ ≠ (.slice Ao29 t221.length co29 : Value).ownBlock ∧ some k_ ≠ (.slice Ao38 t233.length co38 : Value).ownBlock ∧ some k_ ≠ (.slice Ao41 t236.length co41 : Value).ownBlock ∧ some k_ ≠ (.slice Ao46 t241.length co46 : Value).ownBlock ∧ some k_ ≠ (.slice Ao50 t244.length co50 : Value).ownBlock ∧ some k_ ≠ (.slice Ao54 t249.length co54 : Value).ownBlock ∧ some k_ ≠ (.slice Ao59 t252.length co59 : Value).ownBlock ∧ some k_ ≠ (.slice Ao63 t257.length co63 : Value).ownBlock ∧ some k_ ≠ (.slice Ao69 t260.length co69 : Value).ownBlock ∧ some k_ ≠ (s_.2.1 : Value).ownBlock ∧ some k_ ≠ (s_.2.2.1 : Value).ownBlock) (.slice Ao31 t224.length co31) t224) ∧ (Kd.R k30 30 w' w.heap.size (fun k_ => some k_ ≠ (s_.1 : Value).ownBlock) (.slice Ao43 y230.length co43) y230) ∧ (Kd.R (Kd.int .i64) 27 w' w.heap.size (fun k_ => some k_ ≠ (.slice Ao26 y218.length co26 : Value).ownBlock ∧ some k_ ≠ (.slice Ao29 t221.length co29 : Value).ownBlock ∧ some k_ ≠ (.slice Ao31 t224.length co31 : Value).ownBlock ∧ some k_ ≠ (.slice Ao41 t236.length co41 : Value).ownBlock ∧ some k_ ≠ (.slice Ao46 t241.length co46 : Value).ownBlock ∧ some k_ ≠ (.slice Ao50 t244.length co50 : Value).ownBlock ∧ some k_ ≠ (.slice Ao54 t249.length co54 : Value).ownBlock ∧ some k_ ≠ (.slice Ao59 t252.length co59 : Value).ownBlock ∧ some k_ ≠ (.slice Ao63 t257.length co63 : Value).ownBlock ∧ some k_ ≠ (.slice Ao69 t260.length co69 : Value).ownBlock ∧ some k_ ≠ (s_.2.1 : Value).ownBlock ∧ some k_ ≠ (s_.2.2.1 : Value).ownBlock) (.slice Ao38 t233.length co38) t233) ∧ (Kd.R (Kd.int .i64) 27 w' w.heap.size (fun k_ => some k_ ≠ (.slice Ao26 y218.length co26 : Value).ownBlock ∧ some k_ ≠ (.slice Ao29 t221.length co29 : Value).ownBlock ∧ some k_ ≠ (.slice Ao31 t224.length co31 : Value).ownBlock ∧ some k_ ≠ (.slice Ao38 t233.length co38 : Value).ownBlock ∧ some k_ ≠ (.slice Ao46 t241.length co46 : Value).ownBlock ∧ some k_ ≠ (.slice Ao50 t244.length co50 : Value).ownBlock ∧ some k_ ≠ (.slice Ao54 t249.length co54 : Value).ownBlock ∧ some k_ ≠ (.slice Ao59 t252.length co59 : Value).ownBlock ∧ some k_ ≠ (.slice Ao63 t257.length co63 : Value).ownBlock ∧ some k_ ≠ (.slice Ao69 t260.length co69 : Value).ownBlock ∧ some k_ ≠ (s_.2.1 : Value).ownBlock ∧ some k_ ≠ (s_.2.2.1 : Value).ownBlock) (.slice Ao41 t236.length co41) t236) ∧ (Kd.R (Kd.int .i64) 27 w' w.heap.size (fun k_ => some k_ ≠ (.slice Ao26 y218.length co26 : Value).ownBlock ∧ some k_ ≠ (.slice Ao29 t221.length co29 : Value).ownBlock ∧ some k_ ≠ (.slice Ao31 t224.length co31 : Value).ownBlock ∧ some k_ ≠ (.slice Ao38 t233.length co38 : Value).ownBlock ∧ some k_ ≠ (.slice Ao41 t236.length co41 : Value).ownBlock ∧ some k_ ≠ (.slice Ao50 t244.length co50 : Value).ownBlock ∧ some k_ ≠ (.slice Ao54 t249.length co54 : Value).ownBlock ∧ some k_ ≠ (.slice Ao59 t252.length co59 : Value).ownBlock ∧ some k_ ≠ (.slice Ao63 t257.length co63 : Value).ownBlock ∧ some k_ ≠ (.slice Ao69 t260.length co69 : Value).ownBlock ∧ some k_ ≠ (s_.2.1 : Value).ownBlock ∧ some k_ ≠ (s_.2.2.1 : Value).ownBlock) (.slice Ao46 t241.length co46) t241) ∧ (Kd.R (Kd.int .i64) 27 w' w.heap.size (fun k_ => some k_ ≠ (.slice Ao26 y218.length co26 : Value).ownBlock ∧ some k_ ≠ (.slice Ao29 t221.length co29 : Value).ownBlock ∧ some k_ ≠ (.slice Ao31 t224.length co31 : Value).ownBlock ∧ some k_ ≠ (.slice Ao38 t233.length co38 : Value).ownBlock ∧ some k_ ≠ (.slice Ao41 t236.length co41 : Value).ownBlock ∧ some k_ ≠ (.slice Ao46 t241.length co46 : Value).ownBlock ∧ some k_ ≠ (.slice Ao54 t249.length co54 : Value).ownBlock ∧ some k_ ≠ (.slice Ao59 t252.length co59 : Value).ownBlock ∧ some k_ ≠ (.slice Ao63 t257.length co63 : Value).ownBlock ∧ some k_ ≠ (.slice Ao69 t260.length co69 : Value).ownBlock ∧ some k_ ≠ (s_.2.1 : Value).ownBlock ∧ some k_ ≠ (s_.2.2.1 : Value).ownBlock) (.slice Ao50 t244.length co50) t244) ∧ (Kd.R (Kd.int .i64) 27 w' w.heap.size (fun k_ => some k_ ≠ (.slice Ao26 y218.length co26 : Value).ownBlock ∧ some k_ ≠ (.slice Ao29 t221.length co29 : Value).ownBlock ∧ some k_ ≠ (.slice Ao31 t224.length co31 : Value).ownBlock ∧ some k_ ≠ (.slice Ao38 t233.length co38 : Value).ownBlock ∧ some k_ ≠ (.slice Ao41 t236.length co41 : Value).ownBlock ∧ some k_ ≠ (.slice Ao46 t241.length co46 : Value).ownBlock ∧ some k_ ≠ (.slice Ao50 t244.length co50 : Value).ownBlock ∧ some k_ ≠ (.slice Ao59 t252.length co59 : Value).ownBlock ∧ some k_ ≠ (.slice Ao63 t257.length co63 : Value).ownBlock ∧ some k_ ≠ (.slice Ao69 t260.length co69 : Value).ownBlock ∧ some k_ ≠ (s_.2.1 : Value).ownBlock ∧ some k_ ≠ (s_.2.2.1 : Value).ownBlock) (.slice Ao54 t249.length co54) t249) ∧ (Kd.R (Kd.int .i64) 27 w' w.heap.size (fun k_ => some k_ ≠ (.slice Ao26 y218.length co26 : Value).ownBlock ∧ some k_ ≠ (.slice Ao29 t221.length co29 : Value).ownBlock ∧ some k_ ≠ (.slice Ao31 t224.length co31 : Value).ownBlock ∧ some k_ ≠ (.slice Ao38 t233.length co38 : Value).ownBlock ∧ some k_ ≠ (.slice Ao41 t236.length co41 : Value).ownBlock ∧ some k_ ≠ (.slice Ao46 t241.length co46 : Value).ownBlock ∧ some k_ ≠ (.slice Ao50 t244.length co50 : Value).ownBlock ∧ some k_ ≠ (.slice Ao54 t249.length co54 : Value).ownBlock ∧ some k_ ≠ (.slice Ao63 t257.length co63 : Value).ownBlock ∧ some k_ ≠ (.slice Ao69 t260.length co69 : Value).ownBlock ∧ some k_ ≠ (s_.2.1 : Value).ownBlock ∧ some k_ ≠ (s_.2.2.1 : Value).ownBlock) (.slice Ao59 t252.length co59) t252) ∧ (Kd.R (Kd.int .i64) 27 w' w.heap.size (fun k_ => some k_ ≠ (.slice Ao26 y218.length co26 : Value).ownBlock ∧ some k_ ≠ (.slice Ao29 t221.length co29 : Value).ownBlock ∧ some k_ ≠ (.slice Ao31 t224.length co31 : Value).ownBlock ∧ some k_ ≠ (.slice Ao38 t233.length co38 : Value).ownBlock ∧ some k_ ≠ (.slice Ao41 t236.length co41 : Value).ownBlock ∧ some k_ ≠ (.slice Ao46 t241.length co46 : Value).ownBlock ∧ some k_ ≠ (.slice Ao50 t244.length co50 : Value).ownBlock ∧ some k_ ≠ (.slice Ao54 t249.length co54 : Value).ownBlock ∧ some k_ ≠ (.slice Ao59 t252.length co59 : Value).ownBlock ∧ some k_ ≠ (.slice Ao69 t260.length co69 : Value).ownBlock ∧ some k_ ≠ (s_.2.1 : Value).ownBlock ∧ some k_ ≠ (s_.2.2.1 : Value).ownBlock) (.slice Ao63 t257.length co63) t257) ∧ (Kd.R (Kd.int .i64) 27 w' w.heap.size (fun k_ => some k_ ≠ (.slice Ao26 y218.length co26 : Value).ownBlock ∧ some k_ ≠ (.slice Ao29 t221.length co29 : Value).ownBlock ∧ some k_ ≠ (.slice Ao31 t224.length co31 : Value).ownBlock ∧ some k_ ≠ (.slice Ao38 t233.length co38 : Value).ownBlock ∧ some k_ ≠ (.slice Ao41 t236.length co41 : Value).ownBlock ∧ some k_ ≠ (.slice Ao46 t241.length co46 : Value).ownBlock ∧ some k_ ≠ (.slice Ao50 t244.length co50 : Value).ownBlock ∧ some k_ ≠ (.slice Ao54 t249.length co54 : Value).ownBlock ∧ some k_ ≠ (.slice Ao59 t252.length co59 : Value).ownBlock ∧ some k_ ≠ (.slice Ao63 t257.length co63 : Value).ownBlock ∧ some k_ ≠ (s_.2.1 : Value).ownBlock ∧ some k_ ≠ (s_.2.2.1 : Value).ownBlock) (.slice Ao69 t260.length co69) t260) ∧ (Kd.R k30 30 w' w.heap.size (fun k_ => some k_ ≠ (.slice Ao43 y230.length co43 : Value).ownBlock) s_.1 y267) ∧ (Kd.R (Kd.int .i64) 27 w' w.heap.size (fun k_ => some k_ ≠ (.slice Ao26 y218.length co26 : Value).ownBlock ∧ some k_ ≠ (.slice Ao29 t221.length co29 : Value).ownBlock ∧ some k_ ≠ (.slice Ao31 t224.length co31 : Value).ownBlock ∧ some k_ ≠ (.slice Ao38 t233.length co38 : Value).ownBlock ∧ some k_ ≠ (.slice Ao41 t236.length co41 : Value).ownBlock ∧ some k_ ≠ (.slice Ao46 t241.length co46 : Value).ownBlock ∧ some k_ ≠ (.slice Ao50 t244.length co50 : Value).ownBlock ∧ some k_ ≠ (.slice Ao54 t249.length co54 : Value).ownBlock ∧ some k_ ≠ (.slice Ao59 t252.length co59 : Value).ownBlock ∧ some k_ ≠ (.slice Ao63 t257.length co63 : Value).ownBlock ∧ some k_ ≠ (.slice Ao69 t260.length co69 : Value).ownBlock ∧ some k_ ≠ (s_.2.2.1 : Value).ownBlock) s_.2.1 t270) ∧ (Kd.R (Kd.int .i64) 27 w' w.heap.size (fun k_ => some k_ ≠ (.slice Ao26 y218.length co26 : Value).ownBlock ∧ some k_ ≠ (.slice Ao29 t221.length co29 : Value).ownBlock ∧ some k_ ≠ (.slice Ao31 t224.length co31 : Value).ownBlock ∧ some k_ ≠ (.slice Ao38 t233.length co38 : Value).ownBlock ∧ some k_ ≠ (.slice Ao41 t236.length co41 : Value).ownBlock ∧ some k_ ≠ (.slice Ao46 t241.length co46 : Value).ownBlock ∧ some k_ ≠ (.slice Ao50 t244.length co50 : Value).ownBlock ∧ some k_ ≠ (.slice Ao54 t249.length co54 : Value).ownBlock ∧ some k_ ≠ (.slice Ao59 t252.length co59 : Value).ownBlock ∧ some k_ ≠ (.slice Ao63 t257.length co63 : Value).ownBlock ∧ some k_ ≠ (.slice Ao69 t260.length co69 : Value).ownBlock ∧ some k_ ≠ (s_.2.1 : Value).ownBlock) s_.2.2.1 t273) ∧ (w'.heap[gb227]? = some (.cells #[.slice Ao29 t221.length co29, .slice Ao31 t224.length co31] 25 (0, 0))) ∧ (w'.heap[gb240]? = some (.cells #[.slice Ao38 t233.length co38, .slice Ao41 t236.length co41] 25 (0, 0))) ∧ (w'.heap[gb248]? = some (.cells #[.slice Ao46 t241.length co46, .slice Ao50 t244.length co50] 25 (0, 0))) ∧ (w'.heap[gb256]? = some (.cells #[.slice Ao54 t249.length co54, .slice Ao59 t252.length co59] 25 (0, 0))) ∧ (w'.heap[gb264]? = some (.cells #[.slice Ao63 t257.length co63, .slice Ao69 t260.length co69] 25 (0, 0))) ∧ (w'.heap[s_.2.2.2]? = some (.cells #[.slice none 0 0, .slice none 0 0] 25 (0, 0))) ∧ (w.heap.size ≤ s_.2.2.2) ∧ (w.heap.size ≤ s_.2.2.2) ∧ (gb227 ≠ s_.2.2.2) ∧ (s_.2.2.2 ≠ gb227) ∧ (gb240 ≠ s_.2.2.2) ∧ (s_.2.2.2 ≠ gb240) ∧ (gb248 ≠ s_.2.2.2) ∧ (s_.2.2.2 ≠ gb248) ∧ (gb256 ≠ s_.2.2.2) ∧ (s_.2.2.2 ≠ gb256) ∧ (gb264 ≠ s_.2.2.2) ∧ (s_.2.2.2 ≠ gb264) ∧ (Below w.heap.size w w')) ?_ ?_
              rotate_left
              ·intro hCont
               refine two_ (i := 1) (j := 8) (Ni := some 48) (Nj := some 11) #[true, true, false, true, false, false, false, false, false, false, false] #[true, false, false, true, false, false, false, false, true, false, false] rfl rfl rfl rfl (two_of HT_.out (by kernel_rfl)) (by decide) (by decide) (fun K hK => ?_) (fun K hK => ?_)
               ·skip
                refine goes_ Try.func11 (by kernel_rfl) rfl #[.int .i64 (-100)] (by rfl) rfl rfl (by (try simp only [List.map_toArray, List.map_cons, List.map_nil]); first | done | rfl | (simp only [List.length_drop, List.length_take]; rfl)) ?_
                with_reducible refine (wide_Of.calls (-100) t265 t266 _ A9.out).mono ?_
                rintro e w72 ⟨rfl, hb⟩
                refine ⟨_, rfl, ?_⟩
                have n0_ := Aside0.mk (Kd.R_below (rs_3 HO220.out) hb)
                have n1_ := Aside0.mk (Kd.R_below (rs_3 HO223.out) hb)
                have n2_ := Aside0.mk (Kd.R_below (rs_3 HO226.out) hb)
                have n3_ := Aside0.mk (Kd.R_below (rs_3 HO232.out) hb)
                have n4_ := Aside0.mk (Kd.R_below (rs_3 HO235.out) hb)
                have n5_ := Aside0.mk (Kd.R_below (rs_3 HO238.out) hb)
                have n6_ := Aside0.mk (Kd.R_below (rs_3 HO243.out) hb)
                have n7_ := Aside0.mk (Kd.R_below (rs_3 HO246.out) hb)
                have n8_ := Aside0.mk (Kd.R_below (rs_3 HO251.out) hb)
                have n9_ := Aside0.mk (Kd.R_below (rs_3 HO254.out) hb)
                have n10_ := Aside0.mk (Kd.R_below (rs_3 HO259.out) hb)
                have n11_ := Aside0.mk (Kd.R_below (rs_3 HO262.out) hb)
                have n12_ := Aside0.mk (blk_below (g := gb227) (o := .cells #[.slice Ao29 t221.length co29, .slice Ao31 t224.length co31] 25 (0, 0)) (bs_3 BK227) hb)
                have n13_ := Aside0.mk (blk_below (g := gb240) (o := .cells #[.slice Ao38 t233.length co38, .slice Ao41 t236.length co41] 25 (0, 0)) (bs_3 BK240) hb)
                have n14_ := Aside0.mk (blk_below (g := gb248) (o := .cells #[.slice Ao46 t241.length co46, .slice Ao50 t244.length co50] 25 (0, 0)) (bs_3 BK248) hb)
                have n15_ := Aside0.mk (blk_below (g := gb256) (o := .cells #[.slice Ao54 t249.length co54, .slice Ao59 t252.length co59] 25 (0, 0)) (bs_3 BK256) hb)
                have n16_ := Aside0.mk (blk_below (g := gb264) (o := .cells #[.slice Ao63 t257.length co63, .slice Ao69 t260.length co69] 25 (0, 0)) (bs_3 BK264) hb)
                have n17_ := Aside0.mk (below_step (by repeat (first | (with_reducible first | exact HB.out | apply below_alloc | apply pw_below_drewN | apply below_drew1 | refine below_set ?_ GE227.out | refine below_set ?_ GE240.out | refine below_set ?_ GE248.out | refine below_set ?_ GE256.out | refine below_set ?_ GE264.out) | exact HB.out)) hb)
                clear HO220
                clear HO223
                clear HO226
                clear HO232
                clear HO235
                clear HO238
                clear HO243
                clear HO246
                clear HO251
                clear HO254
                clear HO259
                clear HO262
                clear BK227
                clear BK240
                clear BK248
                clear BK256
                clear BK264
                clear HB
                have HO220 := n0_
                have HO223 := n1_
                have HO226 := n2_
                have HO232 := n3_
                have HO235 := n4_
                have HO238 := n5_
                have HO243 := n6_
                have HO246 := n7_
                have HO251 := n8_
                have HO254 := n9_
                have HO259 := n10_
                have HO262 := n11_
                have BK227 := n12_
                have BK240 := n13_
                have BK248 := n14_
                have BK256 := n15_
                have BK264 := n16_
                have HB := n17_
                clear n0_ n1_ n2_ n3_ n4_ n5_ n6_ n7_ n8_ n9_ n10_ n11_ n12_ n13_ n14_ n15_ n16_ n17_
                (try clear hb)
                (try clear hb2)
                (try clear hk)
                (try clear hi)
                refine hK.out _ _ ⟨(blk_cell BK227.out 0).trans rfl, (blk_cell BK227.out 1).trans rfl⟩ (fun hHeld => ?_)
                clear hK K
                refine norm_ (a' := ?_) ?_ ?_
                rotate_left
                ·show Act.put _ (some 48) _ = _
                 simp only [Act.put, List.setIfInBounds_toArray, List.set_cons_zero, List.set_cons_succ, i64_w, i32_w]
                 rfl
                refine two_ (i := 2) (j := 8) (Ni := some 49) (Nj := some 11) #[true, true, true, true, false, false, false, false, false, false, false] #[true, true, false, true, false, false, false, false, true, false, false] rfl rfl rfl rfl (two_of HT_.out (by kernel_rfl)) (by decide) (by decide) (fun K hK => ?_) (fun K hK => ?_)
                ·skip
                 refine Kd.R_lit_step k30 _ 30 ?hg (N := 49) ?hd (xs := ([(⟨t265, t266⟩ : S30)] : List (S30))) (inner := [.int .i64 t265, .int .u64 t266]) (ok := fun _ => True) (okp := fun _ => True) ?hr ?hp (fun _ hk => hk) trivial (Below.refl _ _) (Nat.le_refl _) (by simp) ?_; (case hd => rfl); (case hg => rfl); (case hr => first | (go_simp; done) | (go_simp; rfl)); (case hp => exact (Reps.c2 (show Kd.M k30 _ _ _ (⟨t265, t266⟩ : S30) [.int .i64 t265, .int .u64 t266] from (k30_mkM _ _ _ (⟨t265, t266⟩ : S30) )) (Reps.none _ _)))
                 intro v268 w73 ho74 hb hg_ hnew_
                 clear hg_ hnew_
                 (first | rw [← Ny267.out] at ho74 | (simp only [Int.reduceToNat] at ho74; rw [← Ny267.out] at ho74))
                 have n0_ := Aside0.mk (Kd.R_below (rs_3 HO220.out) hb)
                 have n1_ := Aside0.mk (Kd.R_below (rs_3 HO223.out) hb)
                 have n2_ := Aside0.mk (Kd.R_below (rs_3 HO226.out) hb)
                 have n3_ := Aside0.mk (Kd.R_elder' (rs_3 HO232.out) (Kd.R_base ho74) hb)
                 have n4_ := Aside0.mk (Kd.R_below (rs_3 HO235.out) hb)
                 have n5_ := Aside0.mk (Kd.R_below (rs_3 HO238.out) hb)
                 have n6_ := Aside0.mk (Kd.R_below (rs_3 HO243.out) hb)
                 have n7_ := Aside0.mk (Kd.R_below (rs_3 HO246.out) hb)
                 have n8_ := Aside0.mk (Kd.R_below (rs_3 HO251.out) hb)
                 have n9_ := Aside0.mk (Kd.R_below (rs_3 HO254.out) hb)
                 have n10_ := Aside0.mk (Kd.R_below (rs_3 HO259.out) hb)
                 have n11_ := Aside0.mk (Kd.R_below (rs_3 HO262.out) hb)
                 have n12_ := Aside0.mk (Kd.R_lower (Kd.R_new' ho74 (Kd.R_lt (rs_3 HO232.out))) (below_size (by repeat (first | (with_reducible first | exact HB.out | apply below_alloc | apply pw_below_drewN | apply below_drew1 | refine below_set ?_ GE227.out | refine below_set ?_ GE240.out | refine below_set ?_ GE248.out | refine below_set ?_ GE256.out | refine below_set ?_ GE264.out) | exact HB.out))))
                 have n13_ := Aside0.mk (blk_below (g := gb227) (o := .cells #[.slice Ao29 t221.length co29, .slice Ao31 t224.length co31] 25 (0, 0)) (bs_3 BK227) hb)
                 have n14_ := Aside0.mk (blk_below (g := gb240) (o := .cells #[.slice Ao38 t233.length co38, .slice Ao41 t236.length co41] 25 (0, 0)) (bs_3 BK240) hb)
                 have n15_ := Aside0.mk (blk_below (g := gb248) (o := .cells #[.slice Ao46 t241.length co46, .slice Ao50 t244.length co50] 25 (0, 0)) (bs_3 BK248) hb)
                 have n16_ := Aside0.mk (blk_below (g := gb256) (o := .cells #[.slice Ao54 t249.length co54, .slice Ao59 t252.length co59] 25 (0, 0)) (bs_3 BK256) hb)
                 have n17_ := Aside0.mk (blk_below (g := gb264) (o := .cells #[.slice Ao63 t257.length co63, .slice Ao69 t260.length co69] 25 (0, 0)) (bs_3 BK264) hb)
                 have n18_ := Aside0.mk (below_step (by repeat (first | (with_reducible first | exact HB.out | apply below_alloc | apply pw_below_drewN | apply below_drew1 | refine below_set ?_ GE227.out | refine below_set ?_ GE240.out | refine below_set ?_ GE248.out | refine below_set ?_ GE256.out | refine below_set ?_ GE264.out) | exact HB.out)) hb)
                 clear HO220
                 clear HO223
                 clear HO226
                 clear HO232
                 clear HO235
                 clear HO238
                 clear HO243
                 clear HO246
                 clear HO251
                 clear HO254
                 clear HO259
                 clear HO262
                 clear BK227
                 clear BK240
                 clear BK248
                 clear BK256
                 clear BK264
                 clear HB
                 have HO220 := n0_
                 have HO223 := n1_
                 have HO226 := n2_
                 have HO232 := n3_
                 have HO235 := n4_
                 have HO238 := n5_
                 have HO243 := n6_
                 have HO246 := n7_
                 have HO251 := n8_
                 have HO254 := n9_
                 have HO259 := n10_
                 have HO262 := n11_
                 have HO269 := n12_
                 have BK227 := n13_
                 have BK240 := n14_
                 have BK248 := n15_
                 have BK256 := n16_
                 have BK264 := n17_
                 have HB := n18_
                 clear n0_ n1_ n2_ n3_ n4_ n5_ n6_ n7_ n8_ n9_ n10_ n11_ n12_ n13_ n14_ n15_ n16_ n17_ n18_
                 clear hb ho74
                 obtain ⟨Ao75, co75, eo75⟩ := Kd.R_slice HO269.out
                 (first | subst eo75 | (injection eo75 with f1_ f2_ f3_; have f4_ := f1_.symm; have f5_ := f3_.symm; clear f1_ f2_ f3_; subst f4_; subst f5_))
                 refine hK.out _ _ ⟨(blk_cell BK227.out 0).trans rfl, (blk_cell BK227.out 1).trans rfl⟩ (fun hHeld => ?_)
                 clear hK K
                 refine norm_ (a' := ?_) ?_ ?_
                 rotate_left
                 ·show Act.put _ (some 49) _ = _
                  simp only [Act.put, List.setIfInBounds_toArray, List.set_cons_zero, List.set_cons_succ, i64_w, i32_w]
                  rfl
                 refine two_ (i := 4) (j := 8) (Ni := some 51) (Nj := some 11) #[true, true, true, true, true, false, false, false, false, false, false] #[true, true, true, true, false, false, false, false, true, false, false] rfl rfl rfl rfl (two_of HT_.out (by kernel_rfl)) (by decide) (by decide) (fun K hK => ?_) (fun K hK => ?_)
                 ·skip
                  refine goes_ Try.func12 (by kernel_rfl) rfl #[.agg #[.slice Ao29 t221.length co29, .slice Ao31 t224.length co31], .slice Ao75 y267.length co75, .int .i64 3, .agg #[.int .i64 4294967296, .int .i64 0, .int .i64 50]] (by rfl) rfl rfl (by (try simp only [List.map_toArray, List.map_cons, List.map_nil]); first | done | rfl | (simp only [List.length_drop, List.length_take]; rfl)) ?_
                  with_reducible refine (opt_Apply.calls k _ _ t221 _ _ t224 _ _ y267 3 4294967296 0 50 t270 t273 t276 _ ?side1 ?side2 ?side3 ?side4 ?side5 ?side6 A10.out).mono ?_
                  (case side1 => repeat (first | exact (Kd.R_reads' HO223.out).2.2 | (with_reducible refine Kd.C_alloc ?_ _) | (with_reducible refine Kd.C_drewN ?_ _) | (with_reducible refine Kd.C_drew ?_)))
                  (case side2 => exact (Kd.R_reads' HO223.out).2.1)
                  (case side3 => repeat (first | exact (Kd.R_reads' HO226.out).2.2 | (with_reducible refine Kd.C_alloc ?_ _) | (with_reducible refine Kd.C_drewN ?_ _) | (with_reducible refine Kd.C_drew ?_)))
                  (case side4 => exact (Kd.R_reads' HO226.out).2.1)
                  (case side5 => repeat (first | exact (Kd.R_reads' HO269.out).2.2 | (with_reducible refine Kd.C_alloc ?_ _) | (with_reducible refine Kd.C_drewN ?_ _) | (with_reducible refine Kd.C_drew ?_)))
                  (case side6 => exact (Kd.R_reads' HO269.out).2.1)
                  rintro e w76 ⟨v271, v274, rfl, ho0, ho1, hb⟩
                  refine ⟨_, rfl, ?_⟩
                  have n0_ := Aside0.mk (Kd.R_mono (Kd.R_told (Kd.R_told (Kd.R_old (rs_3 HO220.out) hb) (Kd.R_base ho0)) (Kd.R_base ho1)) (fun _ h_ => h_.1))
                  have n1_ := Aside0.mk (Kd.R_mono (Kd.R_told (Kd.R_told (Kd.R_old (rs_3 HO223.out) hb) (Kd.R_base ho0)) (Kd.R_base ho1)) (fun _ h_ => h_.1))
                  have n2_ := Aside0.mk (Kd.R_mono (Kd.R_told (Kd.R_told (Kd.R_old (rs_3 HO226.out) hb) (Kd.R_base ho0)) (Kd.R_base ho1)) (fun _ h_ => h_.1))
                  have n3_ := Aside0.mk (Kd.R_below (rs_3 HO232.out) hb)
                  have n4_ := Aside0.mk (Kd.R_mono (Kd.R_told (Kd.R_told (Kd.R_old (rs_3 HO235.out) hb) (Kd.R_base ho0)) (Kd.R_base ho1)) (fun _ h_ => h_.1))
                  have n5_ := Aside0.mk (Kd.R_mono (Kd.R_told (Kd.R_told (Kd.R_old (rs_3 HO238.out) hb) (Kd.R_base ho0)) (Kd.R_base ho1)) (fun _ h_ => h_.1))
                  have n6_ := Aside0.mk (Kd.R_mono (Kd.R_told (Kd.R_told (Kd.R_old (rs_3 HO243.out) hb) (Kd.R_base ho0)) (Kd.R_base ho1)) (fun _ h_ => h_.1))
                  have n7_ := Aside0.mk (Kd.R_mono (Kd.R_told (Kd.R_told (Kd.R_old (rs_3 HO246.out) hb) (Kd.R_base ho0)) (Kd.R_base ho1)) (fun _ h_ => h_.1))
                  have n8_ := Aside0.mk (Kd.R_mono (Kd.R_told (Kd.R_told (Kd.R_old (rs_3 HO251.out) hb) (Kd.R_base ho0)) (Kd.R_base ho1)) (fun _ h_ => h_.1))
                  have n9_ := Aside0.mk (Kd.R_mono (Kd.R_told (Kd.R_told (Kd.R_old (rs_3 HO254.out) hb) (Kd.R_base ho0)) (Kd.R_base ho1)) (fun _ h_ => h_.1))
                  have n10_ := Aside0.mk (Kd.R_mono (Kd.R_told (Kd.R_told (Kd.R_old (rs_3 HO259.out) hb) (Kd.R_base ho0)) (Kd.R_base ho1)) (fun _ h_ => h_.1))
                  have n11_ := Aside0.mk (Kd.R_mono (Kd.R_told (Kd.R_told (Kd.R_old (rs_3 HO262.out) hb) (Kd.R_base ho0)) (Kd.R_base ho1)) (fun _ h_ => h_.1))
                  have n12_ := Aside0.mk (Kd.R_below (rs_3 HO269.out) hb)
                  have n13_ := Aside0.mk (Kd.R_lower (Kd.R_new' (Kd.R_new' (Kd.R_new' (Kd.R_new' (Kd.R_new' (Kd.R_new' (Kd.R_new' (Kd.R_new' (Kd.R_new' (Kd.R_new' (Kd.R_new' ho0 (Kd.R_lt (rs_3 HO220.out))) (Kd.R_lt (rs_3 HO223.out))) (Kd.R_lt (rs_3 HO226.out))) (Kd.R_lt (rs_3 HO235.out))) (Kd.R_lt (rs_3 HO238.out))) (Kd.R_lt (rs_3 HO243.out))) (Kd.R_lt (rs_3 HO246.out))) (Kd.R_lt (rs_3 HO251.out))) (Kd.R_lt (rs_3 HO254.out))) (Kd.R_lt (rs_3 HO259.out))) (Kd.R_lt (rs_3 HO262.out))) (below_size (by repeat (first | (with_reducible first | exact HB.out | apply below_alloc | apply pw_below_drewN | apply below_drew1 | refine below_set ?_ GE227.out | refine below_set ?_ GE240.out | refine below_set ?_ GE248.out | refine below_set ?_ GE256.out | refine below_set ?_ GE264.out) | exact HB.out))))
                  have n14_ := Aside0.mk (Kd.R_lower (Kd.R_new' (Kd.R_new' (Kd.R_new' (Kd.R_new' (Kd.R_new' (Kd.R_new' (Kd.R_new' (Kd.R_new' (Kd.R_new' (Kd.R_new' (Kd.R_new' ho1 (Kd.R_lt (rs_3 HO220.out))) (Kd.R_lt (rs_3 HO223.out))) (Kd.R_lt (rs_3 HO226.out))) (Kd.R_lt (rs_3 HO235.out))) (Kd.R_lt (rs_3 HO238.out))) (Kd.R_lt (rs_3 HO243.out))) (Kd.R_lt (rs_3 HO246.out))) (Kd.R_lt (rs_3 HO251.out))) (Kd.R_lt (rs_3 HO254.out))) (Kd.R_lt (rs_3 HO259.out))) (Kd.R_lt (rs_3 HO262.out))) (below_size (by repeat (first | (with_reducible first | exact HB.out | apply below_alloc | apply pw_below_drewN | apply below_drew1 | refine below_set ?_ GE227.out | refine below_set ?_ GE240.out | refine below_set ?_ GE248.out | refine below_set ?_ GE256.out | refine below_set ?_ GE264.out) | exact HB.out))))
                  have n15_ := Aside0.mk (blk_below (g := gb227) (o := .cells #[.slice Ao29 t221.length co29, .slice Ao31 t224.length co31] 25 (0, 0)) (bs_3 BK227) hb)
                  have n16_ := Aside0.mk (blk_below (g := gb240) (o := .cells #[.slice Ao38 t233.length co38, .slice Ao41 t236.length co41] 25 (0, 0)) (bs_3 BK240) hb)
                  have n17_ := Aside0.mk (blk_below (g := gb248) (o := .cells #[.slice Ao46 t241.length co46, .slice Ao50 t244.length co50] 25 (0, 0)) (bs_3 BK248) hb)
                  have n18_ := Aside0.mk (blk_below (g := gb256) (o := .cells #[.slice Ao54 t249.length co54, .slice Ao59 t252.length co59] 25 (0, 0)) (bs_3 BK256) hb)
                  have n19_ := Aside0.mk (blk_below (g := gb264) (o := .cells #[.slice Ao63 t257.length co63, .slice Ao69 t260.length co69] 25 (0, 0)) (bs_3 BK264) hb)
                  have n20_ := Aside0.mk (below_step (by repeat (first | (with_reducible first | exact HB.out | apply below_alloc | apply pw_below_drewN | apply below_drew1 | refine below_set ?_ GE227.out | refine below_set ?_ GE240.out | refine below_set ?_ GE248.out | refine below_set ?_ GE256.out | refine below_set ?_ GE264.out) | exact HB.out)) hb)
                  clear HO220
                  clear HO223
                  clear HO226
                  clear HO232
                  clear HO235
                  clear HO238
                  clear HO243
                  clear HO246
                  clear HO251
                  clear HO254
                  clear HO259
                  clear HO262
                  clear HO269
                  clear BK227
                  clear BK240
                  clear BK248
                  clear BK256
                  clear BK264
                  clear HB
                  have HO220 := n0_
                  have HO223 := n1_
                  have HO226 := n2_
                  have HO232 := n3_
                  have HO235 := n4_
                  have HO238 := n5_
                  have HO243 := n6_
                  have HO246 := n7_
                  have HO251 := n8_
                  have HO254 := n9_
                  have HO259 := n10_
                  have HO262 := n11_
                  have HO269 := n12_
                  have HO272 := n13_
                  have HO275 := n14_
                  have BK227 := n15_
                  have BK240 := n16_
                  have BK248 := n17_
                  have BK256 := n18_
                  have BK264 := n19_
                  have HB := n20_
                  clear n0_ n1_ n2_ n3_ n4_ n5_ n6_ n7_ n8_ n9_ n10_ n11_ n12_ n13_ n14_ n15_ n16_ n17_ n18_ n19_ n20_
                  (try clear hb)
                  (try clear hb2)
                  (try clear hk)
                  (try clear hi)
                  (try clear ho0)
                  (try clear ho1)
                  refine hK.out _ _ ⟨(blk_cell BK227.out 0).trans rfl, (blk_cell BK227.out 1).trans rfl⟩ (fun hHeld => ?_)
                  clear hK K
                  refine norm_ (a' := ?_) ?_ ?_
                  rotate_left
                  ·show Act.put _ (some 51) _ = _
                   simp only [Act.put, List.setIfInBounds_toArray, List.set_cons_zero, List.set_cons_succ, i64_w, i32_w]
                   rfl
                  refine pure_ (i := 5) (N := some 46) (v := ?_) (a' := ?_) #[true, true, true, true, true, true, false, false, false, false, false] rfl rfl (any_of HT_.out (by kernel_rfl)) (fun _ _ _ h => h) (Or.inl ⟨by rfl, ?_⟩) ?_ ?_
                  rotate_left
                  ·intro w'
                   go_simp
                   with_reducible rfl
                  rotate_left
                  ·simp only [Act.put, List.setIfInBounds_toArray, List.set_cons_zero, List.set_cons_succ, i64_w, i32_w]
                   rfl
                  refine pure_ (i := 6) (N := some 52) (v := ?_) (a' := ?_) #[true, true, true, true, true, true, true, false, false, false, false] rfl rfl (any_of HT_.out (by kernel_rfl)) (fun _ _ _ h => h) (Or.inl ⟨by rfl, ?_⟩) ?_ ?_
                  rotate_left
                  ·intro w'
                   go_simp
                   with_reducible rfl
                  rotate_left
                  ·simp only [Act.put, List.setIfInBounds_toArray, List.set_cons_zero, List.set_cons_succ, i64_w, i32_w]
                   rfl
                  refine pure_ (i := 7) (N := some 53) (v := ?_) (a' := ?_) #[true, true, true, true, true, true, true, true, false, false, false] rfl rfl (any_of HT_.out (by kernel_rfl)) (fun _ _ _ h => h) (Or.inl ⟨by rfl, ?_⟩) ?_ ?_
                  rotate_left
                  ·intro w'
                   go_simp
                   with_reducible rfl
                  rotate_left
                  ·simp only [Act.put, List.setIfInBounds_toArray, List.set_cons_zero, List.set_cons_succ, i64_w, i32_w]
                   rfl
                  refine one_ (i := 8) (N := some 11) #[true, true, true, true, true, true, true, true, true, false, false] rfl rfl (one_of HT_.out (by kernel_rfl)) (by decide) (fun K hK => ?_)
                  refine box_step ?hg (N := 11) ?hd (cs := #[.slice none 0 0, .slice none 0 0]) (t := 25) ?hr ?_; (case hd => rfl); (case hg => rfl); (case hr => first | (go_simp; done) | (go_simp; rfl))
                  intro gb277 hg w77 hbox hb
                  have n0_ := Aside0.mk (Kd.R_below (rs_3 HO220.out) hb)
                  have n1_ := Aside0.mk (Kd.R_below (rs_3 HO223.out) hb)
                  have n2_ := Aside0.mk (Kd.R_below (rs_3 HO226.out) hb)
                  have n3_ := Aside0.mk (Kd.R_below (rs_3 HO232.out) hb)
                  have n4_ := Aside0.mk (Kd.R_below (rs_3 HO235.out) hb)
                  have n5_ := Aside0.mk (Kd.R_below (rs_3 HO238.out) hb)
                  have n6_ := Aside0.mk (Kd.R_below (rs_3 HO243.out) hb)
                  have n7_ := Aside0.mk (Kd.R_below (rs_3 HO246.out) hb)
                  have n8_ := Aside0.mk (Kd.R_below (rs_3 HO251.out) hb)
                  have n9_ := Aside0.mk (Kd.R_below (rs_3 HO254.out) hb)
                  have n10_ := Aside0.mk (Kd.R_below (rs_3 HO259.out) hb)
                  have n11_ := Aside0.mk (Kd.R_below (rs_3 HO262.out) hb)
                  have n12_ := Aside0.mk (Kd.R_below (rs_3 HO269.out) hb)
                  have n13_ := Aside0.mk (Kd.R_below (rs_3 HO272.out) hb)
                  have n14_ := Aside0.mk (Kd.R_below (rs_3 HO275.out) hb)
                  have n15_ := Aside0.mk (blk_below (g := gb227) (o := .cells #[.slice Ao29 t221.length co29, .slice Ao31 t224.length co31] 25 (0, 0)) (bs_3 BK227) hb)
                  have n16_ := Aside0.mk (blk_below (g := gb240) (o := .cells #[.slice Ao38 t233.length co38, .slice Ao41 t236.length co41] 25 (0, 0)) (bs_3 BK240) hb)
                  have n17_ := Aside0.mk (blk_below (g := gb248) (o := .cells #[.slice Ao46 t241.length co46, .slice Ao50 t244.length co50] 25 (0, 0)) (bs_3 BK248) hb)
                  have n18_ := Aside0.mk (blk_below (g := gb256) (o := .cells #[.slice Ao54 t249.length co54, .slice Ao59 t252.length co59] 25 (0, 0)) (bs_3 BK256) hb)
                  have n19_ := Aside0.mk (blk_below (g := gb264) (o := .cells #[.slice Ao63 t257.length co63, .slice Ao69 t260.length co69] 25 (0, 0)) (bs_3 BK264) hb)
                  have n20_ := Aside0.mk (below_step (by repeat (first | (with_reducible first | exact HB.out | apply below_alloc | apply pw_below_drewN | apply below_drew1 | refine below_set ?_ GE227.out | refine below_set ?_ GE240.out | refine below_set ?_ GE248.out | refine below_set ?_ GE256.out | refine below_set ?_ GE264.out) | exact HB.out)) hb)
                  have n21_ := Aside0.mk (hbox)
                  have n22_ := Aside0.mk ((by rw [hg]; exact (below_size (by repeat (first | (with_reducible first | exact HB.out | apply below_alloc | apply pw_below_drewN | apply below_drew1 | refine below_set ?_ GE227.out | refine below_set ?_ GE240.out | refine below_set ?_ GE248.out | refine below_set ?_ GE256.out | refine below_set ?_ GE264.out) | exact HB.out))) : w.heap.size ≤ gb277))
                  have n23_ := Aside0.mk ((by rw [hg]; exact (below_size (by repeat (first | (with_reducible first | exact HB.out | apply below_alloc | apply pw_below_drewN | apply below_drew1 | refine below_set ?_ GE227.out | refine below_set ?_ GE240.out | refine below_set ?_ GE248.out | refine below_set ?_ GE256.out | refine below_set ?_ GE264.out) | exact HB.out))) : w.heap.size ≤ gb277))
                  have n24_ := Aside0.mk ((by rw [hg]; exact Nat.ne_of_lt (blk_lt (g := gb227) (o := .cells #[.slice Ao29 t221.length co29, .slice Ao31 t224.length co31] 25 (0, 0)) (bs_3 BK227)) : gb227 ≠ gb277))
                  have n25_ := Aside0.mk ((by rw [hg]; exact Nat.ne_of_gt (blk_lt (g := gb227) (o := .cells #[.slice Ao29 t221.length co29, .slice Ao31 t224.length co31] 25 (0, 0)) (bs_3 BK227)) : gb277 ≠ gb227))
                  have n26_ := Aside0.mk ((by rw [hg]; exact Nat.ne_of_lt (blk_lt (g := gb240) (o := .cells #[.slice Ao38 t233.length co38, .slice Ao41 t236.length co41] 25 (0, 0)) (bs_3 BK240)) : gb240 ≠ gb277))
                  have n27_ := Aside0.mk ((by rw [hg]; exact Nat.ne_of_gt (blk_lt (g := gb240) (o := .cells #[.slice Ao38 t233.length co38, .slice Ao41 t236.length co41] 25 (0, 0)) (bs_3 BK240)) : gb277 ≠ gb240))
                  have n28_ := Aside0.mk ((by rw [hg]; exact Nat.ne_of_lt (blk_lt (g := gb248) (o := .cells #[.slice Ao46 t241.length co46, .slice Ao50 t244.length co50] 25 (0, 0)) (bs_3 BK248)) : gb248 ≠ gb277))
                  have n29_ := Aside0.mk ((by rw [hg]; exact Nat.ne_of_gt (blk_lt (g := gb248) (o := .cells #[.slice Ao46 t241.length co46, .slice Ao50 t244.length co50] 25 (0, 0)) (bs_3 BK248)) : gb277 ≠ gb248))
                  have n30_ := Aside0.mk ((by rw [hg]; exact Nat.ne_of_lt (blk_lt (g := gb256) (o := .cells #[.slice Ao54 t249.length co54, .slice Ao59 t252.length co59] 25 (0, 0)) (bs_3 BK256)) : gb256 ≠ gb277))
                  have n31_ := Aside0.mk ((by rw [hg]; exact Nat.ne_of_gt (blk_lt (g := gb256) (o := .cells #[.slice Ao54 t249.length co54, .slice Ao59 t252.length co59] 25 (0, 0)) (bs_3 BK256)) : gb277 ≠ gb256))
                  have n32_ := Aside0.mk ((by rw [hg]; exact Nat.ne_of_lt (blk_lt (g := gb264) (o := .cells #[.slice Ao63 t257.length co63, .slice Ao69 t260.length co69] 25 (0, 0)) (bs_3 BK264)) : gb264 ≠ gb277))
                  have n33_ := Aside0.mk ((by rw [hg]; exact Nat.ne_of_gt (blk_lt (g := gb264) (o := .cells #[.slice Ao63 t257.length co63, .slice Ao69 t260.length co69] 25 (0, 0)) (bs_3 BK264)) : gb277 ≠ gb264))
                  clear HO220
                  clear HO223
                  clear HO226
                  clear HO232
                  clear HO235
                  clear HO238
                  clear HO243
                  clear HO246
                  clear HO251
                  clear HO254
                  clear HO259
                  clear HO262
                  clear HO269
                  clear HO272
                  clear HO275
                  clear BK227
                  clear BK240
                  clear BK248
                  clear BK256
                  clear BK264
                  clear HB
                  have HO220 := n0_
                  have HO223 := n1_
                  have HO226 := n2_
                  have HO232 := n3_
                  have HO235 := n4_
                  have HO238 := n5_
                  have HO243 := n6_
                  have HO246 := n7_
                  have HO251 := n8_
                  have HO254 := n9_
                  have HO259 := n10_
                  have HO262 := n11_
                  have HO269 := n12_
                  have HO272 := n13_
                  have HO275 := n14_
                  have BK227 := n15_
                  have BK240 := n16_
                  have BK248 := n17_
                  have BK256 := n18_
                  have BK264 := n19_
                  have HB := n20_
                  have BK277 := n21_
                  have GW277 := n22_
                  have GE277 := n23_
                  have NB227_277 := n24_
                  have NB277_227 := n25_
                  have NB240_277 := n26_
                  have NB277_240 := n27_
                  have NB248_277 := n28_
                  have NB277_248 := n29_
                  have NB256_277 := n30_
                  have NB277_256 := n31_
                  have NB264_277 := n32_
                  have NB277_264 := n33_
                  clear n0_ n1_ n2_ n3_ n4_ n5_ n6_ n7_ n8_ n9_ n10_ n11_ n12_ n13_ n14_ n15_ n16_ n17_ n18_ n19_ n20_ n21_ n22_ n23_ n24_ n25_ n26_ n27_ n28_ n29_ n30_ n31_ n32_ n33_
                  clear hb hbox hg
                  refine hK.out _ _ ⟨(blk_cell BK227.out 0).trans rfl, (blk_cell BK227.out 1).trans rfl⟩ (fun hHeld => ?_)
                  clear hK K
                  refine norm_ (a' := ?_) ?_ ?_
                  rotate_left
                  ·show Act.put _ (some 11) _ = _
                   simp only [Act.put, List.setIfInBounds_toArray, List.set_cons_zero, List.set_cons_succ, i64_w, i32_w]
                   rfl
                  exact norm_ (by simp only [putAll, Act.put, List.setIfInBounds_toArray, List.set_cons_zero, List.set_cons_succ]) (hCont (.slice Ao75 y267.length co75, v271, v274, gb277) _ ⟨hHeld, (rs_3 (Kd.R_mono HO220.out (fun _ hk => ⟨hk.1.1.1, ⟨hk.1.1.2.1, ⟨hk.1.1.2.2.1, ⟨hk.1.1.2.2.2.1, ⟨hk.1.1.2.2.2.2.1, ⟨hk.1.1.2.2.2.2.2.1, ⟨hk.1.1.2.2.2.2.2.2.1, ⟨hk.1.1.2.2.2.2.2.2.2.1, ⟨hk.1.1.2.2.2.2.2.2.2.2.1, ⟨hk.1.1.2.2.2.2.2.2.2.2.2, ⟨hk.1.2, hk.2⟩⟩⟩⟩⟩⟩⟩⟩⟩⟩⟩))), (rs_3 (Kd.R_mono HO223.out (fun _ hk => ⟨hk.1.1.1, ⟨hk.1.1.2.1, ⟨hk.1.1.2.2.1, ⟨hk.1.1.2.2.2.1, ⟨hk.1.1.2.2.2.2.1, ⟨hk.1.1.2.2.2.2.2.1, ⟨hk.1.1.2.2.2.2.2.2.1, ⟨hk.1.1.2.2.2.2.2.2.2.1, ⟨hk.1.1.2.2.2.2.2.2.2.2.1, ⟨hk.1.1.2.2.2.2.2.2.2.2.2, ⟨hk.1.2, hk.2⟩⟩⟩⟩⟩⟩⟩⟩⟩⟩⟩))), (rs_3 (Kd.R_mono HO226.out (fun _ hk => ⟨hk.1.1.1, ⟨hk.1.1.2.1, ⟨hk.1.1.2.2.1, ⟨hk.1.1.2.2.2.1, ⟨hk.1.1.2.2.2.2.1, ⟨hk.1.1.2.2.2.2.2.1, ⟨hk.1.1.2.2.2.2.2.2.1, ⟨hk.1.1.2.2.2.2.2.2.2.1, ⟨hk.1.1.2.2.2.2.2.2.2.2.1, ⟨hk.1.1.2.2.2.2.2.2.2.2.2, ⟨hk.1.2, hk.2⟩⟩⟩⟩⟩⟩⟩⟩⟩⟩⟩))), (rs_3 (Kd.R_mono HO232.out (fun _ hk => hk.2))), (rs_3 (Kd.R_mono HO235.out (fun _ hk => ⟨hk.1.1.1, ⟨hk.1.1.2.1, ⟨hk.1.1.2.2.1, ⟨hk.1.1.2.2.2.1, ⟨hk.1.1.2.2.2.2.1, ⟨hk.1.1.2.2.2.2.2.1, ⟨hk.1.1.2.2.2.2.2.2.1, ⟨hk.1.1.2.2.2.2.2.2.2.1, ⟨hk.1.1.2.2.2.2.2.2.2.2.1, ⟨hk.1.1.2.2.2.2.2.2.2.2.2, ⟨hk.1.2, hk.2⟩⟩⟩⟩⟩⟩⟩⟩⟩⟩⟩))), (rs_3 (Kd.R_mono HO238.out (fun _ hk => ⟨hk.1.1.1, ⟨hk.1.1.2.1, ⟨hk.1.1.2.2.1, ⟨hk.1.1.2.2.2.1, ⟨hk.1.1.2.2.2.2.1, ⟨hk.1.1.2.2.2.2.2.1, ⟨hk.1.1.2.2.2.2.2.2.1, ⟨hk.1.1.2.2.2.2.2.2.2.1, ⟨hk.1.1.2.2.2.2.2.2.2.2.1, ⟨hk.1.1.2.2.2.2.2.2.2.2.2, ⟨hk.1.2, hk.2⟩⟩⟩⟩⟩⟩⟩⟩⟩⟩⟩))), (rs_3 (Kd.R_mono HO243.out (fun _ hk => ⟨hk.1.1.1, ⟨hk.1.1.2.1, ⟨hk.1.1.2.2.1, ⟨hk.1.1.2.2.2.1, ⟨hk.1.1.2.2.2.2.1, ⟨hk.1.1.2.2.2.2.2.1, ⟨hk.1.1.2.2.2.2.2.2.1, ⟨hk.1.1.2.2.2.2.2.2.2.1, ⟨hk.1.1.2.2.2.2.2.2.2.2.1, ⟨hk.1.1.2.2.2.2.2.2.2.2.2, ⟨hk.1.2, hk.2⟩⟩⟩⟩⟩⟩⟩⟩⟩⟩⟩))), (rs_3 (Kd.R_mono HO246.out (fun _ hk => ⟨hk.1.1.1, ⟨hk.1.1.2.1, ⟨hk.1.1.2.2.1, ⟨hk.1.1.2.2.2.1, ⟨hk.1.1.2.2.2.2.1, ⟨hk.1.1.2.2.2.2.2.1, ⟨hk.1.1.2.2.2.2.2.2.1, ⟨hk.1.1.2.2.2.2.2.2.2.1, ⟨hk.1.1.2.2.2.2.2.2.2.2.1, ⟨hk.1.1.2.2.2.2.2.2.2.2.2, ⟨hk.1.2, hk.2⟩⟩⟩⟩⟩⟩⟩⟩⟩⟩⟩))), (rs_3 (Kd.R_mono HO251.out (fun _ hk => ⟨hk.1.1.1, ⟨hk.1.1.2.1, ⟨hk.1.1.2.2.1, ⟨hk.1.1.2.2.2.1, ⟨hk.1.1.2.2.2.2.1, ⟨hk.1.1.2.2.2.2.2.1, ⟨hk.1.1.2.2.2.2.2.2.1, ⟨hk.1.1.2.2.2.2.2.2.2.1, ⟨hk.1.1.2.2.2.2.2.2.2.2.1, ⟨hk.1.1.2.2.2.2.2.2.2.2.2, ⟨hk.1.2, hk.2⟩⟩⟩⟩⟩⟩⟩⟩⟩⟩⟩))), (rs_3 (Kd.R_mono HO254.out (fun _ hk => ⟨hk.1.1.1, ⟨hk.1.1.2.1, ⟨hk.1.1.2.2.1, ⟨hk.1.1.2.2.2.1, ⟨hk.1.1.2.2.2.2.1, ⟨hk.1.1.2.2.2.2.2.1, ⟨hk.1.1.2.2.2.2.2.2.1, ⟨hk.1.1.2.2.2.2.2.2.2.1, ⟨hk.1.1.2.2.2.2.2.2.2.2.1, ⟨hk.1.1.2.2.2.2.2.2.2.2.2, ⟨hk.1.2, hk.2⟩⟩⟩⟩⟩⟩⟩⟩⟩⟩⟩))), (rs_3 (Kd.R_mono HO259.out (fun _ hk => ⟨hk.1.1.1, ⟨hk.1.1.2.1, ⟨hk.1.1.2.2.1, ⟨hk.1.1.2.2.2.1, ⟨hk.1.1.2.2.2.2.1, ⟨hk.1.1.2.2.2.2.2.1, ⟨hk.1.1.2.2.2.2.2.2.1, ⟨hk.1.1.2.2.2.2.2.2.2.1, ⟨hk.1.1.2.2.2.2.2.2.2.2.1, ⟨hk.1.1.2.2.2.2.2.2.2.2.2, ⟨hk.1.2, hk.2⟩⟩⟩⟩⟩⟩⟩⟩⟩⟩⟩))), (rs_3 (Kd.R_mono HO262.out (fun _ hk => ⟨hk.1.1.1, ⟨hk.1.1.2.1, ⟨hk.1.1.2.2.1, ⟨hk.1.1.2.2.2.1, ⟨hk.1.1.2.2.2.2.1, ⟨hk.1.1.2.2.2.2.2.1, ⟨hk.1.1.2.2.2.2.2.2.1, ⟨hk.1.1.2.2.2.2.2.2.2.1, ⟨hk.1.1.2.2.2.2.2.2.2.2.1, ⟨hk.1.1.2.2.2.2.2.2.2.2.2, ⟨hk.1.2, hk.2⟩⟩⟩⟩⟩⟩⟩⟩⟩⟩⟩))), (rs_3 (Kd.R_mono HO269.out (fun _ hk => hk.2))), (rs_3 (Kd.R_mono HO272.out (fun _ hk => ⟨hk.1.1.1.1.1.1.1.1.1.1.2, ⟨hk.1.1.1.1.1.1.1.1.1.2, ⟨hk.1.1.1.1.1.1.1.1.2, ⟨hk.1.1.1.1.1.1.1.2, ⟨hk.1.1.1.1.1.1.2, ⟨hk.1.1.1.1.1.2, ⟨hk.1.1.1.1.2, ⟨hk.1.1.1.2, ⟨hk.1.1.2, ⟨hk.1.2, ⟨hk.2, hk.1.1.1.1.1.1.1.1.1.1.1⟩⟩⟩⟩⟩⟩⟩⟩⟩⟩⟩))), (rs_3 (Kd.R_mono HO275.out (fun _ hk => ⟨hk.1.1.1.1.1.1.1.1.1.1.2, ⟨hk.1.1.1.1.1.1.1.1.1.2, ⟨hk.1.1.1.1.1.1.1.1.2, ⟨hk.1.1.1.1.1.1.1.2, ⟨hk.1.1.1.1.1.1.2, ⟨hk.1.1.1.1.1.2, ⟨hk.1.1.1.1.2, ⟨hk.1.1.1.2, ⟨hk.1.1.2, ⟨hk.1.2, ⟨hk.2, hk.1.1.1.1.1.1.1.1.1.1.1⟩⟩⟩⟩⟩⟩⟩⟩⟩⟩⟩))), (bs_3 BK227), (bs_3 BK240), (bs_3 BK248), (bs_3 BK256), (bs_3 BK264), (bs_3 BK277), GW277.out, GE277.out, NB227_277.out, NB277_227.out, NB240_277.out, NB277_240.out, NB248_277.out, NB277_248.out, NB256_277.out, NB277_256.out, NB264_277.out, NB277_264.out, (by repeat (first | (with_reducible first | exact HB.out | apply below_alloc | apply pw_below_drewN | apply below_drew1 | refine below_set ?_ GE227.out | refine below_set ?_ GE240.out | refine below_set ?_ GE248.out | refine below_set ?_ GE256.out | refine below_set ?_ GE264.out | refine below_set ?_ GE277.out) | exact HB.out))⟩)
                 ·skip
                  refine box_step ?hg (N := 11) ?hd (cs := #[.slice none 0 0, .slice none 0 0]) (t := 25) ?hr ?_; (case hd => rfl); (case hg => rfl); (case hr => first | (go_simp; done) | (go_simp; rfl))
                  intro gb277 hg w75 hbox hb
                  have n0_ := Aside0.mk (Kd.R_below (rs_3 HO220.out) hb)
                  have n1_ := Aside0.mk (Kd.R_below (rs_3 HO223.out) hb)
                  have n2_ := Aside0.mk (Kd.R_below (rs_3 HO226.out) hb)
                  have n3_ := Aside0.mk (Kd.R_below (rs_3 HO232.out) hb)
                  have n4_ := Aside0.mk (Kd.R_below (rs_3 HO235.out) hb)
                  have n5_ := Aside0.mk (Kd.R_below (rs_3 HO238.out) hb)
                  have n6_ := Aside0.mk (Kd.R_below (rs_3 HO243.out) hb)
                  have n7_ := Aside0.mk (Kd.R_below (rs_3 HO246.out) hb)
                  have n8_ := Aside0.mk (Kd.R_below (rs_3 HO251.out) hb)
                  have n9_ := Aside0.mk (Kd.R_below (rs_3 HO254.out) hb)
                  have n10_ := Aside0.mk (Kd.R_below (rs_3 HO259.out) hb)
                  have n11_ := Aside0.mk (Kd.R_below (rs_3 HO262.out) hb)
                  have n12_ := Aside0.mk (Kd.R_below (rs_3 HO269.out) hb)
                  have n13_ := Aside0.mk (blk_below (g := gb227) (o := .cells #[.slice Ao29 t221.length co29, .slice Ao31 t224.length co31] 25 (0, 0)) (bs_3 BK227) hb)
                  have n14_ := Aside0.mk (blk_below (g := gb240) (o := .cells #[.slice Ao38 t233.length co38, .slice Ao41 t236.length co41] 25 (0, 0)) (bs_3 BK240) hb)
                  have n15_ := Aside0.mk (blk_below (g := gb248) (o := .cells #[.slice Ao46 t241.length co46, .slice Ao50 t244.length co50] 25 (0, 0)) (bs_3 BK248) hb)
                  have n16_ := Aside0.mk (blk_below (g := gb256) (o := .cells #[.slice Ao54 t249.length co54, .slice Ao59 t252.length co59] 25 (0, 0)) (bs_3 BK256) hb)
                  have n17_ := Aside0.mk (blk_below (g := gb264) (o := .cells #[.slice Ao63 t257.length co63, .slice Ao69 t260.length co69] 25 (0, 0)) (bs_3 BK264) hb)
                  have n18_ := Aside0.mk (below_step (by repeat (first | (with_reducible first | exact HB.out | apply below_alloc | apply pw_below_drewN | apply below_drew1 | refine below_set ?_ GE227.out | refine below_set ?_ GE240.out | refine below_set ?_ GE248.out | refine below_set ?_ GE256.out | refine below_set ?_ GE264.out) | exact HB.out)) hb)
                  have n19_ := Aside0.mk (hbox)
                  have n20_ := Aside0.mk ((by rw [hg]; exact (below_size (by repeat (first | (with_reducible first | exact HB.out | apply below_alloc | apply pw_below_drewN | apply below_drew1 | refine below_set ?_ GE227.out | refine below_set ?_ GE240.out | refine below_set ?_ GE248.out | refine below_set ?_ GE256.out | refine below_set ?_ GE264.out) | exact HB.out))) : w.heap.size ≤ gb277))
                  have n21_ := Aside0.mk ((by rw [hg]; exact (below_size (by repeat (first | (with_reducible first | exact HB.out | apply below_alloc | apply pw_below_drewN | apply below_drew1 | refine below_set ?_ GE227.out | refine below_set ?_ GE240.out | refine below_set ?_ GE248.out | refine below_set ?_ GE256.out | refine below_set ?_ GE264.out) | exact HB.out))) : w.heap.size ≤ gb277))
                  have n22_ := Aside0.mk ((by rw [hg]; exact Nat.ne_of_lt (blk_lt (g := gb227) (o := .cells #[.slice Ao29 t221.length co29, .slice Ao31 t224.length co31] 25 (0, 0)) (bs_3 BK227)) : gb227 ≠ gb277))
                  have n23_ := Aside0.mk ((by rw [hg]; exact Nat.ne_of_gt (blk_lt (g := gb227) (o := .cells #[.slice Ao29 t221.length co29, .slice Ao31 t224.length co31] 25 (0, 0)) (bs_3 BK227)) : gb277 ≠ gb227))
                  have n24_ := Aside0.mk ((by rw [hg]; exact Nat.ne_of_lt (blk_lt (g := gb240) (o := .cells #[.slice Ao38 t233.length co38, .slice Ao41 t236.length co41] 25 (0, 0)) (bs_3 BK240)) : gb240 ≠ gb277))
                  have n25_ := Aside0.mk ((by rw [hg]; exact Nat.ne_of_gt (blk_lt (g := gb240) (o := .cells #[.slice Ao38 t233.length co38, .slice Ao41 t236.length co41] 25 (0, 0)) (bs_3 BK240)) : gb277 ≠ gb240))
                  have n26_ := Aside0.mk ((by rw [hg]; exact Nat.ne_of_lt (blk_lt (g := gb248) (o := .cells #[.slice Ao46 t241.length co46, .slice Ao50 t244.length co50] 25 (0, 0)) (bs_3 BK248)) : gb248 ≠ gb277))
                  have n27_ := Aside0.mk ((by rw [hg]; exact Nat.ne_of_gt (blk_lt (g := gb248) (o := .cells #[.slice Ao46 t241.length co46, .slice Ao50 t244.length co50] 25 (0, 0)) (bs_3 BK248)) : gb277 ≠ gb248))
                  have n28_ := Aside0.mk ((by rw [hg]; exact Nat.ne_of_lt (blk_lt (g := gb256) (o := .cells #[.slice Ao54 t249.length co54, .slice Ao59 t252.length co59] 25 (0, 0)) (bs_3 BK256)) : gb256 ≠ gb277))
                  have n29_ := Aside0.mk ((by rw [hg]; exact Nat.ne_of_gt (blk_lt (g := gb256) (o := .cells #[.slice Ao54 t249.length co54, .slice Ao59 t252.length co59] 25 (0, 0)) (bs_3 BK256)) : gb277 ≠ gb256))
                  have n30_ := Aside0.mk ((by rw [hg]; exact Nat.ne_of_lt (blk_lt (g := gb264) (o := .cells #[.slice Ao63 t257.length co63, .slice Ao69 t260.length co69] 25 (0, 0)) (bs_3 BK264)) : gb264 ≠ gb277))
                  have n31_ := Aside0.mk ((by rw [hg]; exact Nat.ne_of_gt (blk_lt (g := gb264) (o := .cells #[.slice Ao63 t257.length co63, .slice Ao69 t260.length co69] 25 (0, 0)) (bs_3 BK264)) : gb277 ≠ gb264))
                  clear HO220
                  clear HO223
                  clear HO226
                  clear HO232
                  clear HO235
                  clear HO238
                  clear HO243
                  clear HO246
                  clear HO251
                  clear HO254
                  clear HO259
                  clear HO262
                  clear HO269
                  clear BK227
                  clear BK240
                  clear BK248
                  clear BK256
                  clear BK264
                  clear HB
                  have HO220 := n0_
                  have HO223 := n1_
                  have HO226 := n2_
                  have HO232 := n3_
                  have HO235 := n4_
                  have HO238 := n5_
                  have HO243 := n6_
                  have HO246 := n7_
                  have HO251 := n8_
                  have HO254 := n9_
                  have HO259 := n10_
                  have HO262 := n11_
                  have HO269 := n12_
                  have BK227 := n13_
                  have BK240 := n14_
                  have BK248 := n15_
                  have BK256 := n16_
                  have BK264 := n17_
                  have HB := n18_
                  have BK277 := n19_
                  have GW277 := n20_
                  have GE277 := n21_
                  have NB227_277 := n22_
                  have NB277_227 := n23_
                  have NB240_277 := n24_
                  have NB277_240 := n25_
                  have NB248_277 := n26_
                  have NB277_248 := n27_
                  have NB256_277 := n28_
                  have NB277_256 := n29_
                  have NB264_277 := n30_
                  have NB277_264 := n31_
                  clear n0_ n1_ n2_ n3_ n4_ n5_ n6_ n7_ n8_ n9_ n10_ n11_ n12_ n13_ n14_ n15_ n16_ n17_ n18_ n19_ n20_ n21_ n22_ n23_ n24_ n25_ n26_ n27_ n28_ n29_ n30_ n31_
                  clear hb hbox hg
                  obtain ⟨Ao76, co76, eo76⟩ := Kd.R_slice HO269.out
                  (first | subst eo76 | (injection eo76 with f1_ f2_ f3_; have f4_ := f1_.symm; have f5_ := f3_.symm; clear f1_ f2_ f3_; subst f4_; subst f5_))
                  refine hK.out _ _ ⟨(blk_cell BK227.out 0).trans rfl, (blk_cell BK227.out 1).trans rfl⟩ (fun hHeld => ?_)
                  clear hK K
                  refine norm_ (a' := ?_) ?_ ?_
                  rotate_left
                  ·show Act.put _ (some 11) _ = _
                   simp only [Act.put, List.setIfInBounds_toArray, List.set_cons_zero, List.set_cons_succ, i64_w, i32_w]
                   rfl
                  refine one_ (i := 4) (N := some 51) #[true, true, true, true, true, false, false, false, true, false, false] rfl rfl (one_of HT_.out (by kernel_rfl)) (by decide) (fun K hK => ?_)
                  refine goes_ Try.func12 (by kernel_rfl) rfl #[.agg #[.slice Ao29 t221.length co29, .slice Ao31 t224.length co31], .slice Ao76 y267.length co76, .int .i64 3, .agg #[.int .i64 4294967296, .int .i64 0, .int .i64 50]] (by rfl) rfl rfl (by (try simp only [List.map_toArray, List.map_cons, List.map_nil]); first | done | rfl | (simp only [List.length_drop, List.length_take]; rfl)) ?_
                  with_reducible refine (opt_Apply.calls k _ _ t221 _ _ t224 _ _ y267 3 4294967296 0 50 t270 t273 t276 _ ?side1 ?side2 ?side3 ?side4 ?side5 ?side6 A10.out).mono ?_
                  (case side1 => repeat (first | exact (Kd.R_reads' HO223.out).2.2 | (with_reducible refine Kd.C_alloc ?_ _) | (with_reducible refine Kd.C_drewN ?_ _) | (with_reducible refine Kd.C_drew ?_)))
                  (case side2 => exact (Kd.R_reads' HO223.out).2.1)
                  (case side3 => repeat (first | exact (Kd.R_reads' HO226.out).2.2 | (with_reducible refine Kd.C_alloc ?_ _) | (with_reducible refine Kd.C_drewN ?_ _) | (with_reducible refine Kd.C_drew ?_)))
                  (case side4 => exact (Kd.R_reads' HO226.out).2.1)
                  (case side5 => repeat (first | exact (Kd.R_reads' HO269.out).2.2 | (with_reducible refine Kd.C_alloc ?_ _) | (with_reducible refine Kd.C_drewN ?_ _) | (with_reducible refine Kd.C_drew ?_)))
                  (case side6 => exact (Kd.R_reads' HO269.out).2.1)
                  rintro e w77 ⟨v271, v274, rfl, ho0, ho1, hb⟩
                  refine ⟨_, rfl, ?_⟩
                  have n0_ := Aside0.mk (Kd.R_mono (Kd.R_told (Kd.R_told (Kd.R_old (rs_3 HO220.out) hb) (Kd.R_base ho0)) (Kd.R_base ho1)) (fun _ h_ => h_.1))
                  have n1_ := Aside0.mk (Kd.R_mono (Kd.R_told (Kd.R_told (Kd.R_old (rs_3 HO223.out) hb) (Kd.R_base ho0)) (Kd.R_base ho1)) (fun _ h_ => h_.1))
                  have n2_ := Aside0.mk (Kd.R_mono (Kd.R_told (Kd.R_told (Kd.R_old (rs_3 HO226.out) hb) (Kd.R_base ho0)) (Kd.R_base ho1)) (fun _ h_ => h_.1))
                  have n3_ := Aside0.mk (Kd.R_below (rs_3 HO232.out) hb)
                  have n4_ := Aside0.mk (Kd.R_mono (Kd.R_told (Kd.R_told (Kd.R_old (rs_3 HO235.out) hb) (Kd.R_base ho0)) (Kd.R_base ho1)) (fun _ h_ => h_.1))
                  have n5_ := Aside0.mk (Kd.R_mono (Kd.R_told (Kd.R_told (Kd.R_old (rs_3 HO238.out) hb) (Kd.R_base ho0)) (Kd.R_base ho1)) (fun _ h_ => h_.1))
                  have n6_ := Aside0.mk (Kd.R_mono (Kd.R_told (Kd.R_told (Kd.R_old (rs_3 HO243.out) hb) (Kd.R_base ho0)) (Kd.R_base ho1)) (fun _ h_ => h_.1))
                  have n7_ := Aside0.mk (Kd.R_mono (Kd.R_told (Kd.R_told (Kd.R_old (rs_3 HO246.out) hb) (Kd.R_base ho0)) (Kd.R_base ho1)) (fun _ h_ => h_.1))
                  have n8_ := Aside0.mk (Kd.R_mono (Kd.R_told (Kd.R_told (Kd.R_old (rs_3 HO251.out) hb) (Kd.R_base ho0)) (Kd.R_base ho1)) (fun _ h_ => h_.1))
                  have n9_ := Aside0.mk (Kd.R_mono (Kd.R_told (Kd.R_told (Kd.R_old (rs_3 HO254.out) hb) (Kd.R_base ho0)) (Kd.R_base ho1)) (fun _ h_ => h_.1))
                  have n10_ := Aside0.mk (Kd.R_mono (Kd.R_told (Kd.R_told (Kd.R_old (rs_3 HO259.out) hb) (Kd.R_base ho0)) (Kd.R_base ho1)) (fun _ h_ => h_.1))
                  have n11_ := Aside0.mk (Kd.R_mono (Kd.R_told (Kd.R_told (Kd.R_old (rs_3 HO262.out) hb) (Kd.R_base ho0)) (Kd.R_base ho1)) (fun _ h_ => h_.1))
                  have n12_ := Aside0.mk (Kd.R_below (rs_3 HO269.out) hb)
                  have n13_ := Aside0.mk (Kd.R_lower (Kd.R_new' (Kd.R_new' (Kd.R_new' (Kd.R_new' (Kd.R_new' (Kd.R_new' (Kd.R_new' (Kd.R_new' (Kd.R_new' (Kd.R_new' (Kd.R_new' ho0 (Kd.R_lt (rs_3 HO220.out))) (Kd.R_lt (rs_3 HO223.out))) (Kd.R_lt (rs_3 HO226.out))) (Kd.R_lt (rs_3 HO235.out))) (Kd.R_lt (rs_3 HO238.out))) (Kd.R_lt (rs_3 HO243.out))) (Kd.R_lt (rs_3 HO246.out))) (Kd.R_lt (rs_3 HO251.out))) (Kd.R_lt (rs_3 HO254.out))) (Kd.R_lt (rs_3 HO259.out))) (Kd.R_lt (rs_3 HO262.out))) (below_size (by repeat (first | (with_reducible first | exact HB.out | apply below_alloc | apply pw_below_drewN | apply below_drew1 | refine below_set ?_ GE227.out | refine below_set ?_ GE240.out | refine below_set ?_ GE248.out | refine below_set ?_ GE256.out | refine below_set ?_ GE264.out | refine below_set ?_ GE277.out) | exact HB.out))))
                  have n14_ := Aside0.mk (Kd.R_lower (Kd.R_new' (Kd.R_new' (Kd.R_new' (Kd.R_new' (Kd.R_new' (Kd.R_new' (Kd.R_new' (Kd.R_new' (Kd.R_new' (Kd.R_new' (Kd.R_new' ho1 (Kd.R_lt (rs_3 HO220.out))) (Kd.R_lt (rs_3 HO223.out))) (Kd.R_lt (rs_3 HO226.out))) (Kd.R_lt (rs_3 HO235.out))) (Kd.R_lt (rs_3 HO238.out))) (Kd.R_lt (rs_3 HO243.out))) (Kd.R_lt (rs_3 HO246.out))) (Kd.R_lt (rs_3 HO251.out))) (Kd.R_lt (rs_3 HO254.out))) (Kd.R_lt (rs_3 HO259.out))) (Kd.R_lt (rs_3 HO262.out))) (below_size (by repeat (first | (with_reducible first | exact HB.out | apply below_alloc | apply pw_below_drewN | apply below_drew1 | refine below_set ?_ GE227.out | refine below_set ?_ GE240.out | refine below_set ?_ GE248.out | refine below_set ?_ GE256.out | refine below_set ?_ GE264.out | refine below_set ?_ GE277.out) | exact HB.out))))
                  have n15_ := Aside0.mk (blk_below (g := gb227) (o := .cells #[.slice Ao29 t221.length co29, .slice Ao31 t224.length co31] 25 (0, 0)) (bs_3 BK227) hb)
                  have n16_ := Aside0.mk (blk_below (g := gb240) (o := .cells #[.slice Ao38 t233.length co38, .slice Ao41 t236.length co41] 25 (0, 0)) (bs_3 BK240) hb)
                  have n17_ := Aside0.mk (blk_below (g := gb248) (o := .cells #[.slice Ao46 t241.length co46, .slice Ao50 t244.length co50] 25 (0, 0)) (bs_3 BK248) hb)
                  have n18_ := Aside0.mk (blk_below (g := gb256) (o := .cells #[.slice Ao54 t249.length co54, .slice Ao59 t252.length co59] 25 (0, 0)) (bs_3 BK256) hb)
                  have n19_ := Aside0.mk (blk_below (g := gb264) (o := .cells #[.slice Ao63 t257.length co63, .slice Ao69 t260.length co69] 25 (0, 0)) (bs_3 BK264) hb)
                  have n20_ := Aside0.mk (blk_below (g := gb277) (o := .cells #[.slice none 0 0, .slice none 0 0] 25 (0, 0)) (bs_3 BK277) hb)
                  have n21_ := Aside0.mk (below_step (by repeat (first | (with_reducible first | exact HB.out | apply below_alloc | apply pw_below_drewN | apply below_drew1 | refine below_set ?_ GE227.out | refine below_set ?_ GE240.out | refine below_set ?_ GE248.out | refine below_set ?_ GE256.out | refine below_set ?_ GE264.out | refine below_set ?_ GE277.out) | exact HB.out)) hb)
                  clear HO220
                  clear HO223
                  clear HO226
                  clear HO232
                  clear HO235
                  clear HO238
                  clear HO243
                  clear HO246
                  clear HO251
                  clear HO254
                  clear HO259
                  clear HO262
                  clear HO269
                  clear BK227
                  clear BK240
                  clear BK248
                  clear BK256
                  clear BK264
                  clear BK277
                  clear HB
                  have HO220 := n0_
                  have HO223 := n1_
                  have HO226 := n2_
                  have HO232 := n3_
                  have HO235 := n4_
                  have HO238 := n5_
                  have HO243 := n6_
                  have HO246 := n7_
                  have HO251 := n8_
                  have HO254 := n9_
                  have HO259 := n10_
                  have HO262 := n11_
                  have HO269 := n12_
                  have HO272 := n13_
                  have HO275 := n14_
                  have BK227 := n15_
                  have BK240 := n16_
                  have BK248 := n17_
                  have BK256 := n18_
                  have BK264 := n19_
                  have BK277 := n20_
                  have HB := n21_
                  clear n0_ n1_ n2_ n3_ n4_ n5_ n6_ n7_ n8_ n9_ n10_ n11_ n12_ n13_ n14_ n15_ n16_ n17_ n18_ n19_ n20_ n21_
                  (try clear hb)
                  (try clear hb2)
                  (try clear hk)
                  (try clear hi)
                  (try clear ho0)
                  (try clear ho1)
                  refine hK.out _ _ ⟨(blk_cell BK227.out 0).trans rfl, (blk_cell BK227.out 1).trans rfl⟩ (fun hHeld => ?_)
                  clear hK K
                  refine norm_ (a' := ?_) ?_ ?_
                  rotate_left
                  ·show Act.put _ (some 51) _ = _
                   simp only [Act.put, List.setIfInBounds_toArray, List.set_cons_zero, List.set_cons_succ, i64_w, i32_w]
                   rfl
                  refine pure_ (i := 5) (N := some 46) (v := ?_) (a' := ?_) #[true, true, true, true, true, true, false, false, true, false, false] rfl rfl (any_of HT_.out (by kernel_rfl)) (fun _ _ _ h => h) (Or.inl ⟨by rfl, ?_⟩) ?_ ?_
                  rotate_left
                  ·intro w'
                   go_simp
                   with_reducible rfl
                  rotate_left
                  ·simp only [Act.put, List.setIfInBounds_toArray, List.set_cons_zero, List.set_cons_succ, i64_w, i32_w]
                   rfl
                  refine pure_ (i := 6) (N := some 52) (v := ?_) (a' := ?_) #[true, true, true, true, true, true, true, false, true, false, false] rfl rfl (any_of HT_.out (by kernel_rfl)) (fun _ _ _ h => h) (Or.inl ⟨by rfl, ?_⟩) ?_ ?_
                  rotate_left
                  ·intro w'
                   go_simp
                   with_reducible rfl
                  rotate_left
                  ·simp only [Act.put, List.setIfInBounds_toArray, List.set_cons_zero, List.set_cons_succ, i64_w, i32_w]
                   rfl
                  refine pure_ (i := 7) (N := some 53) (v := ?_) (a' := ?_) #[true, true, true, true, true, true, true, true, true, false, false] rfl rfl (any_of HT_.out (by kernel_rfl)) (fun _ _ _ h => h) (Or.inl ⟨by rfl, ?_⟩) ?_ ?_
                  rotate_left
                  ·intro w'
                   go_simp
                   with_reducible rfl
                  rotate_left
                  ·simp only [Act.put, List.setIfInBounds_toArray, List.set_cons_zero, List.set_cons_succ, i64_w, i32_w]
                   rfl
                  exact norm_ (by simp only [putAll, Act.put, List.setIfInBounds_toArray, List.set_cons_zero, List.set_cons_succ]) (hCont (.slice Ao76 y267.length co76, v271, v274, gb277) _ ⟨hHeld, (rs_3 (Kd.R_mono HO220.out (fun _ hk => ⟨hk.1.1.1, ⟨hk.1.1.2.1, ⟨hk.1.1.2.2.1, ⟨hk.1.1.2.2.2.1, ⟨hk.1.1.2.2.2.2.1, ⟨hk.1.1.2.2.2.2.2.1, ⟨hk.1.1.2.2.2.2.2.2.1, ⟨hk.1.1.2.2.2.2.2.2.2.1, ⟨hk.1.1.2.2.2.2.2.2.2.2.1, ⟨hk.1.1.2.2.2.2.2.2.2.2.2, ⟨hk.1.2, hk.2⟩⟩⟩⟩⟩⟩⟩⟩⟩⟩⟩))), (rs_3 (Kd.R_mono HO223.out (fun _ hk => ⟨hk.1.1.1, ⟨hk.1.1.2.1, ⟨hk.1.1.2.2.1, ⟨hk.1.1.2.2.2.1, ⟨hk.1.1.2.2.2.2.1, ⟨hk.1.1.2.2.2.2.2.1, ⟨hk.1.1.2.2.2.2.2.2.1, ⟨hk.1.1.2.2.2.2.2.2.2.1, ⟨hk.1.1.2.2.2.2.2.2.2.2.1, ⟨hk.1.1.2.2.2.2.2.2.2.2.2, ⟨hk.1.2, hk.2⟩⟩⟩⟩⟩⟩⟩⟩⟩⟩⟩))), (rs_3 (Kd.R_mono HO226.out (fun _ hk => ⟨hk.1.1.1, ⟨hk.1.1.2.1, ⟨hk.1.1.2.2.1, ⟨hk.1.1.2.2.2.1, ⟨hk.1.1.2.2.2.2.1, ⟨hk.1.1.2.2.2.2.2.1, ⟨hk.1.1.2.2.2.2.2.2.1, ⟨hk.1.1.2.2.2.2.2.2.2.1, ⟨hk.1.1.2.2.2.2.2.2.2.2.1, ⟨hk.1.1.2.2.2.2.2.2.2.2.2, ⟨hk.1.2, hk.2⟩⟩⟩⟩⟩⟩⟩⟩⟩⟩⟩))), (rs_3 (Kd.R_mono HO232.out (fun _ hk => hk.2))), (rs_3 (Kd.R_mono HO235.out (fun _ hk => ⟨hk.1.1.1, ⟨hk.1.1.2.1, ⟨hk.1.1.2.2.1, ⟨hk.1.1.2.2.2.1, ⟨hk.1.1.2.2.2.2.1, ⟨hk.1.1.2.2.2.2.2.1, ⟨hk.1.1.2.2.2.2.2.2.1, ⟨hk.1.1.2.2.2.2.2.2.2.1, ⟨hk.1.1.2.2.2.2.2.2.2.2.1, ⟨hk.1.1.2.2.2.2.2.2.2.2.2, ⟨hk.1.2, hk.2⟩⟩⟩⟩⟩⟩⟩⟩⟩⟩⟩))), (rs_3 (Kd.R_mono HO238.out (fun _ hk => ⟨hk.1.1.1, ⟨hk.1.1.2.1, ⟨hk.1.1.2.2.1, ⟨hk.1.1.2.2.2.1, ⟨hk.1.1.2.2.2.2.1, ⟨hk.1.1.2.2.2.2.2.1, ⟨hk.1.1.2.2.2.2.2.2.1, ⟨hk.1.1.2.2.2.2.2.2.2.1, ⟨hk.1.1.2.2.2.2.2.2.2.2.1, ⟨hk.1.1.2.2.2.2.2.2.2.2.2, ⟨hk.1.2, hk.2⟩⟩⟩⟩⟩⟩⟩⟩⟩⟩⟩))), (rs_3 (Kd.R_mono HO243.out (fun _ hk => ⟨hk.1.1.1, ⟨hk.1.1.2.1, ⟨hk.1.1.2.2.1, ⟨hk.1.1.2.2.2.1, ⟨hk.1.1.2.2.2.2.1, ⟨hk.1.1.2.2.2.2.2.1, ⟨hk.1.1.2.2.2.2.2.2.1, ⟨hk.1.1.2.2.2.2.2.2.2.1, ⟨hk.1.1.2.2.2.2.2.2.2.2.1, ⟨hk.1.1.2.2.2.2.2.2.2.2.2, ⟨hk.1.2, hk.2⟩⟩⟩⟩⟩⟩⟩⟩⟩⟩⟩))), (rs_3 (Kd.R_mono HO246.out (fun _ hk => ⟨hk.1.1.1, ⟨hk.1.1.2.1, ⟨hk.1.1.2.2.1, ⟨hk.1.1.2.2.2.1, ⟨hk.1.1.2.2.2.2.1, ⟨hk.1.1.2.2.2.2.2.1, ⟨hk.1.1.2.2.2.2.2.2.1, ⟨hk.1.1.2.2.2.2.2.2.2.1, ⟨hk.1.1.2.2.2.2.2.2.2.2.1, ⟨hk.1.1.2.2.2.2.2.2.2.2.2, ⟨hk.1.2, hk.2⟩⟩⟩⟩⟩⟩⟩⟩⟩⟩⟩))), (rs_3 (Kd.R_mono HO251.out (fun _ hk => ⟨hk.1.1.1, ⟨hk.1.1.2.1, ⟨hk.1.1.2.2.1, ⟨hk.1.1.2.2.2.1, ⟨hk.1.1.2.2.2.2.1, ⟨hk.1.1.2.2.2.2.2.1, ⟨hk.1.1.2.2.2.2.2.2.1, ⟨hk.1.1.2.2.2.2.2.2.2.1, ⟨hk.1.1.2.2.2.2.2.2.2.2.1, ⟨hk.1.1.2.2.2.2.2.2.2.2.2, ⟨hk.1.2, hk.2⟩⟩⟩⟩⟩⟩⟩⟩⟩⟩⟩))), (rs_3 (Kd.R_mono HO254.out (fun _ hk => ⟨hk.1.1.1, ⟨hk.1.1.2.1, ⟨hk.1.1.2.2.1, ⟨hk.1.1.2.2.2.1, ⟨hk.1.1.2.2.2.2.1, ⟨hk.1.1.2.2.2.2.2.1, ⟨hk.1.1.2.2.2.2.2.2.1, ⟨hk.1.1.2.2.2.2.2.2.2.1, ⟨hk.1.1.2.2.2.2.2.2.2.2.1, ⟨hk.1.1.2.2.2.2.2.2.2.2.2, ⟨hk.1.2, hk.2⟩⟩⟩⟩⟩⟩⟩⟩⟩⟩⟩))), (rs_3 (Kd.R_mono HO259.out (fun _ hk => ⟨hk.1.1.1, ⟨hk.1.1.2.1, ⟨hk.1.1.2.2.1, ⟨hk.1.1.2.2.2.1, ⟨hk.1.1.2.2.2.2.1, ⟨hk.1.1.2.2.2.2.2.1, ⟨hk.1.1.2.2.2.2.2.2.1, ⟨hk.1.1.2.2.2.2.2.2.2.1, ⟨hk.1.1.2.2.2.2.2.2.2.2.1, ⟨hk.1.1.2.2.2.2.2.2.2.2.2, ⟨hk.1.2, hk.2⟩⟩⟩⟩⟩⟩⟩⟩⟩⟩⟩))), (rs_3 (Kd.R_mono HO262.out (fun _ hk => ⟨hk.1.1.1, ⟨hk.1.1.2.1, ⟨hk.1.1.2.2.1, ⟨hk.1.1.2.2.2.1, ⟨hk.1.1.2.2.2.2.1, ⟨hk.1.1.2.2.2.2.2.1, ⟨hk.1.1.2.2.2.2.2.2.1, ⟨hk.1.1.2.2.2.2.2.2.2.1, ⟨hk.1.1.2.2.2.2.2.2.2.2.1, ⟨hk.1.1.2.2.2.2.2.2.2.2.2, ⟨hk.1.2, hk.2⟩⟩⟩⟩⟩⟩⟩⟩⟩⟩⟩))), (rs_3 (Kd.R_mono HO269.out (fun _ hk => hk.2))), (rs_3 (Kd.R_mono HO272.out (fun _ hk => ⟨hk.1.1.1.1.1.1.1.1.1.1.2, ⟨hk.1.1.1.1.1.1.1.1.1.2, ⟨hk.1.1.1.1.1.1.1.1.2, ⟨hk.1.1.1.1.1.1.1.2, ⟨hk.1.1.1.1.1.1.2, ⟨hk.1.1.1.1.1.2, ⟨hk.1.1.1.1.2, ⟨hk.1.1.1.2, ⟨hk.1.1.2, ⟨hk.1.2, ⟨hk.2, hk.1.1.1.1.1.1.1.1.1.1.1⟩⟩⟩⟩⟩⟩⟩⟩⟩⟩⟩))), (rs_3 (Kd.R_mono HO275.out (fun _ hk => ⟨hk.1.1.1.1.1.1.1.1.1.1.2, ⟨hk.1.1.1.1.1.1.1.1.1.2, ⟨hk.1.1.1.1.1.1.1.1.2, ⟨hk.1.1.1.1.1.1.1.2, ⟨hk.1.1.1.1.1.1.2, ⟨hk.1.1.1.1.1.2, ⟨hk.1.1.1.1.2, ⟨hk.1.1.1.2, ⟨hk.1.1.2, ⟨hk.1.2, ⟨hk.2, hk.1.1.1.1.1.1.1.1.1.1.1⟩⟩⟩⟩⟩⟩⟩⟩⟩⟩⟩))), (bs_3 BK227), (bs_3 BK240), (bs_3 BK248), (bs_3 BK256), (bs_3 BK264), (bs_3 BK277), GW277.out, GE277.out, NB227_277.out, NB277_227.out, NB240_277.out, NB277_240.out, NB248_277.out, NB277_248.out, NB256_277.out, NB277_256.out, NB264_277.out, NB277_264.out, (by repeat (first | (with_reducible first | exact HB.out | apply below_alloc | apply pw_below_drewN | apply below_drew1 | refine below_set ?_ GE227.out | refine below_set ?_ GE240.out | refine below_set ?_ GE248.out | refine below_set ?_ GE256.out | refine below_set ?_ GE264.out | refine below_set ?_ GE277.out) | exact HB.out))⟩)
                ·skip
                 refine box_step ?hg (N := 11) ?hd (cs := #[.slice none 0 0, .slice none 0 0]) (t := 25) ?hr ?_; (case hd => rfl); (case hg => rfl); (case hr => first | (go_simp; done) | (go_simp; rfl))
                 intro gb277 hg w73 hbox hb
                 have n0_ := Aside0.mk (Kd.R_below (rs_3 HO220.out) hb)
                 have n1_ := Aside0.mk (Kd.R_below (rs_3 HO223.out) hb)
                 have n2_ := Aside0.mk (Kd.R_below (rs_3 HO226.out) hb)
                 have n3_ := Aside0.mk (Kd.R_below (rs_3 HO232.out) hb)
                 have n4_ := Aside0.mk (Kd.R_below (rs_3 HO235.out) hb)
                 have n5_ := Aside0.mk (Kd.R_below (rs_3 HO238.out) hb)
                 have n6_ := Aside0.mk (Kd.R_below (rs_3 HO243.out) hb)
                 have n7_ := Aside0.mk (Kd.R_below (rs_3 HO246.out) hb)
                 have n8_ := Aside0.mk (Kd.R_below (rs_3 HO251.out) hb)
                 have n9_ := Aside0.mk (Kd.R_below (rs_3 HO254.out) hb)
                 have n10_ := Aside0.mk (Kd.R_below (rs_3 HO259.out) hb)
                 have n11_ := Aside0.mk (Kd.R_below (rs_3 HO262.out) hb)
                 have n12_ := Aside0.mk (blk_below (g := gb227) (o := .cells #[.slice Ao29 t221.length co29, .slice Ao31 t224.length co31] 25 (0, 0)) (bs_3 BK227) hb)
                 have n13_ := Aside0.mk (blk_below (g := gb240) (o := .cells #[.slice Ao38 t233.length co38, .slice Ao41 t236.length co41] 25 (0, 0)) (bs_3 BK240) hb)
                 have n14_ := Aside0.mk (blk_below (g := gb248) (o := .cells #[.slice Ao46 t241.length co46, .slice Ao50 t244.length co50] 25 (0, 0)) (bs_3 BK248) hb)
                 have n15_ := Aside0.mk (blk_below (g := gb256) (o := .cells #[.slice Ao54 t249.length co54, .slice Ao59 t252.length co59] 25 (0, 0)) (bs_3 BK256) hb)
                 have n16_ := Aside0.mk (blk_below (g := gb264) (o := .cells #[.slice Ao63 t257.length co63, .slice Ao69 t260.length co69] 25 (0, 0)) (bs_3 BK264) hb)
                 have n17_ := Aside0.mk (below_step (by repeat (first | (with_reducible first | exact HB.out | apply below_alloc | apply pw_below_drewN | apply below_drew1 | refine below_set ?_ GE227.out | refine below_set ?_ GE240.out | refine below_set ?_ GE248.out | refine below_set ?_ GE256.out | refine below_set ?_ GE264.out) | exact HB.out)) hb)
                 have n18_ := Aside0.mk (hbox)
                 have n19_ := Aside0.mk ((by rw [hg]; exact (below_size (by repeat (first | (with_reducible first | exact HB.out | apply below_alloc | apply pw_below_drewN | apply below_drew1 | refine below_set ?_ GE227.out | refine below_set ?_ GE240.out | refine below_set ?_ GE248.out | refine below_set ?_ GE256.out | refine below_set ?_ GE264.out) | exact HB.out))) : w.heap.size ≤ gb277))
                 have n20_ := Aside0.mk ((by rw [hg]; exact (below_size (by repeat (first | (with_reducible first | exact HB.out | apply below_alloc | apply pw_below_drewN | apply below_drew1 | refine below_set ?_ GE227.out | refine below_set ?_ GE240.out | refine below_set ?_ GE248.out | refine below_set ?_ GE256.out | refine below_set ?_ GE264.out) | exact HB.out))) : w.heap.size ≤ gb277))
                 have n21_ := Aside0.mk ((by rw [hg]; exact Nat.ne_of_lt (blk_lt (g := gb227) (o := .cells #[.slice Ao29 t221.length co29, .slice Ao31 t224.length co31] 25 (0, 0)) (bs_3 BK227)) : gb227 ≠ gb277))
                 have n22_ := Aside0.mk ((by rw [hg]; exact Nat.ne_of_gt (blk_lt (g := gb227) (o := .cells #[.slice Ao29 t221.length co29, .slice Ao31 t224.length co31] 25 (0, 0)) (bs_3 BK227)) : gb277 ≠ gb227))
                 have n23_ := Aside0.mk ((by rw [hg]; exact Nat.ne_of_lt (blk_lt (g := gb240) (o := .cells #[.slice Ao38 t233.length co38, .slice Ao41 t236.length co41] 25 (0, 0)) (bs_3 BK240)) : gb240 ≠ gb277))
                 have n24_ := Aside0.mk ((by rw [hg]; exact Nat.ne_of_gt (blk_lt (g := gb240) (o := .cells #[.slice Ao38 t233.length co38, .slice Ao41 t236.length co41] 25 (0, 0)) (bs_3 BK240)) : gb277 ≠ gb240))
                 have n25_ := Aside0.mk ((by rw [hg]; exact Nat.ne_of_lt (blk_lt (g := gb248) (o := .cells #[.slice Ao46 t241.length co46, .slice Ao50 t244.length co50] 25 (0, 0)) (bs_3 BK248)) : gb248 ≠ gb277))
                 have n26_ := Aside0.mk ((by rw [hg]; exact Nat.ne_of_gt (blk_lt (g := gb248) (o := .cells #[.slice Ao46 t241.length co46, .slice Ao50 t244.length co50] 25 (0, 0)) (bs_3 BK248)) : gb277 ≠ gb248))
                 have n27_ := Aside0.mk ((by rw [hg]; exact Nat.ne_of_lt (blk_lt (g := gb256) (o := .cells #[.slice Ao54 t249.length co54, .slice Ao59 t252.length co59] 25 (0, 0)) (bs_3 BK256)) : gb256 ≠ gb277))
                 have n28_ := Aside0.mk ((by rw [hg]; exact Nat.ne_of_gt (blk_lt (g := gb256) (o := .cells #[.slice Ao54 t249.length co54, .slice Ao59 t252.length co59] 25 (0, 0)) (bs_3 BK256)) : gb277 ≠ gb256))
                 have n29_ := Aside0.mk ((by rw [hg]; exact Nat.ne_of_lt (blk_lt (g := gb264) (o := .cells #[.slice Ao63 t257.length co63, .slice Ao69 t260.length co69] 25 (0, 0)) (bs_3 BK264)) : gb264 ≠ gb277))
                 have n30_ := Aside0.mk ((by rw [hg]; exact Nat.ne_of_gt (blk_lt (g := gb264) (o := .cells #[.slice Ao63 t257.length co63, .slice Ao69 t260.length co69] 25 (0, 0)) (bs_3 BK264)) : gb277 ≠ gb264))
                 clear HO220
                 clear HO223
                 clear HO226
                 clear HO232
                 clear HO235
                 clear HO238
                 clear HO243
                 clear HO246
                 clear HO251
                 clear HO254
                 clear HO259
                 clear HO262
                 clear BK227
                 clear BK240
                 clear BK248
                 clear BK256
                 clear BK264
                 clear HB
                 have HO220 := n0_
                 have HO223 := n1_
                 have HO226 := n2_
                 have HO232 := n3_
                 have HO235 := n4_
                 have HO238 := n5_
                 have HO243 := n6_
                 have HO246 := n7_
                 have HO251 := n8_
                 have HO254 := n9_
                 have HO259 := n10_
                 have HO262 := n11_
                 have BK227 := n12_
                 have BK240 := n13_
                 have BK248 := n14_
                 have BK256 := n15_
                 have BK264 := n16_
                 have HB := n17_
                 have BK277 := n18_
                 have GW277 := n19_
                 have GE277 := n20_
                 have NB227_277 := n21_
                 have NB277_227 := n22_
                 have NB240_277 := n23_
                 have NB277_240 := n24_
                 have NB248_277 := n25_
                 have NB277_248 := n26_
                 have NB256_277 := n27_
                 have NB277_256 := n28_
                 have NB264_277 := n29_
                 have NB277_264 := n30_
                 clear n0_ n1_ n2_ n3_ n4_ n5_ n6_ n7_ n8_ n9_ n10_ n11_ n12_ n13_ n14_ n15_ n16_ n17_ n18_ n19_ n20_ n21_ n22_ n23_ n24_ n25_ n26_ n27_ n28_ n29_ n30_
                 clear hb hbox hg
                 refine hK.out _ _ ⟨(blk_cell BK227.out 0).trans rfl, (blk_cell BK227.out 1).trans rfl⟩ (fun hHeld => ?_)
                 clear hK K
                 refine norm_ (a' := ?_) ?_ ?_
                 rotate_left
                 ·show Act.put _ (some 11) _ = _
                  simp only [Act.put, List.setIfInBounds_toArray, List.set_cons_zero, List.set_cons_succ, i64_w, i32_w]
                  rfl
                 refine one_ (i := 2) (N := some 49) #[true, true, true, true, false, false, false, false, true, false, false] rfl rfl (one_of HT_.out (by kernel_rfl)) (by decide) (fun K hK => ?_)
                 refine Kd.R_lit_step k30 _ 30 ?hg (N := 49) ?hd (xs := ([(⟨t265, t266⟩ : S30)] : List (S30))) (inner := [.int .i64 t265, .int .u64 t266]) (ok := fun _ => True) (okp := fun _ => True) ?hr ?hp (fun _ hk => hk) trivial (Below.refl _ _) (Nat.le_refl _) (by simp) ?_; (case hd => rfl); (case hg => rfl); (case hr => first | (go_simp; done) | (go_simp; rfl)); (case hp => exact (Reps.c2 (show Kd.M k30 _ _ _ (⟨t265, t266⟩ : S30) [.int .i64 t265, .int .u64 t266] from (k30_mkM _ _ _ (⟨t265, t266⟩ : S30) )) (Reps.none _ _)))
                 intro v268 w74 ho75 hb hg_ hnew_
                 clear hg_ hnew_
                 (first | rw [← Ny267.out] at ho75 | (simp only [Int.reduceToNat] at ho75; rw [← Ny267.out] at ho75))
                 have n0_ := Aside0.mk (Kd.R_below (rs_3 HO220.out) hb)
                 have n1_ := Aside0.mk (Kd.R_below (rs_3 HO223.out) hb)
                 have n2_ := Aside0.mk (Kd.R_below (rs_3 HO226.out) hb)
                 have n3_ := Aside0.mk (Kd.R_elder' (rs_3 HO232.out) (Kd.R_base ho75) hb)
                 have n4_ := Aside0.mk (Kd.R_below (rs_3 HO235.out) hb)
                 have n5_ := Aside0.mk (Kd.R_below (rs_3 HO238.out) hb)
                 have n6_ := Aside0.mk (Kd.R_below (rs_3 HO243.out) hb)
                 have n7_ := Aside0.mk (Kd.R_below (rs_3 HO246.out) hb)
                 have n8_ := Aside0.mk (Kd.R_below (rs_3 HO251.out) hb)
                 have n9_ := Aside0.mk (Kd.R_below (rs_3 HO254.out) hb)
                 have n10_ := Aside0.mk (Kd.R_below (rs_3 HO259.out) hb)
                 have n11_ := Aside0.mk (Kd.R_below (rs_3 HO262.out) hb)
                 have n12_ := Aside0.mk (Kd.R_lower (Kd.R_new' ho75 (Kd.R_lt (rs_3 HO232.out))) (below_size (by repeat (first | (with_reducible first | exact HB.out | apply below_alloc | apply pw_below_drewN | apply below_drew1 | refine below_set ?_ GE227.out | refine below_set ?_ GE240.out | refine below_set ?_ GE248.out | refine below_set ?_ GE256.out | refine below_set ?_ GE264.out | refine below_set ?_ GE277.out) | exact HB.out))))
                 have n13_ := Aside0.mk (blk_below (g := gb227) (o := .cells #[.slice Ao29 t221.length co29, .slice Ao31 t224.length co31] 25 (0, 0)) (bs_3 BK227) hb)
                 have n14_ := Aside0.mk (blk_below (g := gb240) (o := .cells #[.slice Ao38 t233.length co38, .slice Ao41 t236.length co41] 25 (0, 0)) (bs_3 BK240) hb)
                 have n15_ := Aside0.mk (blk_below (g := gb248) (o := .cells #[.slice Ao46 t241.length co46, .slice Ao50 t244.length co50] 25 (0, 0)) (bs_3 BK248) hb)
                 have n16_ := Aside0.mk (blk_below (g := gb256) (o := .cells #[.slice Ao54 t249.length co54, .slice Ao59 t252.length co59] 25 (0, 0)) (bs_3 BK256) hb)
                 have n17_ := Aside0.mk (blk_below (g := gb264) (o := .cells #[.slice Ao63 t257.length co63, .slice Ao69 t260.length co69] 25 (0, 0)) (bs_3 BK264) hb)
                 have n18_ := Aside0.mk (blk_below (g := gb277) (o := .cells #[.slice none 0 0, .slice none 0 0] 25 (0, 0)) (bs_3 BK277) hb)
                 have n19_ := Aside0.mk (below_step (by repeat (first | (with_reducible first | exact HB.out | apply below_alloc | apply pw_below_drewN | apply below_drew1 | refine below_set ?_ GE227.out | refine below_set ?_ GE240.out | refine below_set ?_ GE248.out | refine below_set ?_ GE256.out | refine below_set ?_ GE264.out | refine below_set ?_ GE277.out) | exact HB.out)) hb)
                 clear HO220
                 clear HO223
                 clear HO226
                 clear HO232
                 clear HO235
                 clear HO238
                 clear HO243
                 clear HO246
                 clear HO251
                 clear HO254
                 clear HO259
                 clear HO262
                 clear BK227
                 clear BK240
                 clear BK248
                 clear BK256
                 clear BK264
                 clear BK277
                 clear HB
                 have HO220 := n0_
                 have HO223 := n1_
                 have HO226 := n2_
                 have HO232 := n3_
                 have HO235 := n4_
                 have HO238 := n5_
                 have HO243 := n6_
                 have HO246 := n7_
                 have HO251 := n8_
                 have HO254 := n9_
                 have HO259 := n10_
                 have HO262 := n11_
                 have HO269 := n12_
                 have BK227 := n13_
                 have BK240 := n14_
                 have BK248 := n15_
                 have BK256 := n16_
                 have BK264 := n17_
                 have BK277 := n18_
                 have HB := n19_
                 clear n0_ n1_ n2_ n3_ n4_ n5_ n6_ n7_ n8_ n9_ n10_ n11_ n12_ n13_ n14_ n15_ n16_ n17_ n18_ n19_
                 clear hb ho75
                 obtain ⟨Ao76, co76, eo76⟩ := Kd.R_slice HO269.out
                 (first | subst eo76 | (injection eo76 with f1_ f2_ f3_; have f4_ := f1_.symm; have f5_ := f3_.symm; clear f1_ f2_ f3_; subst f4_; subst f5_))
                 refine hK.out _ _ ⟨(blk_cell BK227.out 0).trans rfl, (blk_cell BK227.out 1).trans rfl⟩ (fun hHeld => ?_)
                 clear hK K
                 refine norm_ (a' := ?_) ?_ ?_
                 rotate_left
                 ·show Act.put _ (some 49) _ = _
                  simp only [Act.put, List.setIfInBounds_toArray, List.set_cons_zero, List.set_cons_succ, i64_w, i32_w]
                  rfl
                 refine one_ (i := 4) (N := some 51) #[true, true, true, true, true, false, false, false, true, false, false] rfl rfl (one_of HT_.out (by kernel_rfl)) (by decide) (fun K hK => ?_)
                 refine goes_ Try.func12 (by kernel_rfl) rfl #[.agg #[.slice Ao29 t221.length co29, .slice Ao31 t224.length co31], .slice Ao76 y267.length co76, .int .i64 3, .agg #[.int .i64 4294967296, .int .i64 0, .int .i64 50]] (by rfl) rfl rfl (by (try simp only [List.map_toArray, List.map_cons, List.map_nil]); first | done | rfl | (simp only [List.length_drop, List.length_take]; rfl)) ?_
                 with_reducible refine (opt_Apply.calls k _ _ t221 _ _ t224 _ _ y267 3 4294967296 0 50 t270 t273 t276 _ ?side1 ?side2 ?side3 ?side4 ?side5 ?side6 A10.out).mono ?_
                 (case side1 => repeat (first | exact (Kd.R_reads' HO223.out).2.2 | (with_reducible refine Kd.C_alloc ?_ _) | (with_reducible refine Kd.C_drewN ?_ _) | (with_reducible refine Kd.C_drew ?_)))
                 (case side2 => exact (Kd.R_reads' HO223.out).2.1)
                 (case side3 => repeat (first | exact (Kd.R_reads' HO226.out).2.2 | (with_reducible refine Kd.C_alloc ?_ _) | (with_reducible refine Kd.C_drewN ?_ _) | (with_reducible refine Kd.C_drew ?_)))
                 (case side4 => exact (Kd.R_reads' HO226.out).2.1)
                 (case side5 => repeat (first | exact (Kd.R_reads' HO269.out).2.2 | (with_reducible refine Kd.C_alloc ?_ _) | (with_reducible refine Kd.C_drewN ?_ _) | (with_reducible refine Kd.C_drew ?_)))
                 (case side6 => exact (Kd.R_reads' HO269.out).2.1)
                 rintro e w77 ⟨v271, v274, rfl, ho0, ho1, hb⟩
                 refine ⟨_, rfl, ?_⟩
                 have n0_ := Aside0.mk (Kd.R_mono (Kd.R_told (Kd.R_told (Kd.R_old (rs_3 HO220.out) hb) (Kd.R_base ho0)) (Kd.R_base ho1)) (fun _ h_ => h_.1))
                 have n1_ := Aside0.mk (Kd.R_mono (Kd.R_told (Kd.R_told (Kd.R_old (rs_3 HO223.out) hb) (Kd.R_base ho0)) (Kd.R_base ho1)) (fun _ h_ => h_.1))
                 have n2_ := Aside0.mk (Kd.R_mono (Kd.R_told (Kd.R_told (Kd.R_old (rs_3 HO226.out) hb) (Kd.R_base ho0)) (Kd.R_base ho1)) (fun _ h_ => h_.1))
                 have n3_ := Aside0.mk (Kd.R_below (rs_3 HO232.out) hb)
                 have n4_ := Aside0.mk (Kd.R_mono (Kd.R_told (Kd.R_told (Kd.R_old (rs_3 HO235.out) hb) (Kd.R_base ho0)) (Kd.R_base ho1)) (fun _ h_ => h_.1))
                 have n5_ := Aside0.mk (Kd.R_mono (Kd.R_told (Kd.R_told (Kd.R_old (rs_3 HO238.out) hb) (Kd.R_base ho0)) (Kd.R_base ho1)) (fun _ h_ => h_.1))
                 have n6_ := Aside0.mk (Kd.R_mono (Kd.R_told (Kd.R_told (Kd.R_old (rs_3 HO243.out) hb) (Kd.R_base ho0)) (Kd.R_base ho1)) (fun _ h_ => h_.1))
                 have n7_ := Aside0.mk (Kd.R_mono (Kd.R_told (Kd.R_told (Kd.R_old (rs_3 HO246.out) hb) (Kd.R_base ho0)) (Kd.R_base ho1)) (fun _ h_ => h_.1))
                 have n8_ := Aside0.mk (Kd.R_mono (Kd.R_told (Kd.R_told (Kd.R_old (rs_3 HO251.out) hb) (Kd.R_base ho0)) (Kd.R_base ho1)) (fun _ h_ => h_.1))
                 have n9_ := Aside0.mk (Kd.R_mono (Kd.R_told (Kd.R_told (Kd.R_old (rs_3 HO254.out) hb) (Kd.R_base ho0)) (Kd.R_base ho1)) (fun _ h_ => h_.1))
                 have n10_ := Aside0.mk (Kd.R_mono (Kd.R_told (Kd.R_told (Kd.R_old (rs_3 HO259.out) hb) (Kd.R_base ho0)) (Kd.R_base ho1)) (fun _ h_ => h_.1))
                 have n11_ := Aside0.mk (Kd.R_mono (Kd.R_told (Kd.R_told (Kd.R_old (rs_3 HO262.out) hb) (Kd.R_base ho0)) (Kd.R_base ho1)) (fun _ h_ => h_.1))
                 have n12_ := Aside0.mk (Kd.R_below (rs_3 HO269.out) hb)
                 have n13_ := Aside0.mk (Kd.R_lower (Kd.R_new' (Kd.R_new' (Kd.R_new' (Kd.R_new' (Kd.R_new' (Kd.R_new' (Kd.R_new' (Kd.R_new' (Kd.R_new' (Kd.R_new' (Kd.R_new' ho0 (Kd.R_lt (rs_3 HO220.out))) (Kd.R_lt (rs_3 HO223.out))) (Kd.R_lt (rs_3 HO226.out))) (Kd.R_lt (rs_3 HO235.out))) (Kd.R_lt (rs_3 HO238.out))) (Kd.R_lt (rs_3 HO243.out))) (Kd.R_lt (rs_3 HO246.out))) (Kd.R_lt (rs_3 HO251.out))) (Kd.R_lt (rs_3 HO254.out))) (Kd.R_lt (rs_3 HO259.out))) (Kd.R_lt (rs_3 HO262.out))) (below_size (by repeat (first | (with_reducible first | exact HB.out | apply below_alloc | apply pw_below_drewN | apply below_drew1 | refine below_set ?_ GE227.out | refine below_set ?_ GE240.out | refine below_set ?_ GE248.out | refine below_set ?_ GE256.out | refine below_set ?_ GE264.out | refine below_set ?_ GE277.out) | exact HB.out))))
                 have n14_ := Aside0.mk (Kd.R_lower (Kd.R_new' (Kd.R_new' (Kd.R_new' (Kd.R_new' (Kd.R_new' (Kd.R_new' (Kd.R_new' (Kd.R_new' (Kd.R_new' (Kd.R_new' (Kd.R_new' ho1 (Kd.R_lt (rs_3 HO220.out))) (Kd.R_lt (rs_3 HO223.out))) (Kd.R_lt (rs_3 HO226.out))) (Kd.R_lt (rs_3 HO235.out))) (Kd.R_lt (rs_3 HO238.out))) (Kd.R_lt (rs_3 HO243.out))) (Kd.R_lt (rs_3 HO246.out))) (Kd.R_lt (rs_3 HO251.out))) (Kd.R_lt (rs_3 HO254.out))) (Kd.R_lt (rs_3 HO259.out))) (Kd.R_lt (rs_3 HO262.out))) (below_size (by repeat (first | (with_reducible first | exact HB.out | apply below_alloc | apply pw_below_drewN | apply below_drew1 | refine below_set ?_ GE227.out | refine below_set ?_ GE240.out | refine below_set ?_ GE248.out | refine below_set ?_ GE256.out | refine below_set ?_ GE264.out | refine below_set ?_ GE277.out) | exact HB.out))))
                 have n15_ := Aside0.mk (blk_below (g := gb227) (o := .cells #[.slice Ao29 t221.length co29, .slice Ao31 t224.length co31] 25 (0, 0)) (bs_3 BK227) hb)
                 have n16_ := Aside0.mk (blk_below (g := gb240) (o := .cells #[.slice Ao38 t233.length co38, .slice Ao41 t236.length co41] 25 (0, 0)) (bs_3 BK240) hb)
                 have n17_ := Aside0.mk (blk_below (g := gb248) (o := .cells #[.slice Ao46 t241.length co46, .slice Ao50 t244.length co50] 25 (0, 0)) (bs_3 BK248) hb)
                 have n18_ := Aside0.mk (blk_below (g := gb256) (o := .cells #[.slice Ao54 t249.length co54, .slice Ao59 t252.length co59] 25 (0, 0)) (bs_3 BK256) hb)
                 have n19_ := Aside0.mk (blk_below (g := gb264) (o := .cells #[.slice Ao63 t257.length co63, .slice Ao69 t260.length co69] 25 (0, 0)) (bs_3 BK264) hb)
                 have n20_ := Aside0.mk (blk_below (g := gb277) (o := .cells #[.slice none 0 0, .slice none 0 0] 25 (0, 0)) (bs_3 BK277) hb)
                 have n21_ := Aside0.mk (below_step (by repeat (first | (with_reducible first | exact HB.out | apply below_alloc | apply pw_below_drewN | apply below_drew1 | refine below_set ?_ GE227.out | refine below_set ?_ GE240.out | refine below_set ?_ GE248.out | refine below_set ?_ GE256.out | refine below_set ?_ GE264.out | refine below_set ?_ GE277.out) | exact HB.out)) hb)
                 clear HO220
                 clear HO223
                 clear HO226
                 clear HO232
                 clear HO235
                 clear HO238
                 clear HO243
                 clear HO246
                 clear HO251
                 clear HO254
                 clear HO259
                 clear HO262
                 clear HO269
                 clear BK227
                 clear BK240
                 clear BK248
                 clear BK256
                 clear BK264
                 clear BK277
                 clear HB
                 have HO220 := n0_
                 have HO223 := n1_
                 have HO226 := n2_
                 have HO232 := n3_
                 have HO235 := n4_
                 have HO238 := n5_
                 have HO243 := n6_
                 have HO246 := n7_
                 have HO251 := n8_
                 have HO254 := n9_
                 have HO259 := n10_
                 have HO262 := n11_
                 have HO269 := n12_
                 have HO272 := n13_
                 have HO275 := n14_
                 have BK227 := n15_
                 have BK240 := n16_
                 have BK248 := n17_
                 have BK256 := n18_
                 have BK264 := n19_
                 have BK277 := n20_
                 have HB := n21_
                 clear n0_ n1_ n2_ n3_ n4_ n5_ n6_ n7_ n8_ n9_ n10_ n11_ n12_ n13_ n14_ n15_ n16_ n17_ n18_ n19_ n20_ n21_
                 (try clear hb)
                 (try clear hb2)
                 (try clear hk)
                 (try clear hi)
                 (try clear ho0)
                 (try clear ho1)
                 refine hK.out _ _ ⟨(blk_cell BK227.out 0).trans rfl, (blk_cell BK227.out 1).trans rfl⟩ (fun hHeld => ?_)
                 clear hK K
                 refine norm_ (a' := ?_) ?_ ?_
                 rotate_left
                 ·show Act.put _ (some 51) _ = _
                  simp only [Act.put, List.setIfInBounds_toArray, List.set_cons_zero, List.set_cons_succ, i64_w, i32_w]
                  rfl
                 refine pure_ (i := 5) (N := some 46) (v := ?_) (a' := ?_) #[true, true, true, true, true, true, false, false, true, false, false] rfl rfl (any_of HT_.out (by kernel_rfl)) (fun _ _ _ h => h) (Or.inl ⟨by rfl, ?_⟩) ?_ ?_
                 rotate_left
                 ·intro w'
                  go_simp
                  with_reducible rfl
                 rotate_left
                 ·simp only [Act.put, List.setIfInBounds_toArray, List.set_cons_zero, List.set_cons_succ, i64_w, i32_w]
                  rfl
                 refine pure_ (i := 6) (N := some 52) (v := ?_) (a' := ?_) #[true, true, true, true, true, true, true, false, true, false, false] rfl rfl (any_of HT_.out (by kernel_rfl)) (fun _ _ _ h => h) (Or.inl ⟨by rfl, ?_⟩) ?_ ?_
                 rotate_left
                 ·intro w'
                  go_simp
                  with_reducible rfl
                 rotate_left
                 ·simp only [Act.put, List.setIfInBounds_toArray, List.set_cons_zero, List.set_cons_succ, i64_w, i32_w]
                  rfl
                 refine pure_ (i := 7) (N := some 53) (v := ?_) (a' := ?_) #[true, true, true, true, true, true, true, true, true, false, false] rfl rfl (any_of HT_.out (by kernel_rfl)) (fun _ _ _ h => h) (Or.inl ⟨by rfl, ?_⟩) ?_ ?_
                 rotate_left
                 ·intro w'
                  go_simp
                  with_reducible rfl
                 rotate_left
                 ·simp only [Act.put, List.setIfInBounds_toArray, List.set_cons_zero, List.set_cons_succ, i64_w, i32_w]
                  rfl
                 exact norm_ (by simp only [putAll, Act.put, List.setIfInBounds_toArray, List.set_cons_zero, List.set_cons_succ]) (hCont (.slice Ao76 y267.length co76, v271, v274, gb277) _ ⟨hHeld, (rs_3 (Kd.R_mono HO220.out (fun _ hk => ⟨hk.1.1.1, ⟨hk.1.1.2.1, ⟨hk.1.1.2.2.1, ⟨hk.1.1.2.2.2.1, ⟨hk.1.1.2.2.2.2.1, ⟨hk.1.1.2.2.2.2.2.1, ⟨hk.1.1.2.2.2.2.2.2.1, ⟨hk.1.1.2.2.2.2.2.2.2.1, ⟨hk.1.1.2.2.2.2.2.2.2.2.1, ⟨hk.1.1.2.2.2.2.2.2.2.2.2, ⟨hk.1.2, hk.2⟩⟩⟩⟩⟩⟩⟩⟩⟩⟩⟩))), (rs_3 (Kd.R_mono HO223.out (fun _ hk => ⟨hk.1.1.1, ⟨hk.1.1.2.1, ⟨hk.1.1.2.2.1, ⟨hk.1.1.2.2.2.1, ⟨hk.1.1.2.2.2.2.1, ⟨hk.1.1.2.2.2.2.2.1, ⟨hk.1.1.2.2.2.2.2.2.1, ⟨hk.1.1.2.2.2.2.2.2.2.1, ⟨hk.1.1.2.2.2.2.2.2.2.2.1, ⟨hk.1.1.2.2.2.2.2.2.2.2.2, ⟨hk.1.2, hk.2⟩⟩⟩⟩⟩⟩⟩⟩⟩⟩⟩))), (rs_3 (Kd.R_mono HO226.out (fun _ hk => ⟨hk.1.1.1, ⟨hk.1.1.2.1, ⟨hk.1.1.2.2.1, ⟨hk.1.1.2.2.2.1, ⟨hk.1.1.2.2.2.2.1, ⟨hk.1.1.2.2.2.2.2.1, ⟨hk.1.1.2.2.2.2.2.2.1, ⟨hk.1.1.2.2.2.2.2.2.2.1, ⟨hk.1.1.2.2.2.2.2.2.2.2.1, ⟨hk.1.1.2.2.2.2.2.2.2.2.2, ⟨hk.1.2, hk.2⟩⟩⟩⟩⟩⟩⟩⟩⟩⟩⟩))), (rs_3 (Kd.R_mono HO232.out (fun _ hk => hk.2))), (rs_3 (Kd.R_mono HO235.out (fun _ hk => ⟨hk.1.1.1, ⟨hk.1.1.2.1, ⟨hk.1.1.2.2.1, ⟨hk.1.1.2.2.2.1, ⟨hk.1.1.2.2.2.2.1, ⟨hk.1.1.2.2.2.2.2.1, ⟨hk.1.1.2.2.2.2.2.2.1, ⟨hk.1.1.2.2.2.2.2.2.2.1, ⟨hk.1.1.2.2.2.2.2.2.2.2.1, ⟨hk.1.1.2.2.2.2.2.2.2.2.2, ⟨hk.1.2, hk.2⟩⟩⟩⟩⟩⟩⟩⟩⟩⟩⟩))), (rs_3 (Kd.R_mono HO238.out (fun _ hk => ⟨hk.1.1.1, ⟨hk.1.1.2.1, ⟨hk.1.1.2.2.1, ⟨hk.1.1.2.2.2.1, ⟨hk.1.1.2.2.2.2.1, ⟨hk.1.1.2.2.2.2.2.1, ⟨hk.1.1.2.2.2.2.2.2.1, ⟨hk.1.1.2.2.2.2.2.2.2.1, ⟨hk.1.1.2.2.2.2.2.2.2.2.1, ⟨hk.1.1.2.2.2.2.2.2.2.2.2, ⟨hk.1.2, hk.2⟩⟩⟩⟩⟩⟩⟩⟩⟩⟩⟩))), (rs_3 (Kd.R_mono HO243.out (fun _ hk => ⟨hk.1.1.1, ⟨hk.1.1.2.1, ⟨hk.1.1.2.2.1, ⟨hk.1.1.2.2.2.1, ⟨hk.1.1.2.2.2.2.1, ⟨hk.1.1.2.2.2.2.2.1, ⟨hk.1.1.2.2.2.2.2.2.1, ⟨hk.1.1.2.2.2.2.2.2.2.1, ⟨hk.1.1.2.2.2.2.2.2.2.2.1, ⟨hk.1.1.2.2.2.2.2.2.2.2.2, ⟨hk.1.2, hk.2⟩⟩⟩⟩⟩⟩⟩⟩⟩⟩⟩))), (rs_3 (Kd.R_mono HO246.out (fun _ hk => ⟨hk.1.1.1, ⟨hk.1.1.2.1, ⟨hk.1.1.2.2.1, ⟨hk.1.1.2.2.2.1, ⟨hk.1.1.2.2.2.2.1, ⟨hk.1.1.2.2.2.2.2.1, ⟨hk.1.1.2.2.2.2.2.2.1, ⟨hk.1.1.2.2.2.2.2.2.2.1, ⟨hk.1.1.2.2.2.2.2.2.2.2.1, ⟨hk.1.1.2.2.2.2.2.2.2.2.2, ⟨hk.1.2, hk.2⟩⟩⟩⟩⟩⟩⟩⟩⟩⟩⟩))), (rs_3 (Kd.R_mono HO251.out (fun _ hk => ⟨hk.1.1.1, ⟨hk.1.1.2.1, ⟨hk.1.1.2.2.1, ⟨hk.1.1.2.2.2.1, ⟨hk.1.1.2.2.2.2.1, ⟨hk.1.1.2.2.2.2.2.1, ⟨hk.1.1.2.2.2.2.2.2.1, ⟨hk.1.1.2.2.2.2.2.2.2.1, ⟨hk.1.1.2.2.2.2.2.2.2.2.1, ⟨hk.1.1.2.2.2.2.2.2.2.2.2, ⟨hk.1.2, hk.2⟩⟩⟩⟩⟩⟩⟩⟩⟩⟩⟩))), (rs_3 (Kd.R_mono HO254.out (fun _ hk => ⟨hk.1.1.1, ⟨hk.1.1.2.1, ⟨hk.1.1.2.2.1, ⟨hk.1.1.2.2.2.1, ⟨hk.1.1.2.2.2.2.1, ⟨hk.1.1.2.2.2.2.2.1, ⟨hk.1.1.2.2.2.2.2.2.1, ⟨hk.1.1.2.2.2.2.2.2.2.1, ⟨hk.1.1.2.2.2.2.2.2.2.2.1, ⟨hk.1.1.2.2.2.2.2.2.2.2.2, ⟨hk.1.2, hk.2⟩⟩⟩⟩⟩⟩⟩⟩⟩⟩⟩))), (rs_3 (Kd.R_mono HO259.out (fun _ hk => ⟨hk.1.1.1, ⟨hk.1.1.2.1, ⟨hk.1.1.2.2.1, ⟨hk.1.1.2.2.2.1, ⟨hk.1.1.2.2.2.2.1, ⟨hk.1.1.2.2.2.2.2.1, ⟨hk.1.1.2.2.2.2.2.2.1, ⟨hk.1.1.2.2.2.2.2.2.2.1, ⟨hk.1.1.2.2.2.2.2.2.2.2.1, ⟨hk.1.1.2.2.2.2.2.2.2.2.2, ⟨hk.1.2, hk.2⟩⟩⟩⟩⟩⟩⟩⟩⟩⟩⟩))), (rs_3 (Kd.R_mono HO262.out (fun _ hk => ⟨hk.1.1.1, ⟨hk.1.1.2.1, ⟨hk.1.1.2.2.1, ⟨hk.1.1.2.2.2.1, ⟨hk.1.1.2.2.2.2.1, ⟨hk.1.1.2.2.2.2.2.1, ⟨hk.1.1.2.2.2.2.2.2.1, ⟨hk.1.1.2.2.2.2.2.2.2.1, ⟨hk.1.1.2.2.2.2.2.2.2.2.1, ⟨hk.1.1.2.2.2.2.2.2.2.2.2, ⟨hk.1.2, hk.2⟩⟩⟩⟩⟩⟩⟩⟩⟩⟩⟩))), (rs_3 (Kd.R_mono HO269.out (fun _ hk => hk.2))), (rs_3 (Kd.R_mono HO272.out (fun _ hk => ⟨hk.1.1.1.1.1.1.1.1.1.1.2, ⟨hk.1.1.1.1.1.1.1.1.1.2, ⟨hk.1.1.1.1.1.1.1.1.2, ⟨hk.1.1.1.1.1.1.1.2, ⟨hk.1.1.1.1.1.1.2, ⟨hk.1.1.1.1.1.2, ⟨hk.1.1.1.1.2, ⟨hk.1.1.1.2, ⟨hk.1.1.2, ⟨hk.1.2, ⟨hk.2, hk.1.1.1.1.1.1.1.1.1.1.1⟩⟩⟩⟩⟩⟩⟩⟩⟩⟩⟩))), (rs_3 (Kd.R_mono HO275.out (fun _ hk => ⟨hk.1.1.1.1.1.1.1.1.1.1.2, ⟨hk.1.1.1.1.1.1.1.1.1.2, ⟨hk.1.1.1.1.1.1.1.1.2, ⟨hk.1.1.1.1.1.1.1.2, ⟨hk.1.1.1.1.1.1.2, ⟨hk.1.1.1.1.1.2, ⟨hk.1.1.1.1.2, ⟨hk.1.1.1.2, ⟨hk.1.1.2, ⟨hk.1.2, ⟨hk.2, hk.1.1.1.1.1.1.1.1.1.1.1⟩⟩⟩⟩⟩⟩⟩⟩⟩⟩⟩))), (bs_3 BK227), (bs_3 BK240), (bs_3 BK248), (bs_3 BK256), (bs_3 BK264), (bs_3 BK277), GW277.out, GE277.out, NB227_277.out, NB277_227.out, NB240_277.out, NB277_240.out, NB248_277.out, NB277_248.out, NB256_277.out, NB277_256.out, NB264_277.out, NB277_264.out, (by repeat (first | (with_reducible first | exact HB.out | apply below_alloc | apply pw_below_drewN | apply below_drew1 | refine below_set ?_ GE227.out | refine below_set ?_ GE240.out | refine below_set ?_ GE248.out | refine below_set ?_ GE256.out | refine below_set ?_ GE264.out | refine below_set ?_ GE277.out) | exact HB.out))⟩)
               ·skip
                refine box_step ?hg (N := 11) ?hd (cs := #[.slice none 0 0, .slice none 0 0]) (t := 25) ?hr ?_; (case hd => rfl); (case hg => rfl); (case hr => first | (go_simp; done) | (go_simp; rfl))
                intro gb277 hg w72 hbox hb
                have n0_ := Aside0.mk (Kd.R_below (rs_3 HO220.out) hb)
                have n1_ := Aside0.mk (Kd.R_below (rs_3 HO223.out) hb)
                have n2_ := Aside0.mk (Kd.R_below (rs_3 HO226.out) hb)
                have n3_ := Aside0.mk (Kd.R_below (rs_3 HO232.out) hb)
                have n4_ := Aside0.mk (Kd.R_below (rs_3 HO235.out) hb)
                have n5_ := Aside0.mk (Kd.R_below (rs_3 HO238.out) hb)
                have n6_ := Aside0.mk (Kd.R_below (rs_3 HO243.out) hb)
                have n7_ := Aside0.mk (Kd.R_below (rs_3 HO246.out) hb)
                have n8_ := Aside0.mk (Kd.R_below (rs_3 HO251.out) hb)
                have n9_ := Aside0.mk (Kd.R_below (rs_3 HO254.out) hb)
                have n10_ := Aside0.mk (Kd.R_below (rs_3 HO259.out) hb)
                have n11_ := Aside0.mk (Kd.R_below (rs_3 HO262.out) hb)
                have n12_ := Aside0.mk (blk_below (g := gb227) (o := .cells #[.slice Ao29 t221.length co29, .slice Ao31 t224.length co31] 25 (0, 0)) (bs_3 BK227) hb)
                have n13_ := Aside0.mk (blk_below (g := gb240) (o := .cells #[.slice Ao38 t233.length co38, .slice Ao41 t236.length co41] 25 (0, 0)) (bs_3 BK240) hb)
                have n14_ := Aside0.mk (blk_below (g := gb248) (o := .cells #[.slice Ao46 t241.length co46, .slice Ao50 t244.length co50] 25 (0, 0)) (bs_3 BK248) hb)
                have n15_ := Aside0.mk (blk_below (g := gb256) (o := .cells #[.slice Ao54 t249.length co54, .slice Ao59 t252.length co59] 25 (0, 0)) (bs_3 BK256) hb)
                have n16_ := Aside0.mk (blk_below (g := gb264) (o := .cells #[.slice Ao63 t257.length co63, .slice Ao69 t260.length co69] 25 (0, 0)) (bs_3 BK264) hb)
                have n17_ := Aside0.mk (below_step (by repeat (first | (with_reducible first | exact HB.out | apply below_alloc | apply pw_below_drewN | apply below_drew1 | refine below_set ?_ GE227.out | refine below_set ?_ GE240.out | refine below_set ?_ GE248.out | refine below_set ?_ GE256.out | refine below_set ?_ GE264.out) | exact HB.out)) hb)
                have n18_ := Aside0.mk (hbox)
                have n19_ := Aside0.mk ((by rw [hg]; exact (below_size (by repeat (first | (with_reducible first | exact HB.out | apply below_alloc | apply pw_below_drewN | apply below_drew1 | refine below_set ?_ GE227.out | refine below_set ?_ GE240.out | refine below_set ?_ GE248.out | refine below_set ?_ GE256.out | refine below_set ?_ GE264.out) | exact HB.out))) : w.heap.size ≤ gb277))
                have n20_ := Aside0.mk ((by rw [hg]; exact (below_size (by repeat (first | (with_reducible first | exact HB.out | apply below_alloc | apply pw_below_drewN | apply below_drew1 | refine below_set ?_ GE227.out | refine below_set ?_ GE240.out | refine below_set ?_ GE248.out | refine below_set ?_ GE256.out | refine below_set ?_ GE264.out) | exact HB.out))) : w.heap.size ≤ gb277))
                have n21_ := Aside0.mk ((by rw [hg]; exact Nat.ne_of_lt (blk_lt (g := gb227) (o := .cells #[.slice Ao29 t221.length co29, .slice Ao31 t224.length co31] 25 (0, 0)) (bs_3 BK227)) : gb227 ≠ gb277))
                have n22_ := Aside0.mk ((by rw [hg]; exact Nat.ne_of_gt (blk_lt (g := gb227) (o := .cells #[.slice Ao29 t221.length co29, .slice Ao31 t224.length co31] 25 (0, 0)) (bs_3 BK227)) : gb277 ≠ gb227))
                have n23_ := Aside0.mk ((by rw [hg]; exact Nat.ne_of_lt (blk_lt (g := gb240) (o := .cells #[.slice Ao38 t233.length co38, .slice Ao41 t236.length co41] 25 (0, 0)) (bs_3 BK240)) : gb240 ≠ gb277))
                have n24_ := Aside0.mk ((by rw [hg]; exact Nat.ne_of_gt (blk_lt (g := gb240) (o := .cells #[.slice Ao38 t233.length co38, .slice Ao41 t236.length co41] 25 (0, 0)) (bs_3 BK240)) : gb277 ≠ gb240))
                have n25_ := Aside0.mk ((by rw [hg]; exact Nat.ne_of_lt (blk_lt (g := gb248) (o := .cells #[.slice Ao46 t241.length co46, .slice Ao50 t244.length co50] 25 (0, 0)) (bs_3 BK248)) : gb248 ≠ gb277))
                have n26_ := Aside0.mk ((by rw [hg]; exact Nat.ne_of_gt (blk_lt (g := gb248) (o := .cells #[.slice Ao46 t241.length co46, .slice Ao50 t244.length co50] 25 (0, 0)) (bs_3 BK248)) : gb277 ≠ gb248))
                have n27_ := Aside0.mk ((by rw [hg]; exact Nat.ne_of_lt (blk_lt (g := gb256) (o := .cells #[.slice Ao54 t249.length co54, .slice Ao59 t252.length co59] 25 (0, 0)) (bs_3 BK256)) : gb256 ≠ gb277))
                have n28_ := Aside0.mk ((by rw [hg]; exact Nat.ne_of_gt (blk_lt (g := gb256) (o := .cells #[.slice Ao54 t249.length co54, .slice Ao59 t252.length co59] 25 (0, 0)) (bs_3 BK256)) : gb277 ≠ gb256))
                have n29_ := Aside0.mk ((by rw [hg]; exact Nat.ne_of_lt (blk_lt (g := gb264) (o := .cells #[.slice Ao63 t257.length co63, .slice Ao69 t260.length co69] 25 (0, 0)) (bs_3 BK264)) : gb264 ≠ gb277))
                have n30_ := Aside0.mk ((by rw [hg]; exact Nat.ne_of_gt (blk_lt (g := gb264) (o := .cells #[.slice Ao63 t257.length co63, .slice Ao69 t260.length co69] 25 (0, 0)) (bs_3 BK264)) : gb277 ≠ gb264))
                clear HO220
                clear HO223
                clear HO226
                clear HO232
                clear HO235
                clear HO238
                clear HO243
                clear HO246
                clear HO251
                clear HO254
                clear HO259
                clear HO262
                clear BK227
                clear BK240
                clear BK248
                clear BK256
                clear BK264
                clear HB
                have HO220 := n0_
                have HO223 := n1_
                have HO226 := n2_
                have HO232 := n3_
                have HO235 := n4_
                have HO238 := n5_
                have HO243 := n6_
                have HO246 := n7_
                have HO251 := n8_
                have HO254 := n9_
                have HO259 := n10_
                have HO262 := n11_
                have BK227 := n12_
                have BK240 := n13_
                have BK248 := n14_
                have BK256 := n15_
                have BK264 := n16_
                have HB := n17_
                have BK277 := n18_
                have GW277 := n19_
                have GE277 := n20_
                have NB227_277 := n21_
                have NB277_227 := n22_
                have NB240_277 := n23_
                have NB277_240 := n24_
                have NB248_277 := n25_
                have NB277_248 := n26_
                have NB256_277 := n27_
                have NB277_256 := n28_
                have NB264_277 := n29_
                have NB277_264 := n30_
                clear n0_ n1_ n2_ n3_ n4_ n5_ n6_ n7_ n8_ n9_ n10_ n11_ n12_ n13_ n14_ n15_ n16_ n17_ n18_ n19_ n20_ n21_ n22_ n23_ n24_ n25_ n26_ n27_ n28_ n29_ n30_
                clear hb hbox hg
                refine hK.out _ _ ⟨(blk_cell BK227.out 0).trans rfl, (blk_cell BK227.out 1).trans rfl⟩ (fun hHeld => ?_)
                clear hK K
                refine norm_ (a' := ?_) ?_ ?_
                rotate_left
                ·show Act.put _ (some 11) _ = _
                 simp only [Act.put, List.setIfInBounds_toArray, List.set_cons_zero, List.set_cons_succ, i64_w, i32_w]
                 rfl
                refine one_ (i := 1) (N := some 48) #[true, true, false, true, false, false, false, false, true, false, false] rfl rfl (one_of HT_.out (by kernel_rfl)) (by decide) (fun K hK => ?_)
                refine goes_ Try.func11 (by kernel_rfl) rfl #[.int .i64 (-100)] (by rfl) rfl rfl (by (try simp only [List.map_toArray, List.map_cons, List.map_nil]); first | done | rfl | (simp only [List.length_drop, List.length_take]; rfl)) ?_
                with_reducible refine (wide_Of.calls (-100) t265 t266 _ A9.out).mono ?_
                rintro e w73 ⟨rfl, hb⟩
                refine ⟨_, rfl, ?_⟩
                have n0_ := Aside0.mk (Kd.R_below (rs_3 HO220.out) hb)
                have n1_ := Aside0.mk (Kd.R_below (rs_3 HO223.out) hb)
                have n2_ := Aside0.mk (Kd.R_below (rs_3 HO226.out) hb)
                have n3_ := Aside0.mk (Kd.R_below (rs_3 HO232.out) hb)
                have n4_ := Aside0.mk (Kd.R_below (rs_3 HO235.out) hb)
                have n5_ := Aside0.mk (Kd.R_below (rs_3 HO238.out) hb)
                have n6_ := Aside0.mk (Kd.R_below (rs_3 HO243.out) hb)
                have n7_ := Aside0.mk (Kd.R_below (rs_3 HO246.out) hb)
                have n8_ := Aside0.mk (Kd.R_below (rs_3 HO251.out) hb)
                have n9_ := Aside0.mk (Kd.R_below (rs_3 HO254.out) hb)
                have n10_ := Aside0.mk (Kd.R_below (rs_3 HO259.out) hb)
                have n11_ := Aside0.mk (Kd.R_below (rs_3 HO262.out) hb)
                have n12_ := Aside0.mk (blk_below (g := gb227) (o := .cells #[.slice Ao29 t221.length co29, .slice Ao31 t224.length co31] 25 (0, 0)) (bs_3 BK227) hb)
                have n13_ := Aside0.mk (blk_below (g := gb240) (o := .cells #[.slice Ao38 t233.length co38, .slice Ao41 t236.length co41] 25 (0, 0)) (bs_3 BK240) hb)
                have n14_ := Aside0.mk (blk_below (g := gb248) (o := .cells #[.slice Ao46 t241.length co46, .slice Ao50 t244.length co50] 25 (0, 0)) (bs_3 BK248) hb)
                have n15_ := Aside0.mk (blk_below (g := gb256) (o := .cells #[.slice Ao54 t249.length co54, .slice Ao59 t252.length co59] 25 (0, 0)) (bs_3 BK256) hb)
                have n16_ := Aside0.mk (blk_below (g := gb264) (o := .cells #[.slice Ao63 t257.length co63, .slice Ao69 t260.length co69] 25 (0, 0)) (bs_3 BK264) hb)
                have n17_ := Aside0.mk (blk_below (g := gb277) (o := .cells #[.slice none 0 0, .slice none 0 0] 25 (0, 0)) (bs_3 BK277) hb)
                have n18_ := Aside0.mk (below_step (by repeat (first | (with_reducible first | exact HB.out | apply below_alloc | apply pw_below_drewN | apply below_drew1 | refine below_set ?_ GE227.out | refine below_set ?_ GE240.out | refine below_set ?_ GE248.out | refine below_set ?_ GE256.out | refine below_set ?_ GE264.out | refine below_set ?_ GE277.out) | exact HB.out)) hb)
                clear HO220
                clear HO223
                clear HO226
                clear HO232
                clear HO235
                clear HO238
                clear HO243
                clear HO246
                clear HO251
                clear HO254
                clear HO259
                clear HO262
                clear BK227
                clear BK240
                clear BK248
                clear BK256
                clear BK264
                clear BK277
                clear HB
                have HO220 := n0_
                have HO223 := n1_
                have HO226 := n2_
                have HO232 := n3_
                have HO235 := n4_
                have HO238 := n5_
                have HO243 := n6_
                have HO246 := n7_
                have HO251 := n8_
                have HO254 := n9_
                have HO259 := n10_
                have HO262 := n11_
                have BK227 := n12_
                have BK240 := n13_
                have BK248 := n14_
                have BK256 := n15_
                have BK264 := n16_
                have BK277 := n17_
                have HB := n18_
                clear n0_ n1_ n2_ n3_ n4_ n5_ n6_ n7_ n8_ n9_ n10_ n11_ n12_ n13_ n14_ n15_ n16_ n17_ n18_
                (try clear hb)
                (try clear hb2)
                (try clear hk)
                (try clear hi)
                refine hK.out _ _ ⟨(blk_cell BK227.out 0).trans rfl, (blk_cell BK227.out 1).trans rfl⟩ (fun hHeld => ?_)
                clear hK K
                refine norm_ (a' := ?_) ?_ ?_
                rotate_left
                ·show Act.put _ (some 48) _ = _
                 simp only [Act.put, List.setIfInBounds_toArray, List.set_cons_zero, List.set_cons_succ, i64_w, i32_w]
                 rfl
                refine one_ (i := 2) (N := some 49) #[true, true, true, true, false, false, false, false, true, false, false] rfl rfl (one_of HT_.out (by kernel_rfl)) (by decide) (fun K hK => ?_)
                refine Kd.R_lit_step k30 _ 30 ?hg (N := 49) ?hd (xs := ([(⟨t265, t266⟩ : S30)] : List (S30))) (inner := [.int .i64 t265, .int .u64 t266]) (ok := fun _ => True) (okp := fun _ => True) ?hr ?hp (fun _ hk => hk) trivial (Below.refl _ _) (Nat.le_refl _) (by simp) ?_; (case hd => rfl); (case hg => rfl); (case hr => first | (go_simp; done) | (go_simp; rfl)); (case hp => exact (Reps.c2 (show Kd.M k30 _ _ _ (⟨t265, t266⟩ : S30) [.int .i64 t265, .int .u64 t266] from (k30_mkM _ _ _ (⟨t265, t266⟩ : S30) )) (Reps.none _ _)))
                intro v268 w74 ho75 hb hg_ hnew_
                clear hg_ hnew_
                (first | rw [← Ny267.out] at ho75 | (simp only [Int.reduceToNat] at ho75; rw [← Ny267.out] at ho75))
                have n0_ := Aside0.mk (Kd.R_below (rs_3 HO220.out) hb)
                have n1_ := Aside0.mk (Kd.R_below (rs_3 HO223.out) hb)
                have n2_ := Aside0.mk (Kd.R_below (rs_3 HO226.out) hb)
                have n3_ := Aside0.mk (Kd.R_elder' (rs_3 HO232.out) (Kd.R_base ho75) hb)
                have n4_ := Aside0.mk (Kd.R_below (rs_3 HO235.out) hb)
                have n5_ := Aside0.mk (Kd.R_below (rs_3 HO238.out) hb)
                have n6_ := Aside0.mk (Kd.R_below (rs_3 HO243.out) hb)
                have n7_ := Aside0.mk (Kd.R_below (rs_3 HO246.out) hb)
                have n8_ := Aside0.mk (Kd.R_below (rs_3 HO251.out) hb)
                have n9_ := Aside0.mk (Kd.R_below (rs_3 HO254.out) hb)
                have n10_ := Aside0.mk (Kd.R_below (rs_3 HO259.out) hb)
                have n11_ := Aside0.mk (Kd.R_below (rs_3 HO262.out) hb)
                have n12_ := Aside0.mk (Kd.R_lower (Kd.R_new' ho75 (Kd.R_lt (rs_3 HO232.out))) (below_size (by repeat (first | (with_reducible first | exact HB.out | apply below_alloc | apply pw_below_drewN | apply below_drew1 | refine below_set ?_ GE227.out | refine below_set ?_ GE240.out | refine below_set ?_ GE248.out | refine below_set ?_ GE256.out | refine below_set ?_ GE264.out | refine below_set ?_ GE277.out) | exact HB.out))))
                have n13_ := Aside0.mk (blk_below (g := gb227) (o := .cells #[.slice Ao29 t221.length co29, .slice Ao31 t224.length co31] 25 (0, 0)) (bs_3 BK227) hb)
                have n14_ := Aside0.mk (blk_below (g := gb240) (o := .cells #[.slice Ao38 t233.length co38, .slice Ao41 t236.length co41] 25 (0, 0)) (bs_3 BK240) hb)
                have n15_ := Aside0.mk (blk_below (g := gb248) (o := .cells #[.slice Ao46 t241.length co46, .slice Ao50 t244.length co50] 25 (0, 0)) (bs_3 BK248) hb)
                have n16_ := Aside0.mk (blk_below (g := gb256) (o := .cells #[.slice Ao54 t249.length co54, .slice Ao59 t252.length co59] 25 (0, 0)) (bs_3 BK256) hb)
                have n17_ := Aside0.mk (blk_below (g := gb264) (o := .cells #[.slice Ao63 t257.length co63, .slice Ao69 t260.length co69] 25 (0, 0)) (bs_3 BK264) hb)
                have n18_ := Aside0.mk (blk_below (g := gb277) (o := .cells #[.slice none 0 0, .slice none 0 0] 25 (0, 0)) (bs_3 BK277) hb)
                have n19_ := Aside0.mk (below_step (by repeat (first | (with_reducible first | exact HB.out | apply below_alloc | apply pw_below_drewN | apply below_drew1 | refine below_set ?_ GE227.out | refine below_set ?_ GE240.out | refine below_set ?_ GE248.out | refine below_set ?_ GE256.out | refine below_set ?_ GE264.out | refine below_set ?_ GE277.out) | exact HB.out)) hb)
                clear HO220
                clear HO223
                clear HO226
                clear HO232
                clear HO235
                clear HO238
                clear HO243
                clear HO246
                clear HO251
                clear HO254
                clear HO259
                clear HO262
                clear BK227
                clear BK240
                clear BK248
                clear BK256
                clear BK264
                clear BK277
                clear HB
                have HO220 := n0_
                have HO223 := n1_
                have HO226 := n2_
                have HO232 := n3_
                have HO235 := n4_
                have HO238 := n5_
                have HO243 := n6_
                have HO246 := n7_
                have HO251 := n8_
                have HO254 := n9_
                have HO259 := n10_
                have HO262 := n11_
                have HO269 := n12_
                have BK227 := n13_
                have BK240 := n14_
                have BK248 := n15_
                have BK256 := n16_
                have BK264 := n17_
                have BK277 := n18_
                have HB := n19_
                clear n0_ n1_ n2_ n3_ n4_ n5_ n6_ n7_ n8_ n9_ n10_ n11_ n12_ n13_ n14_ n15_ n16_ n17_ n18_ n19_
                clear hb ho75
                obtain ⟨Ao76, co76, eo76⟩ := Kd.R_slice HO269.out
                (first | subst eo76 | (injection eo76 with f1_ f2_ f3_; have f4_ := f1_.symm; have f5_ := f3_.symm; clear f1_ f2_ f3_; subst f4_; subst f5_))
                refine hK.out _ _ ⟨(blk_cell BK227.out 0).trans rfl, (blk_cell BK227.out 1).trans rfl⟩ (fun hHeld => ?_)
                clear hK K
                refine norm_ (a' := ?_) ?_ ?_
                rotate_left
                ·show Act.put _ (some 49) _ = _
                 simp only [Act.put, List.setIfInBounds_toArray, List.set_cons_zero, List.set_cons_succ, i64_w, i32_w]
                 rfl
                refine one_ (i := 4) (N := some 51) #[true, true, true, true, true, false, false, false, true, false, false] rfl rfl (one_of HT_.out (by kernel_rfl)) (by decide) (fun K hK => ?_)
                refine goes_ Try.func12 (by kernel_rfl) rfl #[.agg #[.slice Ao29 t221.length co29, .slice Ao31 t224.length co31], .slice Ao76 y267.length co76, .int .i64 3, .agg #[.int .i64 4294967296, .int .i64 0, .int .i64 50]] (by rfl) rfl rfl (by (try simp only [List.map_toArray, List.map_cons, List.map_nil]); first | done | rfl | (simp only [List.length_drop, List.length_take]; rfl)) ?_
                with_reducible refine (opt_Apply.calls k _ _ t221 _ _ t224 _ _ y267 3 4294967296 0 50 t270 t273 t276 _ ?side1 ?side2 ?side3 ?side4 ?side5 ?side6 A10.out).mono ?_
                (case side1 => repeat (first | exact (Kd.R_reads' HO223.out).2.2 | (with_reducible refine Kd.C_alloc ?_ _) | (with_reducible refine Kd.C_drewN ?_ _) | (with_reducible refine Kd.C_drew ?_)))
                (case side2 => exact (Kd.R_reads' HO223.out).2.1)
                (case side3 => repeat (first | exact (Kd.R_reads' HO226.out).2.2 | (with_reducible refine Kd.C_alloc ?_ _) | (with_reducible refine Kd.C_drewN ?_ _) | (with_reducible refine Kd.C_drew ?_)))
                (case side4 => exact (Kd.R_reads' HO226.out).2.1)
                (case side5 => repeat (first | exact (Kd.R_reads' HO269.out).2.2 | (with_reducible refine Kd.C_alloc ?_ _) | (with_reducible refine Kd.C_drewN ?_ _) | (with_reducible refine Kd.C_drew ?_)))
                (case side6 => exact (Kd.R_reads' HO269.out).2.1)
                rintro e w77 ⟨v271, v274, rfl, ho0, ho1, hb⟩
                refine ⟨_, rfl, ?_⟩
                have n0_ := Aside0.mk (Kd.R_mono (Kd.R_told (Kd.R_told (Kd.R_old (rs_3 HO220.out) hb) (Kd.R_base ho0)) (Kd.R_base ho1)) (fun _ h_ => h_.1))
                have n1_ := Aside0.mk (Kd.R_mono (Kd.R_told (Kd.R_told (Kd.R_old (rs_3 HO223.out) hb) (Kd.R_base ho0)) (Kd.R_base ho1)) (fun _ h_ => h_.1))
                have n2_ := Aside0.mk (Kd.R_mono (Kd.R_told (Kd.R_told (Kd.R_old (rs_3 HO226.out) hb) (Kd.R_base ho0)) (Kd.R_base ho1)) (fun _ h_ => h_.1))
                have n3_ := Aside0.mk (Kd.R_below (rs_3 HO232.out) hb)
                have n4_ := Aside0.mk (Kd.R_mono (Kd.R_told (Kd.R_told (Kd.R_old (rs_3 HO235.out) hb) (Kd.R_base ho0)) (Kd.R_base ho1)) (fun _ h_ => h_.1))
                have n5_ := Aside0.mk (Kd.R_mono (Kd.R_told (Kd.R_told (Kd.R_old (rs_3 HO238.out) hb) (Kd.R_base ho0)) (Kd.R_base ho1)) (fun _ h_ => h_.1))
                have n6_ := Aside0.mk (Kd.R_mono (Kd.R_told (Kd.R_told (Kd.R_old (rs_3 HO243.out) hb) (Kd.R_base ho0)) (Kd.R_base ho1)) (fun _ h_ => h_.1))
                have n7_ := Aside0.mk (Kd.R_mono (Kd.R_told (Kd.R_told (Kd.R_old (rs_3 HO246.out) hb) (Kd.R_base ho0)) (Kd.R_base ho1)) (fun _ h_ => h_.1))
                have n8_ := Aside0.mk (Kd.R_mono (Kd.R_told (Kd.R_told (Kd.R_old (rs_3 HO251.out) hb) (Kd.R_base ho0)) (Kd.R_base ho1)) (fun _ h_ => h_.1))
                have n9_ := Aside0.mk (Kd.R_mono (Kd.R_told (Kd.R_told (Kd.R_old (rs_3 HO254.out) hb) (Kd.R_base ho0)) (Kd.R_base ho1)) (fun _ h_ => h_.1))
                have n10_ := Aside0.mk (Kd.R_mono (Kd.R_told (Kd.R_told (Kd.R_old (rs_3 HO259.out) hb) (Kd.R_base ho0)) (Kd.R_base ho1)) (fun _ h_ => h_.1))
                have n11_ := Aside0.mk (Kd.R_mono (Kd.R_told (Kd.R_told (Kd.R_old (rs_3 HO262.out) hb) (Kd.R_base ho0)) (Kd.R_base ho1)) (fun _ h_ => h_.1))
                have n12_ := Aside0.mk (Kd.R_below (rs_3 HO269.out) hb)
                have n13_ := Aside0.mk (Kd.R_lower (Kd.R_new' (Kd.R_new' (Kd.R_new' (Kd.R_new' (Kd.R_new' (Kd.R_new' (Kd.R_new' (Kd.R_new' (Kd.R_new' (Kd.R_new' (Kd.R_new' ho0 (Kd.R_lt (rs_3 HO220.out))) (Kd.R_lt (rs_3 HO223.out))) (Kd.R_lt (rs_3 HO226.out))) (Kd.R_lt (rs_3 HO235.out))) (Kd.R_lt (rs_3 HO238.out))) (Kd.R_lt (rs_3 HO243.out))) (Kd.R_lt (rs_3 HO246.out))) (Kd.R_lt (rs_3 HO251.out))) (Kd.R_lt (rs_3 HO254.out))) (Kd.R_lt (rs_3 HO259.out))) (Kd.R_lt (rs_3 HO262.out))) (below_size (by repeat (first | (with_reducible first | exact HB.out | apply below_alloc | apply pw_below_drewN | apply below_drew1 | refine below_set ?_ GE227.out | refine below_set ?_ GE240.out | refine below_set ?_ GE248.out | refine below_set ?_ GE256.out | refine below_set ?_ GE264.out | refine below_set ?_ GE277.out) | exact HB.out))))
                have n14_ := Aside0.mk (Kd.R_lower (Kd.R_new' (Kd.R_new' (Kd.R_new' (Kd.R_new' (Kd.R_new' (Kd.R_new' (Kd.R_new' (Kd.R_new' (Kd.R_new' (Kd.R_new' (Kd.R_new' ho1 (Kd.R_lt (rs_3 HO220.out))) (Kd.R_lt (rs_3 HO223.out))) (Kd.R_lt (rs_3 HO226.out))) (Kd.R_lt (rs_3 HO235.out))) (Kd.R_lt (rs_3 HO238.out))) (Kd.R_lt (rs_3 HO243.out))) (Kd.R_lt (rs_3 HO246.out))) (Kd.R_lt (rs_3 HO251.out))) (Kd.R_lt (rs_3 HO254.out))) (Kd.R_lt (rs_3 HO259.out))) (Kd.R_lt (rs_3 HO262.out))) (below_size (by repeat (first | (with_reducible first | exact HB.out | apply below_alloc | apply pw_below_drewN | apply below_drew1 | refine below_set ?_ GE227.out | refine below_set ?_ GE240.out | refine below_set ?_ GE248.out | refine below_set ?_ GE256.out | refine below_set ?_ GE264.out | refine below_set ?_ GE277.out) | exact HB.out))))
                have n15_ := Aside0.mk (blk_below (g := gb227) (o := .cells #[.slice Ao29 t221.length co29, .slice Ao31 t224.length co31] 25 (0, 0)) (bs_3 BK227) hb)
                have n16_ := Aside0.mk (blk_below (g := gb240) (o := .cells #[.slice Ao38 t233.length co38, .slice Ao41 t236.length co41] 25 (0, 0)) (bs_3 BK240) hb)
                have n17_ := Aside0.mk (blk_below (g := gb248) (o := .cells #[.slice Ao46 t241.length co46, .slice Ao50 t244.length co50] 25 (0, 0)) (bs_3 BK248) hb)
                have n18_ := Aside0.mk (blk_below (g := gb256) (o := .cells #[.slice Ao54 t249.length co54, .slice Ao59 t252.length co59] 25 (0, 0)) (bs_3 BK256) hb)
                have n19_ := Aside0.mk (blk_below (g := gb264) (o := .cells #[.slice Ao63 t257.length co63, .slice Ao69 t260.length co69] 25 (0, 0)) (bs_3 BK264) hb)
                have n20_ := Aside0.mk (blk_below (g := gb277) (o := .cells #[.slice none 0 0, .slice none 0 0] 25 (0, 0)) (bs_3 BK277) hb)
                have n21_ := Aside0.mk (below_step (by repeat (first | (with_reducible first | exact HB.out | apply below_alloc | apply pw_below_drewN | apply below_drew1 | refine below_set ?_ GE227.out | refine below_set ?_ GE240.out | refine below_set ?_ GE248.out | refine below_set ?_ GE256.out | refine below_set ?_ GE264.out | refine below_set ?_ GE277.out) | exact HB.out)) hb)
                clear HO220
                clear HO223
                clear HO226
                clear HO232
                clear HO235
                clear HO238
                clear HO243
                clear HO246
                clear HO251
                clear HO254
                clear HO259
                clear HO262
                clear HO269
                clear BK227
                clear BK240
                clear BK248
                clear BK256
                clear BK264
                clear BK277
                clear HB
                have HO220 := n0_
                have HO223 := n1_
                have HO226 := n2_
                have HO232 := n3_
                have HO235 := n4_
                have HO238 := n5_
                have HO243 := n6_
                have HO246 := n7_
                have HO251 := n8_
                have HO254 := n9_
                have HO259 := n10_
                have HO262 := n11_
                have HO269 := n12_
                have HO272 := n13_
                have HO275 := n14_
                have BK227 := n15_
                have BK240 := n16_
                have BK248 := n17_
                have BK256 := n18_
                have BK264 := n19_
                have BK277 := n20_
                have HB := n21_
                clear n0_ n1_ n2_ n3_ n4_ n5_ n6_ n7_ n8_ n9_ n10_ n11_ n12_ n13_ n14_ n15_ n16_ n17_ n18_ n19_ n20_ n21_
                (try clear hb)
                (try clear hb2)
                (try clear hk)
                (try clear hi)
                (try clear ho0)
                (try clear ho1)
                refine hK.out _ _ ⟨(blk_cell BK227.out 0).trans rfl, (blk_cell BK227.out 1).trans rfl⟩ (fun hHeld => ?_)
                clear hK K
                refine norm_ (a' := ?_) ?_ ?_
                rotate_left
                ·show Act.put _ (some 51) _ = _
                 simp only [Act.put, List.setIfInBounds_toArray, List.set_cons_zero, List.set_cons_succ, i64_w, i32_w]
                 rfl
                refine pure_ (i := 5) (N := some 46) (v := ?_) (a' := ?_) #[true, true, true, true, true, true, false, false, true, false, false] rfl rfl (any_of HT_.out (by kernel_rfl)) (fun _ _ _ h => h) (Or.inl ⟨by rfl, ?_⟩) ?_ ?_
                rotate_left
                ·intro w'
                 go_simp
                 with_reducible rfl
                rotate_left
                ·simp only [Act.put, List.setIfInBounds_toArray, List.set_cons_zero, List.set_cons_succ, i64_w, i32_w]
                 rfl
                refine pure_ (i := 6) (N := some 52) (v := ?_) (a' := ?_) #[true, true, true, true, true, true, true, false, true, false, false] rfl rfl (any_of HT_.out (by kernel_rfl)) (fun _ _ _ h => h) (Or.inl ⟨by rfl, ?_⟩) ?_ ?_
                rotate_left
                ·intro w'
                 go_simp
                 with_reducible rfl
                rotate_left
                ·simp only [Act.put, List.setIfInBounds_toArray, List.set_cons_zero, List.set_cons_succ, i64_w, i32_w]
                 rfl
                refine pure_ (i := 7) (N := some 53) (v := ?_) (a' := ?_) #[true, true, true, true, true, true, true, true, true, false, false] rfl rfl (any_of HT_.out (by kernel_rfl)) (fun _ _ _ h => h) (Or.inl ⟨by rfl, ?_⟩) ?_ ?_
                rotate_left
                ·intro w'
                 go_simp
                 with_reducible rfl
                rotate_left
                ·simp only [Act.put, List.setIfInBounds_toArray, List.set_cons_zero, List.set_cons_succ, i64_w, i32_w]
                 rfl
                exact norm_ (by simp only [putAll, Act.put, List.setIfInBounds_toArray, List.set_cons_zero, List.set_cons_succ]) (hCont (.slice Ao76 y267.length co76, v271, v274, gb277) _ ⟨hHeld, (rs_3 (Kd.R_mono HO220.out (fun _ hk => ⟨hk.1.1.1, ⟨hk.1.1.2.1, ⟨hk.1.1.2.2.1, ⟨hk.1.1.2.2.2.1, ⟨hk.1.1.2.2.2.2.1, ⟨hk.1.1.2.2.2.2.2.1, ⟨hk.1.1.2.2.2.2.2.2.1, ⟨hk.1.1.2.2.2.2.2.2.2.1, ⟨hk.1.1.2.2.2.2.2.2.2.2.1, ⟨hk.1.1.2.2.2.2.2.2.2.2.2, ⟨hk.1.2, hk.2⟩⟩⟩⟩⟩⟩⟩⟩⟩⟩⟩))), (rs_3 (Kd.R_mono HO223.out (fun _ hk => ⟨hk.1.1.1, ⟨hk.1.1.2.1, ⟨hk.1.1.2.2.1, ⟨hk.1.1.2.2.2.1, ⟨hk.1.1.2.2.2.2.1, ⟨hk.1.1.2.2.2.2.2.1, ⟨hk.1.1.2.2.2.2.2.2.1, ⟨hk.1.1.2.2.2.2.2.2.2.1, ⟨hk.1.1.2.2.2.2.2.2.2.2.1, ⟨hk.1.1.2.2.2.2.2.2.2.2.2, ⟨hk.1.2, hk.2⟩⟩⟩⟩⟩⟩⟩⟩⟩⟩⟩))), (rs_3 (Kd.R_mono HO226.out (fun _ hk => ⟨hk.1.1.1, ⟨hk.1.1.2.1, ⟨hk.1.1.2.2.1, ⟨hk.1.1.2.2.2.1, ⟨hk.1.1.2.2.2.2.1, ⟨hk.1.1.2.2.2.2.2.1, ⟨hk.1.1.2.2.2.2.2.2.1, ⟨hk.1.1.2.2.2.2.2.2.2.1, ⟨hk.1.1.2.2.2.2.2.2.2.2.1, ⟨hk.1.1.2.2.2.2.2.2.2.2.2, ⟨hk.1.2, hk.2⟩⟩⟩⟩⟩⟩⟩⟩⟩⟩⟩))), (rs_3 (Kd.R_mono HO232.out (fun _ hk => hk.2))), (rs_3 (Kd.R_mono HO235.out (fun _ hk => ⟨hk.1.1.1, ⟨hk.1.1.2.1, ⟨hk.1.1.2.2.1, ⟨hk.1.1.2.2.2.1, ⟨hk.1.1.2.2.2.2.1, ⟨hk.1.1.2.2.2.2.2.1, ⟨hk.1.1.2.2.2.2.2.2.1, ⟨hk.1.1.2.2.2.2.2.2.2.1, ⟨hk.1.1.2.2.2.2.2.2.2.2.1, ⟨hk.1.1.2.2.2.2.2.2.2.2.2, ⟨hk.1.2, hk.2⟩⟩⟩⟩⟩⟩⟩⟩⟩⟩⟩))), (rs_3 (Kd.R_mono HO238.out (fun _ hk => ⟨hk.1.1.1, ⟨hk.1.1.2.1, ⟨hk.1.1.2.2.1, ⟨hk.1.1.2.2.2.1, ⟨hk.1.1.2.2.2.2.1, ⟨hk.1.1.2.2.2.2.2.1, ⟨hk.1.1.2.2.2.2.2.2.1, ⟨hk.1.1.2.2.2.2.2.2.2.1, ⟨hk.1.1.2.2.2.2.2.2.2.2.1, ⟨hk.1.1.2.2.2.2.2.2.2.2.2, ⟨hk.1.2, hk.2⟩⟩⟩⟩⟩⟩⟩⟩⟩⟩⟩))), (rs_3 (Kd.R_mono HO243.out (fun _ hk => ⟨hk.1.1.1, ⟨hk.1.1.2.1, ⟨hk.1.1.2.2.1, ⟨hk.1.1.2.2.2.1, ⟨hk.1.1.2.2.2.2.1, ⟨hk.1.1.2.2.2.2.2.1, ⟨hk.1.1.2.2.2.2.2.2.1, ⟨hk.1.1.2.2.2.2.2.2.2.1, ⟨hk.1.1.2.2.2.2.2.2.2.2.1, ⟨hk.1.1.2.2.2.2.2.2.2.2.2, ⟨hk.1.2, hk.2⟩⟩⟩⟩⟩⟩⟩⟩⟩⟩⟩))), (rs_3 (Kd.R_mono HO246.out (fun _ hk => ⟨hk.1.1.1, ⟨hk.1.1.2.1, ⟨hk.1.1.2.2.1, ⟨hk.1.1.2.2.2.1, ⟨hk.1.1.2.2.2.2.1, ⟨hk.1.1.2.2.2.2.2.1, ⟨hk.1.1.2.2.2.2.2.2.1, ⟨hk.1.1.2.2.2.2.2.2.2.1, ⟨hk.1.1.2.2.2.2.2.2.2.2.1, ⟨hk.1.1.2.2.2.2.2.2.2.2.2, ⟨hk.1.2, hk.2⟩⟩⟩⟩⟩⟩⟩⟩⟩⟩⟩))), (rs_3 (Kd.R_mono HO251.out (fun _ hk => ⟨hk.1.1.1, ⟨hk.1.1.2.1, ⟨hk.1.1.2.2.1, ⟨hk.1.1.2.2.2.1, ⟨hk.1.1.2.2.2.2.1, ⟨hk.1.1.2.2.2.2.2.1, ⟨hk.1.1.2.2.2.2.2.2.1, ⟨hk.1.1.2.2.2.2.2.2.2.1, ⟨hk.1.1.2.2.2.2.2.2.2.2.1, ⟨hk.1.1.2.2.2.2.2.2.2.2.2, ⟨hk.1.2, hk.2⟩⟩⟩⟩⟩⟩⟩⟩⟩⟩⟩))), (rs_3 (Kd.R_mono HO254.out (fun _ hk => ⟨hk.1.1.1, ⟨hk.1.1.2.1, ⟨hk.1.1.2.2.1, ⟨hk.1.1.2.2.2.1, ⟨hk.1.1.2.2.2.2.1, ⟨hk.1.1.2.2.2.2.2.1, ⟨hk.1.1.2.2.2.2.2.2.1, ⟨hk.1.1.2.2.2.2.2.2.2.1, ⟨hk.1.1.2.2.2.2.2.2.2.2.1, ⟨hk.1.1.2.2.2.2.2.2.2.2.2, ⟨hk.1.2, hk.2⟩⟩⟩⟩⟩⟩⟩⟩⟩⟩⟩))), (rs_3 (Kd.R_mono HO259.out (fun _ hk => ⟨hk.1.1.1, ⟨hk.1.1.2.1, ⟨hk.1.1.2.2.1, ⟨hk.1.1.2.2.2.1, ⟨hk.1.1.2.2.2.2.1, ⟨hk.1.1.2.2.2.2.2.1, ⟨hk.1.1.2.2.2.2.2.2.1, ⟨hk.1.1.2.2.2.2.2.2.2.1, ⟨hk.1.1.2.2.2.2.2.2.2.2.1, ⟨hk.1.1.2.2.2.2.2.2.2.2.2, ⟨hk.1.2, hk.2⟩⟩⟩⟩⟩⟩⟩⟩⟩⟩⟩))), (rs_3 (Kd.R_mono HO262.out (fun _ hk => ⟨hk.1.1.1, ⟨hk.1.1.2.1, ⟨hk.1.1.2.2.1, ⟨hk.1.1.2.2.2.1, ⟨hk.1.1.2.2.2.2.1, ⟨hk.1.1.2.2.2.2.2.1, ⟨hk.1.1.2.2.2.2.2.2.1, ⟨hk.1.1.2.2.2.2.2.2.2.1, ⟨hk.1.1.2.2.2.2.2.2.2.2.1, ⟨hk.1.1.2.2.2.2.2.2.2.2.2, ⟨hk.1.2, hk.2⟩⟩⟩⟩⟩⟩⟩⟩⟩⟩⟩))), (rs_3 (Kd.R_mono HO269.out (fun _ hk => hk.2))), (rs_3 (Kd.R_mono HO272.out (fun _ hk => ⟨hk.1.1.1.1.1.1.1.1.1.1.2, ⟨hk.1.1.1.1.1.1.1.1.1.2, ⟨hk.1.1.1.1.1.1.1.1.2, ⟨hk.1.1.1.1.1.1.1.2, ⟨hk.1.1.1.1.1.1.2, ⟨hk.1.1.1.1.1.2, ⟨hk.1.1.1.1.2, ⟨hk.1.1.1.2, ⟨hk.1.1.2, ⟨hk.1.2, ⟨hk.2, hk.1.1.1.1.1.1.1.1.1.1.1⟩⟩⟩⟩⟩⟩⟩⟩⟩⟩⟩))), (rs_3 (Kd.R_mono HO275.out (fun _ hk => ⟨hk.1.1.1.1.1.1.1.1.1.1.2, ⟨hk.1.1.1.1.1.1.1.1.1.2, ⟨hk.1.1.1.1.1.1.1.1.2, ⟨hk.1.1.1.1.1.1.1.2, ⟨hk.1.1.1.1.1.1.2, ⟨hk.1.1.1.1.1.2, ⟨hk.1.1.1.1.2, ⟨hk.1.1.1.2, ⟨hk.1.1.2, ⟨hk.1.2, ⟨hk.2, hk.1.1.1.1.1.1.1.1.1.1.1⟩⟩⟩⟩⟩⟩⟩⟩⟩⟩⟩))), (bs_3 BK227), (bs_3 BK240), (bs_3 BK248), (bs_3 BK256), (bs_3 BK264), (bs_3 BK277), GW277.out, GE277.out, NB227_277.out, NB277_227.out, NB240_277.out, NB277_240.out, NB248_277.out, NB277_248.out, NB256_277.out, NB277_256.out, NB264_277.out, NB277_264.out, (by repeat (first | (with_reducible first | exact HB.out | apply below_alloc | apply pw_below_drewN | apply below_drew1 | refine below_set ?_ GE227.out | refine below_set ?_ GE240.out | refine below_set ?_ GE248.out | refine below_set ?_ GE256.out | refine below_set ?_ GE264.out | refine below_set ?_ GE277.out) | exact HB.out))⟩)
              rintro ⟨v268, v271, v274, gb277⟩ w78 ⟨hS_, h0_, h1_, h2_, h3_, h4_, h5_, h6_, h7_, h8_, h9_, h10_, h11_, h12_, h13_, h14_, h15_, h16_, h17_, h18_, h19_, h20_, h21_, h22_, h23_, h24_, h25_, h26_, h27_, h28_, h29_, h30_, h31_, h32_, h33_⟩
              have n0_ : Aside0 (Kd.R (Kd.int .i64) 27 w78 w.heap.size (fun k_ => some k_ ≠ (.slice Ao29 t221.length co29 : Value).ownBlock ∧ some k_ ≠ (.slice Ao31 t224.length co31 : Value).ownBlock ∧ some k_ ≠ (.slice Ao38 t233.length co38 : Value).ownBlock ∧ some k_ ≠ (.slice Ao41 t236.length co41 : Value).ownBlock ∧ some k_ ≠ (.slice Ao46 t241.length co46 : Value).ownBlock ∧ some k_ ≠ (.slice Ao50 t244.length co50 : Value).ownBlock ∧ some k_ ≠ (.slice Ao54 t249.length co54 : Value).ownBlock ∧ some k_ ≠ (.slice Ao59 t252.length co59 : Value).ownBlock ∧ some k_ ≠ (.slice Ao63 t257.length co63 : Value).ownBlock ∧ some k_ ≠ (.slice Ao69 t260.length co69 : Value).ownBlock ∧ some k_ ≠ (v271 : Value).ownBlock ∧ some k_ ≠ (v274 : Value).ownBlock) (.slice Ao26 y218.length co26) y218) := ⟨h0_⟩
              have n1_ : Aside0 (Kd.R (Kd.int .i64) 27 w78 w.heap.size (fun k_ => some k_ ≠ (.slice Ao26 y218.length co26 : Value).ownBlock ∧ some k_ ≠ (.slice Ao31 t224.length co31 : Value).ownBlock ∧ some k_ ≠ (.slice Ao38 t233.length co38 : Value).ownBlock ∧ some k_ ≠ (.slice Ao41 t236.length co41 : Value).ownBlock ∧ some k_ ≠ (.slice Ao46 t241.length co46 : Value).ownBlock ∧ some k_ ≠ (.slice Ao50 t244.length co50 : Value).ownBlock ∧ some k_ ≠ (.slice Ao54 t249.length co54 : Value).ownBlock ∧ some k_ ≠ (.slice Ao59 t252.length co59 : Value).ownBlock ∧ some k_ ≠ (.slice Ao63 t257.length co63 : Value).ownBlock ∧ some k_ ≠ (.slice Ao69 t260.length co69 : Value).ownBlock ∧ some k_ ≠ (v271 : Value).ownBlock ∧ some k_ ≠ (v274 : Value).ownBlock) (.slice Ao29 t221.length co29) t221) := ⟨h1_⟩
              have n2_ : Aside0 (Kd.R (Kd.int .i64) 27 w78 w.heap.size (fun k_ => some k_ ≠ (.slice Ao26 y218.length co26 : Value).ownBlock ∧ some k_ ≠ (.slice Ao29 t221.length co29 : Value).ownBlock ∧ some k_ ≠ (.slice Ao38 t233.length co38 : Value).ownBlock ∧ some k_ ≠ (.slice Ao41 t236.length co41 : Value).ownBlock ∧ some k_ ≠ (.slice Ao46 t241.length co46 : Value).ownBlock ∧ some k_ ≠ (.slice Ao50 t244.length co50 : Value).ownBlock ∧ some k_ ≠ (.slice Ao54 t249.length co54 : Value).ownBlock ∧ some k_ ≠ (.slice Ao59 t252.length co59 : Value).ownBlock ∧ some k_ ≠ (.slice Ao63 t257.length co63 : Value).ownBlock ∧ some k_ ≠ (.slice Ao69 t260.length co69 : Value).ownBlock ∧ some k_ ≠ (v271 : Value).ownBlock ∧ some k_ ≠ (v274 : Value).ownBlock) (.slice Ao31 t224.length co31) t224) := ⟨h2_⟩
              have n3_ : Aside0 (Kd.R k30 30 w78 w.heap.size (fun k_ => some k_ ≠ (v268 : Value).ownBlock) (.slice Ao43 y230.length co43) y230) := ⟨h3_⟩
              have n4_ : Aside0 (Kd.R (Kd.int .i64) 27 w78 w.heap.size (fun k_ => some k_ ≠ (.slice Ao26 y218.length co26 : Value).ownBlock ∧ some k_ ≠ (.slice Ao29 t221.length co29 : Value).ownBlock ∧ some k_ ≠ (.slice Ao31 t224.length co31 : Value).ownBlock ∧ some k_ ≠ (.slice Ao41 t236.length co41 : Value).ownBlock ∧ some k_ ≠ (.slice Ao46 t241.length co46 : Value).ownBlock ∧ some k_ ≠ (.slice Ao50 t244.length co50 : Value).ownBlock ∧ some k_ ≠ (.slice Ao54 t249.length co54 : Value).ownBlock ∧ some k_ ≠ (.slice Ao59 t252.length co59 : Value).ownBlock ∧ some k_ ≠ (.slice Ao63 t257.length co63 : Value).ownBlock ∧ some k_ ≠ (.slice Ao69 t260.length co69 : Value).ownBlock ∧ some k_ ≠ (v271 : Value).ownBlock ∧ some k_ ≠ (v274 : Value).ownBlock) (.slice Ao38 t233.length co38) t233) := ⟨h4_⟩
              have n5_ : Aside0 (Kd.R (Kd.int .i64) 27 w78 w.heap.size (fun k_ => some k_ ≠ (.slice Ao26 y218.length co26 : Value).ownBlock ∧ some k_ ≠ (.slice Ao29 t221.length co29 : Value).ownBlock ∧ some k_ ≠ (.slice Ao31 t224.length co31 : Value).ownBlock ∧ some k_ ≠ (.slice Ao38 t233.length co38 : Value).ownBlock ∧ some k_ ≠ (.slice Ao46 t241.length co46 : Value).ownBlock ∧ some k_ ≠ (.slice Ao50 t244.length co50 : Value).ownBlock ∧ some k_ ≠ (.slice Ao54 t249.length co54 : Value).ownBlock ∧ some k_ ≠ (.slice Ao59 t252.length co59 : Value).ownBlock ∧ some k_ ≠ (.slice Ao63 t257.length co63 : Value).ownBlock ∧ some k_ ≠ (.slice Ao69 t260.length co69 : Value).ownBlock ∧ some k_ ≠ (v271 : Value).ownBlock ∧ some k_ ≠ (v274 : Value).ownBlock) (.slice Ao41 t236.length co41) t236) := ⟨h5_⟩
              have n6_ : Aside0 (Kd.R (Kd.int .i64) 27 w78 w.heap.size (fun k_ => some k_ ≠ (.slice Ao26 y218.length co26 : Value).ownBlock ∧ some k_ ≠ (.slice Ao29 t221.length co29 : Value).ownBlock ∧ some k_ ≠ (.slice Ao31 t224.length co31 : Value).ownBlock ∧ some k_ ≠ (.slice Ao38 t233.length co38 : Value).ownBlock ∧ some k_ ≠ (.slice Ao41 t236.length co41 : Value).ownBlock ∧ some k_ ≠ (.slice Ao50 t244.length co50 : Value).ownBlock ∧ some k_ ≠ (.slice Ao54 t249.length co54 : Value).ownBlock ∧ some k_ ≠ (.slice Ao59 t252.length co59 : Value).ownBlock ∧ some k_ ≠ (.slice Ao63 t257.length co63 : Value).ownBlock ∧ some k_ ≠ (.slice Ao69 t260.length co69 : Value).ownBlock ∧ some k_ ≠ (v271 : Value).ownBlock ∧ some k_ ≠ (v274 : Value).ownBlock) (.slice Ao46 t241.length co46) t241) := ⟨h6_⟩
              have n7_ : Aside0 (Kd.R (Kd.int .i64) 27 w78 w.heap.size (fun k_ => some k_ ≠ (.slice Ao26 y218.length co26 : Value).ownBlock ∧ some k_ ≠ (.slice Ao29 t221.length co29 : Value).ownBlock ∧ some k_ ≠ (.slice Ao31 t224.length co31 : Value).ownBlock ∧ some k_ ≠ (.slice Ao38 t233.length co38 : Value).ownBlock ∧ some k_ ≠ (.slice Ao41 t236.length co41 : Value).ownBlock ∧ some k_ ≠ (.slice Ao46 t241.length co46 : Value).ownBlock ∧ some k_ ≠ (.slice Ao54 t249.length co54 : Value).ownBlock ∧ some k_ ≠ (.slice Ao59 t252.length co59 : Value).ownBlock ∧ some k_ ≠ (.slice Ao63 t257.length co63 : Value).ownBlock ∧ some k_ ≠ (.slice Ao69 t260.length co69 : Value).ownBlock ∧ some k_ ≠ (v271 : Value).ownBlock ∧ some k_ ≠ (v274 : Value).ownBlock) (.slice Ao50 t244.length co50) t244) := ⟨h7_⟩
              have n8_ : Aside0 (Kd.R (Kd.int .i64) 27 w78 w.heap.size (fun k_ => some k_ ≠ (.slice Ao26 y218.length co26 : Value).ownBlock ∧ some k_ ≠ (.slice Ao29 t221.length co29 : Value).ownBlock ∧ some k_ ≠ (.slice Ao31 t224.length co31 : Value).ownBlock ∧ some k_ ≠ (.slice Ao38 t233.length co38 : Value).ownBlock ∧ some k_ ≠ (.slice Ao41 t236.length co41 : Value).ownBlock ∧ some k_ ≠ (.slice Ao46 t241.length co46 : Value).ownBlock ∧ some k_ ≠ (.slice Ao50 t244.length co50 : Value).ownBlock ∧ some k_ ≠ (.slice Ao59 t252.length co59 : Value).ownBlock ∧ some k_ ≠ (.slice Ao63 t257.length co63 : Value).ownBlock ∧ some k_ ≠ (.slice Ao69 t260.length co69 : Value).ownBlock ∧ some k_ ≠ (v271 : Value).ownBlock ∧ some k_ ≠ (v274 : Value).ownBlock) (.slice Ao54 t249.length co54) t249) := ⟨h8_⟩
              have n9_ : Aside0 (Kd.R (Kd.int .i64) 27 w78 w.heap.size (fun k_ => some k_ ≠ (.slice Ao26 y218.length co26 : Value).ownBlock ∧ some k_ ≠ (.slice Ao29 t221.length co29 : Value).ownBlock ∧ some k_ ≠ (.slice Ao31 t224.length co31 : Value).ownBlock ∧ some k_ ≠ (.slice Ao38 t233.length co38 : Value).ownBlock ∧ some k_ ≠ (.slice Ao41 t236.length co41 : Value).ownBlock ∧ some k_ ≠ (.slice Ao46 t241.length co46 : Value).ownBlock ∧ some k_ ≠ (.slice Ao50 t244.length co50 : Value).ownBlock ∧ some k_ ≠ (.slice Ao54 t249.length co54 : Value).ownBlock ∧ some k_ ≠ (.slice Ao63 t257.length co63 : Value).ownBlock ∧ some k_ ≠ (.slice Ao69 t260.length co69 : Value).ownBlock ∧ some k_ ≠ (v271 : Value).ownBlock ∧ some k_ ≠ (v274 : Value).ownBlock) (.slice Ao59 t252.length co59) t252) := ⟨h9_⟩
              have n10_ : Aside0 (Kd.R (Kd.int .i64) 27 w78 w.heap.size (fun k_ => some k_ ≠ (.slice Ao26 y218.length co26 : Value).ownBlock ∧ some k_ ≠ (.slice Ao29 t221.length co29 : Value).ownBlock ∧ some k_ ≠ (.slice Ao31 t224.length co31 : Value).ownBlock ∧ some k_ ≠ (.slice Ao38 t233.length co38 : Value).ownBlock ∧ some k_ ≠ (.slice Ao41 t236.length co41 : Value).ownBlock ∧ some k_ ≠ (.slice Ao46 t241.length co46 : Value).ownBlock ∧ some k_ ≠ (.slice Ao50 t244.length co50 : Value).ownBlock ∧ some k_ ≠ (.slice Ao54 t249.length co54 : Value).ownBlock ∧ some k_ ≠ (.slice Ao59 t252.length co59 : Value).ownBlock ∧ some k_ ≠ (.slice Ao69 t260.length co69 : Value).ownBlock ∧ some k_ ≠ (v271 : Value).ownBlock ∧ some k_ ≠ (v274 : Value).ownBlock) (.slice Ao63 t257.length co63) t257) := ⟨h10_⟩
              have n11_ : Aside0 (Kd.R (Kd.int .i64) 27 w78 w.heap.size (fun k_ => some k_ ≠ (.slice Ao26 y218.length co26 : Value).ownBlock ∧ some k_ ≠ (.slice Ao29 t221.length co29 : Value).ownBlock ∧ some k_ ≠ (.slice Ao31 t224.length co31 : Value).ownBlock ∧ some k_ ≠ (.slice Ao38 t233.length co38 : Value).ownBlock ∧ some k_ ≠ (.slice Ao41 t236.length co41 : Value).ownBlock ∧ some k_ ≠ (.slice Ao46 t241.length co46 : Value).ownBlock ∧ some k_ ≠ (.slice Ao50 t244.length co50 : Value).ownBlock ∧ some k_ ≠ (.slice Ao54 t249.length co54 : Value).ownBlock ∧ some k_ ≠ (.slice Ao59 t252.length co59 : Value).ownBlock ∧ some k_ ≠ (.slice Ao63 t257.length co63 : Value).ownBlock ∧ some k_ ≠ (v271 : Value).ownBlock ∧ some k_ ≠ (v274 : Value).ownBlock) (.slice Ao69 t260.length co69) t260) := ⟨h11_⟩
              have n12_ : Aside0 (Kd.R k30 30 w78 w.heap.size (fun k_ => some k_ ≠ (.slice Ao43 y230.length co43 : Value).ownBlock) v268 y267) := ⟨h12_⟩
              have n13_ : Aside0 (Kd.R (Kd.int .i64) 27 w78 w.heap.size (fun k_ => some k_ ≠ (.slice Ao26 y218.length co26 : Value).ownBlock ∧ some k_ ≠ (.slice Ao29 t221.length co29 : Value).ownBlock ∧ some k_ ≠ (.slice Ao31 t224.length co31 : Value).ownBlock ∧ some k_ ≠ (.slice Ao38 t233.length co38 : Value).ownBlock ∧ some k_ ≠ (.slice Ao41 t236.length co41 : Value).ownBlock ∧ some k_ ≠ (.slice Ao46 t241.length co46 : Value).ownBlock ∧ some k_ ≠ (.slice Ao50 t244.length co50 : Value).ownBlock ∧ some k_ ≠ (.slice Ao54 t249.length co54 : Value).ownBlock ∧ some k_ ≠ (.slice Ao59 t252.length co59 : Value).ownBlock ∧ some k_ ≠ (.slice Ao63 t257.length co63 : Value).ownBlock ∧ some k_ ≠ (.slice Ao69 t260.length co69 : Value).ownBlock ∧ some k_ ≠ (v274 : Value).ownBlock) v271 t270) := ⟨h13_⟩
              have n14_ : Aside0 (Kd.R (Kd.int .i64) 27 w78 w.heap.size (fun k_ => some k_ ≠ (.slice Ao26 y218.length co26 : Value).ownBlock ∧ some k_ ≠ (.slice Ao29 t221.length co29 : Value).ownBlock ∧ some k_ ≠ (.slice Ao31 t224.length co31 : Value).ownBlock ∧ some k_ ≠ (.slice Ao38 t233.length co38 : Value).ownBlock ∧ some k_ ≠ (.slice Ao41 t236.length co41 : Value).ownBlock ∧ some k_ ≠ (.slice Ao46 t241.length co46 : Value).ownBlock ∧ some k_ ≠ (.slice Ao50 t244.length co50 : Value).ownBlock ∧ some k_ ≠ (.slice Ao54 t249.length co54 : Value).ownBlock ∧ some k_ ≠ (.slice Ao59 t252.length co59 : Value).ownBlock ∧ some k_ ≠ (.slice Ao63 t257.length co63 : Value).ownBlock ∧ some k_ ≠ (.slice Ao69 t260.length co69 : Value).ownBlock ∧ some k_ ≠ (v271 : Value).ownBlock) v274 t273) := ⟨h14_⟩
              have n15_ : Aside0 (w78.heap[gb227]? = some (.cells #[.slice Ao29 t221.length co29, .slice Ao31 t224.length co31] 25 (0, 0))) := ⟨h15_⟩
              have n16_ : Aside0 (w78.heap[gb240]? = some (.cells #[.slice Ao38 t233.length co38, .slice Ao41 t236.length co41] 25 (0, 0))) := ⟨h16_⟩
              have n17_ : Aside0 (w78.heap[gb248]? = some (.cells #[.slice Ao46 t241.length co46, .slice Ao50 t244.length co50] 25 (0, 0))) := ⟨h17_⟩
              have n18_ : Aside0 (w78.heap[gb256]? = some (.cells #[.slice Ao54 t249.length co54, .slice Ao59 t252.length co59] 25 (0, 0))) := ⟨h18_⟩
              have n19_ : Aside0 (w78.heap[gb264]? = some (.cells #[.slice Ao63 t257.length co63, .slice Ao69 t260.length co69] 25 (0, 0))) := ⟨h19_⟩
              have n20_ : Aside0 (w78.heap[gb277]? = some (.cells #[.slice none 0 0, .slice none 0 0] 25 (0, 0))) := ⟨h20_⟩
              have n21_ : Aside0 (w.heap.size ≤ gb277) := ⟨h21_⟩
              have n22_ : Aside0 (w.heap.size ≤ gb277) := ⟨h22_⟩
              have n23_ : Aside0 (gb227 ≠ gb277) := ⟨h23_⟩
              have n24_ : Aside0 (gb277 ≠ gb227) := ⟨h24_⟩
              have n25_ : Aside0 (gb240 ≠ gb277) := ⟨h25_⟩
              have n26_ : Aside0 (gb277 ≠ gb240) := ⟨h26_⟩
              have n27_ : Aside0 (gb248 ≠ gb277) := ⟨h27_⟩
              have n28_ : Aside0 (gb277 ≠ gb248) := ⟨h28_⟩
              have n29_ : Aside0 (gb256 ≠ gb277) := ⟨h29_⟩
              have n30_ : Aside0 (gb277 ≠ gb256) := ⟨h30_⟩
              have n31_ : Aside0 (gb264 ≠ gb277) := ⟨h31_⟩
              have n32_ : Aside0 (gb277 ≠ gb264) := ⟨h32_⟩
              have n33_ : Aside0 (Below w.heap.size w w78) := ⟨h33_⟩
              clear HO220
              clear HO223
              clear HO226
              clear HO232
              clear HO235
              clear HO238
              clear HO243
              clear HO246
              clear HO251
              clear HO254
              clear HO259
              clear HO262
              clear BK227
              clear BK240
              clear BK248
              clear BK256
              clear BK264
              clear HB
              clear h0_ h1_ h2_ h3_ h4_ h5_ h6_ h7_ h8_ h9_ h10_ h11_ h12_ h13_ h14_ h15_ h16_ h17_ h18_ h19_ h20_ h21_ h22_ h23_ h24_ h25_ h26_ h27_ h28_ h29_ h30_ h31_ h32_ h33_
              have HO220 := n0_
              have HO223 := n1_
              have HO226 := n2_
              have HO232 := n3_
              have HO235 := n4_
              have HO238 := n5_
              have HO243 := n6_
              have HO246 := n7_
              have HO251 := n8_
              have HO254 := n9_
              have HO259 := n10_
              have HO262 := n11_
              have HO269 := n12_
              have HO272 := n13_
              have HO275 := n14_
              have BK227 := n15_
              have BK240 := n16_
              have BK248 := n17_
              have BK256 := n18_
              have BK264 := n19_
              have BK277 := n20_
              have GW277 := n21_
              have GE277 := n22_
              have NB227_277 := n23_
              have NB277_227 := n24_
              have NB240_277 := n25_
              have NB277_240 := n26_
              have NB248_277 := n27_
              have NB277_248 := n28_
              have NB256_277 := n29_
              have NB277_256 := n30_
              have NB264_277 := n31_
              have NB277_264 := n32_
              have HB := n33_
              clear n0_ n1_ n2_ n3_ n4_ n5_ n6_ n7_ n8_ n9_ n10_ n11_ n12_ n13_ n14_ n15_ n16_ n17_ n18_ n19_ n20_ n21_ n22_ n23_ n24_ n25_ n26_ n27_ n28_ n29_ n30_ n31_ n32_ n33_
              have hHeld : w78.cell? ⟨gb227, 0, none⟩ = some (.slice Ao29 t221.length co29) ∧ w78.cell? ⟨gb227, 1, none⟩ = some (.slice Ao31 t224.length co31) := hS_
              obtain ⟨Ao79, co79, eo79⟩ := Kd.R_slice HO272.out
              (first | subst eo79 | (injection eo79 with f1_ f2_ f3_; have f4_ := f1_.symm; have f5_ := f3_.symm; clear f1_ f2_ f3_; subst f4_; subst f5_))
              obtain ⟨Ao81, co81, eo81⟩ := Kd.R_slice HO275.out
              (first | subst eo81 | (injection eo81 with f1_ f2_ f3_; have f4_ := f1_.symm; have f5_ := f3_.symm; clear f1_ f2_ f3_; subst f4_; subst f5_))
              refine norm_ (a' := ?_) ?_ ?_
              rotate_left
              ·simp only [putAll, Act.put, List.setIfInBounds_toArray, List.set_cons_zero, List.set_cons_succ]
               rfl
              refine one_ (i := 9) (N := none) #[true, true, true, true, true, true, true, true, true, true, false] rfl rfl (one_of HT_.out (by kernel_rfl)) (by decide) (fun K hK => ?_)
              have hs80 : w78.cell? ⟨gb277, 0, none⟩ = some (.slice none 0 0) := (blk_cell BK277.out 0).trans rfl
              have hfs80 := blk_frozen BK277.out 0
              have hns80_0 := NB227_277.out
              have hns80_1 := NB240_277.out
              have hns80_2 := NB248_277.out
              have hns80_3 := NB256_277.out
              have hns80_4 := NB264_277.out
              have hms80_0 := NB277_227.out
              have hms80_1 := NB277_240.out
              have hms80_2 := NB277_248.out
              have hms80_3 := NB277_256.out
              have hms80_4 := NB277_264.out
              have hs82 : w78.cell? ⟨gb277, 1, none⟩ = some (.slice none 0 0) := (blk_cell BK277.out 1).trans rfl
              have hfs82 := blk_frozen BK277.out 1
              have hns82_0 := NB227_277.out
              have hns82_1 := NB240_277.out
              have hns82_2 := NB248_277.out
              have hns82_3 := NB256_277.out
              have hns82_4 := NB264_277.out
              have hms82_0 := NB277_227.out
              have hms82_1 := NB277_240.out
              have hms82_2 := NB277_248.out
              have hms82_3 := NB277_256.out
              have hms82_4 := NB277_264.out
              refine skip_ (w1 := ?_) (by rfl) rfl ?_ ?_
              rotate_left
              ·go_simp
               rfl
              refine hK.out _ _ ⟨((cell_far (p := ⟨gb277, _, none⟩) NB227_277.out _).trans (((cell_far (p := ⟨gb277, _, none⟩) NB227_277.out _).trans (hHeld.1)))), ((cell_far (p := ⟨gb277, _, none⟩) NB227_277.out _).trans (((cell_far (p := ⟨gb277, _, none⟩) NB227_277.out _).trans (hHeld.2))))⟩ (fun hHeld => ?_)
              clear hK K
              refine pure_ (i := 10) (N := some 12) (v := ?_) (a' := ?_) #[true, true, true, true, true, true, true, true, true, true, true] rfl rfl (any_of HT_.out (by kernel_rfl)) (fun _ _ _ h => h) (Or.inl ⟨by rfl, ?_⟩) ?_ ?_
              rotate_left
              ·intro w'
               go_simp
               with_reducible rfl
              rotate_left
              ·simp only [Act.put, List.setIfInBounds_toArray, List.set_cons_zero, List.set_cons_succ, i64_w, i32_w]
               rfl
              refine done_ (done_of HT_.out (by kernel_rfl)) ?_
              have hnb83 := NB264_277.out
              have hnc83 := NB277_264.out
              have hcz84_0 : w78.cell? ⟨gb264, 0, none⟩ = some (.slice Ao63 t257.length co63) := (blk_cell BK264.out 0).trans rfl
              have hcz84_1 : w78.cell? ⟨gb264, 1, none⟩ = some (.slice Ao69 t260.length co69) := (blk_cell BK264.out 1).trans rfl
              have hfz84_0 := blk_frozen BK264.out 0
              have hfz84_1 := blk_frozen BK264.out 1
              have p278 : 0 ≤ (0 : Int) := (by omega)
              have q278 : 0 < (t260.length : Int) := of_decide_eq_true (by first | (with_reducible assumption) | assumption)
              obtain ⟨ad278, e278, hx278_0⟩ := Kd.at_int (Kd.R_reads' HO262.out).2.2 0 p278 q278
              cases e278
              have qi278 : (0 < t260.length) = True := eq_true (by omega)
              (try rw [show ((0 : Int)).toNat = 0 from rfl] at hx278_0)
              (try rw [Addr.add_zero'] at hx278_0)
              have hn278_0 : ad278.block ≠ gb277 := Kd.own_blk (Kd.R_ne HO262.out BK277.out (by decide))
              have hn278_1 : ad278.block ≠ gb277 := Kd.own_blk (Kd.R_ne HO262.out BK277.out (by decide))
              replace hx278_0 := (cell_far (p := ⟨gb277, 0, none⟩) (by first | (rw [add_block]; exact hn278_0) | (show (Addr.add _ _).block ≠ _; rw [add_block]; exact hn278_0) | exact hn278_0) (.slice Ao79 t270.length co79)).trans hx278_0
              replace hx278_0 := (cell_far (p := ⟨gb277, 1, none⟩) (by first | (rw [add_block]; exact hn278_1) | (show (Addr.add _ _).block ≠ _; rw [add_block]; exact hn278_1) | exact hn278_1) (.slice Ao81 t273.length co81)).trans hx278_0
              clear hn278_0
              clear hn278_1
              replace p278 := eq_true p278
              replace q278 := eq_true q278
              have p279 : 0 ≤ (0 : Int) := (by omega)
              have q279 : 0 < (t257.length : Int) := of_decide_eq_true (by first | (with_reducible assumption) | assumption)
              obtain ⟨ad279, e279, hx279_0⟩ := Kd.at_int (Kd.R_reads' HO259.out).2.2 0 p279 q279
              cases e279
              have qi279 : (0 < t257.length) = True := eq_true (by omega)
              (try rw [show ((0 : Int)).toNat = 0 from rfl] at hx279_0)
              (try rw [Addr.add_zero'] at hx279_0)
              have hn279_0 : ad279.block ≠ gb277 := Kd.own_blk (Kd.R_ne HO259.out BK277.out (by decide))
              have hn279_1 : ad279.block ≠ gb277 := Kd.own_blk (Kd.R_ne HO259.out BK277.out (by decide))
              replace hx279_0 := (cell_far (p := ⟨gb277, 0, none⟩) (by first | (rw [add_block]; exact hn279_0) | (show (Addr.add _ _).block ≠ _; rw [add_block]; exact hn279_0) | exact hn279_0) (.slice Ao79 t270.length co79)).trans hx279_0
              replace hx279_0 := (cell_far (p := ⟨gb277, 1, none⟩) (by first | (rw [add_block]; exact hn279_1) | (show (Addr.add _ _).block ≠ _; rw [add_block]; exact hn279_1) | exact hn279_1) (.slice Ao81 t273.length co81)).trans hx279_0
              clear hn279_0
              clear hn279_1
              replace p279 := eq_true p279
              replace q279 := eq_true q279
              have hnb85 := NB277_227.out
              have hnc85 := NB227_277.out
              have hnb86 := NB277_240.out
              have hnc86 := NB240_277.out
              have hnb87 := NB277_248.out
              have hnc87 := NB248_277.out
              have hnb88 := NB277_256.out
              have hnc88 := NB256_277.out
              have hcz89_0 : w78.cell? ⟨gb277, 0, none⟩ = some (.slice none 0 0) := (blk_cell BK277.out 0).trans rfl
              have hcz89_1 : w78.cell? ⟨gb277, 1, none⟩ = some (.slice none 0 0) := (blk_cell BK277.out 1).trans rfl
              have hfz89_0 := blk_frozen BK277.out 0
              have hfz89_1 := blk_frozen BK277.out 1
              have p280 : 0 ≤ (0 : Int) := (by omega)
              have q280 : 0 < (t273.length : Int) := of_decide_eq_true (by first | (with_reducible assumption) | assumption)
              obtain ⟨ad280, e280, hx280_0⟩ := Kd.at_int (Kd.R_reads' HO275.out).2.2 0 p280 q280
              cases e280
              have qi280 : (0 < t273.length) = True := eq_true (by omega)
              (try rw [show ((0 : Int)).toNat = 0 from rfl] at hx280_0)
              (try rw [Addr.add_zero'] at hx280_0)
              have hn280_0 : ad280.block ≠ gb277 := Kd.own_blk (Kd.R_ne HO275.out BK277.out (by decide))
              have hn280_1 : ad280.block ≠ gb277 := Kd.own_blk (Kd.R_ne HO275.out BK277.out (by decide))
              replace hx280_0 := (cell_far (p := ⟨gb277, 0, none⟩) (by first | (rw [add_block]; exact hn280_0) | (show (Addr.add _ _).block ≠ _; rw [add_block]; exact hn280_0) | exact hn280_0) (.slice Ao79 t270.length co79)).trans hx280_0
              replace hx280_0 := (cell_far (p := ⟨gb277, 1, none⟩) (by first | (rw [add_block]; exact hn280_1) | (show (Addr.add _ _).block ≠ _; rw [add_block]; exact hn280_1) | exact hn280_1) (.slice (some ad280) t273.length co81)).trans hx280_0
              clear hn280_0
              clear hn280_1
              replace p280 := eq_true p280
              replace q280 := eq_true q280
              have p281 : 0 ≤ (0 : Int) := (by omega)
              have q281 : 0 < (t270.length : Int) := of_decide_eq_true (by first | (with_reducible assumption) | assumption)
              obtain ⟨ad281, e281, hx281_0⟩ := Kd.at_int (Kd.R_reads' HO272.out).2.2 0 p281 q281
              cases e281
              have qi281 : (0 < t270.length) = True := eq_true (by omega)
              (try rw [show ((0 : Int)).toNat = 0 from rfl] at hx281_0)
              (try rw [Addr.add_zero'] at hx281_0)
              have hn281_0 : ad281.block ≠ gb277 := Kd.own_blk (Kd.R_ne HO272.out BK277.out (by decide))
              have hn281_1 : ad281.block ≠ gb277 := Kd.own_blk (Kd.R_ne HO272.out BK277.out (by decide))
              replace hx281_0 := (cell_far (p := ⟨gb277, 0, none⟩) (by first | (rw [add_block]; exact hn281_0) | (show (Addr.add _ _).block ≠ _; rw [add_block]; exact hn281_0) | exact hn281_0) (.slice (some ad281) t270.length co79)).trans hx281_0
              replace hx281_0 := (cell_far (p := ⟨gb277, 1, none⟩) (by first | (rw [add_block]; exact hn281_1) | (show (Addr.add _ _).block ≠ _; rw [add_block]; exact hn281_1) | exact hn281_1) (.slice (some ad280) t273.length co81)).trans hx281_0
              clear hn281_0
              clear hn281_1
              replace p281 := eq_true p281
              replace q281 := eq_true q281
              try go_wp2
              go_ret
              exact ⟨by first | rfl | (simp [errW_none, errW_some] <;> rfl) | (simp [*, errW_none, errW_some] <;> rfl), by repeat (first | (with_reducible first | exact HB.out | apply below_alloc | apply pw_below_drewN | apply below_drew1 | refine below_set ?_ GE227.out | refine below_set ?_ GE240.out | refine below_set ?_ GE248.out | refine below_set ?_ GE256.out | refine below_set ?_ GE264.out | refine below_set ?_ GE277.out) | exact HB.out)⟩
             ·rw [if_neg c22] at H
              exact absurd H (by simp)
            ·rw [if_neg c21] at H
             exact absurd H (by simp)
           ·rw [if_neg c20] at H
            exact absurd H (by simp)
          ·rw [if_neg c19] at H
           exact absurd H (by simp)
         ·rw [if_neg c18] at H
          exact absurd H (by simp)
        ·rw [if_neg c17] at H
         exact absurd H (by simp)
       ·rw [if_neg c16] at H
        exact absurd H (by simp)
      ·rw [if_neg c15] at H
       exact absurd H (by simp)
     ·rw [if_neg c14] at H
      exact absurd H (by simp)
    ·rw [if_neg c13] at H
     exact absurd H (by simp)
   ·rw [if_neg c12] at H
    exact absurd H (by simp)
  ·rw [if_neg c11] at H
   exact absurd H (by simp)
 ·replace c2 := Bool.eq_false_iff.mpr c2
  subst c2
  have H1 : (none) = some r := by rw [if_neg (show ¬ (false = true) by decide)] at H; exact H
  clear H
  have H := H1
  clear H1
  exact absurd H (by simp)

/-- THE ONE PURE STATEMENT of carousellaw15_OptKnown: yours. -/
def carousellaw15_OptKnown.Pure : Prop := ∃ k, carousellaw15_OptKnown.f k  = some true
theorem carousellaw15_OptKnown.walk (P : carousellaw15_OptKnown.Pure)  (w : World)  :
  Calls Try.prog 3 #[] w fun e w' => e = .returned (.bool true) ∧ Below w.heap.size w w' := by
 obtain ⟨k, h⟩ := P  
 refine (carousellaw15_OptKnown.calls k  true w h).mono ?_
 rintro e w' ⟨rfl, hd⟩
 exact ⟨rfl, hd⟩

end Go.Proofs.Ytaanhfcioemekaa.POptKnown
