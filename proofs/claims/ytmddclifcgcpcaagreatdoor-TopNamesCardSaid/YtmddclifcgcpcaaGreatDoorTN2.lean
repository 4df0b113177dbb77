/- Texts of the proof of TopNames, part 2: the walks through the program and what they lean on, pruned to what is used. Plain theorems and definitions. -/
import Derived.Test.YtmddclifcgcpcaaGreatDoorTN1
set_option linter.unusedVariables false
set_option linter.unusedSimpArgs false
set_option maxHeartbeats 8000000
set_option maxRecDepth 100000
namespace Go.Proofs.YtmddclifcgcpcaaGreatDoor.PTopNames
open Go.RowKit Go.Proofs.YtmddclifcgcpcaaGreatDoorW.PrintWords Go.Proofs.YtmddclifcgcpcaaGreatDoorW.PrintLast Go.Proofs.YtmddclifcgcpcaaGreatDoorW.PrintMore
attribute [local go_sem] max2_int min2_int max_two min_two max_three min_three max_four min_four
mutual
def shape_Join.j0 : Nat → List Int → List Int → Bool → Option (List Int × Int)
 | 0, _, _, _ => none
 | k + 1, x0, x1, x17 => if x17 = true then (none) else (if 0 ≤ (mx (x0.length : Int) (x1.length : Int)) then (if (mx (x0.length : Int) (x1.length : Int) : Int).toNat ≤ 35184372088832 then ((some (List.replicate (mx (x0.length : Int) (x1.length : Int) : Int).toNat 0 : List Int)).bind fun y442 => (shape_Join.l0 k x0 x1 y442 (y442.length : Int) 0)) else (none)) else (none))
def shape_Join.l0 : Nat → List Int → List Int → List Int → Int → Int → Option (List Int × Int)
 | 0, _, _, _, _, _ => none
 | k + 1, x0, x1, x6, x25, x26 => if x26 < x25 then ((shape_side.f x0 x26).bind fun t446 => ((shape_side.f x1 x26).bind fun t447 => (if t446 = t447 then (if 0 ≤ (wrap64 ((wrap64 ((x6.length : Int) - 1)) - x26)) then (if (wrap64 ((wrap64 ((x6.length : Int) - 1)) - x26)) < (x6.length : Int) then (shape_Join.l0 k x0 x1 (x6.set ((wrap64 ((wrap64 ((x6.length : Int) - 1)) - x26)) : Int).toNat (mx t446 t447)) x25 (wrap64 (x26 + 1))) else (none)) else (none)) else (if t446 = 1 then (if 0 ≤ (wrap64 ((wrap64 ((x6.length : Int) - 1)) - x26)) then (if (wrap64 ((wrap64 ((x6.length : Int) - 1)) - x26)) < (x6.length : Int) then (shape_Join.l0 k x0 x1 (x6.set ((wrap64 ((wrap64 ((x6.length : Int) - 1)) - x26)) : Int).toNat (mx t446 t447)) x25 (wrap64 (x26 + 1))) else (none)) else (none)) else (if t447 = 1 then (if 0 ≤ (wrap64 ((wrap64 ((x6.length : Int) - 1)) - x26)) then (if (wrap64 ((wrap64 ((x6.length : Int) - 1)) - x26)) < (x6.length : Int) then (shape_Join.l0 k x0 x1 (x6.set ((wrap64 ((wrap64 ((x6.length : Int) - 1)) - x26)) : Int).toNat (mx t446 t447)) x25 (wrap64 (x26 + 1))) else (none)) else (none)) else (none)))))) else ((shape_Good.f k x6).bind fun t445 => (if t445 = true then (some (x6, 0)) else (none)))
end
def shape_Join.f (k : Nat) (l0 : List Int) (l1 : List Int) : Option (List Int × Int) := (shape_Good.f k l0).bind fun t440 => (if t440 = true then ((shape_Good.f k l1).bind fun t441 => (shape_Join.j0 k l0 l1 (!t441))) else (shape_Join.j0 k l0 l1 true))
theorem shape_Join.calls (k : Nat) (A0 : Option Addr) (c0 : Nat) (l0 : List Int) (A1 : Option Addr) (c1 : Nat) (l1 : List Int) (r1 : List Int) (r2 : Int) (w : World) (hr0 : Kd.C (Kd.int .i64) w A0 l0.length l0) (hc0 : l0.length ≤ c0) (hr1 : Kd.C (Kd.int .i64) w A1 l1.length l1) (hc1 : l1.length ≤ c1) (h : shape_Join.f k l0 l1 = some (r1, r2)) :
  Calls Tryz.prog 362 #[.slice A0 l0.length c0, .slice A1 l1.length c1] w fun e w' => ∃ v0_ : Value, e = .returned (.tuple #[v0_, .int .i64 r2]) ∧ Kd.R (Kd.int .i64) 3 w' w.heap.size (fun _ => True) v0_ r1 ∧ Below w.heap.size w w' := by
 have HR0 := zA_ hr0
 have HC0 := zA_ hc0
 clear hr0 hc0
 have HR1 := zA_ hr1
 have HC1 := zA_ hc1
 clear hr1 hc1
 have HB := zA_ (Below.refl w.heap.size w)
 have H : ((shape_Good.f k l0).bind fun t440 => (if t440 = true then ((shape_Good.f k l1).bind fun t441 => (shape_Join.j0 k l0 l1 (!t441))) else (shape_Join.j0 k l0 l1 true))) = some (r1, r2) := h
 clear h
 have HC3 := zA_ H
 clear H
 go_enter Tryz.func362, Tryz.ntmps362
 go_upto_region 1 with (fail)
 go_cut [17] (fun v17 wc => ∃ (kq : Nat) (x17_2 : Bool), v17 = .bool x17_2 ∧ Aside0 (shape_Join.j0 kq l0 l1 x17_2 = some (r1, r2)) ∧ Aside0 (kq ≤ k) ∧ Aside0 (Below w.heap.size w wc))
 case first =>
  have H := HC3.out
  clear HC3
  replace H := zO_ H
  obtain ⟨t440, A40, H⟩ := H
  (try dsimp only at H)
  have A4 := zA_ A40
  clear A40
  by_cases c5 : t440 = true
  rotate_left
  ·replace c5 := Bool.eq_false_iff.mpr c5
   subst c5
   have H1 : (shape_Join.j0 k l0 l1 true) = some (r1, r2) := by rw [if_neg (show ¬ (false = true) by decide)] at H; exact H
   clear H
   have H := H1
   clear H1
   have H' := zA_ H
   clear H
   go_wp2_with (first | ((with_reducible refine gate_callee (f := 242) rfl ?_); refine zg_ (some 11) Tryz.func242 #[.slice A0 l0.length c0] (h := ?_); (with_reducible refine (shape_Good.calls k _ _ l0 false _ ?side1 ?side2 A4.out).mono ?_); (case side1 => exact zk_ (Kd.C_below HR0.out HB.out)); (case side2 => exact HC0.out); rintro e w' ⟨rfl, ⟨nd, rfl⟩⟩; refine ⟨_, rfl, ?_⟩))
   go_meet
   case rel => exact ⟨_, (true), z1_, H', ⟨by first | omega | exact Nat.le_refl _⟩, ⟨zw0_ HB⟩⟩
  subst c5
  have H1 : ((shape_Good.f k l1).bind fun t441 => (shape_Join.j0 k l0 l1 (!t441))) = some (r1, r2) := by rw [if_pos rfl] at H; exact H
  clear H
  have H := H1
  clear H1
  replace H := zO_ H
  obtain ⟨t441, A60, H⟩ := H
  replace H : (shape_Join.j0 k l0 l1 (!t441)) = some (r1, r2) := H
  have A6 := zA_ A60
  clear A60
  have H' := zA_ H
  clear H
  go_wp2_with (first | ((with_reducible refine gate_callee (f := 242) rfl ?_); refine zg_ (some 11) Tryz.func242 #[.slice A0 l0.length c0] (h := ?_); (with_reducible refine (shape_Good.calls k _ _ l0 true _ ?side1 ?side2 A4.out).mono ?_); (case side1 => exact zk_ (Kd.C_below HR0.out HB.out)); (case side2 => exact HC0.out); rintro e w' ⟨rfl, ⟨nd, rfl⟩⟩; refine ⟨_, rfl, ?_⟩) | (go_at_call 242; (with_reducible refine (shape_Good.calls k _ _ l1 t441 _ ?side1 ?side2 A6.out).mono ?_); (case side1 => repeat (first | exact (Kd.C_below HR1.out (zw0_ HB)) | (with_reducible refine Kd.C_alloc ?_ _) | (with_reducible refine Kd.C_drewN ?_ _) | (with_reducible refine Kd.C_drew ?_))); (case side2 => exact HC1.out); rintro e w' ⟨rfl, ⟨nd, rfl⟩⟩))
  go_meet
  case rel => exact ⟨_, (!t441), z1_, H', ⟨by first | omega | exact Nat.le_refl _⟩, ⟨zw0_ HB⟩⟩
 case rest =>
  clear HC3
  try clear p2
  obtain ⟨kq, x17_2, rfl, HA, HJ2, HB⟩ := hcut
  cases kq with
  | zero => exact absurd HA.out (by simp [shape_Join.j0])
  | succ kj2 =>
   have H := HA.out
   clear HA
   simp only [shape_Join.j0] at H
   by_cases c7 : x17_2 = true
   ·subst c7
    have H1 : (none) = some (r1, r2) := by rw [if_pos rfl] at H; exact H
    clear H
    have H := H1
    clear H1
    exact zN_ H
   replace c7 := Bool.eq_false_iff.mpr c7
   subst c7
   have H1 := H
   rw [if_neg (show ¬ (false = true) by decide)] at H1
   clear H
   have H := H1
   clear H1
   obtain ⟨ji8, hji8⟩ : ∃ j_ : Int, (mx (l0.length : Int) (l1.length : Int)) = j_ := ⟨_, rfl⟩
   replace H : (if 0 ≤ (ji8) then (if (ji8 : Int).toNat ≤ 35184372088832 then ((some (List.replicate (ji8 : Int).toNat 0 : List Int)).bind fun y442 => (shape_Join.l0 kj2 l0 l1 y442 (y442.length : Int) 0)) else (none)) else (none)) = some (r1, r2) := by first | (rw [hji8] at H; exact H) | (simp only [hji8] at H ⊢; exact H)
   have hji8_ : (if (l0.length : Int) < (l1.length : Int) then (l1.length : Int) else (l0.length : Int)) = ji8 := hji8
   have hji8n_ : (if l0.length < l1.length then (l1.length : Int) else (l0.length : Int)) = ji8 := by rw [← hji8]; first | (unfold mx; simp only [Int.ofNat_lt]) | (unfold mn; simp only [Int.ofNat_lt])
   by_cases c9 : 0 ≤ (ji8)
   rotate_left
   ·rw [if_neg c9] at H
    exact zN_ H
   rw [if_pos c9] at H
   have c9b0 := eq_true c9
   have c9b1 : decide (0 ≤ (ji8)) = true := decide_eq_true c9
   clear c9
   by_cases c10 : (ji8 : Int).toNat ≤ 35184372088832
   rotate_left
   ·rw [if_neg c10] at H
    exact zN_ H
   rw [if_pos c10] at H
   have c10b0 := eq_true c10
   have c10b1 : decide ((ji8 : Int).toNat ≤ 35184372088832) = true := decide_eq_true c10
   clear c10
   obtain ⟨y442, hy442⟩ : ∃ y_ : List Int, y_ = (List.replicate (ji8 : Int).toNat 0) := ⟨_, rfl⟩
   replace H : (shape_Join.l0 kj2 l0 l1 y442 (y442.length : Int) 0) = some (r1, r2) := by first | (rw [hy442]; with_reducible exact H) | (have H2_ := (Option.bind_some _ _).symm.trans H; rw [hy442]; with_reducible exact H2_) | (have H2_ := (Option.bind_some _ _).symm.trans H; with_reducible exact H2_) | with_reducible exact H | (rw [hy442]; exact H) | exact H
   have Ny442 := zA_ hy442
   clear hy442
   have H' := zA_ H
   clear H
   go_wp2_with (first | ((with_reducible refine gate_dst (N := 23) rfl ?_); refine Kd.R_make (Kd.int .i64) _ 3 rfl (N := 23) rfl 32 _ _ rfl ji8 rfl rfl Tryz.underlying32 (.int .i64 0) 8 info3 rfl (by decide) (by omega) 0 (ok := fun _ => True) (okp := fun _ => True) rfl (fun _ hk => hk) trivial (zD_) (Nat.le_trans (Nat.mul_le_mul_right _ (zD_ : ji8.toNat ≤ 35184372088832)) (by omega)) (Below.refl _ _) (Nat.le_refl _) ?_; intro v443 w11 ho12 hb hg_ hnew_; clear hg_ hnew_; (first | rw [← Ny442.out] at ho12 | (simp only [Int.reduceToNat] at ho12; rw [← Ny442.out] at ho12)); have HO444 := zA_ (Kd.R_lower ho12 (below_size (zw0_ HB))); replace HB := zA_ (below_step (zw0_ HB) hb); clear hb ho12; obtain ⟨Ao13, co13, eo13⟩ := Kd.R_slice HO444.out; subst eo13))
   go_loopg [26] kj2 (fun kq v26 w' => ∃ (x6_2 : List Int) (x26_2 : Int), v26 = .int .i64 x26_2 ∧ Aside0 (shape_Join.l0 kq l0 l1 x6_2 (y442.length : Int) x26_2 = some (r1, r2)) ∧ Aside0 (kq ≤ kj2) ∧ Aside0 (Kd.R (Kd.int .i64) 3 w' w.heap.size (fun _ => True) (.slice Ao13 y442.length co13) x6_2) ∧ Aside0 (Below w.heap.size w w'))
   case atStart => exact ⟨(y442), (0), z1_, H', ⟨Nat.le_refl _⟩, ⟨zr_ HO444.out⟩, ⟨zw0_ HB⟩⟩
   case round =>
    clear H'
    try clear p2
    try clear c9b0
    try clear c9b1
    try clear c10b0
    try clear c10b1
    try clear p2
    obtain ⟨x6_2, x26_2, rfl, HA, HK2, HO_6, HB⟩ := hrel
    have hl6_2 := (Kd.R_reads' HO_6.out).1
    rw [hl6_2] at HO_6
    (try simp only [hl6_2])
    cases gk with
    | zero => exact absurd HA.out (by simp [shape_Join.l0])
    | succ k2 =>
     have H := HA.out
     clear HA
     simp only [shape_Join.l0] at H
     by_cases c14 : x26_2 < (y442.length : Int)
     rotate_left
     ·rw [if_neg c14] at H
      have c14b0 : decide (x26_2 < (y442.length : Int)) = false := decide_eq_false c14
      (try rw [hl6_2] at c14b0)
      clear c14
      replace H := zO_ H
      obtain ⟨t445, A410, H⟩ := H
      replace H : (if t445 = true then (some (x6_2, 0)) else (none)) = some (r1, r2) := H
      have A41 := zA_ A410
      clear A410
      by_cases c42 : t445 = true
      rotate_left
      ·replace c42 := Bool.eq_false_iff.mpr c42
       subst c42
       have H1 : (none) = some (r1, r2) := by rw [if_neg (show ¬ (false = true) by decide)] at H; exact H
       clear H
       have H := H1
       clear H1
       exact zN_ H
      subst c42
      have H1 : (some (x6_2, 0)) = some (r1, r2) := by rw [if_pos rfl] at H; exact H
      clear H
      have H := H1
      clear H1
      simp only [Option.some.injEq, Prod.mk.injEq] at H
      obtain ⟨rfl, rfl⟩ := H
      go_wp2_with (first | ((with_reducible refine gate_callee (f := 242) rfl ?_); refine zg_ (some 58) Tryz.func242 #[.slice Ao13 x6_2.length co13] (h := ?_); (with_reducible refine (shape_Good.calls k2 _ _ x6_2 true _ ?side1 ?side2 A41.out).mono ?_); (case side1 => exact zk_ ((Kd.R_reads' HO_6.out).2.2)); (case side2 => exact (Kd.R_reads' HO_6.out).2.1); rintro e w' ⟨rfl, ⟨nd, rfl⟩⟩; refine ⟨_, rfl, ?_⟩))
      go_ret2
      exact ⟨_, by first | rfl | (simp [errW_none, errW_some] <;> rfl) | (simp only [← hji8]; first | rfl | (simp [errW_none, errW_some] <;> rfl)) | (simp [*, errW_none, errW_some] <;> rfl), zr_ HO_6.out, zw0_ HB⟩
     rw [if_pos c14] at H
     have c14b0 : decide (x26_2 < (y442.length : Int)) = true := decide_eq_true c14
     (try rw [hl6_2] at c14b0)
     clear c14
     replace H := zO_ H
     obtain ⟨t446, A150, H⟩ := H
     (try dsimp only at H)
     have A15 := zA_ A150
     clear A150
     replace H := zO_ H
     obtain ⟨t447, A160, H⟩ := H
     (try dsimp only at H)
     have A16 := zA_ A160
     clear A160
     by_cases c17 : t446 = t447
     ·rw [if_pos c17] at H
      have c17b0 : (t446 == t447) = true := beq_iff_eq.mpr c17
      have c17b1 : (t446 != t447) = false := bne_eq_false_iff_eq.mpr c17
      clear c17
      obtain ⟨ji18, hji18⟩ : ∃ j_ : Int, (mx t446 t447) = j_ := ⟨_, rfl⟩
      replace H : (if 0 ≤ (wrap64 ((wrap64 ((x6_2.length : Int) - 1)) - x26_2)) then (if (wrap64 ((wrap64 ((x6_2.length : Int) - 1)) - x26_2)) < (x6_2.length : Int) then (shape_Join.l0 k2 l0 l1 (x6_2.set ((wrap64 ((wrap64 ((x6_2.length : Int) - 1)) - x26_2)) : Int).toNat (ji18)) (y442.length : Int) (wrap64 (x26_2 + 1))) else (none)) else (none)) = some (r1, r2) := by first | (rw [hji18] at H; exact H) | (simp only [hji18] at H ⊢; exact H)
      (try rw [hji18] at A15)
      (try rw [hji18] at A16)
      have hji18_ : (if t446 < t447 then t447 else t446) = ji18 := hji18
      obtain ⟨ji19, hji19⟩ : ∃ j_ : Int, (wrap64 ((wrap64 ((x6_2.length : Int) - 1)) - x26_2)) = j_ := ⟨_, rfl⟩
      replace H : (if 0 ≤ (ji19) then (if (ji19) < (x6_2.length : Int) then (shape_Join.l0 k2 l0 l1 (x6_2.set ((ji19) : Int).toNat (ji18)) (y442.length : Int) (wrap64 (x26_2 + 1))) else (none)) else (none)) = some (r1, r2) := by first | (rw [hji19] at H; exact H) | (simp only [hji19] at H ⊢; exact H)
      (try rw [hji19] at A15)
      (try rw [hji19] at A16)
      have hji19w : (IntKind.i64.wrap ((wrap64 ((x6_2.length : Int) - 1)) - x26_2)) = ji19 := (i64_w _).trans hji19
      by_cases c20 : 0 ≤ (ji19)
      rotate_left
      ·rw [if_neg c20] at H
       exact zN_ H
      rw [if_pos c20] at H
      have c20b0 : decide (0 ≤ (ji19)) = true := decide_eq_true c20
      clear c20
      by_cases c21 : (ji19) < (x6_2.length : Int)
      rotate_left
      ·rw [if_neg c21] at H
       exact zN_ H
      rw [if_pos c21] at H
      have c21b0 : decide ((ji19) < (x6_2.length : Int)) = true := decide_eq_true c21
      clear c21
      obtain ⟨y448, hy448⟩ : ∃ y_ : List Int, y_ = (x6_2.set ((ji19) : Int).toNat (ji18)) := ⟨_, rfl⟩
      replace H : (shape_Join.l0 k2 l0 l1 y448 (y442.length : Int) (wrap64 (x26_2 + 1))) = some (r1, r2) := by first | (rw [hy448]; with_reducible exact H) | (have H2_ := (Option.bind_some _ _).symm.trans H; rw [hy448]; with_reducible exact H2_) | (have H2_ := (Option.bind_some _ _).symm.trans H; with_reducible exact H2_) | with_reducible exact H | (rw [hy448]; exact H) | exact H
      have Ny448 := zA_ hy448
      clear hy448
      have H' := zA_ H
      clear H
      go_wp2_with (first | ((with_reducible refine gate_callee (f := 392) rfl ?_); refine zg_ (some 31) Tryz.func392 #[.slice A0 l0.length c0, .int .i64 x26_2] (h := ?_); (with_reducible refine (shape_side.calls _ _ l0 x26_2 t446 _ ?side1 ?side2 A15.out).mono ?_); (case side1 => exact zk_ (Kd.C_below HR0.out HB.out)); (case side2 => exact HC0.out); rintro e w' ⟨rfl, ⟨nd, rfl⟩⟩; refine ⟨_, rfl, ?_⟩; (try (rw [drewN_self wr]; generalize hq_ : World.drewN wr _ = wr; have n0_ : Aside0 (Kd.R (Kd.int .i64) 3 wr w.heap.size (fun _ => True) (.slice Ao13 x6_2.length co13) x6_2) := ⟨by rw [← hq_]; exact (zr_ HO_6.out)⟩; have n1_ : Aside0 (Below w.heap.size w wr) := ⟨by rw [← hq_]; exact (zw0_ HB)⟩; clear HO_6 HB hq_; have HO_6 := n0_; have HB := n1_; clear n0_ n1_))) | ((with_reducible refine gate_callee (f := 392) rfl ?_); refine zg_ (some 34) Tryz.func392 #[.slice A1 l1.length c1, .int .i64 x26_2] (h := ?_); (with_reducible refine (shape_side.calls _ _ l1 x26_2 t447 _ ?side1 ?side2 A16.out).mono ?_); (case side1 => exact zk_ (Kd.C_below HR1.out HB.out)); (case side2 => exact HC1.out); rintro e w' ⟨rfl, ⟨nd, rfl⟩⟩; refine ⟨_, rfl, ?_⟩; (try (rw [drewN_self wr]; generalize hq_ : World.drewN wr _ = wr; have n0_ : Aside0 (Kd.R (Kd.int .i64) 3 wr w.heap.size (fun _ => True) (.slice Ao13 x6_2.length co13) x6_2) := ⟨by rw [← hq_]; exact (zr_ HO_6.out)⟩; have n1_ : Aside0 (Below w.heap.size w wr) := ⟨by rw [← hq_]; exact (zw0_ HB)⟩; clear HO_6 HB hq_; have HO_6 := n0_; have HB := n1_; clear n0_ n1_)); have p22 : 0 ≤ ((ji19) : Int) := zD_; have q22 : ((ji19) : Int) < ((x6_2.length : Int) : Int) := zD_; obtain ⟨go22, co22, eo22, gb22, gl22, cl22, HG22⟩ := Kd.R_form HO_6.out (by omega); (first | cases eo22 | (injection eo22 with ea_ en_ ec_; (first | subst ea_ | (injection ea_ with ea_; subst ea_)); subst ec_; clear en_)); have GB22 := zA_ gb22; have GG22 := zA_ HG22; clear gb22 gl22 HG22; obtain ⟨hx22_0, hf22_0⟩ := Kd.R_celln 0 HO_6.out ((ji19) : Int) p22 q22; replace p22 := eq_true p22; replace q22 := eq_true q22; obtain ⟨hy23_, hz23_⟩ := Kd.R_celln 0 HO_6.out ((ji19) : Int) (zD_) (zD_); have HP23 := Kd.R_putg HO_6.out ((ji19) : Int) ji18) | ((with_reducible refine gate_store (t := 3) (p := 55) rfl ?_); refine store_event (t := 3) (p := 55) (v := ?vo_w24) (w1 := (wr.setCell ⟨go22, ((ji19) : Int).toNat, none⟩ (.int .i64 ji18))) ?hg ?ho ?hn ?hr ?_; (case ho => rfl); (case hg => rfl); (case hn => rfl); (case hr => first | (go_simp; done) | (go_simp; rfl)); intro w24 hw; have hg : wr.grownBy w24 (some go22) := (by rw [hw]; exact HP23.2); have hp_ : Kd.R (Kd.int .i64) 3 w24 w.heap.size (fun _ => True) (.slice (some ⟨go22, 0, none⟩) x6_2.length co13) y448 := (by rw [hw, Ny448.out]; exact HP23.1); clear HP23; replace HO_6 := zA_ (hp_); replace HB := zA_ ((by rw [hw]; exact below_set (HB.out) GB22.out : Below w.heap.size w w24)); clear hg hw hp_))
      (try simp only [← hl6_2])
      go_roundg k2
      case measure => have := HJ2.out; have := HK2.out; omega
      case rel => exact ⟨(y448), (wrap64 (x26_2 + 1)), z1_, H', ⟨by have := HJ2.out; have := HK2.out; omega⟩, ⟨by (try simp only [hl6_2]); (with_reducible repeat (first | apply Kd.R_alloc | apply Kd.R_drewN | apply Kd.R_drew)); exact HO_6.out⟩, ⟨zw0_ HB⟩⟩
     rw [if_neg c17] at H
     have c17b0 : (t446 == t447) = false := beq_eq_false_iff_ne.mpr c17
     have c17b1 : (t446 != t447) = true := bne_iff_ne.mpr c17
     by_cases c25 : t446 = 1
     ·rw [if_pos c25] at H
      have c25b0 : (t446 == 1) = true := beq_iff_eq.mpr c25
      have c25b1 : (t446 != 1) = false := bne_eq_false_iff_eq.mpr c25
      clear c25
      obtain ⟨ji26, hji26⟩ : ∃ j_ : Int, (mx t446 t447) = j_ := ⟨_, rfl⟩
      replace H : (if 0 ≤ (wrap64 ((wrap64 ((x6_2.length : Int) - 1)) - x26_2)) then (if (wrap64 ((wrap64 ((x6_2.length : Int) - 1)) - x26_2)) < (x6_2.length : Int) then (shape_Join.l0 k2 l0 l1 (x6_2.set ((wrap64 ((wrap64 ((x6_2.length : Int) - 1)) - x26_2)) : Int).toNat (ji26)) (y442.length : Int) (wrap64 (x26_2 + 1))) else (none)) else (none)) = some (r1, r2) := by first | (rw [hji26] at H; exact H) | (simp only [hji26] at H ⊢; exact H)
      (try rw [hji26] at A15)
      (try rw [hji26] at A16)
      have hji26_ : (if t446 < t447 then t447 else t446) = ji26 := hji26
      obtain ⟨ji27, hji27⟩ : ∃ j_ : Int, (wrap64 ((wrap64 ((x6_2.length : Int) - 1)) - x26_2)) = j_ := ⟨_, rfl⟩
      replace H : (if 0 ≤ (ji27) then (if (ji27) < (x6_2.length : Int) then (shape_Join.l0 k2 l0 l1 (x6_2.set ((ji27) : Int).toNat (ji26)) (y442.length : Int) (wrap64 (x26_2 + 1))) else (none)) else (none)) = some (r1, r2) := by first | (rw [hji27] at H; exact H) | (simp only [hji27] at H ⊢; exact H)
      (try rw [hji27] at A15)
      (try rw [hji27] at A16)
      have hji27w : (IntKind.i64.wrap ((wrap64 ((x6_2.length : Int) - 1)) - x26_2)) = ji27 := (i64_w _).trans hji27
      by_cases c28 : 0 ≤ (ji27)
      rotate_left
      ·rw [if_neg c28] at H
       exact zN_ H
      rw [if_pos c28] at H
      have c28b0 : decide (0 ≤ (ji27)) = true := decide_eq_true c28
      clear c28
      by_cases c29 : (ji27) < (x6_2.length : Int)
      rotate_left
      ·rw [if_neg c29] at H
       exact zN_ H
      rw [if_pos c29] at H
      have c29b0 : decide ((ji27) < (x6_2.length : Int)) = true := decide_eq_true c29
      clear c29
      obtain ⟨y449, hy449⟩ : ∃ y_ : List Int, y_ = (x6_2.set ((ji27) : Int).toNat (ji26)) := ⟨_, rfl⟩
      replace H : (shape_Join.l0 k2 l0 l1 y449 (y442.length : Int) (wrap64 (x26_2 + 1))) = some (r1, r2) := by first | (rw [hy449]; with_reducible exact H) | (have H2_ := (Option.bind_some _ _).symm.trans H; rw [hy449]; with_reducible exact H2_) | (have H2_ := (Option.bind_some _ _).symm.trans H; with_reducible exact H2_) | with_reducible exact H | (rw [hy449]; exact H) | exact H
      have Ny449 := zA_ hy449
      clear hy449
      have H' := zA_ H
      clear H
      go_wp2_with (first | ((with_reducible refine gate_callee (f := 392) rfl ?_); refine zg_ (some 31) Tryz.func392 #[.slice A0 l0.length c0, .int .i64 x26_2] (h := ?_); (with_reducible refine (shape_side.calls _ _ l0 x26_2 t446 _ ?side1 ?side2 A15.out).mono ?_); (case side1 => exact zk_ (Kd.C_below HR0.out HB.out)); (case side2 => exact HC0.out); rintro e w' ⟨rfl, ⟨nd, rfl⟩⟩; refine ⟨_, rfl, ?_⟩; (try (rw [drewN_self wr]; generalize hq_ : World.drewN wr _ = wr; have n0_ : Aside0 (Kd.R (Kd.int .i64) 3 wr w.heap.size (fun _ => True) (.slice Ao13 x6_2.length co13) x6_2) := ⟨by rw [← hq_]; exact (zr_ HO_6.out)⟩; have n1_ : Aside0 (Below w.heap.size w wr) := ⟨by rw [← hq_]; exact (zw0_ HB)⟩; clear HO_6 HB hq_; have HO_6 := n0_; have HB := n1_; clear n0_ n1_))) | ((with_reducible refine gate_callee (f := 392) rfl ?_); refine zg_ (some 34) Tryz.func392 #[.slice A1 l1.length c1, .int .i64 x26_2] (h := ?_); (with_reducible refine (shape_side.calls _ _ l1 x26_2 t447 _ ?side1 ?side2 A16.out).mono ?_); (case side1 => exact zk_ (Kd.C_below HR1.out HB.out)); (case side2 => exact HC1.out); rintro e w' ⟨rfl, ⟨nd, rfl⟩⟩; refine ⟨_, rfl, ?_⟩; (try (rw [drewN_self wr]; generalize hq_ : World.drewN wr _ = wr; have n0_ : Aside0 (Kd.R (Kd.int .i64) 3 wr w.heap.size (fun _ => True) (.slice Ao13 x6_2.length co13) x6_2) := ⟨by rw [← hq_]; exact (zr_ HO_6.out)⟩; have n1_ : Aside0 (Below w.heap.size w wr) := ⟨by rw [← hq_]; exact (zw0_ HB)⟩; clear HO_6 HB hq_; have HO_6 := n0_; have HB := n1_; clear n0_ n1_)); have p30 : 0 ≤ ((ji27) : Int) := zD_; have q30 : ((ji27) : Int) < ((x6_2.length : Int) : Int) := zD_; obtain ⟨go30, co30, eo30, gb30, gl30, cl30, HG30⟩ := Kd.R_form HO_6.out (by omega); (first | cases eo30 | (injection eo30 with ea_ en_ ec_; (first | subst ea_ | (injection ea_ with ea_; subst ea_)); subst ec_; clear en_)); have GB30 := zA_ gb30; have GG30 := zA_ HG30; clear gb30 gl30 HG30; obtain ⟨hx30_0, hf30_0⟩ := Kd.R_celln 0 HO_6.out ((ji27) : Int) p30 q30; replace p30 := eq_true p30; replace q30 := eq_true q30; obtain ⟨hy31_, hz31_⟩ := Kd.R_celln 0 HO_6.out ((ji27) : Int) (zD_) (zD_); have HP31 := Kd.R_putg HO_6.out ((ji27) : Int) ji26) | ((with_reducible refine gate_store (t := 3) (p := 55) rfl ?_); refine store_event (t := 3) (p := 55) (v := ?vo_w32) (w1 := (wr.setCell ⟨go30, ((ji27) : Int).toNat, none⟩ (.int .i64 ji26))) ?hg ?ho ?hn ?hr ?_; (case ho => rfl); (case hg => rfl); (case hn => rfl); (case hr => first | (go_simp; done) | (go_simp; rfl)); intro w32 hw; have hg : wr.grownBy w32 (some go30) := (by rw [hw]; exact HP31.2); have hp_ : Kd.R (Kd.int .i64) 3 w32 w.heap.size (fun _ => True) (.slice (some ⟨go30, 0, none⟩) x6_2.length co13) y449 := (by rw [hw, Ny449.out]; exact HP31.1); clear HP31; replace HO_6 := zA_ (hp_); replace HB := zA_ ((by rw [hw]; exact below_set (HB.out) GB30.out : Below w.heap.size w w32)); clear hg hw hp_))
      (try simp only [← hl6_2])
      go_roundg k2
      case measure => have := HJ2.out; have := HK2.out; omega
      case rel => exact ⟨(y449), (wrap64 (x26_2 + 1)), z1_, H', ⟨by have := HJ2.out; have := HK2.out; omega⟩, ⟨by (try simp only [hl6_2]); (with_reducible repeat (first | apply Kd.R_alloc | apply Kd.R_drewN | apply Kd.R_drew)); exact HO_6.out⟩, ⟨zw0_ HB⟩⟩
     rw [if_neg c25] at H
     have c25b0 : (t446 == 1) = false := beq_eq_false_iff_ne.mpr c25
     have c25b1 : (t446 != 1) = true := bne_iff_ne.mpr c25
     by_cases c33 : t447 = 1
     rotate_left
     ·rw [if_neg c33] at H
      exact zN_ H
     rw [if_pos c33] at H
     have c33b0 : (t447 == 1) = true := beq_iff_eq.mpr c33
     have c33b1 : (t447 != 1) = false := bne_eq_false_iff_eq.mpr c33
     clear c33
     obtain ⟨ji34, hji34⟩ : ∃ j_ : Int, (mx t446 t447) = j_ := ⟨_, rfl⟩
     replace H : (if 0 ≤ (wrap64 ((wrap64 ((x6_2.length : Int) - 1)) - x26_2)) then (if (wrap64 ((wrap64 ((x6_2.length : Int) - 1)) - x26_2)) < (x6_2.length : Int) then (shape_Join.l0 k2 l0 l1 (x6_2.set ((wrap64 ((wrap64 ((x6_2.length : Int) - 1)) - x26_2)) : Int).toNat (ji34)) (y442.length : Int) (wrap64 (x26_2 + 1))) else (none)) else (none)) = some (r1, r2) := by first | (rw [hji34] at H; exact H) | (simp only [hji34] at H ⊢; exact H)
     (try rw [hji34] at A15)
     (try rw [hji34] at A16)
     have hji34_ : (if t446 < t447 then t447 else t446) = ji34 := hji34
     obtain ⟨ji35, hji35⟩ : ∃ j_ : Int, (wrap64 ((wrap64 ((x6_2.length : Int) - 1)) - x26_2)) = j_ := ⟨_, rfl⟩
     replace H : (if 0 ≤ (ji35) then (if (ji35) < (x6_2.length : Int) then (shape_Join.l0 k2 l0 l1 (x6_2.set ((ji35) : Int).toNat (ji34)) (y442.length : Int) (wrap64 (x26_2 + 1))) else (none)) else (none)) = some (r1, r2) := by first | (rw [hji35] at H; exact H) | (simp only [hji35] at H ⊢; exact H)
     (try rw [hji35] at A15)
     (try rw [hji35] at A16)
     have hji35w : (IntKind.i64.wrap ((wrap64 ((x6_2.length : Int) - 1)) - x26_2)) = ji35 := (i64_w _).trans hji35
     by_cases c36 : 0 ≤ (ji35)
     rotate_left
     ·rw [if_neg c36] at H
      exact zN_ H
     rw [if_pos c36] at H
     have c36b0 : decide (0 ≤ (ji35)) = true := decide_eq_true c36
     clear c36
     by_cases c37 : (ji35) < (x6_2.length : Int)
     rotate_left
     ·rw [if_neg c37] at H
      exact zN_ H
     rw [if_pos c37] at H
     have c37b0 : decide ((ji35) < (x6_2.length : Int)) = true := decide_eq_true c37
     clear c37
     obtain ⟨y450, hy450⟩ : ∃ y_ : List Int, y_ = (x6_2.set ((ji35) : Int).toNat (ji34)) := ⟨_, rfl⟩
     replace H : (shape_Join.l0 k2 l0 l1 y450 (y442.length : Int) (wrap64 (x26_2 + 1))) = some (r1, r2) := by first | (rw [hy450]; with_reducible exact H) | (have H2_ := (Option.bind_some _ _).symm.trans H; rw [hy450]; with_reducible exact H2_) | (have H2_ := (Option.bind_some _ _).symm.trans H; with_reducible exact H2_) | with_reducible exact H | (rw [hy450]; exact H) | exact H
     have Ny450 := zA_ hy450
     clear hy450
     have H' := zA_ H
     clear H
     go_wp2_with (first | ((with_reducible refine gate_callee (f := 392) rfl ?_); refine zg_ (some 31) Tryz.func392 #[.slice A0 l0.length c0, .int .i64 x26_2] (h := ?_); (with_reducible refine (shape_side.calls _ _ l0 x26_2 t446 _ ?side1 ?side2 A15.out).mono ?_); (case side1 => exact zk_ (Kd.C_below HR0.out HB.out)); (case side2 => exact HC0.out); rintro e w' ⟨rfl, ⟨nd, rfl⟩⟩; refine ⟨_, rfl, ?_⟩; (try (rw [drewN_self wr]; generalize hq_ : World.drewN wr _ = wr; have n0_ : Aside0 (Kd.R (Kd.int .i64) 3 wr w.heap.size (fun _ => True) (.slice Ao13 x6_2.length co13) x6_2) := ⟨by rw [← hq_]; exact (zr_ HO_6.out)⟩; have n1_ : Aside0 (Below w.heap.size w wr) := ⟨by rw [← hq_]; exact (zw0_ HB)⟩; clear HO_6 HB hq_; have HO_6 := n0_; have HB := n1_; clear n0_ n1_))) | ((with_reducible refine gate_callee (f := 392) rfl ?_); refine zg_ (some 34) Tryz.func392 #[.slice A1 l1.length c1, .int .i64 x26_2] (h := ?_); (with_reducible refine (shape_side.calls _ _ l1 x26_2 t447 _ ?side1 ?side2 A16.out).mono ?_); (case side1 => exact zk_ (Kd.C_below HR1.out HB.out)); (case side2 => exact HC1.out); rintro e w' ⟨rfl, ⟨nd, rfl⟩⟩; refine ⟨_, rfl, ?_⟩; (try (rw [drewN_self wr]; generalize hq_ : World.drewN wr _ = wr; have n0_ : Aside0 (Kd.R (Kd.int .i64) 3 wr w.heap.size (fun _ => True) (.slice Ao13 x6_2.length co13) x6_2) := ⟨by rw [← hq_]; exact (zr_ HO_6.out)⟩; have n1_ : Aside0 (Below w.heap.size w wr) := ⟨by rw [← hq_]; exact (zw0_ HB)⟩; clear HO_6 HB hq_; have HO_6 := n0_; have HB := n1_; clear n0_ n1_)); have p38 : 0 ≤ ((ji35) : Int) := zD_; have q38 : ((ji35) : Int) < ((x6_2.length : Int) : Int) := zD_; obtain ⟨go38, co38, eo38, gb38, gl38, cl38, HG38⟩ := Kd.R_form HO_6.out (by omega); (first | cases eo38 | (injection eo38 with ea_ en_ ec_; (first | subst ea_ | (injection ea_ with ea_; subst ea_)); subst ec_; clear en_)); have GB38 := zA_ gb38; have GG38 := zA_ HG38; clear gb38 gl38 HG38; obtain ⟨hx38_0, hf38_0⟩ := Kd.R_celln 0 HO_6.out ((ji35) : Int) p38 q38; replace p38 := eq_true p38; replace q38 := eq_true q38; obtain ⟨hy39_, hz39_⟩ := Kd.R_celln 0 HO_6.out ((ji35) : Int) (zD_) (zD_); have HP39 := Kd.R_putg HO_6.out ((ji35) : Int) ji34) | ((with_reducible refine gate_store (t := 3) (p := 55) rfl ?_); refine store_event (t := 3) (p := 55) (v := ?vo_w40) (w1 := (wr.setCell ⟨go38, ((ji35) : Int).toNat, none⟩ (.int .i64 ji34))) ?hg ?ho ?hn ?hr ?_; (case ho => rfl); (case hg => rfl); (case hn => rfl); (case hr => first | (go_simp; done) | (go_simp; rfl)); intro w40 hw; have hg : wr.grownBy w40 (some go38) := (by rw [hw]; exact HP39.2); have hp_ : Kd.R (Kd.int .i64) 3 w40 w.heap.size (fun _ => True) (.slice (some ⟨go38, 0, none⟩) x6_2.length co13) y450 := (by rw [hw, Ny450.out]; exact HP39.1); clear HP39; replace HO_6 := zA_ (hp_); replace HB := zA_ ((by rw [hw]; exact below_set (HB.out) GB38.out : Below w.heap.size w w40)); clear hg hw hp_))
     (try simp only [← hl6_2])
     go_roundg k2
     case measure => have := HJ2.out; have := HK2.out; omega
     case rel => exact ⟨(y450), (wrap64 (x26_2 + 1)), z1_, H', ⟨by have := HJ2.out; have := HK2.out; omega⟩, ⟨by (try simp only [hl6_2]); (with_reducible repeat (first | apply Kd.R_alloc | apply Kd.R_drewN | apply Kd.R_drew)); exact HO_6.out⟩, ⟨zw0_ HB⟩⟩
def shape_Strides.l0 : Nat → List Int → List Int → Int → Int → Option (List Int)
 | 0, _, _, _, _ => none
 | k + 1, x0, x3, x4, x5 => if x5 ≥ 0 then (if 0 ≤ x5 then (if x5 < (x3.length : Int) then (if x5 < (x0.length : Int) then (shape_Strides.l0 k x0 (x3.set (x5 : Int).toNat x4) (wrap64 (x4 * (rd x0 x5))) (wrap64 (x5 - 1))) else (none)) else (none)) else (none)) else (some x3)
def shape_Strides.f (k : Nat) (l0 : List Int) : Option (List Int) := (shape_Good.f k l0).bind fun t451 => (if t451 = true then (if 0 ≤ (l0.length : Int) then (if ((l0.length : Int) : Int).toNat ≤ 35184372088832 then (shape_Strides.l0 k l0 (List.replicate ((l0.length : Int) : Int).toNat 0) 1 (wrap64 ((l0.length : Int) - 1))) else (none)) else (none)) else (none))
theorem shape_Strides.calls (k : Nat) (A0 : Option Addr) (c0 : Nat) (l0 : List Int) (r : List Int) (w : World) (hr0 : Kd.C (Kd.int .i64) w A0 l0.length l0) (hc0 : l0.length ≤ c0) (h : shape_Strides.f k l0 = some r) :
  Calls Tryz.prog 393 #[.slice A0 l0.length c0] w fun e w' => ∃ v0_ : Value, e = .returned (v0_) ∧ Kd.R (Kd.int .i64) 3 w' w.heap.size (fun _ => True) v0_ r ∧ Below w.heap.size w w' := by
 have HR0 := zA_ hr0
 have HC0 := zA_ hc0
 clear hr0 hc0
 have HB := zA_ (Below.refl w.heap.size w)
 have H : ((shape_Good.f k l0).bind fun t451 => (if t451 = true then (if 0 ≤ (l0.length : Int) then (if ((l0.length : Int) : Int).toNat ≤ 35184372088832 then (shape_Strides.l0 k l0 (List.replicate ((l0.length : Int) : Int).toNat 0) 1 (wrap64 ((l0.length : Int) - 1))) else (none)) else (none)) else (none))) = some r := h
 clear h
 replace H := zO_ H
 obtain ⟨t451, A20, H⟩ := H
 (try dsimp only at H)
 have A2 := zA_ A20
 clear A20
 by_cases c3 : t451 = true
 rotate_left
 ·replace c3 := Bool.eq_false_iff.mpr c3
  subst c3
  have H1 : (none) = some r := by rw [if_neg (show ¬ (false = true) by decide)] at H; exact H
  clear H
  have H := H1
  clear H1
  exact zN_ H
 subst c3
 have H1 := H
 rw [if_pos rfl] at H1
 clear H
 have H := H1
 clear H1
 by_cases c4 : 0 ≤ (l0.length : Int)
 rotate_left
 ·rw [if_neg c4] at H
  exact zN_ H
 rw [if_pos c4] at H
 have c4b0 := eq_true c4
 have c4b1 : decide (0 ≤ (l0.length : Int)) = true := decide_eq_true c4
 clear c4
 by_cases c5 : ((l0.length : Int) : Int).toNat ≤ 35184372088832
 rotate_left
 ·rw [if_neg c5] at H
  exact zN_ H
 rw [if_pos c5] at H
 have c5b0 := eq_true c5
 have c5b1 : decide (((l0.length : Int) : Int).toNat ≤ 35184372088832) = true := decide_eq_true c5
 clear c5
 obtain ⟨y452, hy452⟩ : ∃ y_ : List Int, y_ = (List.replicate ((l0.length : Int) : Int).toNat 0) := ⟨_, rfl⟩
 replace H : (shape_Strides.l0 k l0 y452 1 (wrap64 ((l0.length : Int) - 1))) = some r := by first | (rw [hy452]; with_reducible exact H) | (have H2_ := (Option.bind_some _ _).symm.trans H; rw [hy452]; with_reducible exact H2_) | (have H2_ := (Option.bind_some _ _).symm.trans H; with_reducible exact H2_) | with_reducible exact H | (rw [hy452]; exact H) | exact H
 have Ny452 := zA_ hy452
 clear hy452
 have H' := zA_ H
 clear H
 go_enter Tryz.func393, Tryz.ntmps393
 go_wp2_with (first | ((with_reducible refine gate_callee (f := 242) rfl ?_); refine zg_ (some 7) Tryz.func242 #[.slice A0 l0.length c0] (h := ?_); (with_reducible refine (shape_Good.calls k _ _ l0 true _ ?side1 ?side2 A2.out).mono ?_); (case side1 => repeat (first | exact HR0.out | (with_reducible refine Kd.C_alloc ?_ _) | (with_reducible refine Kd.C_drewN ?_ _) | (with_reducible refine Kd.C_drew ?_))); (case side2 => exact HC0.out); rintro e w' ⟨rfl, ⟨nd, rfl⟩⟩; refine ⟨_, rfl, ?_⟩) | ((with_reducible refine gate_dst (N := 11) rfl ?_); refine Kd.R_make (Kd.int .i64) _ 3 rfl (N := 11) rfl 32 _ _ rfl (l0.length : Int) rfl rfl Tryz.underlying32 (.int .i64 0) 8 info3 rfl (by decide) (by omega) 0 (ok := fun _ => True) (okp := fun _ => True) rfl (fun _ hk => hk) trivial (zD_) (Nat.le_trans (Nat.mul_le_mul_right _ (zD_ : (l0.length : Int).toNat ≤ 35184372088832)) (by omega)) (Below.refl _ _) (Nat.le_refl _) ?_; intro v453 w6 ho7 hb hg_ hnew_; clear hg_ hnew_; (first | rw [← Ny452.out] at ho7 | (simp only [Int.reduceToNat] at ho7; rw [← Ny452.out] at ho7)); have HO454 := zA_ (Kd.R_lower ho7 (below_size (zw0_ HB))); replace HB := zA_ (below_step (zw0_ HB) hb); clear hb ho7))
 go_loopg [4, 5] k (fun kq v4 v5 w' => ∃ (x3_1 : List Int) (x4_1 : Int) (x5_1 : Int), v4 = .int .i64 x4_1 ∧ v5 = .int .i64 x5_1 ∧ Aside0 (shape_Strides.l0 kq l0 x3_1 x4_1 x5_1 = some r) ∧ Aside0 (kq ≤ k) ∧ Aside0 (Kd.R (Kd.int .i64) 3 w' w.heap.size (fun _ => True) v453 x3_1) ∧ Aside0 (Below w.heap.size w w'))
 case atStart => exact ⟨(y452), (1), (wrap64 ((l0.length : Int) - 1)), z1_, z1_, H', ⟨Nat.le_refl _⟩, ⟨zr_ HO454.out⟩, ⟨zw0_ HB⟩⟩
 case round =>
  clear H'
  try clear p2
  try clear c4b0
  try clear c4b1
  try clear c5b0
  try clear c5b1
  try clear p6
  obtain ⟨x3_1, x4_1, x5_1, rfl, rfl, HA, HK1, HO_3, HB⟩ := hrel
  cases gk with
  | zero => exact absurd HA.out (by simp [shape_Strides.l0])
  | succ k1 =>
   have H := HA.out
   clear HA
   simp only [shape_Strides.l0] at H
   by_cases c8 : x5_1 ≥ 0
   rotate_left
   ·rw [if_neg c8] at H
    have c8b0 : decide (0 ≤ x5_1) = false := decide_eq_false c8
    clear c8
    obtain rfl := Option.some.inj H
    go_wp2
    go_ret
    exact ⟨_, z0_, zr_ HO_3.out, zw0_ HB⟩
   rw [if_pos c8] at H
   have c8b0 : decide (0 ≤ x5_1) = true := decide_eq_true c8
   clear c8
   by_cases c9 : 0 ≤ x5_1
   rotate_left
   ·rw [if_neg c9] at H
    exact zN_ H
   rw [if_pos c9] at H
   have c9b0 : decide (0 ≤ x5_1) = true := decide_eq_true c9
   clear c9
   by_cases c10 : x5_1 < (x3_1.length : Int)
   rotate_left
   ·rw [if_neg c10] at H
    exact zN_ H
   rw [if_pos c10] at H
   have c10b0 : decide (x5_1 < (x3_1.length : Int)) = true := decide_eq_true c10
   clear c10
   obtain ⟨y455, hy455⟩ : ∃ y_ : List Int, y_ = (x3_1.set (x5_1 : Int).toNat x4_1) := ⟨_, rfl⟩
   replace H : (if x5_1 < (l0.length : Int) then (shape_Strides.l0 k1 l0 y455 (wrap64 (x4_1 * (rd l0 x5_1))) (wrap64 (x5_1 - 1))) else (none)) = some r := by first | (rw [hy455]; with_reducible exact H) | (have H2_ := (Option.bind_some _ _).symm.trans H; rw [hy455]; with_reducible exact H2_) | (have H2_ := (Option.bind_some _ _).symm.trans H; with_reducible exact H2_) | with_reducible exact H | (rw [hy455]; exact H) | exact H
   have Ny455 := zA_ hy455
   clear hy455
   by_cases c12 : x5_1 < (l0.length : Int)
   rotate_left
   ·rw [if_neg c12] at H
    exact zN_ H
   rw [if_pos c12] at H
   have c12b0 : decide (x5_1 < (l0.length : Int)) = true := decide_eq_true c12
   clear c12
   have H' := zA_ H
   clear H
   have p11 : 0 ≤ (x5_1 : Int) := zD_
   have q11 : (x5_1 : Int) < ((x3_1.length : Int) : Int) := zD_
   obtain ⟨go11, co11, eo11, gb11, gl11, cl11, HG11⟩ := Kd.R_form HO_3.out (by omega)
   (first | cases eo11 | (injection eo11 with ea_ en_ ec_; (first | subst ea_ | (injection ea_ with ea_; subst ea_)); subst ec_; clear en_))
   have GB11 := zA_ gb11
   have GG11 := zA_ HG11
   clear gb11 gl11 HG11
   obtain ⟨hx11_0, hf11_0⟩ := Kd.R_celln 0 HO_3.out (x5_1 : Int) p11 q11
   replace p11 := eq_true p11
   replace q11 := eq_true q11
   have HP13 := Kd.R_putg HO_3.out (x5_1 : Int) x4_1
   go_wp2_with (first | ((with_reducible refine gate_store (t := 3) (p := 22) rfl ?_); refine store_event (t := 3) (p := 22) (v := ?vo_w14) (w1 := (wr.setCell ⟨go11, (x5_1 : Int).toNat, none⟩ (.int .i64 x4_1))) ?hg ?ho ?hn ?hr ?_; (case ho => rfl); (case hg => rfl); (case hn => rfl); (case hr => first | (go_simp; done) | (go_simp; rfl)); intro w14 hw; have hg : wr.grownBy w14 (some go11) := (by rw [hw]; exact HP13.2); have hp_ : Kd.R (Kd.int .i64) 3 w14 w.heap.size (fun _ => True) (.slice (some ⟨go11, 0, none⟩) x3_1.length co11) y455 := (by rw [hw, Ny455.out]; exact HP13.1); clear HP13; replace HO_3 := zA_ (hp_); replace HB := zA_ ((by rw [hw]; exact below_set (HB.out) GB11.out : Below w.heap.size w w14)); clear hg hw hp_; have p456 : 0 ≤ (x5_1 : Int) := zD_; have q456 : x5_1 < (l0.length : Int) := zD_; obtain ⟨ad456, e456, hx456_0⟩ := Kd.at_int HR0.out x5_1 p456 q456; cases e456; replace hx456_0 := (HB.out.cell (World.block_lt_of_cell? w _ hx456_0)).trans hx456_0; replace p456 := eq_true p456; replace q456 := eq_true q456))
   go_roundg k1
   case measure => have := HK1.out; omega
   case rel => exact ⟨(y455), (wrap64 (x4_1 * (rd l0 x5_1))), (wrap64 (x5_1 - 1)), z1_, z1_, H', ⟨by have := HK1.out; omega⟩, ⟨zr_ HO_3.out⟩, ⟨zw0_ HB⟩⟩
mutual
def shape_Spread.l0 : Nat → List Int → List Int → List Int → Int → List Int → Int → Int → Option (List Int)
 | 0, _, _, _, _, _, _, _ => none
 | k + 1, x0, x1, x5, x6, x7, x22, x23 => if x23 < x22 then (shape_Spread.l1 k x0 x1 x5 x6 x7 x23 x23 (wrap64 ((x1.length : Int) - 1)) x22 x23) else (some x7)
def shape_Spread.l1 : Nat → List Int → List Int → List Int → Int → List Int → Int → Int → Int → Int → Int → Option (List Int)
 | 0, _, _, _, _, _, _, _, _, _, _ => none
 | k + 1, x0, x1, x5, x6, x7, x8, x9, x10, x22, x23 => if x10 ≥ x6 then (if 0 ≤ (wrap64 (x10 - x6)) then (if (wrap64 (x10 - x6)) < (x0.length : Int) then (if (rd x0 (wrap64 (x10 - x6))) > 1 then (if 0 ≤ x8 then (if x8 < (x7.length : Int) then (if 0 ≤ x10 then (if x10 < (x1.length : Int) then (if (rd x1 x10) = 0 then (none) else (if (wrap64 (x10 - x6)) < (x5.length : Int) then (shape_Spread.l1 k x0 x1 x5 x6 (x7.set (x8 : Int).toNat (wrap64 ((rd x7 x8) + (wrap64 ((Int.tmod x9 (rd x1 x10)) * (rd x5 (wrap64 (x10 - x6)))))))) x8 (wrap64 (Int.tdiv x9 (rd x1 x10))) (wrap64 (x10 - 1)) x22 x23) else (none))) else (none)) else (none)) else (none)) else (none)) else (if 0 ≤ x10 then (if x10 < (x1.length : Int) then (if (rd x1 x10) = 0 then (none) else (shape_Spread.l1 k x0 x1 x5 x6 x7 x8 (wrap64 (Int.tdiv x9 (rd x1 x10))) (wrap64 (x10 - 1)) x22 x23)) else (none)) else (none))) else (none)) else (none)) else (shape_Spread.l0 k x0 x1 x5 x6 x7 x22 (wrap64 (x23 + 1)))
end
def shape_Spread.f (k : Nat) (l0 : List Int) (l1 : List Int) : Option (List Int) := (shape_Strides.f k l0).bind fun t457 => ((shape_Size.f k l1).bind fun t460 => (if 0 ≤ t460 then (if (t460 : Int).toNat ≤ 35184372088832 then ((some (List.replicate (t460 : Int).toNat 0 : List Int)).bind fun y461 => (shape_Spread.l0 k l0 l1 t457 (wrap64 ((l1.length : Int) - (l0.length : Int))) y461 (y461.length : Int) 0)) else (none)) else (none)))
def shape_Spread.T11 : Bool × List (List Nat × List Nat) := (true, [([], []), ([], []), ([0, 1], [0, 1]), ([2], [2]), ([], []), ([], []), ([], []), ([5, 6], [5, 6]), ([7], [7]), ([4, 8], [4, 8]), ([], []), ([], []), ([], []), ([11, 12], [11, 12]), ([10, 13], [10, 13]), ([14], [14]), ([9, 15], [9, 15]), ([3, 16], [3, 16]), ([0, 1, 0, 1, 2, 3, 4, 5, 6, 7, 8, 9, 10, 11, 12, 13, 14, 15, 16, 17], [0, 1]), ([18, 17, 0, 1, 2, 3, 4, 5, 6, 7, 8, 9, 10, 11, 12, 13, 14, 15, 16, 17], [17, 18])])
def shape_Spread.B11 : List Nat := [0, 0, 3, 7, 0, 0, 0, 96, 224, 496, 0, 0, 0, 6144, 15360, 31744, 65520, 131071, 262143, 524287]
theorem shape_Spread.tab11 : rtab .any (opsOf Tryz.f363 11) = shape_Spread.T11 := by kernel_rfl
theorem shape_Spread.bits11 : waitsOk shape_Spread.T11.2 shape_Spread.B11 = true := by kernel_rfl
theorem shape_Spread.calls (k : Nat) (A0 : Option Addr) (c0 : Nat) (l0 : List Int) (A1 : Option Addr) (c1 : Nat) (l1 : List Int) (r : List Int) (w : World) (hr0 : Kd.C (Kd.int .i64) w A0 l0.length l0) (hc0 : l0.length ≤ c0) (hr1 : Kd.C (Kd.int .i64) w A1 l1.length l1) (hc1 : l1.length ≤ c1) (h : shape_Spread.f k l0 l1 = some r) :
  Calls Tryz.prog 363 #[.slice A0 l0.length c0, .slice A1 l1.length c1] w fun e w' => ∃ v0_ : Value, e = .returned (v0_) ∧ Kd.R (Kd.int .i64) 3 w' w.heap.size (fun _ => True) v0_ r ∧ Below w.heap.size w w' := by
 have HR0 := zA_ hr0
 have HC0 := zA_ hc0
 clear hr0 hc0
 have HR1 := zA_ hr1
 have HC1 := zA_ hc1
 clear hr1 hc1
 have HB := zA_ (Below.refl w.heap.size w)
 have H : ((shape_Strides.f k l0).bind fun t457 => ((shape_Size.f k l1).bind fun t460 => (if 0 ≤ t460 then (if (t460 : Int).toNat ≤ 35184372088832 then ((some (List.replicate (t460 : Int).toNat 0 : List Int)).bind fun y461 => (shape_Spread.l0 k l0 l1 t457 (wrap64 ((l1.length : Int) - (l0.length : Int))) y461 (y461.length : Int) 0)) else (none)) else (none)))) = some r := h
 clear h
 replace H := zO_ H
 obtain ⟨t457, A30, H⟩ := H
 (try dsimp only at H)
 have A3 := zA_ A30
 clear A30
 replace H := zO_ H
 obtain ⟨t460, A40, H⟩ := H
 (try dsimp only at H)
 have A4 := zA_ A40
 clear A40
 by_cases c5 : 0 ≤ t460
 rotate_left
 ·rw [if_neg c5] at H
  exact zN_ H
 rw [if_pos c5] at H
 have c5b0 := eq_true c5
 have c5b1 : decide (0 ≤ t460) = true := decide_eq_true c5
 clear c5
 by_cases c6 : (t460 : Int).toNat ≤ 35184372088832
 rotate_left
 ·rw [if_neg c6] at H
  exact zN_ H
 rw [if_pos c6] at H
 have c6b0 := eq_true c6
 have c6b1 : decide ((t460 : Int).toNat ≤ 35184372088832) = true := decide_eq_true c6
 clear c6
 obtain ⟨y461, hy461⟩ : ∃ y_ : List Int, y_ = (List.replicate (t460 : Int).toNat 0) := ⟨_, rfl⟩
 replace H : (shape_Spread.l0 k l0 l1 t457 (wrap64 ((l1.length : Int) - (l0.length : Int))) y461 (y461.length : Int) 0) = some r := by first | (rw [hy461]; with_reducible exact H) | (have H2_ := (Option.bind_some _ _).symm.trans H; rw [hy461]; with_reducible exact H2_) | (have H2_ := (Option.bind_some _ _).symm.trans H; with_reducible exact H2_) | with_reducible exact H | (rw [hy461]; exact H) | exact H
 have Ny461 := zA_ hy461
 clear hy461
 have H' := zA_ H
 clear H
 go_enter Tryz.func363, Tryz.ntmps363
 go_wp2_with (first | ((with_reducible refine gate_callee (f := 393) rfl ?_); refine zg_ (some 12) Tryz.func393 #[.slice A0 l0.length c0] (h := ?_); (with_reducible refine (shape_Strides.calls k _ _ l0 t457 _ ?side1 ?side2 A3.out).mono ?_); (case side1 => repeat (first | exact HR0.out | (with_reducible refine Kd.C_alloc ?_ _) | (with_reducible refine Kd.C_drewN ?_ _) | (with_reducible refine Kd.C_drew ?_))); (case side2 => exact HC0.out); rintro e w7 ⟨v458, rfl, ho0, hb⟩; refine ⟨_, rfl, ?_⟩; have HO459 := zA_ (Kd.R_lower ho0 (below_size (zw0_ HB))); replace HB := zA_ (below_step (zw0_ HB) hb); (try clear hb); (try clear ho0)) | ((with_reducible refine gate_callee (f := 305) rfl ?_); refine zg_ (some 19) Tryz.func305 #[.slice A1 l1.length c1] (h := ?_); (with_reducible refine (shape_Size.calls k _ _ l1 t460 _ ?side1 ?side2 A4.out).mono ?_); (case side1 => exact zk_ (Kd.C_below HR1.out HB.out)); (case side2 => exact HC1.out); rintro e w' ⟨rfl, ⟨nd, rfl⟩⟩; refine ⟨_, rfl, ?_⟩) | ((with_reducible refine gate_dst (N := 20) rfl ?_); refine Kd.R_make (Kd.int .i64) _ 3 rfl (N := 20) rfl 32 _ _ rfl t460 rfl rfl Tryz.underlying32 (.int .i64 0) 8 info3 rfl (by decide) (by omega) 0 (ok := fun _ => True) (okp := fun _ => True) rfl (fun _ hk => hk) trivial (zD_) (Nat.le_trans (Nat.mul_le_mul_right _ (zD_ : t460.toNat ≤ 35184372088832)) (by omega)) (Below.refl _ _) (Nat.le_refl _) ?_; intro v462 w8 ho9 hb hg_ hnew_; clear hg_ hnew_; (first | rw [← Ny461.out] at ho9 | (simp only [Int.reduceToNat] at ho9; rw [← Ny461.out] at ho9)); have HO463 := zA_ (Kd.R_lower (Kd.R_new' ho9 (Kd.R_lt (zr_ HO459.out))) (below_size (zw0_ HB))); replace HO459 := ze_ HO459 ho9 hb; replace HB := zA_ (below_step (zw0_ HB) hb); clear hb ho9; obtain ⟨Ao10, co10, eo10⟩ := Kd.R_slice HO463.out; subst eo10))
 go_loopg [23] k (fun kq v23 w' => ∃ (x7_1 : List Int) (x23_1 : Int), v23 = .int .i64 x23_1 ∧ Aside0 (shape_Spread.l0 kq l0 l1 t457 (wrap64 ((l1.length : Int) - (l0.length : Int))) x7_1 (y461.length : Int) x23_1 = some r) ∧ Aside0 (kq ≤ k) ∧ Aside0 (Kd.R (Kd.int .i64) 3 w' w.heap.size (fun k_ => some k_ ≠ ((.slice Ao10 y461.length co10) : Value).ownBlock) v458 t457) ∧ Aside0 (Kd.R (Kd.int .i64) 3 w' w.heap.size (fun k_ => some k_ ≠ (v458 : Value).ownBlock) (.slice Ao10 y461.length co10) x7_1) ∧ Aside0 (Below w.heap.size w w'))
 case atStart => exact ⟨(y461), (0), z1_, H', ⟨Nat.le_refl _⟩, ⟨zr_ (Kd.R_mono HO459.out (fun _ hk => hk.2))⟩, ⟨zr_ (Kd.R_mono HO463.out (fun _ hk => hk.2))⟩, ⟨zw0_ HB⟩⟩
 case round =>
  clear H'
  try clear p2
  try clear c5b0
  try clear c5b1
  try clear c6b0
  try clear c6b1
  try clear p6
  obtain ⟨x7_1, x23_1, rfl, HA, HK1, HO_5, HO_7, HB⟩ := hrel
  have hl7_1 := (Kd.R_reads' HO_7.out).1
  rw [hl7_1] at HO_7
  (try simp only [hl7_1])
  (try simp only [hl7_1] at HO_5)
  cases gk with
  | zero => exact absurd HA.out (by simp [shape_Spread.l0])
  | succ k1 =>
   have H := HA.out
   clear HA
   simp only [shape_Spread.l0] at H
   by_cases c11 : x23_1 < (y461.length : Int)
   rotate_left
   ·rw [if_neg c11] at H
    have c11b0 : decide (x23_1 < (y461.length : Int)) = false := decide_eq_false c11
    (try rw [hl7_1] at c11b0)
    clear c11
    obtain rfl := Option.some.inj H
    go_wp2
    go_ret
    exact ⟨_, z0_, zr_ (Kd.R_mono HO_7.out (fun _ hk => trivial)), zw0_ HB⟩
   rw [if_pos c11] at H
   have c11b0 : decide (x23_1 < (y461.length : Int)) = true := decide_eq_true c11
   (try rw [hl7_1] at c11b0)
   clear c11
   have H' := zA_ H
   clear H
   go_wp2
   go_loopg [9, 10] k1 (fun kq v9 v10 w' => ∃ (x7_2 : List Int) (x9_2 : Int) (x10_2 : Int), v9 = .int .i64 x9_2 ∧ v10 = .int .i64 x10_2 ∧ Aside0 (shape_Spread.l1 kq l0 l1 t457 (wrap64 ((l1.length : Int) - (l0.length : Int))) x7_2 x23_1 x9_2 x10_2 (y461.length : Int) x23_1 = some r) ∧ Aside0 (kq ≤ k1) ∧ Aside0 (Kd.R (Kd.int .i64) 3 w' w.heap.size (fun k_ => some k_ ≠ ((.slice Ao10 x7_1.length co10) : Value).ownBlock) v458 t457) ∧ Aside0 (Kd.R (Kd.int .i64) 3 w' w.heap.size (fun k_ => some k_ ≠ (v458 : Value).ownBlock) (.slice Ao10 x7_1.length co10) x7_2) ∧ Aside0 (Below w.heap.size w w'))
   case atStart => exact ⟨(x7_1), (x23_1), (wrap64 ((l1.length : Int) - 1)), z1_, z1_, H', ⟨Nat.le_refl _⟩, ⟨by (try simp only [hl7_1]); (with_reducible repeat (first | apply Kd.R_alloc | apply Kd.R_drewN | apply Kd.R_drew)); exact HO_5.out⟩, ⟨by (try simp only [hl7_1]); (with_reducible repeat (first | apply Kd.R_alloc | apply Kd.R_drewN | apply Kd.R_drew)); exact HO_7.out⟩, ⟨zw0_ HB⟩⟩
   case round =>
    clear H'
    try clear p2
    try clear c5b0
    try clear c5b1
    try clear c6b0
    try clear c6b1
    try clear p6
    try clear c11b0
    try clear p2
    try clear p6
    obtain ⟨x7_2, x9_2, x10_2, rfl, rfl, HA, HK2, HO_5, HO_7, HB⟩ := hrel
    have hl7_2 := (Kd.R_reads' HO_7.out).1
    rw [hl7_2] at HO_7
    (try simp only [hl7_2])
    (try simp only [hl7_2] at HO_5)
    cases gk with
    | zero => exact absurd HA.out (by simp [shape_Spread.l1])
    | succ k2 =>
     have H := HA.out
     clear HA
     simp only [shape_Spread.l1] at H
     by_cases c12 : x10_2 ≥ (wrap64 ((l1.length : Int) - (l0.length : Int)))
     rotate_left
     ·rw [if_neg c12] at H
      have c12b0 : decide ((wrap64 ((l1.length : Int) - (l0.length : Int))) ≤ x10_2) = false := decide_eq_false c12
      clear c12
      have H' := zA_ H
      clear H
      go_wp2
      (try simp only [← hl7_1, ← hl7_2])
      go_roundg k2
      case measure => have := HK1.out; have := HK2.out; omega
      case rel => exact ⟨(x7_2), (wrap64 (x23_1 + 1)), z1_, H', ⟨by have := HK1.out; have := HK2.out; omega⟩, ⟨by (try simp only [hl7_1]); (try simp only [hl7_2]); (with_reducible repeat (first | apply Kd.R_alloc | apply Kd.R_drewN | apply Kd.R_drew)); exact HO_5.out⟩, ⟨by (try simp only [hl7_1]); (try simp only [hl7_2]); (with_reducible repeat (first | apply Kd.R_alloc | apply Kd.R_drewN | apply Kd.R_drew)); exact HO_7.out⟩, ⟨zw0_ HB⟩⟩
     rw [if_pos c12] at H
     have c12b0 : decide ((wrap64 ((l1.length : Int) - (l0.length : Int))) ≤ x10_2) = true := decide_eq_true c12
     clear c12
     obtain ⟨ji13, hji13⟩ : ∃ j_ : Int, (wrap64 (x10_2 - (wrap64 ((l1.length : Int) - (l0.length : Int))))) = j_ := ⟨_, rfl⟩
     replace H : (if 0 ≤ (ji13) then (if (ji13) < (l0.length : Int) then (if (rd l0 (ji13)) > 1 then (if 0 ≤ x23_1 then (if x23_1 < (x7_2.length : Int) then (if 0 ≤ x10_2 then (if x10_2 < (l1.length : Int) then (if (rd l1 x10_2) = 0 then (none) else (if (ji13) < (t457.length : Int) then (shape_Spread.l1 k2 l0 l1 t457 (wrap64 ((l1.length : Int) - (l0.length : Int))) (x7_2.set (x23_1 : Int).toNat (wrap64 ((rd x7_2 x23_1) + (wrap64 ((Int.tmod x9_2 (rd l1 x10_2)) * (rd t457 (ji13))))))) x23_1 (wrap64 (Int.tdiv x9_2 (rd l1 x10_2))) (wrap64 (x10_2 - 1)) (y461.length : Int) x23_1) else (none))) else (none)) else (none)) else (none)) else (none)) else (if 0 ≤ x10_2 then (if x10_2 < (l1.length : Int) then (if (rd l1 x10_2) = 0 then (none) else (shape_Spread.l1 k2 l0 l1 t457 (wrap64 ((l1.length : Int) - (l0.length : Int))) x7_2 x23_1 (wrap64 (Int.tdiv x9_2 (rd l1 x10_2))) (wrap64 (x10_2 - 1)) (y461.length : Int) x23_1)) else (none)) else (none))) else (none)) else (none)) = some r := by first | (rw [hji13] at H; exact H) | (simp only [hji13] at H ⊢; exact H)
     have hji13w : (IntKind.i64.wrap (x10_2 - (wrap64 ((l1.length : Int) - (l0.length : Int))))) = ji13 := (i64_w _).trans hji13
     by_cases c14 : 0 ≤ (ji13)
     rotate_left
     ·rw [if_neg c14] at H
      exact zN_ H
     rw [if_pos c14] at H
     have c14b0 : decide (0 ≤ (ji13)) = true := decide_eq_true c14
     clear c14
     by_cases c15 : (ji13) < (l0.length : Int)
     rotate_left
     ·rw [if_neg c15] at H
      exact zN_ H
     rw [if_pos c15] at H
     have c15b0 : decide ((ji13) < (l0.length : Int)) = true := decide_eq_true c15
     clear c15
     by_cases c16 : (rd l0 (ji13)) > 1
     rotate_left
     ·rw [if_neg c16] at H
      have c16b0 : decide (1 < (rd l0 (ji13))) = false := decide_eq_false c16
      clear c16
      by_cases c27 : 0 ≤ x10_2
      rotate_left
      ·rw [if_neg c27] at H
       exact zN_ H
      rw [if_pos c27] at H
      have c27b0 : decide (0 ≤ x10_2) = true := decide_eq_true c27
      clear c27
      by_cases c28 : x10_2 < (l1.length : Int)
      rotate_left
      ·rw [if_neg c28] at H
       exact zN_ H
      rw [if_pos c28] at H
      have c28b0 : decide (x10_2 < (l1.length : Int)) = true := decide_eq_true c28
      clear c28
      by_cases c29 : (rd l1 x10_2) = 0
      ·rw [if_pos c29] at H
       exact zN_ H
      rw [if_neg c29] at H
      have c29b0 : ((rd l1 x10_2) == 0) = false := beq_eq_false_iff_ne.mpr c29
      have c29b1 : ((rd l1 x10_2) != 0) = true := bne_iff_ne.mpr c29
      have H' := zA_ H
      clear H
      have p464 : 0 ≤ ((ji13) : Int) := zD_
      have q464 : (ji13) < (l0.length : Int) := zD_
      obtain ⟨ad464, e464, hx464_0⟩ := Kd.at_int HR0.out (ji13) p464 q464
      cases e464
      replace hx464_0 := (HB.out.cell (World.block_lt_of_cell? w _ hx464_0)).trans hx464_0
      replace p464 := eq_true p464
      replace q464 := eq_true q464
      have p470 : 0 ≤ (x10_2 : Int) := zD_
      have q470 : x10_2 < (l1.length : Int) := zD_
      obtain ⟨ad470, e470, hx470_0⟩ := Kd.at_int HR1.out x10_2 p470 q470
      cases e470
      replace hx470_0 := (HB.out.cell (World.block_lt_of_cell? w _ hx470_0)).trans hx470_0
      replace p470 := eq_true p470
      replace q470 := eq_true q470
      go_wp2
      (try simp only [← hl7_2])
      go_roundg k2
      case measure => have := HK1.out; have := HK2.out; omega
      case rel => exact ⟨(x7_2), (wrap64 (Int.tdiv x9_2 (rd l1 x10_2))), (wrap64 (x10_2 - 1)), z1_, z1_, H', ⟨by have := HK1.out; have := HK2.out; omega⟩, ⟨by (try simp only [hl7_1]); (try simp only [hl7_2]); (with_reducible repeat (first | apply Kd.R_alloc | apply Kd.R_drewN | apply Kd.R_drew)); exact HO_5.out⟩, ⟨by (try simp only [hl7_1]); (try simp only [hl7_2]); (with_reducible repeat (first | apply Kd.R_alloc | apply Kd.R_drewN | apply Kd.R_drew)); exact HO_7.out⟩, ⟨zw0_ HB⟩⟩
     rw [if_pos c16] at H
     have c16b0 : decide (1 < (rd l0 (ji13))) = true := decide_eq_true c16
     clear c16
     by_cases c17 : 0 ≤ x23_1
     rotate_left
     ·rw [if_neg c17] at H
      exact zN_ H
     rw [if_pos c17] at H
     have c17b0 : decide (0 ≤ x23_1) = true := decide_eq_true c17
     clear c17
     by_cases c18 : x23_1 < (x7_2.length : Int)
     rotate_left
     ·rw [if_neg c18] at H
      exact zN_ H
     rw [if_pos c18] at H
     have c18b0 : decide (x23_1 < (x7_2.length : Int)) = true := decide_eq_true c18
     clear c18
     by_cases c19 : 0 ≤ x10_2
     rotate_left
     ·rw [if_neg c19] at H
      exact zN_ H
     rw [if_pos c19] at H
     have c19b0 : decide (0 ≤ x10_2) = true := decide_eq_true c19
     clear c19
     by_cases c20 : x10_2 < (l1.length : Int)
     rotate_left
     ·rw [if_neg c20] at H
      exact zN_ H
     rw [if_pos c20] at H
     have c20b0 : decide (x10_2 < (l1.length : Int)) = true := decide_eq_true c20
     clear c20
     by_cases c21 : (rd l1 x10_2) = 0
     ·rw [if_pos c21] at H
      exact zN_ H
     rw [if_neg c21] at H
     have c21b0 : ((rd l1 x10_2) == 0) = false := beq_eq_false_iff_ne.mpr c21
     have c21b1 : ((rd l1 x10_2) != 0) = true := bne_iff_ne.mpr c21
     by_cases c22 : (ji13) < (t457.length : Int)
     rotate_left
     ·rw [if_neg c22] at H
      exact zN_ H
     rw [if_pos c22] at H
     have c22b0 : decide ((ji13) < (t457.length : Int)) = true := decide_eq_true c22
     clear c22
     obtain ⟨y468, hy468⟩ : ∃ y_ : List Int, y_ = (x7_2.set (x23_1 : Int).toNat (wrap64 ((rd x7_2 x23_1) + (wrap64 ((Int.tmod x9_2 (rd l1 x10_2)) * (rd t457 (ji13))))))) := ⟨_, rfl⟩
     replace H : (shape_Spread.l1 k2 l0 l1 t457 (wrap64 ((l1.length : Int) - (l0.length : Int))) y468 x23_1 (wrap64 (Int.tdiv x9_2 (rd l1 x10_2))) (wrap64 (x10_2 - 1)) (y461.length : Int) x23_1) = some r := by first | (rw [hy468]; with_reducible exact H) | (have H2_ := (Option.bind_some _ _).symm.trans H; rw [hy468]; with_reducible exact H2_) | (have H2_ := (Option.bind_some _ _).symm.trans H; with_reducible exact H2_) | with_reducible exact H | (rw [hy468]; exact H) | exact H
     have Ny468 := zA_ hy468
     clear hy468
     have H' := zA_ H
     clear H
     have p464 : 0 ≤ ((ji13) : Int) := zD_
     have q464 : (ji13) < (l0.length : Int) := zD_
     obtain ⟨ad464, e464, hx464_0⟩ := Kd.at_int HR0.out (ji13) p464 q464
     cases e464
     replace hx464_0 := (HB.out.cell (World.block_lt_of_cell? w _ hx464_0)).trans hx464_0
     replace p464 := eq_true p464
     replace q464 := eq_true q464
     try go_wp2
     replace HO_5 := zA_ (Kd.R_drew HO_5.out)
     replace HO_7 := zA_ (Kd.R_drew HO_7.out)
     replace HB := zA_ (below_drew1 HB.out)
     have p465 : 0 ≤ (x23_1 : Int) := zD_
     have q465 : x23_1 < (x7_2.length : Int) := zD_
     obtain ⟨ad465, e465, hx465_0⟩ := Kd.at_int (Kd.R_reads' HO_7.out).2.2 x23_1 p465 q465
     cases e465
     replace p465 := eq_true p465
     replace q465 := eq_true q465
     have p466 : 0 ≤ (x10_2 : Int) := zD_
     have q466 : x10_2 < (l1.length : Int) := zD_
     obtain ⟨ad466, e466, hx466_0⟩ := Kd.at_int HR1.out x10_2 p466 q466
     have hw466_0 := hx466_0
     cases e466
     replace hx466_0 := (HB.out.cell (World.block_lt_of_cell? w _ hx466_0)).trans hx466_0
     replace p466 := eq_true p466
     replace q466 := eq_true q466
     obtain ⟨Ao25, co25, eo25⟩ := Kd.R_slice HO_5.out
     (first | subst eo25 | (injection eo25 with f1_ f2_ f3_; have f4_ := f1_.symm; have f5_ := f3_.symm; clear f1_ f2_ f3_; subst f4_; subst f5_))
     have p467 : 0 ≤ ((ji13) : Int) := zD_
     have q467 : (ji13) < (t457.length : Int) := zD_
     obtain ⟨ad467, e467, hx467_0⟩ := Kd.at_int (Kd.R_reads' HO_5.out).2.2 (ji13) p467 q467
     cases e467
     replace p467 := eq_true p467
     replace q467 := eq_true q467
     have p23 : 0 ≤ (x23_1 : Int) := zD_
     have q23 : (x23_1 : Int) < ((x7_2.length : Int) : Int) := zD_
     obtain ⟨go23, co23, eo23, gb23, gl23, cl23, HG23⟩ := Kd.R_form HO_7.out (by omega)
     (first | cases eo23 | (injection eo23 with ea_ en_ ec_; (first | subst ea_ | (injection ea_ with ea_; subst ea_)); subst ec_; clear en_))
     have GB23 := zA_ gb23
     have GG23 := zA_ HG23
     clear gb23 gl23 HG23
     (first | simp only [add_plain] at hx465_0 | skip)
     obtain ⟨hx23_0, hf23_0⟩ := Kd.R_celln 0 HO_7.out (x23_1 : Int) p23 q23
     replace p23 := eq_true p23
     replace q23 := eq_true q23
     have HP26 := Kd.R_putn HO_7.out (x23_1 : Int) (wrap64 ((rd x7_2 x23_1) + (wrap64 ((Int.tmod x9_2 (rd l1 x10_2)) * (rd t457 (ji13))))))
     rw [← Ny468.out] at HP26
     have HQ26 := zA_ HP26
     clear HP26
     refine start_ (n := 20) (S := fun w' => w'.cell? ⟨go23, (x23_1).toNat, none⟩ = some (.int .i64 (rd x7_2 x23_1)) ∧ w'.cell? (ad466.add (x10_2).toNat) = some (.int .i64 (rd l1 x10_2)) ∧ w'.cell? (ad467.add ((ji13)).toNat) = some (.int .i64 (rd t457 (ji13)))) (ds := [19]) #[false, false, false, false, false, false, false, false, false, false, false, false, false, false, false, false, false, false, false, false] (by kernel_rfl) rfl rfl ⟨hx465_0, ((HB.out.cell (World.block_lt_of_cell? w _ hw466_0)).trans hw466_0), hx467_0⟩ (fun hHeld => ?_); refine with_tabW shape_Spread.tab11 shape_Spread.bits11 (fun HT_ HW_ => ?_)
     generalize wr.drew = w24 at HO_5 HO_7 HB GG23 HQ26 hf23_0 hx23_0 hx465_0 hx466_0 hx467_0 hHeld ⊢
     refine yp_ ?_ 0 42
     refine yp_ ?_ 1 43
     refine yp_ ?_ 2 44
     refine yp_ ?_ 4 46
     refine yp_ ?_ 5 47
     refine yp_ ?_ 6 48
     refine yp_ ?_ 7 49
     refine yp_ ?_ 10 52
     refine yp_ ?_ 11 53
     refine yp_ ?_ 12 54
     refine yp_ ?_ 13 55
     refine yp_ ?_ 14 56
     refine yt3_ ?_ 3 45
     refine yt3_ ?_ 8 50
     refine yp_ ?_ 9 51
     refine yt3_ ?_ 15 57
     refine yp_ ?_ 16 58
     refine yp_ ?_ 17 59
     refine yp_ ?_ 18 60
     refine yl_ 19 none (fun K hK => ?_)
     refine skip_ (w1 := ?_) (by rfl) rfl ?_ ?_
     rotate_left
     ·go_simp
      rfl
     refine hK.out _ _ ?_
     clear hK K
     refine done_ (done_of HT_.out (by kernel_rfl)) ?_
     have p469 : 0 ≤ (x10_2 : Int) := zD_
     have q469 : x10_2 < (l1.length : Int) := zD_
     obtain ⟨ad469, e469, hx469_0⟩ := Kd.at_int HR1.out x10_2 p469 q469
     obtain rfl : ad466 = ad469 := (by injection e469)
     have hn469_0 : ad466.block ≠ go23 := Nat.ne_of_lt (Nat.lt_of_lt_of_le (by have := World.block_lt_of_cell? _ _ hx469_0; first | rwa [add_block] at this | exact this) GB23.out)
     replace hx469_0 := (HB.out.cell (World.block_lt_of_cell? w _ hx469_0)).trans hx469_0
     replace hx469_0 := (cell_far (p := ⟨go23, (x23_1 : Int).toNat, none⟩) (by first | (rw [add_block]; exact hn469_0) | (show (Addr.add _ _).block ≠ _; rw [add_block]; exact hn469_0) | exact hn469_0) (.int .i64 (wrap64 ((rd x7_2 x23_1) + (wrap64 ((Int.tmod x9_2 (rd l1 x10_2)) * (rd t457 (ji13)))))))).trans hx469_0
     clear hn469_0
     replace p469 := eq_true p469
     replace q469 := eq_true q469
     try go_wp2
     (try simp only [← hl7_2])
     go_roundg k2
     case measure => have := HK1.out; have := HK2.out; omega
     case rel => exact ⟨(y468), (wrap64 (Int.tdiv x9_2 (rd l1 x10_2))), (wrap64 (x10_2 - 1)), z1_, z1_, H', ⟨by have := HK1.out; have := HK2.out; omega⟩, ⟨by (try simp only [hl7_1]); (try simp only [hl7_2]); (with_reducible repeat (first | apply Kd.R_alloc | apply Kd.R_drewN | apply Kd.R_drew)); exact Kd.R_mono (Kd.R_far (p := ⟨go23, (x23_1 : Int).toNat, none⟩) (Kd.R_mono HO_5.out (fun k_ hk => (⟨hk, fun e_ => hk (by rw [e_]; rfl)⟩ : _ ∧ k_ ≠ go23))) (fun _ hk => hk.2) (.int .i64 (wrap64 ((rd x7_2 x23_1) + (wrap64 ((Int.tmod x9_2 (rd l1 x10_2)) * (rd t457 (ji13)))))))) (fun _ hk => hk.1)⟩, ⟨by (try simp only [hl7_1]); (try simp only [hl7_2]); (with_reducible repeat (first | apply Kd.R_alloc | apply Kd.R_drewN | apply Kd.R_drew)); exact HQ26.out⟩, ⟨by repeat (first | (with_reducible first | exact HB.out | apply below_alloc | apply pw_below_drewN | apply below_drew1 | refine below_set ?_ GB23.out) | exact HB.out)⟩⟩
def fix_size.f (a0 : Int) : Option (Int) := if a0 < 0 then (some (IntKind.u64.wrap (-(IntKind.u64.wrap (a0))))) else (some (IntKind.u64.wrap (a0)))
theorem fix_size.calls (a0 : Int) (r : Int) (w : World) (h : fix_size.f a0 = some r) :
  Calls Tryz.prog 78 #[.int .i64 a0] w fun e w' => e = .returned (.int .u64 r) ∧ Drawn0 w w' := by
 have H : (if a0 < 0 then (some (IntKind.u64.wrap (-(IntKind.u64.wrap (a0))))) else (some (IntKind.u64.wrap (a0)))) = some r := h
 clear h
 by_cases c2 : a0 < 0
 ·rw [if_pos c2] at H
  have c2b0 : decide (a0 < 0) = true := decide_eq_true c2
  clear c2
  obtain rfl := Option.some.inj H
  go_enter Tryz.func78, Tryz.ntmps78
  go_wp2
  go_ret
  exact ⟨z1_, zE_⟩
 rw [if_neg c2] at H
 have c2b0 : decide (a0 < 0) = false := decide_eq_false c2
 clear c2
 obtain rfl := Option.some.inj H
 go_enter Tryz.func78, Tryz.ntmps78
 go_wp2
 go_ret
 exact ⟨z1_, zE_⟩
def XCalls (P : Program) (f : FuncId) (args : Array Value) (w : World) (R : Ending → World → Prop) : Prop :=
 ∃ v, (callFunc f args).run P w = .ok (.value v) w ∧ R (.returned v) w
theorem XCalls.mono {P : Program} {f : FuncId} {args : Array Value} {w : World} {R R' : Ending → World → Prop} (h : XCalls P f args w R) (k : ∀ e w', R e w' → R' e w') : XCalls P f args w R' := by
 obtain ⟨v, h1, h2⟩ := h
 exact ⟨v, h1, k _ _ h2⟩
theorem goesX_ {P : Program} {ops : Array Oper} {Q : Exit → Act → World → Prop} {rest : List Oper} {oi : Oper} {a : Act} {w : World} (N : Option Tmp) (hd : oi.dst = N) (hg : oi.guard = none) {f : FuncId} {xs : Array Operand} {ts : Array TypeId} (args : Array Value)
  (hop : oi.op = .call { callee := .value (.func f), args := xs, argTypes := ts }) (hargs : xs.map a.eval = args)
  (h : XCalls P f args w fun e w' => ∃ v, e = .returned v ∧ wpList P ops Q rest (a.put N v) w') : wpList P ops Q (oi :: rest) a w := by
 obtain ⟨v, h1, v', h2, h3⟩ := h
 cases h2
 refine Kd.event_run hg ?_ (by rw [hd]; exact h3)
 unfold execOp
 simp [hop, resolve, Deferred.ofValue, invoke, Act.eval, hargs, h1]
def bits_Add64.f (a0 a1 a2 : Int) : Option (Int × Int) := if 0 ≤ a0 ∧ 0 ≤ a1 ∧ 0 ≤ a2 ∧ a2 ≤ 1 then some ((a0 + a1 + a2) % 18446744073709551616, (a0 + a1 + a2) / 18446744073709551616) else none
theorem bits_Add64.calls (a0 a1 a2 r1 r2 : Int) (w : World) (h : bits_Add64.f a0 a1 a2 = some (r1, r2)) :
  XCalls Tryz.prog 356 #[.int .u64 a0, .int .u64 a1, .int .u64 a2] w fun e w' => e = .returned (.tuple #[.int .u64 r1, .int .u64 r2]) ∧ Drawn0 w w' := by
 unfold bits_Add64.f at h
 split at h
 ·rename_i hc
  simp only [Option.some.injEq, Prod.mk.injEq] at h
  obtain ⟨rfl, rfl⟩ := h
  refine ⟨_, ?_, rfl, Drawn0.refl _⟩
  rw [run_callFunc_extern (e := add64Entry) Tryz.func356 rfl (by kernel_rfl) (by kernel_rfl) (by kernel_rfl), run_add64 a0 a1 a2 hc.1 hc.2.1 hc.2.2.1 hc.2.2.2]
  rfl
 ·cases h
def fix_held.j0 : Nat → Int → Int → Bool → Bool → Option (Int)
 | 0, _, _, _, _ => none
 | k + 1, x0, x1, x2, x7 => if x7 = true then (none) else (if x2 = true then (some (wrap64 (-(wrap64 (x1))))) else (if x0 > 0 then (none) else (if x1 ≥ 9223372036854775808 then (none) else (some (wrap64 (x1))))))
def fix_held.f (k : Nat) (a0 : Int) (a1 : Int) (a2 : Bool) : Option (Int) := if a2 = true then (if a0 > 0 then (fix_held.j0 k a0 a1 a2 true) else (fix_held.j0 k a0 a1 a2 (decide (a1 ≥ 9223372036854775808)))) else (fix_held.j0 k a0 a1 a2 false)
theorem fix_held.calls (k : Nat) (a0 : Int) (a1 : Int) (a2 : Bool) (r : Int) (w : World) (h : fix_held.f k a0 a1 a2 = some r) :
  Calls Tryz.prog 357 #[.int .u64 a0, .int .u64 a1, .bool a2] w fun e w' => e = .returned (.int .i64 r) ∧ Drawn0 w w' := by
 have H : (if a2 = true then (if a0 > 0 then (fix_held.j0 k a0 a1 a2 true) else (fix_held.j0 k a0 a1 a2 (decide (a1 ≥ 9223372036854775808)))) else (fix_held.j0 k a0 a1 a2 false)) = some r := h
 clear h
 have HC4 := zA_ H
 clear H
 go_enter Tryz.func357, Tryz.ntmps357
 go_upto_region 1 with (fail)
 go_cut [7] (fun v7 wc => ∃ (kq : Nat) (x7_3 : Bool), v7 = .bool x7_3 ∧ Aside0 (fix_held.j0 kq a0 a1 a2 x7_3 = some r) ∧ Aside0 (kq ≤ k) ∧ Drawn0 w wc)
 case first =>
  have H := HC4.out
  clear HC4
  by_cases c5 : a2 = true
  rotate_left
  ·replace c5 := Bool.eq_false_iff.mpr c5
   subst c5
   have H1 : (fix_held.j0 k a0 a1 false false) = some r := by rw [if_neg (show ¬ (false = true) by decide)] at H; exact H
   clear H
   have H := H1
   clear H1
   have H' := zA_ H
   clear H
   go_wp2
   go_meet
   case rel => exact ⟨_, (false), z1_, H', ⟨by first | omega | exact Nat.le_refl _⟩, by repeat (first | exact Drawn0.refl _ | apply Drawn0.step)⟩
  subst c5
  have H1 := H
  rw [if_pos rfl] at H1
  clear H
  have H := H1
  clear H1
  by_cases c6 : a0 > 0
  ·rw [if_pos c6] at H
   have c6b0 : decide (0 < a0) = true := decide_eq_true c6
   clear c6
   (first | rw [c6b0] | (simp only [i64_w, i32_w]; rw [c6b0]) | skip)
   have H' := zA_ H
   clear H
   go_wp2
   go_meet
   case rel => exact ⟨_, (true), z1_, H', ⟨by first | omega | exact Nat.le_refl _⟩, by repeat (first | exact Drawn0.refl _ | apply Drawn0.step)⟩
  rw [if_neg c6] at H
  have c6b0 : decide (0 < a0) = false := decide_eq_false c6
  clear c6
  (first | rw [c6b0] | (simp only [i64_w, i32_w]; rw [c6b0]) | skip)
  have H' := zA_ H
  clear H
  go_wp2
  go_meet
  case rel => exact ⟨_, (decide (a1 ≥ 9223372036854775808)), z1_, H', ⟨by first | omega | exact Nat.le_refl _⟩, by repeat (first | exact Drawn0.refl _ | apply Drawn0.step)⟩
 case rest =>
  clear HC4
  try clear p2
  try clear c6b0
  obtain ⟨kq, x7_3, rfl, HA, HJ3, ⟨mc3, rfl⟩⟩ := hcut
  cases kq with
  | zero => exact absurd HA.out (by simp [fix_held.j0])
  | succ kj3 =>
   have H := HA.out
   clear HA
   simp only [fix_held.j0] at H
   by_cases c7 : x7_3 = true
   ·subst c7
    have H1 : (none) = some r := by rw [if_pos rfl] at H; exact H
    clear H
    have H := H1
    clear H1
    exact zN_ H
   replace c7 := Bool.eq_false_iff.mpr c7
   subst c7
   have H1 := H
   rw [if_neg (show ¬ (false = true) by decide)] at H1
   clear H
   have H := H1
   clear H1
   by_cases c8 : a2 = true
   ·subst c8
    have H1 : (some (wrap64 (-(wrap64 (a1))))) = some r := by rw [if_pos rfl] at H; exact H
    clear H
    have H := H1
    clear H1
    obtain rfl := Option.some.inj H
    go_wp2
    go_ret
    exact ⟨z1_, zE_⟩
   replace c8 := Bool.eq_false_iff.mpr c8
   subst c8
   have H1 := H
   rw [if_neg (show ¬ (false = true) by decide)] at H1
   clear H
   have H := H1
   clear H1
   by_cases c9 : a0 > 0
   ·rw [if_pos c9] at H
    exact zN_ H
   rw [if_neg c9] at H
   have c9b0 : decide (0 < a0) = false := decide_eq_false c9
   clear c9
   by_cases c10 : a1 ≥ 9223372036854775808
   ·rw [if_pos c10] at H
    exact zN_ H
   rw [if_neg c10] at H
   have c10b0 : decide (9223372036854775808 ≤ a1) = false := decide_eq_false c10
   clear c10
   obtain rfl := Option.some.inj H
   go_wp2
   go_ret
   exact ⟨z1_, zE_⟩
def fix_Mul.j0 : Nat → Int → Int → Int → Int → Bool → Option (Int)
 | 0, _, _, _, _, _ => none
 | k + 1, x0, x1, x8, x9, x38 => if x38 = true then (none) else ((fix_held.f k x9 x8 ((decide (x0 < 0)) != (decide (x1 < 0)))).bind fun t475 => (some t475))
def fix_Mul.f (k : Nat) (a0 : Int) (a1 : Int) : Option (Int) := (fix_size.f a0).bind fun t471 => ((fix_size.f a1).bind fun t472 => ((bits_Mul64.f t471 t472).bind fun bt473 => (if (Go.bits .and .u64 bt473.2 4294967295) > 2147483648 then (fix_Mul.j0 k a0 a1 (Go.bits .or .u64 (IntKind.u64.wrap (bt473.1 * 4294967296)) (bt473.2 / 4294967296)) (bt473.1 / 4294967296) true) else (if (Go.bits .and .u64 bt473.2 4294967295) = 2147483648 then (fix_Mul.j0 k a0 a1 (Go.bits .or .u64 (IntKind.u64.wrap (bt473.1 * 4294967296)) (bt473.2 / 4294967296)) (bt473.1 / 4294967296) ((Go.bits .and .u64 (Go.bits .or .u64 (IntKind.u64.wrap (bt473.1 * 4294967296)) (bt473.2 / 4294967296)) 1) == 1)) else (fix_Mul.j0 k a0 a1 (Go.bits .or .u64 (IntKind.u64.wrap (bt473.1 * 4294967296)) (bt473.2 / 4294967296)) (bt473.1 / 4294967296) false)))))
theorem fix_Mul.calls (k : Nat) (a0 : Int) (a1 : Int) (r : Int) (w : World) (h : fix_Mul.f k a0 a1 = some r) :
  Calls Tryz.prog 330 #[.int .i64 a0, .int .i64 a1] w fun e w' => e = .returned (.int .i64 r) ∧ Drawn0 w w' := by
 have H : ((fix_size.f a0).bind fun t471 => ((fix_size.f a1).bind fun t472 => ((bits_Mul64.f t471 t472).bind fun bt473 => (if (Go.bits .and .u64 bt473.2 4294967295) > 2147483648 then (fix_Mul.j0 k a0 a1 (Go.bits .or .u64 (IntKind.u64.wrap (bt473.1 * 4294967296)) (bt473.2 / 4294967296)) (bt473.1 / 4294967296) true) else (if (Go.bits .and .u64 bt473.2 4294967295) = 2147483648 then (fix_Mul.j0 k a0 a1 (Go.bits .or .u64 (IntKind.u64.wrap (bt473.1 * 4294967296)) (bt473.2 / 4294967296)) (bt473.1 / 4294967296) ((Go.bits .and .u64 (Go.bits .or .u64 (IntKind.u64.wrap (bt473.1 * 4294967296)) (bt473.2 / 4294967296)) 1) == 1)) else (fix_Mul.j0 k a0 a1 (Go.bits .or .u64 (IntKind.u64.wrap (bt473.1 * 4294967296)) (bt473.2 / 4294967296)) (bt473.1 / 4294967296) false)))))) = some r := h
 clear h
 replace H := zO_ H
 obtain ⟨t471, A30, H⟩ := H
 (try dsimp only at H)
 have A3 := zA_ A30
 clear A30
 replace H := zO_ H
 obtain ⟨t472, A40, H⟩ := H
 (try dsimp only at H)
 have A4 := zA_ A40
 clear A40
 replace H := zO_ H
 obtain ⟨⟨t473, t474⟩, A50, H⟩ := H
 (try dsimp only at H)
 have A5 := zA_ A50
 clear A50
 have HC6 := zA_ H
 clear H
 go_enter Tryz.func330, Tryz.ntmps330
 go_upto_region 5 with (first | ((with_reducible refine gate_callee (f := 78) rfl ?_); refine zg_ (some 13) Tryz.func78 #[.int .i64 a0] (h := ?_); (with_reducible refine (fix_size.calls a0 t471 _ A3.out).mono ?_); rintro e w' ⟨rfl, ⟨nd, rfl⟩⟩; refine ⟨_, rfl, ?_⟩) | ((with_reducible refine gate_callee (f := 78) rfl ?_); refine zg_ (some 15) Tryz.func78 #[.int .i64 a1] (h := ?_); (with_reducible refine (fix_size.calls a1 t472 _ A4.out).mono ?_); rintro e w' ⟨rfl, ⟨nd, rfl⟩⟩; refine ⟨_, rfl, ?_⟩) | ((with_reducible refine gate_callee (f := 79) rfl ?_); refine zg_ (some 16) Tryz.func79 #[.int .u64 t471, .int .u64 t472] (h := ?_); (with_reducible refine (bits_Mul64.calls t471 t472 t473 t474 _ A5.out).mono ?_); rintro e w' ⟨rfl, ⟨nd, rfl⟩⟩; refine ⟨_, rfl, ?_⟩))
 (try simp only [Act.put, List.setIfInBounds_toArray, List.set_cons_zero, List.set_cons_succ])
 go_cut [38] (fun v38 wc => ∃ (kq : Nat) (x38_5 : Bool), v38 = .bool x38_5 ∧ Aside0 (fix_Mul.j0 kq a0 a1 (Go.bits .or .u64 (IntKind.u64.wrap (t473 * 4294967296)) (t474 / 4294967296)) (t473 / 4294967296) x38_5 = some r) ∧ Aside0 (kq ≤ k) ∧ Drawn0 w wc)
 case first =>
  have H := HC6.out
  clear HC6
  by_cases c7 : (Go.bits .and .u64 t474 4294967295) > 2147483648
  ·rw [if_pos c7] at H
   have c7b0 : decide (2147483648 < (Go.bits .and .u64 t474 4294967295)) = true := decide_eq_true c7
   clear c7
   (first | rw [c7b0] | (simp only [i64_w, i32_w]; rw [c7b0]) | skip)
   have H' := zA_ H
   clear H
   go_wp2
   go_meet
   case rel => exact ⟨_, (true), z1_, H', ⟨by first | omega | exact Nat.le_refl _⟩, by repeat (first | exact Drawn0.refl _ | apply Drawn0.step)⟩
  rw [if_neg c7] at H
  have c7b0 : decide (2147483648 < (Go.bits .and .u64 t474 4294967295)) = false := decide_eq_false c7
  clear c7
  (first | rw [c7b0] | (simp only [i64_w, i32_w]; rw [c7b0]) | skip)
  by_cases c8 : (Go.bits .and .u64 t474 4294967295) = 2147483648
  rotate_left
  ·rw [if_neg c8] at H
   have c8b0 : ((Go.bits .and .u64 t474 4294967295) == 2147483648) = false := beq_eq_false_iff_ne.mpr c8
   have c8b1 : ((Go.bits .and .u64 t474 4294967295) != 2147483648) = true := bne_iff_ne.mpr c8
   have H' := zA_ H
   clear H
   go_wp2
   go_meet
   case rel => exact ⟨_, (false), z1_, H', ⟨by first | omega | exact Nat.le_refl _⟩, by repeat (first | exact Drawn0.refl _ | apply Drawn0.step)⟩
  rw [if_pos c8] at H
  have c8b0 : ((Go.bits .and .u64 t474 4294967295) == 2147483648) = true := beq_iff_eq.mpr c8
  have c8b1 : ((Go.bits .and .u64 t474 4294967295) != 2147483648) = false := bne_eq_false_iff_eq.mpr c8
  clear c8
  have H' := zA_ H
  clear H
  go_wp2
  go_meet
  case rel => exact ⟨_, (((Go.bits .and .u64 (Go.bits .or .u64 (IntKind.u64.wrap (t473 * 4294967296)) (t474 / 4294967296)) 1) == 1)), z1_, H', ⟨by first | omega | exact Nat.le_refl _⟩, by repeat (first | exact Drawn0.refl _ | apply Drawn0.step)⟩
 case rest =>
  clear HC6
  try clear p2
  try clear c7b0
  try clear c8b0
  try clear c8b1
  obtain ⟨kq, x38_5, rfl, HA, HJ5, ⟨mc5, rfl⟩⟩ := hcut
  cases kq with
  | zero => exact absurd HA.out (by simp [fix_Mul.j0])
  | succ kj5 =>
   have H := HA.out
   clear HA
   simp only [fix_Mul.j0] at H
   by_cases c9 : x38_5 = true
   ·subst c9
    have H1 : (none) = some r := by rw [if_pos rfl] at H; exact H
    clear H
    have H := H1
    clear H1
    exact zN_ H
   replace c9 := Bool.eq_false_iff.mpr c9
   subst c9
   have H1 := H
   rw [if_neg (show ¬ (false = true) by decide)] at H1
   clear H
   have H := H1
   clear H1
   replace H := zO_ H
   obtain ⟨t475, A100, H⟩ := H
   replace H : (some t475) = some r := H
   have A10 := zA_ A100
   clear A100
   obtain rfl := Option.some.inj H
   go_wp2_with (first | ((with_reducible refine gate_callee (f := 357) rfl ?_); refine zg_ (some 54) Tryz.func357 #[.int .u64 (t473 / 4294967296), .int .u64 (Go.bits .or .u64 (IntKind.u64.wrap (t473 * 4294967296)) (t474 / 4294967296)), .bool ((decide (a0 < 0)) != (decide (a1 < 0)))] (h := ?_); (with_reducible refine (fix_held.calls kj5 (t473 / 4294967296) (Go.bits .or .u64 (IntKind.u64.wrap (t473 * 4294967296)) (t474 / 4294967296)) ((decide (a0 < 0)) != (decide (a1 < 0))) t475 _ A10.out).mono ?_); rintro e w' ⟨rfl, ⟨nd, rfl⟩⟩; refine ⟨_, rfl, ?_⟩))
   go_ret
   exact ⟨z1_, zE_⟩
mutual
def shape_Place.j0 : Nat → List Int → Int → Bool → Option (List Int × Bool)
 | 0, _, _, _ => none
 | k + 1, x0, x1, x15 => if x15 = true then (none) else (if 0 ≤ (x0.length : Int) then (if ((x0.length : Int) : Int).toNat ≤ 35184372088832 then (shape_Place.l0 k x0 x1 (List.replicate ((x0.length : Int) : Int).toNat 0) (wrap64 ((x0.length : Int) - 1))) else (none)) else (none))
def shape_Place.l0 : Nat → List Int → Int → List Int → Int → Option (List Int × Bool)
 | 0, _, _, _, _ => none
 | k + 1, x0, x1, x6, x7 => if x7 ≥ 0 then (if 0 ≤ x7 then (if x7 < (x0.length : Int) then (if (rd x0 x7) = 0 then (none) else (if x7 < (x6.length : Int) then (shape_Place.l0 k x0 (wrap64 (Int.tdiv x1 (rd x0 x7))) (x6.set (x7 : Int).toNat (Int.tmod x1 (rd x0 x7))) (wrap64 (x7 - 1))) else (none))) else (none)) else (none)) else (some (x6, true))
end
def shape_Place.f (k : Nat) (l0 : List Int) (a1 : Int) : Option (List Int × Bool) := if a1 < 0 then (shape_Place.j0 k l0 a1 true) else ((shape_Size.f k l0).bind fun t477 => (shape_Place.j0 k l0 a1 (decide (a1 ≥ t477))))
theorem shape_Place.calls (k : Nat) (A0 : Option Addr) (c0 : Nat) (l0 : List Int) (a1 : Int) (r1 : List Int) (r2 : Bool) (w : World) (hr0 : Kd.C (Kd.int .i64) w A0 l0.length l0) (hc0 : l0.length ≤ c0) (h : shape_Place.f k l0 a1 = some (r1, r2)) :
  Calls Tryz.prog 367 #[.slice A0 l0.length c0, .int .i64 a1] w fun e w' => ∃ v0_ : Value, e = .returned (.tuple #[v0_, .bool r2]) ∧ Kd.R (Kd.int .i64) 3 w' w.heap.size (fun _ => True) v0_ r1 ∧ Below w.heap.size w w' := by
 have HR0 := zA_ hr0
 have HC0 := zA_ hc0
 clear hr0 hc0
 have HB := zA_ (Below.refl w.heap.size w)
 have H : (if a1 < 0 then (shape_Place.j0 k l0 a1 true) else ((shape_Size.f k l0).bind fun t477 => (shape_Place.j0 k l0 a1 (decide (a1 ≥ t477))))) = some (r1, r2) := h
 clear h
 have HC3 := zA_ H
 clear H
 go_enter Tryz.func367, Tryz.ntmps367
 go_upto_region 1 with (fail)
 go_cut [15] (fun v15 wc => ∃ (kq : Nat) (x15_2 : Bool), v15 = .bool x15_2 ∧ Aside0 (shape_Place.j0 kq l0 a1 x15_2 = some (r1, r2)) ∧ Aside0 (kq ≤ k) ∧ Aside0 (Below w.heap.size w wc))
 case first =>
  have H := HC3.out
  clear HC3
  by_cases c4 : a1 < 0
  ·rw [if_pos c4] at H
   have c4b0 : decide (a1 < 0) = true := decide_eq_true c4
   clear c4
   (first | rw [c4b0] | (simp only [i64_w, i32_w]; rw [c4b0]) | skip)
   have H' := zA_ H
   clear H
   go_wp2
   go_meet
   case rel => exact ⟨_, (true), z1_, H', ⟨by first | omega | exact Nat.le_refl _⟩, ⟨zw0_ HB⟩⟩
  rw [if_neg c4] at H
  have c4b0 : decide (a1 < 0) = false := decide_eq_false c4
  clear c4
  (first | rw [c4b0] | (simp only [i64_w, i32_w]; rw [c4b0]) | skip)
  replace H := zO_ H
  obtain ⟨t477, A50, H⟩ := H
  replace H : (shape_Place.j0 k l0 a1 (decide (a1 ≥ t477))) = some (r1, r2) := H
  have A5 := zA_ A50
  clear A50
  have H' := zA_ H
  clear H
  go_wp2_with (first | (go_at_call 305; (with_reducible refine (shape_Size.calls k _ _ l0 t477 _ ?side1 ?side2 A5.out).mono ?_); (case side1 => exact zk_ (Kd.C_below HR0.out HB.out)); (case side2 => exact HC0.out); rintro e w' ⟨rfl, ⟨nd, rfl⟩⟩))
  go_meet
  case rel => exact ⟨_, (decide (a1 ≥ t477)), z1_, H', ⟨by first | omega | exact Nat.le_refl _⟩, ⟨zw0_ HB⟩⟩
 case rest =>
  clear HC3
  try clear p2
  try clear c4b0
  obtain ⟨kq, x15_2, rfl, HA, HJ2, HB⟩ := hcut
  cases kq with
  | zero => exact absurd HA.out (by simp [shape_Place.j0])
  | succ kj2 =>
   have H := HA.out
   clear HA
   simp only [shape_Place.j0] at H
   by_cases c6 : x15_2 = true
   ·subst c6
    have H1 : (none) = some (r1, r2) := by rw [if_pos rfl] at H; exact H
    clear H
    have H := H1
    clear H1
    exact zN_ H
   replace c6 := Bool.eq_false_iff.mpr c6
   subst c6
   have H1 := H
   rw [if_neg (show ¬ (false = true) by decide)] at H1
   clear H
   have H := H1
   clear H1
   by_cases c7 : 0 ≤ (l0.length : Int)
   rotate_left
   ·rw [if_neg c7] at H
    exact zN_ H
   rw [if_pos c7] at H
   have c7b0 := eq_true c7
   have c7b1 : decide (0 ≤ (l0.length : Int)) = true := decide_eq_true c7
   clear c7
   by_cases c8 : ((l0.length : Int) : Int).toNat ≤ 35184372088832
   rotate_left
   ·rw [if_neg c8] at H
    exact zN_ H
   rw [if_pos c8] at H
   have c8b0 := eq_true c8
   have c8b1 : decide (((l0.length : Int) : Int).toNat ≤ 35184372088832) = true := decide_eq_true c8
   clear c8
   obtain ⟨y478, hy478⟩ : ∃ y_ : List Int, y_ = (List.replicate ((l0.length : Int) : Int).toNat 0) := ⟨_, rfl⟩
   replace H : (shape_Place.l0 kj2 l0 a1 y478 (wrap64 ((l0.length : Int) - 1))) = some (r1, r2) := by first | (rw [hy478]; with_reducible exact H) | (have H2_ := (Option.bind_some _ _).symm.trans H; rw [hy478]; with_reducible exact H2_) | (have H2_ := (Option.bind_some _ _).symm.trans H; with_reducible exact H2_) | with_reducible exact H | (rw [hy478]; exact H) | exact H
   have Ny478 := zA_ hy478
   clear hy478
   have H' := zA_ H
   clear H
   go_wp2_with (first | ((with_reducible refine gate_dst (N := 18) rfl ?_); refine Kd.R_make (Kd.int .i64) _ 3 rfl (N := 18) rfl 32 _ _ rfl (l0.length : Int) rfl rfl Tryz.underlying32 (.int .i64 0) 8 info3 rfl (by decide) (by omega) 0 (ok := fun _ => True) (okp := fun _ => True) rfl (fun _ hk => hk) trivial (zD_) (Nat.le_trans (Nat.mul_le_mul_right _ (zD_ : (l0.length : Int).toNat ≤ 35184372088832)) (by omega)) (Below.refl _ _) (Nat.le_refl _) ?_; intro v479 w9 ho10 hb hg_ hnew_; clear hg_ hnew_; (first | rw [← Ny478.out] at ho10 | (simp only [Int.reduceToNat] at ho10; rw [← Ny478.out] at ho10)); have HO480 := zA_ (Kd.R_lower ho10 (below_size (zw0_ HB))); replace HB := zA_ (below_step (zw0_ HB) hb); clear hb ho10))
   go_loopg [1, 7] kj2 (fun kq v1 v7 w' => ∃ (x1_2 : Int) (x6_2 : List Int) (x7_2 : Int), v1 = .int .i64 x1_2 ∧ v7 = .int .i64 x7_2 ∧ Aside0 (shape_Place.l0 kq l0 x1_2 x6_2 x7_2 = some (r1, r2)) ∧ Aside0 (kq ≤ kj2) ∧ Aside0 (Kd.R (Kd.int .i64) 3 w' w.heap.size (fun _ => True) v479 x6_2) ∧ Aside0 (Below w.heap.size w w'))
   case atStart => exact ⟨(a1), (y478), (wrap64 ((l0.length : Int) - 1)), z1_, z1_, H', ⟨Nat.le_refl _⟩, ⟨zr_ HO480.out⟩, ⟨zw0_ HB⟩⟩
   case round =>
    clear H'
    try clear p2
    try clear c4b0
    try clear p6
    try clear c7b0
    try clear c7b1
    try clear c8b0
    try clear c8b1
    try clear p2
    obtain ⟨x1_2, x6_2, x7_2, rfl, rfl, HA, HK2, HO_6, HB⟩ := hrel
    cases gk with
    | zero => exact absurd HA.out (by simp [shape_Place.l0])
    | succ k2 =>
     have H := HA.out
     clear HA
     simp only [shape_Place.l0] at H
     by_cases c11 : x7_2 ≥ 0
     rotate_left
     ·rw [if_neg c11] at H
      have c11b0 : decide (0 ≤ x7_2) = false := decide_eq_false c11
      clear c11
      simp only [Option.some.injEq, Prod.mk.injEq] at H
      obtain ⟨rfl, rfl⟩ := H
      go_wp2
      go_ret2
      exact ⟨_, z0_, zr_ HO_6.out, zw0_ HB⟩
     rw [if_pos c11] at H
     have c11b0 : decide (0 ≤ x7_2) = true := decide_eq_true c11
     clear c11
     by_cases c12 : 0 ≤ x7_2
     rotate_left
     ·rw [if_neg c12] at H
      exact zN_ H
     rw [if_pos c12] at H
     have c12b0 : decide (0 ≤ x7_2) = true := decide_eq_true c12
     clear c12
     by_cases c13 : x7_2 < (l0.length : Int)
     rotate_left
     ·rw [if_neg c13] at H
      exact zN_ H
     rw [if_pos c13] at H
     have c13b0 : decide (x7_2 < (l0.length : Int)) = true := decide_eq_true c13
     clear c13
     by_cases c14 : (rd l0 x7_2) = 0
     ·rw [if_pos c14] at H
      exact zN_ H
     rw [if_neg c14] at H
     have c14b0 : ((rd l0 x7_2) == 0) = false := beq_eq_false_iff_ne.mpr c14
     have c14b1 : ((rd l0 x7_2) != 0) = true := bne_iff_ne.mpr c14
     by_cases c15 : x7_2 < (x6_2.length : Int)
     rotate_left
     ·rw [if_neg c15] at H
      exact zN_ H
     rw [if_pos c15] at H
     have c15b0 : decide (x7_2 < (x6_2.length : Int)) = true := decide_eq_true c15
     clear c15
     obtain ⟨y482, hy482⟩ : ∃ y_ : List Int, y_ = (x6_2.set (x7_2 : Int).toNat (Int.tmod x1_2 (rd l0 x7_2))) := ⟨_, rfl⟩
     replace H : (shape_Place.l0 k2 l0 (wrap64 (Int.tdiv x1_2 (rd l0 x7_2))) y482 (wrap64 (x7_2 - 1))) = some (r1, r2) := by first | (rw [hy482]; with_reducible exact H) | (have H2_ := (Option.bind_some _ _).symm.trans H; rw [hy482]; with_reducible exact H2_) | (have H2_ := (Option.bind_some _ _).symm.trans H; with_reducible exact H2_) | with_reducible exact H | (rw [hy482]; exact H) | exact H
     have Ny482 := zA_ hy482
     clear hy482
     have H' := zA_ H
     clear H
     have p481 : 0 ≤ (x7_2 : Int) := zD_
     have q481 : x7_2 < (l0.length : Int) := zD_
     obtain ⟨ad481, e481, hx481_0⟩ := Kd.at_int HR0.out x7_2 p481 q481
     cases e481
     replace hx481_0 := (HB.out.cell (World.block_lt_of_cell? w _ hx481_0)).trans hx481_0
     replace p481 := eq_true p481
     replace q481 := eq_true q481
     have p16 : 0 ≤ (x7_2 : Int) := zD_
     have q16 : (x7_2 : Int) < ((x6_2.length : Int) : Int) := zD_
     obtain ⟨go16, co16, eo16, gb16, gl16, cl16, HG16⟩ := Kd.R_form HO_6.out (by omega)
     (first | cases eo16 | (injection eo16 with ea_ en_ ec_; (first | subst ea_ | (injection ea_ with ea_; subst ea_)); subst ec_; clear en_))
     have GB16 := zA_ gb16
     have GG16 := zA_ HG16
     clear gb16 gl16 HG16
     obtain ⟨hx16_0, hf16_0⟩ := Kd.R_celln 0 HO_6.out (x7_2 : Int) p16 q16
     replace p16 := eq_true p16
     replace q16 := eq_true q16
     have HP17 := Kd.R_putg HO_6.out (x7_2 : Int) (Int.tmod x1_2 (rd l0 x7_2))
     go_wp2_with (first | ((with_reducible refine gate_store (t := 3) (p := 34) rfl ?_); refine store_event (t := 3) (p := 34) (v := ?vo_w18) (w1 := (wr.setCell ⟨go16, (x7_2 : Int).toNat, none⟩ (.int .i64 (Int.tmod x1_2 (rd l0 x7_2))))) ?hg ?ho ?hn ?hr ?_; (case ho => rfl); (case hg => rfl); (case hn => rfl); (case hr => first | (go_simp; done) | (go_simp; rfl)); intro w18 hw; have hg : wr.grownBy w18 (some go16) := (by rw [hw]; exact HP17.2); have hp_ : Kd.R (Kd.int .i64) 3 w18 w.heap.size (fun _ => True) (.slice (some ⟨go16, 0, none⟩) x6_2.length co16) y482 := (by rw [hw, Ny482.out]; exact HP17.1); clear HP17; replace HO_6 := zA_ (hp_); replace HB := zA_ ((by rw [hw]; exact below_set (HB.out) GB16.out : Below w.heap.size w w18)); clear hg hw hp_; have p483 : 0 ≤ (x7_2 : Int) := zD_; have q483 : x7_2 < (l0.length : Int) := zD_; obtain ⟨ad483, e483, hx483_0⟩ := Kd.at_int HR0.out x7_2 p483 q483; obtain rfl : ad481 = ad483 := (by injection e483); replace hx483_0 := (HB.out.cell (World.block_lt_of_cell? w _ hx483_0)).trans hx483_0; replace p483 := eq_true p483; replace q483 := eq_true q483))
     go_roundg k2
     case measure => have := HJ2.out; have := HK2.out; omega
     case rel => exact ⟨(wrap64 (Int.tdiv x1_2 (rd l0 x7_2))), (y482), (wrap64 (x7_2 - 1)), z1_, z1_, H', ⟨by have := HJ2.out; have := HK2.out; omega⟩, ⟨zr_ HO_6.out⟩, ⟨zw0_ HB⟩⟩
mutual
def shape_At.j0 : Nat → List Int → List Int → Bool → Option (Int × Bool)
 | 0, _, _, _ => none
 | k + 1, x0, x1, x18 => if x18 = true then (none) else (shape_At.l0 k x0 0 x1 (x1.length : Int) 0)
def shape_At.l0 : Nat → List Int → Int → List Int → Int → Int → Option (Int × Bool)
 | 0, _, _, _, _, _ => none
 | k + 1, x0, x6, x19, x20, x21 => if x21 < x20 then (if 0 ≤ x21 then (if x21 < (x19.length : Int) then (if (rd x19 x21) < 0 then (none) else (if x21 < (x0.length : Int) then (if (rd x19 x21) ≥ (rd x0 x21) then (none) else (shape_At.l0 k x0 (wrap64 ((wrap64 (x6 * (rd x0 x21))) + (rd x19 x21))) x19 x20 (wrap64 (x21 + 1)))) else (none))) else (none)) else (none)) else (some (x6, true))
end
def shape_At.f (k : Nat) (l0 : List Int) (l1 : List Int) : Option (Int × Bool) := (shape_Good.f k l0).bind fun t484 => (if t484 = true then (shape_At.j0 k l0 l1 ((l1.length : Int) != (l0.length : Int))) else (shape_At.j0 k l0 l1 true))
theorem shape_At.calls (k : Nat) (A0 : Option Addr) (c0 : Nat) (l0 : List Int) (A1 : Option Addr) (c1 : Nat) (l1 : List Int) (r1 : Int) (r2 : Bool) (w : World) (hr0 : Kd.C (Kd.int .i64) w A0 l0.length l0) (hc0 : l0.length ≤ c0) (hr1 : Kd.C (Kd.int .i64) w A1 l1.length l1) (hc1 : l1.length ≤ c1) (h : shape_At.f k l0 l1 = some (r1, r2)) :
  Calls Tryz.prog 368 #[.slice A0 l0.length c0, .slice A1 l1.length c1] w fun e w' => e = .returned (.tuple #[.int .i64 r1, .bool r2]) ∧ Drawn0 w w' := by
 have HR0 := zA_ hr0
 have HC0 := zA_ hc0
 clear hr0 hc0
 have HR1 := zA_ hr1
 have HC1 := zA_ hc1
 clear hr1 hc1
 have H : ((shape_Good.f k l0).bind fun t484 => (if t484 = true then (shape_At.j0 k l0 l1 ((l1.length : Int) != (l0.length : Int))) else (shape_At.j0 k l0 l1 true))) = some (r1, r2) := h
 clear h
 have HC3 := zA_ H
 clear H
 go_enter Tryz.func368, Tryz.ntmps368
 go_upto_region 1 with (fail)
 go_cut [18] (fun v18 wc => ∃ (kq : Nat) (x18_2 : Bool), v18 = .bool x18_2 ∧ Aside0 (shape_At.j0 kq l0 l1 x18_2 = some (r1, r2)) ∧ Aside0 (kq ≤ k) ∧ Drawn0 w wc)
 case first =>
  have H := HC3.out
  clear HC3
  replace H := zO_ H
  obtain ⟨t484, A40, H⟩ := H
  replace H : (if t484 = true then (shape_At.j0 k l0 l1 ((l1.length : Int) != (l0.length : Int))) else (shape_At.j0 k l0 l1 true)) = some (r1, r2) := H
  have A4 := zA_ A40
  clear A40
  by_cases c5 : t484 = true
  ·subst c5
   have H1 : (shape_At.j0 k l0 l1 ((l1.length : Int) != (l0.length : Int))) = some (r1, r2) := by rw [if_pos rfl] at H; exact H
   clear H
   have H := H1
   clear H1
   have H' := zA_ H
   clear H
   go_wp2_with (first | ((with_reducible refine gate_callee (f := 242) rfl ?_); refine zg_ (some 10) Tryz.func242 #[.slice A0 l0.length c0] (h := ?_); (with_reducible refine (shape_Good.calls k _ _ l0 true _ ?side1 ?side2 A4.out).mono ?_); (case side1 => repeat (first | exact HR0.out | (with_reducible refine Kd.C_alloc ?_ _) | (with_reducible refine Kd.C_drewN ?_ _) | (with_reducible refine Kd.C_drew ?_))); (case side2 => exact HC0.out); rintro e w' ⟨rfl, ⟨nd, rfl⟩⟩; refine ⟨_, rfl, ?_⟩))
   go_meet
   case rel => exact ⟨_, (((l1.length : Int) != (l0.length : Int))), z1_, H', ⟨by first | omega | exact Nat.le_refl _⟩, by repeat (first | exact Drawn0.refl _ | apply Drawn0.step)⟩
  replace c5 := Bool.eq_false_iff.mpr c5
  subst c5
  have H1 : (shape_At.j0 k l0 l1 true) = some (r1, r2) := by rw [if_neg (show ¬ (false = true) by decide)] at H; exact H
  clear H
  have H := H1
  clear H1
  have H' := zA_ H
  clear H
  go_wp2_with (first | ((with_reducible refine gate_callee (f := 242) rfl ?_); refine zg_ (some 10) Tryz.func242 #[.slice A0 l0.length c0] (h := ?_); (with_reducible refine (shape_Good.calls k _ _ l0 false _ ?side1 ?side2 A4.out).mono ?_); (case side1 => repeat (first | exact HR0.out | (with_reducible refine Kd.C_alloc ?_ _) | (with_reducible refine Kd.C_drewN ?_ _) | (with_reducible refine Kd.C_drew ?_))); (case side2 => exact HC0.out); rintro e w' ⟨rfl, ⟨nd, rfl⟩⟩; refine ⟨_, rfl, ?_⟩))
  go_meet
  case rel => exact ⟨_, (true), z1_, H', ⟨by first | omega | exact Nat.le_refl _⟩, by repeat (first | exact Drawn0.refl _ | apply Drawn0.step)⟩
 case rest =>
  clear HC3
  try clear p2
  obtain ⟨kq, x18_2, rfl, HA, HJ2, ⟨mc2, rfl⟩⟩ := hcut
  cases kq with
  | zero => exact absurd HA.out (by simp [shape_At.j0])
  | succ kj2 =>
   have H := HA.out
   clear HA
   simp only [shape_At.j0] at H
   by_cases c6 : x18_2 = true
   ·subst c6
    have H1 : (none) = some (r1, r2) := by rw [if_pos rfl] at H; exact H
    clear H
    have H := H1
    clear H1
    exact zN_ H
   replace c6 := Bool.eq_false_iff.mpr c6
   subst c6
   have H1 : (shape_At.l0 kj2 l0 0 l1 (l1.length : Int) 0) = some (r1, r2) := by rw [if_neg (show ¬ (false = true) by decide)] at H; exact H
   clear H
   have H := H1
   clear H1
   have H' := zA_ H
   clear H
   go_wp2
   go_loopg [6, 21] kj2 (fun kq v6 v21 w' => ∃ (x6_2 : Int) (x21_2 : Int), v6 = .int .i64 x6_2 ∧ v21 = .int .i64 x21_2 ∧ Aside0 (shape_At.l0 kq l0 x6_2 l1 (l1.length : Int) x21_2 = some (r1, r2)) ∧ Aside0 (kq ≤ kj2) ∧ Drawn0 w w')
   case atStart => exact ⟨(0), (0), z1_, z1_, H', ⟨Nat.le_refl _⟩, by repeat (first | exact Drawn0.refl _ | apply Drawn0.step)⟩
   case round =>
    clear H'
    try clear p2
    try clear p2
    obtain ⟨x6_2, x21_2, rfl, rfl, HA, HK2, ⟨m2, rfl⟩⟩ := hrel
    cases gk with
    | zero => exact absurd HA.out (by simp [shape_At.l0])
    | succ k2 =>
     have H := HA.out
     clear HA
     simp only [shape_At.l0] at H
     by_cases c7 : x21_2 < (l1.length : Int)
     rotate_left
     ·rw [if_neg c7] at H
      have c7b0 : decide (x21_2 < (l1.length : Int)) = false := decide_eq_false c7
      clear c7
      simp only [Option.some.injEq, Prod.mk.injEq] at H
      obtain ⟨rfl, rfl⟩ := H
      go_wp2
      go_ret2
      exact ⟨z1_, zE_⟩
     rw [if_pos c7] at H
     have c7b0 : decide (x21_2 < (l1.length : Int)) = true := decide_eq_true c7
     clear c7
     by_cases c8 : 0 ≤ x21_2
     rotate_left
     ·rw [if_neg c8] at H
      exact zN_ H
     rw [if_pos c8] at H
     have c8b0 : decide (0 ≤ x21_2) = true := decide_eq_true c8
     clear c8
     by_cases c9 : x21_2 < (l1.length : Int)
     rotate_left
     ·rw [if_neg c9] at H
      exact zN_ H
     rw [if_pos c9] at H
     have c9b0 : decide (x21_2 < (l1.length : Int)) = true := decide_eq_true c9
     clear c9
     by_cases c10 : (rd l1 x21_2) < 0
     ·rw [if_pos c10] at H
      exact zN_ H
     rw [if_neg c10] at H
     have c10b0 : decide ((rd l1 x21_2) < 0) = false := decide_eq_false c10
     clear c10
     by_cases c11 : x21_2 < (l0.length : Int)
     rotate_left
     ·rw [if_neg c11] at H
      exact zN_ H
     rw [if_pos c11] at H
     have c11b0 : decide (x21_2 < (l0.length : Int)) = true := decide_eq_true c11
     clear c11
     by_cases c12 : (rd l1 x21_2) ≥ (rd l0 x21_2)
     ·rw [if_pos c12] at H
      exact zN_ H
     rw [if_neg c12] at H
     have c12b0 : decide ((rd l0 x21_2) ≤ (rd l1 x21_2)) = false := decide_eq_false c12
     clear c12
     have H' := zA_ H
     clear H
     have p485 : 0 ≤ (x21_2 : Int) := zD_
     have q485 : x21_2 < (l1.length : Int) := zD_
     obtain ⟨ad485, e485, hx485_0⟩ := Kd.at_int HR1.out x21_2 p485 q485
     cases e485
     replace p485 := eq_true p485
     replace q485 := eq_true q485
     have p486 : 0 ≤ (x21_2 : Int) := zD_
     have q486 : x21_2 < (l0.length : Int) := zD_
     obtain ⟨ad486, e486, hx486_0⟩ := Kd.at_int HR0.out x21_2 p486 q486
     cases e486
     replace p486 := eq_true p486
     replace q486 := eq_true q486
     have p487 : 0 ≤ (x21_2 : Int) := zD_
     have q487 : x21_2 < (l0.length : Int) := zD_
     obtain ⟨ad487, e487, hx487_0⟩ := Kd.at_int HR0.out x21_2 p487 q487
     obtain rfl : ad486 = ad487 := (by injection e487)
     replace p487 := eq_true p487
     replace q487 := eq_true q487
     go_wp2
     go_roundg k2
     case measure => have := HJ2.out; have := HK2.out; omega
     case rel => exact ⟨(wrap64 ((wrap64 (x6_2 * (rd l0 x21_2))) + (rd l1 x21_2))), (wrap64 (x21_2 + 1)), z1_, z1_, H', ⟨by have := HJ2.out; have := HK2.out; omega⟩, by repeat (first | exact Drawn0.refl _ | apply Drawn0.step)⟩
def wide_size.f (a0 : Int) : Option (Int) := if a0 < 0 then (none) else (some (IntKind.u64.wrap (a0)))
theorem wide_size.calls (a0 : Int) (r : Int) (w : World) (h : wide_size.f a0 = some r) :
  Calls Tryz.prog 372 #[.int .i64 a0] w fun e w' => e = .returned (.int .u64 r) ∧ Drawn0 w w' := by
 have H : (if a0 < 0 then (none) else (some (IntKind.u64.wrap (a0)))) = some r := h
 clear h
 by_cases c2 : a0 < 0
 ·rw [if_pos c2] at H
  exact zN_ H
 rw [if_neg c2] at H
 have c2b0 : decide (a0 < 0) = false := decide_eq_false c2
 clear c2
 obtain rfl := Option.some.inj H
 go_enter Tryz.func372, Tryz.ntmps372
 go_wp2
 go_ret
 exact ⟨z1_, zE_⟩
def wide_Fix.j0 : Nat → Bool → Int → Int → Option (Int)
 | 0, _, _, _ => none
 | k + 1, x3, x555000, x555001 => if x3 = true then (none) else (if x555000 < (-1) then (none) else (if x555000 = (-1) then (if x555001 < 9223372036854775808 then (none) else (some (wrap64 (x555001)))) else (some (wrap64 (x555001)))))
def wide_Fix.f (k : Nat) (a0_0 : Int) (a0_1 : Int) : Option (Int) := if a0_0 > 0 then (wide_Fix.j0 k true a0_0 a0_1) else (if a0_0 = 0 then (wide_Fix.j0 k (decide (a0_1 ≥ 9223372036854775808)) a0_0 a0_1) else (wide_Fix.j0 k false a0_0 a0_1))
theorem wide_Fix.calls (k : Nat) (a0_0 : Int) (a0_1 : Int) (r : Int) (w : World) (h : wide_Fix.f k a0_0 a0_1 = some r) :
  Calls Tryz.prog 374 #[.agg #[.int .i64 a0_0, .int .u64 a0_1]] w fun e w' => e = .returned (.int .i64 r) ∧ Below w.heap.size w w' := by
 have hu292 := Tryz.underlying292
 have HB := zA_ (Below.refl w.heap.size w)
 have H : (if a0_0 > 0 then (wide_Fix.j0 k true a0_0 a0_1) else (if a0_0 = 0 then (wide_Fix.j0 k (decide (a0_1 ≥ 9223372036854775808)) a0_0 a0_1) else (wide_Fix.j0 k false a0_0 a0_1))) = some r := h
 clear h
 have HC2 := zA_ H
 clear H
 go_enter Tryz.func374, Tryz.ntmps374
 go_upto_region 1 with (first | ((with_reducible refine gate_dst (N := 1) rfl ?_); refine zB_ (#[.int .i64 a0_0, .int .u64 a0_1]) 292 ?_; intro gb554 hg w3 hbox hb; have BK554 := zA_ (hbox); have GW554 := zA_ (zs_ hg (zw0_ HB)); have GE554 := zA_ (zs_ hg (zw0_ HB)); replace HB := zA_ (below_step (zw0_ HB) hb); clear hb hbox hg))
 (try simp only [Act.put, List.setIfInBounds_toArray, List.set_cons_zero, List.set_cons_succ])
 go_cut [3] (fun v3 wc => ∃ (kq : Nat) (x3_1 : Bool), v3 = .bool x3_1 ∧ Aside0 (wide_Fix.j0 kq x3_1 a0_0 a0_1 = some r) ∧ Aside0 (kq ≤ k) ∧ Aside0 (wc.heap[gb554]? = some (.cells #[.int .i64 a0_0, .int .u64 a0_1] 292 (0, 0))) ∧ Aside0 (Below w.heap.size w wc))
 case first =>
  have H := HC2.out
  clear HC2
  by_cases c4 : a0_0 > 0
  ·rw [if_pos c4] at H
   have c4b0 : decide (0 < a0_0) = true := decide_eq_true c4
   clear c4
   (first | rw [c4b0] | (simp only [i64_w, i32_w]; rw [c4b0]) | skip)
   have H' := zA_ H
   clear H
   have hcz5_0 := zx_ (v := .int .i64 a0_0) BK554 0
   have hcz5_1 := zx_ (v := .int .u64 a0_1) BK554 1
   have hfz5_0 := blk_frozen BK554.out 0
   have hfz5_1 := blk_frozen BK554.out 1
   go_wp2
   go_meet
   case rel => exact ⟨_, (true), z1_, H', ⟨by first | omega | exact Nat.le_refl _⟩, ⟨zb_ BK554⟩, ⟨zw1_ HB GE554⟩⟩
  rw [if_neg c4] at H
  have c4b0 : decide (0 < a0_0) = false := decide_eq_false c4
  clear c4
  (first | rw [c4b0] | (simp only [i64_w, i32_w]; rw [c4b0]) | skip)
  by_cases c6 : a0_0 = 0
  rotate_left
  ·rw [if_neg c6] at H
   have c6b0 : (a0_0 == 0) = false := beq_eq_false_iff_ne.mpr c6
   have c6b1 : (a0_0 != 0) = true := bne_iff_ne.mpr c6
   have H' := zA_ H
   clear H
   have hcz8_0 := zx_ (v := .int .i64 a0_0) BK554 0
   have hcz8_1 := zx_ (v := .int .u64 a0_1) BK554 1
   have hfz8_0 := blk_frozen BK554.out 0
   have hfz8_1 := blk_frozen BK554.out 1
   go_wp2
   go_meet
   case rel => exact ⟨_, (false), z1_, H', ⟨by first | omega | exact Nat.le_refl _⟩, ⟨zb_ BK554⟩, ⟨zw1_ HB GE554⟩⟩
  rw [if_pos c6] at H
  have c6b0 : (a0_0 == 0) = true := beq_iff_eq.mpr c6
  have c6b1 : (a0_0 != 0) = false := bne_eq_false_iff_eq.mpr c6
  clear c6
  have H' := zA_ H
  clear H
  have hcz7_0 := zx_ (v := .int .i64 a0_0) BK554 0
  have hcz7_1 := zx_ (v := .int .u64 a0_1) BK554 1
  have hfz7_0 := blk_frozen BK554.out 0
  have hfz7_1 := blk_frozen BK554.out 1
  go_wp2
  go_meet
  case rel => exact ⟨_, (decide (a0_1 ≥ 9223372036854775808)), z1_, H', ⟨by first | omega | exact Nat.le_refl _⟩, ⟨zb_ BK554⟩, ⟨zw1_ HB GE554⟩⟩
 case rest =>
  clear HC2
  try clear p2
  try clear c4b0
  try clear c6b0
  try clear c6b1
  try clear hcz5_0
  try clear hcz5_1
  try clear hcz7_0
  try clear hcz7_1
  try clear hcz8_0
  try clear hcz8_1
  try clear hfz5_0
  try clear hfz5_1
  try clear hfz7_0
  try clear hfz7_1
  try clear hfz8_0
  try clear hfz8_1
  obtain ⟨kq, x3_1, rfl, HA, HJ1, BK554, HB⟩ := hcut
  cases kq with
  | zero => exact absurd HA.out (by simp [wide_Fix.j0])
  | succ kj1 =>
   have H := HA.out
   clear HA
   simp only [wide_Fix.j0] at H
   by_cases c9 : x3_1 = true
   ·subst c9
    have H1 : (none) = some r := by rw [if_pos rfl] at H; exact H
    clear H
    have H := H1
    clear H1
    exact zN_ H
   replace c9 := Bool.eq_false_iff.mpr c9
   subst c9
   have H1 := H
   rw [if_neg (show ¬ (false = true) by decide)] at H1
   clear H
   have H := H1
   clear H1
   by_cases c10 : a0_0 < (-1)
   ·rw [if_pos c10] at H
    exact zN_ H
   rw [if_neg c10] at H
   have c10b0 : decide (a0_0 < (-1)) = false := decide_eq_false c10
   clear c10
   by_cases c11 : a0_0 = (-1)
   rotate_left
   ·rw [if_neg c11] at H
    have c11b0 : (a0_0 == (-1)) = false := beq_eq_false_iff_ne.mpr c11
    have c11b1 : (a0_0 != (-1)) = true := bne_iff_ne.mpr c11
    obtain rfl := Option.some.inj H
    have hcz14_0 := zx_ (v := .int .i64 a0_0) BK554 0
    have hcz14_1 := zx_ (v := .int .u64 a0_1) BK554 1
    have hfz14_0 := blk_frozen BK554.out 0
    have hfz14_1 := blk_frozen BK554.out 1
    go_wp2
    go_ret
    exact ⟨z0_, zw1_ HB GE554⟩
   rw [if_pos c11] at H
   have c11b0 : (a0_0 == (-1)) = true := beq_iff_eq.mpr c11
   have c11b1 : (a0_0 != (-1)) = false := bne_eq_false_iff_eq.mpr c11
   clear c11
   by_cases c12 : a0_1 < 9223372036854775808
   ·rw [if_pos c12] at H
    exact zN_ H
   rw [if_neg c12] at H
   have c12b0 : decide (a0_1 < 9223372036854775808) = false := decide_eq_false c12
   clear c12
   obtain rfl := Option.some.inj H
   have hcz13_0 := zx_ (v := .int .i64 a0_0) BK554 0
   have hcz13_1 := zx_ (v := .int .u64 a0_1) BK554 1
   have hfz13_0 := blk_frozen BK554.out 0
   have hfz13_1 := blk_frozen BK554.out 1
   go_wp2
   go_ret
   exact ⟨z0_, zw1_ HB GE554⟩
def wide_Add.f (a0_0 : Int) (a0_1 : Int) (a1_0 : Int) (a1_1 : Int) : Option (Int × Int) := (bits_Add64.f a0_1 a1_1 0).bind fun bt558 => ((bits_Add64.f (IntKind.u64.wrap (a0_0)) (IntKind.u64.wrap (a1_0)) bt558.2).bind fun bt560 => (some (wrap64 (bt560.1), bt558.1)))
theorem wide_Add.calls (a0_0 : Int) (a0_1 : Int) (a1_0 : Int) (a1_1 : Int) (r1 : Int) (r2 : Int) (w : World) (h : wide_Add.f a0_0 a0_1 a1_0 a1_1 = some (r1, r2)) :
  Calls Tryz.prog 328 #[.agg #[.int .i64 a0_0, .int .u64 a0_1], .agg #[.int .i64 a1_0, .int .u64 a1_1]] w fun e w' => e = .returned (.agg #[.int .i64 r1, .int .u64 r2]) ∧ Below w.heap.size w w' := by
 have hu292 := Tryz.underlying292
 have HB := zA_ (Below.refl w.heap.size w)
 have H : ((bits_Add64.f a0_1 a1_1 0).bind fun bt558 => ((bits_Add64.f (IntKind.u64.wrap (a0_0)) (IntKind.u64.wrap (a1_0)) bt558.2).bind fun bt560 => (some (wrap64 (bt560.1), bt558.1)))) = some (r1, r2) := h
 clear h
 replace H := zO_ H
 obtain ⟨⟨t558, t559⟩, A30, H⟩ := H
 replace H : ((bits_Add64.f (IntKind.u64.wrap (a0_0)) (IntKind.u64.wrap (a1_0)) t559).bind fun bt560 => (some (wrap64 (bt560.1), t558))) = some (r1, r2) := H
 have A3 := zA_ A30
 clear A30
 replace H := zO_ H
 obtain ⟨⟨t560, t561⟩, A40, H⟩ := H
 replace H : (some (wrap64 (t560), t558)) = some (r1, r2) := H
 have A4 := zA_ A40
 clear A40
 simp only [Option.some.injEq, Prod.mk.injEq] at H
 obtain ⟨rfl, rfl⟩ := H
 go_enter Tryz.func328, Tryz.ntmps328
 go_wp2_with (first | ((with_reducible refine gate_dst (N := 2) rfl ?_); refine zB_ (#[.int .i64 a0_0, .int .u64 a0_1]) 292 ?_; intro gb555 hg w5 hbox hb; have BK555 := zA_ (hbox); have GW555 := zA_ (zs_ hg (zw0_ HB)); have GE555 := zA_ (zs_ hg (zw0_ HB)); replace HB := zA_ (below_step (zw0_ HB) hb); clear hb hbox hg) | ((with_reducible refine gate_dst (N := 3) rfl ?_); refine zB_ (#[.int .i64 a1_0, .int .u64 a1_1]) 292 ?_; intro gb556 hg w6 hbox hb; have BK556 := zA_ (hbox); have GW556 := zA_ (zs_ hg (zw1_ HB GE555)); have GE556 := zA_ (zs_ hg (zw1_ HB GE555)); replace HB := zA_ (below_step (zw1_ HB GE555) hb); have NB555_556 := zA_ (zn_ hg BK555); have NB556_555 := zA_ (zm_ hg BK555); replace BK555 := za_ BK555 hb; clear hb hbox hg) | ((with_reducible refine gate_dst (N := 4) rfl ?_); refine zB_ (#[.int .i64 0, .int .u64 0]) 292 ?_; intro gb557 hg w7 hbox hb; have BK557 := zA_ (hbox); have GW557 := zA_ (zs_ hg (zw2_ HB GE555 GE556)); have GE557 := zA_ (zs_ hg (zw2_ HB GE555 GE556)); replace HB := zA_ (below_step (zw2_ HB GE555 GE556) hb); have NB555_557 := zA_ (zn_ hg BK555); have NB557_555 := zA_ (zm_ hg BK555); replace BK555 := za_ BK555 hb; have NB556_557 := zA_ (zn_ hg BK556); have NB557_556 := zA_ (zm_ hg BK556); replace BK556 := za_ BK556 hb; clear hb hbox hg; have hnb8 := NB555_556.out; have hnc8 := NB556_555.out; have hnb9 := NB555_557.out; have hnc9 := NB557_555.out; have hcz10_0 := zx_ (v := .int .i64 a0_0) BK555 0; have hcz10_1 := zx_ (v := .int .u64 a0_1) BK555 1; have hfz10_0 := blk_frozen BK555.out 0; have hfz10_1 := blk_frozen BK555.out 1; have hnb11 := NB556_557.out; have hnc11 := NB557_556.out; have hcz12_0 := zx_ (v := .int .i64 a1_0) BK556 0; have hcz12_1 := zx_ (v := .int .u64 a1_1) BK556 1; have hfz12_0 := blk_frozen BK556.out 0; have hfz12_1 := blk_frozen BK556.out 1) | ((with_reducible refine gate_callee (f := 356) rfl ?_); refine goesX_ (some 14) rfl rfl (f := 356) #[.int .u64 a0_1, .int .u64 a1_1, .int .u64 0] rfl (by (try simp only [List.map_toArray, List.map_cons, List.map_nil]); first | done | rfl | (simp only [List.length_drop, List.length_take]; rfl)) ?_; (with_reducible refine (bits_Add64.calls a0_1 a1_1 0 t558 t559 _ A3.out).mono ?_); rintro e w' ⟨rfl, ⟨nd, rfl⟩⟩; refine ⟨_, rfl, ?_⟩; (try (rw [drewN_self w7]; generalize hq_ : World.drewN w7 _ = w7; have n0_ : Aside0 (w7.heap[gb555]? = some (.cells #[.int .i64 a0_0, .int .u64 a0_1] 292 (0, 0))) := ⟨by rw [← hq_]; exact (zb_ BK555)⟩; have n1_ : Aside0 (w7.heap[gb556]? = some (.cells #[.int .i64 a1_0, .int .u64 a1_1] 292 (0, 0))) := ⟨by rw [← hq_]; exact (zb_ BK556)⟩; have n2_ : Aside0 (w7.heap[gb557]? = some (.cells #[.int .i64 0, .int .u64 0] 292 (0, 0))) := ⟨by rw [← hq_]; exact (zb_ BK557)⟩; have n3_ : Aside0 (Below w.heap.size w w7) := ⟨by rw [← hq_]; exact (zw3_ HB GE555 GE556 GE557)⟩; clear BK555 BK556 BK557 HB hq_; have BK555 := n0_; have BK556 := n1_; have BK557 := n2_; have HB := n3_; clear n0_ n1_ n2_ n3_; (try (have hcz10_0 := zx_ (v := .int .i64 a0_0) BK555 0)); (try (have hcz10_1 := zx_ (v := .int .u64 a0_1) BK555 1)); (try (have hfz10_0 := blk_frozen BK555.out 0)); (try (have hfz10_1 := blk_frozen BK555.out 1)); (try (have hcz12_0 := zx_ (v := .int .i64 a1_0) BK556 0)); (try (have hcz12_1 := zx_ (v := .int .u64 a1_1) BK556 1)); (try (have hfz12_0 := blk_frozen BK556.out 0)); (try (have hfz12_1 := blk_frozen BK556.out 1))))) | ((with_reducible refine gate_callee (f := 356) rfl ?_); refine goesX_ (some 25) rfl rfl (f := 356) #[.int .u64 (IntKind.u64.wrap (a0_0)), .int .u64 (IntKind.u64.wrap (a1_0)), .int .u64 t559] rfl (by (try simp only [List.map_toArray, List.map_cons, List.map_nil]); first | done | rfl | (simp only [List.length_drop, List.length_take]; rfl)) ?_; (with_reducible refine (bits_Add64.calls (IntKind.u64.wrap (a0_0)) (IntKind.u64.wrap (a1_0)) t559 t560 t561 _ A4.out).mono ?_); rintro e w' ⟨rfl, ⟨nd, rfl⟩⟩; refine ⟨_, rfl, ?_⟩; (try (rw [drewN_self w7]; generalize hq_ : World.drewN w7 _ = w7; have n0_ : Aside0 (w7.heap[gb555]? = some (.cells #[.int .i64 a0_0, .int .u64 a0_1] 292 (0, 0))) := ⟨by rw [← hq_]; exact (zb_ BK555)⟩; have n1_ : Aside0 (w7.heap[gb556]? = some (.cells #[.int .i64 a1_0, .int .u64 a1_1] 292 (0, 0))) := ⟨by rw [← hq_]; exact (zb_ BK556)⟩; have n2_ : Aside0 (w7.heap[gb557]? = some (.cells #[.int .i64 0, .int .u64 0] 292 (0, 0))) := ⟨by rw [← hq_]; exact (zb_ BK557)⟩; have n3_ : Aside0 (Below w.heap.size w w7) := ⟨by rw [← hq_]; exact (zw3_ HB GE555 GE556 GE557)⟩; clear BK555 BK556 BK557 HB hq_; have BK555 := n0_; have BK556 := n1_; have BK557 := n2_; have HB := n3_; clear n0_ n1_ n2_ n3_; (try (have hcz10_0 := zx_ (v := .int .i64 a0_0) BK555 0)); (try (have hcz10_1 := zx_ (v := .int .u64 a0_1) BK555 1)); (try (have hfz10_0 := blk_frozen BK555.out 0)); (try (have hfz10_1 := blk_frozen BK555.out 1)); (try (have hcz12_0 := zx_ (v := .int .i64 a1_0) BK556 0)); (try (have hcz12_1 := zx_ (v := .int .u64 a1_1) BK556 1)); (try (have hfz12_0 := blk_frozen BK556.out 0)); (try (have hfz12_1 := blk_frozen BK556.out 1)))); have hcz13_0 := zx_ (v := .int .i64 0) BK557 0; have hcz13_1 := zx_ (v := .int .u64 0) BK557 1; have hfz13_0 := blk_frozen BK557.out 0; have hfz13_1 := blk_frozen BK557.out 1))
 refine bodyPost_ret (results_cell_row rfl _ _ gb557 292 #[.int .i64 (wrap64 (t560)), .int .u64 t558] (0, 0) _ rfl (zo2_ BK557) Tryz.underlying292 rfl (by kernel_rfl)) rfl ?_
 exact ⟨z0_, zw3_ HB GE555 GE556 GE557⟩
def wide_Of.f (a0 : Int) : Option (Int × Int) := some (a0 / 9223372036854775808, IntKind.u64.wrap (a0))
theorem wide_Of.calls (a0 : Int) (r1 : Int) (r2 : Int) (w : World) (h : wide_Of.f a0 = some (r1, r2)) :
  Calls Tryz.prog 348 #[.int .i64 a0] w fun e w' => e = .returned (.agg #[.int .i64 r1, .int .u64 r2]) ∧ Below w.heap.size w w' := by
 have hu292 := Tryz.underlying292
 have HB := zA_ (Below.refl w.heap.size w)
 have H : (some (a0 / 9223372036854775808, IntKind.u64.wrap (a0))) = some (r1, r2) := h
 clear h
 simp only [Option.some.injEq, Prod.mk.injEq] at H
 obtain ⟨rfl, rfl⟩ := H
 go_enter Tryz.func348, Tryz.ntmps348
 go_wp2_with (first | ((with_reducible refine gate_dst (N := 2) rfl ?_); refine zB_ (#[.int .i64 0, .int .u64 0]) 292 ?_; intro gb562 hg w2 hbox hb; have BK562 := zA_ (hbox); have GW562 := zA_ (zs_ hg (zw0_ HB)); have GE562 := zA_ (zs_ hg (zw0_ HB)); replace HB := zA_ (below_step (zw0_ HB) hb); clear hb hbox hg; have hcz3_0 := zx_ (v := .int .i64 0) BK562 0; have hcz3_1 := zx_ (v := .int .u64 0) BK562 1; have hfz3_0 := blk_frozen BK562.out 0; have hfz3_1 := blk_frozen BK562.out 1))
 refine bodyPost_ret (results_cell_row rfl _ _ gb562 292 #[.int .i64 (a0 / 9223372036854775808), .int .u64 (IntKind.u64.wrap (a0))] (0, 0) _ rfl (zo2_ BK562) Tryz.underlying292 rfl (by kernel_rfl)) rfl ?_
 exact ⟨z0_, zw1_ HB GE562⟩
def fix_Sub.j0 : Nat → Int → Bool → Option (Int)
 | 0, _, _ => none
 | k + 1, x5, x20 => if x20 = true then (some x5) else (none)
def fix_Sub.f (k : Nat) (a0 : Int) (a1 : Int) : Option (Int) := if ((decide (a0 < 0)) == (decide (a1 < 0))) = true then (fix_Sub.j0 k (wrap64 (a0 - a1)) true) else (fix_Sub.j0 k (wrap64 (a0 - a1)) ((decide ((wrap64 (a0 - a1)) < 0)) == (decide (a0 < 0))))
theorem fix_Sub.calls (k : Nat) (a0 : Int) (a1 : Int) (r : Int) (w : World) (h : fix_Sub.f k a0 a1 = some r) :
  Calls Tryz.prog 332 #[.int .i64 a0, .int .i64 a1] w fun e w' => e = .returned (.int .i64 r) ∧ Drawn0 w w' := by
 have H : (if ((decide (a0 < 0)) == (decide (a1 < 0))) = true then (fix_Sub.j0 k (wrap64 (a0 - a1)) true) else (fix_Sub.j0 k (wrap64 (a0 - a1)) ((decide ((wrap64 (a0 - a1)) < 0)) == (decide (a0 < 0))))) = some r := h
 clear h
 have HC3 := zA_ H
 clear H
 go_enter Tryz.func332, Tryz.ntmps332
 go_upto_region 2 with (fail)
 go_cut [20] (fun v20 wc => ∃ (kq : Nat) (x20_2 : Bool), v20 = .bool x20_2 ∧ Aside0 (fix_Sub.j0 kq (wrap64 (a0 - a1)) x20_2 = some r) ∧ Aside0 (kq ≤ k) ∧ Drawn0 w wc)
 case first =>
  have H := HC3.out
  clear HC3
  by_cases c4 : ((decide (a0 < 0)) == (decide (a1 < 0))) = true
  ·rw [if_pos c4] at H
   have c4b0 : ((decide (a0 < 0)) == (decide (a1 < 0))) = true := c4
   (try (have c4b1 : decide ((decide (a0 < 0)) = (decide (a1 < 0))) = true := by simpa using c4))
   (try (have c4b2 : ((decide (a0 < 0)) == (decide (a1 < 0))) = true := by simpa using c4))
   clear c4
   (first | rw [c4b0] | (simp only [i64_w, i32_w]; rw [c4b0]) | skip)
   have H' := zA_ H
   clear H
   go_wp2
   go_meet
   case rel => exact ⟨_, (true), z1_, H', ⟨by first | omega | exact Nat.le_refl _⟩, by repeat (first | exact Drawn0.refl _ | apply Drawn0.step)⟩
  rw [if_neg c4] at H
  have c4b0 : ((decide (a0 < 0)) == (decide (a1 < 0))) = false := by simpa using c4
  (try (have c4b1 : decide ((decide (a0 < 0)) = (decide (a1 < 0))) = false := by simpa using c4))
  (try (have c4b2 : ((decide (a0 < 0)) == (decide (a1 < 0))) = false := by simpa using c4))
  (try (have c4b3 : ¬ ((decide (a0 < 0)) = (decide (a1 < 0))) := by simpa using c4))
  clear c4
  (first | rw [c4b0] | (simp only [i64_w, i32_w]; rw [c4b0]) | skip)
  have H' := zA_ H
  clear H
  go_wp2
  go_meet
  case rel => exact ⟨_, (((decide ((wrap64 (a0 - a1)) < 0)) == (decide (a0 < 0)))), z1_, H', ⟨by first | omega | exact Nat.le_refl _⟩, by repeat (first | exact Drawn0.refl _ | apply Drawn0.step)⟩
 case rest =>
  clear HC3
  try clear p2
  try clear c4b0
  try clear c4b1
  try clear c4b2
  obtain ⟨kq, x20_2, rfl, HA, HJ2, ⟨mc2, rfl⟩⟩ := hcut
  cases kq with
  | zero => exact absurd HA.out (by simp [fix_Sub.j0])
  | succ kj2 =>
   have H := HA.out
   clear HA
   simp only [fix_Sub.j0] at H
   by_cases c5 : x20_2 = true
   rotate_left
   ·replace c5 := Bool.eq_false_iff.mpr c5
    subst c5
    have H1 : (none) = some r := by rw [if_neg (show ¬ (false = true) by decide)] at H; exact H
    clear H
    have H := H1
    clear H1
    exact zN_ H
   subst c5
   have H1 : (some (wrap64 (a0 - a1))) = some r := by rw [if_pos rfl] at H; exact H
   clear H
   have H := H1
   clear H1
   obtain rfl := Option.some.inj H
   go_wp2
   go_ret
   exact ⟨z1_, zE_⟩
theorem goesT442_ {P : Program} {ops : Array Oper} {Q : Exit → Act → World → Prop} {oi : Oper} {N : Option Tmp} {a : Act} {w : World} {K : Act → World → Prop} {f : FuncId} {fn : Func} {t : Operand} {xs : Array Operand} {ts : Array TypeId} (hf : P.funcs[f]? = some fn) (hname : (fn.name == "runtime.NumGoroutine") = false) (hb : fn.body.isSome = true) (args : Array Value)
  (hw : Region.wanted oi (yielded ops a.tmps) = true) (hN : oi.dst = N) (hop : oi.op = .call { callee := .value t, args := xs, argTypes := ts }) (hcal : a.eval t = .func (.func f) #[] #[]) (hargs : xs.map a.eval = args)
  (h : Calls P f args w fun e w' => ∃ v, e = .returned v ∧ K (a.put N v) w') : if Region.wanted oi (yielded ops a.tmps) = true then Oper.wp P oi a w K Q else K (a.put N undef) w := by
 refine call_ f args hw hN ?_ h
 have he := enters_ hf hname hb args w
 unfold execOp
 simp [hop, resolve, Deferred.ofValue, invoke, hcal, hargs, he]
mutual
def tens_both_G.j0 (F : Nat → Int → Int → Option Int) : Nat → Bool → List Int → List Int → List Int → List Int → Option (List Int × List Int × Int)
 | 0, _, _, _, _, _ => none
 | k + 1, x22, x623000, x623001, x624000, x624001 => if x22 = true then (none) else ((shape_Join.f k x623000 x624000).bind fun bt627 => (if bt627.2 = 0 then ((tens_New.f k bt627.1 0).bind fun bt631 => ((shape_Spread.f k x623000 bt627.1).bind fun t639 => ((shape_Spread.f k x624000 bt627.1).bind fun t642 => (tens_both_G.l0 F k t639 t642 (bt631.2.1.length : Int) 0 x623000 x623001 x624000 x624001 bt631.1 bt631.2.1)))) else (none)))
def tens_both_G.l0 (F : Nat → Int → Int → Option Int) : Nat → List Int → List Int → Int → Int → List Int → List Int → List Int → List Int → List Int → List Int → Option (List Int × List Int × Int)
 | 0, _, _, _, _, _, _, _, _, _, _ => none
 | k + 1, x12, x13, x51, x52, x623000, x623001, x624000, x624001, x639000, x639001 => if x52 < x51 then (if 0 ≤ x52 then (if x52 < (x12.length : Int) then (if 0 ≤ (rd x12 x52) then (if (rd x12 x52) < (x623001.length : Int) then (if x52 < (x13.length : Int) then (if 0 ≤ (rd x13 x52) then (if (rd x13 x52) < (x624001.length : Int) then ((F k (rd x623001 (rd x12 x52)) (rd x624001 (rd x13 x52))).bind fun t649 => (if x52 < (x639001.length : Int) then (tens_both_G.l0 F k x12 x13 x51 (wrap64 (x52 + 1)) x623000 x623001 x624000 x624001 x639000 (x639001.set (x52 : Int).toNat t649)) else (none))) else (none)) else (none)) else (none)) else (none)) else (none)) else (none)) else (none)) else (some (x639000, x639001, 0))
end
def tens_both_G.f (F : Nat → Int → Int → Option Int) (k : Nat) (l0_0 : List Int) (l0_1 : List Int) (l1_0 : List Int) (l1_1 : List Int) : Option (List Int × List Int × Int) := (tens_Good.f k l0_0 l0_1).bind fun t625 => (if t625 = true then ((tens_Good.f k l1_0 l1_1).bind fun t626 => (tens_both_G.j0 F k (!t626) l0_0 l0_1 l1_0 l1_1)) else (tens_both_G.j0 F k true l0_0 l0_1 l1_0 l1_1))
def tens_both_G.T7 : Bool × List (List Nat × List Nat) := (true, [([], []), ([0], [0]), ([], []), ([1, 2], [1, 2]), ([], []), ([4], [4]), ([], []), ([5, 6, 3], [5, 6]), ([3, 7, 0, 1, 2, 3], [3]), ([7, 8, 0, 1, 2, 3, 4, 5, 6, 7, 8], [7])])
def tens_both_G.B7 : List Nat := [0, 1, 0, 7, 0, 16, 0, 127, 255, 511]
theorem tens_both_G.tab7 : rtab .any (opsOf Tryz.f354 7) = tens_both_G.T7 := by kernel_rfl
theorem tens_both_G.bits7 : waitsOk tens_both_G.T7.2 tens_both_G.B7 = true := by kernel_rfl
def tens_both_G.T11 : Bool × List (List Nat × List Nat) := (true, [([], []), ([0], [0]), ([], []), ([], []), ([], []), ([4], [4]), ([], []), ([], []), ([6, 7], [6, 7]), ([8], [8]), ([5, 9], [5, 9]), ([10], [10]), ([], []), ([12], [12]), ([], []), ([], []), ([14, 15], [14, 15]), ([16], [16]), ([13, 17], [13, 17]), ([18], [18]), ([3, 11, 19], [3, 11, 19]), ([1, 2, 0, 1, 2, 3, 4, 5, 6, 7, 8, 9, 10, 11, 12, 13, 14, 15, 16, 17, 18, 19, 20], [1, 2]), ([21, 20, 20, 0, 1, 2, 3, 4, 5, 6, 7, 8, 9, 10, 11, 12, 13, 14, 15, 16, 17, 18, 19, 20], [20, 21])])
def tens_both_G.B11 : List Nat := [0, 1, 0, 0, 0, 16, 0, 0, 192, 448, 1008, 2032, 0, 4096, 0, 0, 49152, 114688, 258048, 520192, 1048568, 2097151, 4194303]
theorem tens_both_G.tab11 : rtab .any (opsOf Tryz.f354 11) = tens_both_G.T11 := by kernel_rfl
theorem tens_both_G.bits11 : waitsOk tens_both_G.T11.2 tens_both_G.B11 = true := by kernel_rfl
theorem tens_both_G.calls (F : Nat → Int → Int → Option Int) (fid : Nat) (fnF : Func) (hfid : Tryz.prog.funcs[fid]? = some fnF) (hnm : (fnF.name == "runtime.NumGoroutine") = false) (hbd : fnF.body.isSome = true) (hC : ∀ (k : Nat) (a b r : Int) (w : World), F k a b = some r → Calls Tryz.prog fid #[.int .i64 a, .int .i64 b] w fun e w' => e = .returned (.int .i64 r) ∧ Drawn0 w w') (k : Nat) (A0_0 : Option Addr) (c0_0 : Nat) (l0_0 : List Int) (A0_1 : Option Addr) (c0_1 : Nat) (l0_1 : List Int) (A1_0 : Option Addr) (c1_0 : Nat) (l1_0 : List Int) (A1_1 : Option Addr) (c1_1 : Nat) (l1_1 : List Int) (r1 : List Int) (r2 : List Int) (r3 : Int) (w : World) (hr0_0 : Kd.C (Kd.int .i64) w A0_0 l0_0.length l0_0) (hc0_0 : l0_0.length ≤ c0_0) (hr0_1 : Kd.C (Kd.int .i64) w A0_1 l0_1.length l0_1) (hc0_1 : l0_1.length ≤ c0_1) (hr1_0 : Kd.C (Kd.int .i64) w A1_0 l1_0.length l1_0) (hc1_0 : l1_0.length ≤ c1_0) (hr1_1 : Kd.C (Kd.int .i64) w A1_1 l1_1.length l1_1) (hc1_1 : l1_1.length ≤ c1_1) (h : tens_both_G.f F k l0_0 l0_1 l1_0 l1_1 = some (r1, r2, r3)) :
  Calls Tryz.prog 354 #[.agg #[.slice A0_0 l0_0.length c0_0, .slice A0_1 l0_1.length c0_1], .agg #[.slice A1_0 l1_0.length c1_0, .slice A1_1 l1_1.length c1_1], .func (.func fid) #[] #[]] w fun e w' => ∃ v0_ v1_ : Value, e = .returned (.tuple #[.agg #[v0_, v1_], .int .i64 r3]) ∧ Kd.R (Kd.int .i64) 3 w' w.heap.size (fun _ => True) v0_ r1 ∧ Kd.R (Kd.int .i64) 36 w' w.heap.size (fun _ => True) v1_ r2 ∧ Below w.heap.size w w' := by
 have HG_ := zA_ (And.intro hfid (And.intro hnm (And.intro hbd hC)))
 clear hfid hnm hbd hC
 have hu273 := Tryz.underlying273
 have HR0_0 := zA_ hr0_0
 have HC0_0 := zA_ hc0_0
 clear hr0_0 hc0_0
 have HR0_1 := zA_ hr0_1
 have HC0_1 := zA_ hc0_1
 clear hr0_1 hc0_1
 have HR1_0 := zA_ hr1_0
 have HC1_0 := zA_ hc1_0
 clear hr1_0 hc1_0
 have HR1_1 := zA_ hr1_1
 have HC1_1 := zA_ hc1_1
 clear hr1_1 hc1_1
 have HB := zA_ (Below.refl w.heap.size w)
 have H : ((tens_Good.f k l0_0 l0_1).bind fun t625 => (if t625 = true then ((tens_Good.f k l1_0 l1_1).bind fun t626 => (tens_both_G.j0 F k (!t626) l0_0 l0_1 l1_0 l1_1)) else (tens_both_G.j0 F k true l0_0 l0_1 l1_0 l1_1))) = some (r1, r2, r3) := h
 clear h
 have HC3 := zA_ H
 clear H
 go_enter Tryz.func354, Tryz.ntmps354
 go_upto_region 1 with (first | ((with_reducible refine gate_dst (N := 3) rfl ?_); refine zB_ (#[.slice A0_0 l0_0.length c0_0, .slice A0_1 l0_1.length c0_1]) 273 ?_; intro gb622 hg w4 hbox hb; have BK622 := zA_ (hbox); have GW622 := zA_ (zs_ hg (zw0_ HB)); have GE622 := zA_ (zs_ hg (zw0_ HB)); replace HB := zA_ (below_step (zw0_ HB) hb); clear hb hbox hg) | ((with_reducible refine gate_dst (N := 4) rfl ?_); refine zB_ (#[.slice A1_0 l1_0.length c1_0, .slice A1_1 l1_1.length c1_1]) 273 ?_; intro gb623 hg w5 hbox hb; have BK623 := zA_ (hbox); have GW623 := zA_ (zs_ hg (zw1_ HB GE622)); have GE623 := zA_ (zs_ hg (zw1_ HB GE622)); replace HB := zA_ (below_step (zw1_ HB GE622) hb); have NB622_623 := zA_ (zn_ hg BK622); have NB623_622 := zA_ (zm_ hg BK622); replace BK622 := za_ BK622 hb; clear hb hbox hg) | ((with_reducible refine gate_dst (N := 6) rfl ?_); refine zB_ (#[.slice none 0 0, .slice none 0 0]) 273 ?_; intro gb624 hg w6 hbox hb; have BK624 := zA_ (hbox); have GW624 := zA_ (zs_ hg (zw2_ HB GE622 GE623)); have GE624 := zA_ (zs_ hg (zw2_ HB GE622 GE623)); replace HB := zA_ (below_step (zw2_ HB GE622 GE623) hb); have NB622_624 := zA_ (zn_ hg BK622); have NB624_622 := zA_ (zm_ hg BK622); replace BK622 := za_ BK622 hb; have NB623_624 := zA_ (zn_ hg BK623); have NB624_623 := zA_ (zm_ hg BK623); replace BK623 := za_ BK623 hb; clear hb hbox hg))
 (try simp only [Act.put, List.setIfInBounds_toArray, List.set_cons_zero, List.set_cons_succ])
 go_cut [22] (fun v22 wc => ∃ (kq : Nat) (x22_2 : Bool), v22 = .bool x22_2 ∧ Aside0 (tens_both_G.j0 F kq x22_2 l0_0 l0_1 l1_0 l1_1 = some (r1, r2, r3)) ∧ Aside0 (kq ≤ k) ∧ Aside0 (wc.heap[gb622]? = some (.cells #[(.slice A0_0 l0_0.length c0_0), (.slice A0_1 l0_1.length c0_1)] 273 (0, 0))) ∧ Aside0 (wc.heap[gb623]? = some (.cells #[(.slice A1_0 l1_0.length c1_0), (.slice A1_1 l1_1.length c1_1)] 273 (0, 0))) ∧ Aside0 (wc.heap[gb624]? = some (.cells #[(.slice none 0 0), (.slice none 0 0)] 273 (0, 0))) ∧ Aside0 (Below w.heap.size w wc))
 case first =>
  have H := HC3.out
  clear HC3
  replace H := zO_ H
  obtain ⟨t625, A70, H⟩ := H
  (try dsimp only at H)
  have A7 := zA_ A70
  clear A70
  by_cases c8 : t625 = true
  rotate_left
  ·replace c8 := Bool.eq_false_iff.mpr c8
   subst c8
   have H1 : (tens_both_G.j0 F k true l0_0 l0_1 l1_0 l1_1) = some (r1, r2, r3) := by rw [if_neg (show ¬ (false = true) by decide)] at H; exact H
   clear H
   have H := H1
   clear H1
   have H' := zA_ H
   clear H
   have hnb17 := NB622_623.out
   have hnc17 := NB623_622.out
   have hnb18 := NB622_624.out
   have hnc18 := NB624_622.out
   have hcz19_0 := zx_ (v := .slice A0_0 l0_0.length c0_0) BK622 0
   have hcz19_1 := zx_ (v := .slice A0_1 l0_1.length c0_1) BK622 1
   have hfz19_0 := blk_frozen BK622.out 0
   have hfz19_1 := blk_frozen BK622.out 1
   go_wp2_with (first | ((with_reducible refine gate_callee (f := 308) rfl ?_); refine zg_ (some 16) Tryz.func308 #[.agg #[.slice A0_0 l0_0.length c0_0, .slice A0_1 l0_1.length c0_1]] (h := ?_); (with_reducible refine (tens_Good.calls k _ _ l0_0 _ _ l0_1 false _ ?side1 ?side2 ?side3 ?side4 A7.out).mono ?_); (case side1 => exact zk_ (Kd.C_below HR0_0.out HB.out)); (case side2 => exact HC0_0.out); (case side3 => exact zk_ (Kd.C_below HR0_1.out HB.out)); (case side4 => exact HC0_1.out); rintro e w20 ⟨rfl, hb⟩; refine ⟨_, rfl, ?_⟩; replace BK622 := za_ BK622 hb; replace BK623 := za_ BK623 hb; replace BK624 := za_ BK624 hb; replace HB := zA_ (below_step (zw3_ HB GE622 GE623 GE624) hb); (try clear hb)))
   go_meet
   case rel => exact ⟨_, (true), z1_, H', ⟨by first | omega | exact Nat.le_refl _⟩, ⟨zb_ BK622⟩, ⟨zb_ BK623⟩, ⟨zb_ BK624⟩, ⟨zw3_ HB GE622 GE623 GE624⟩⟩
  subst c8
  have H1 := H
  rw [if_pos rfl] at H1
  clear H
  have H := H1
  clear H1
  replace H := zO_ H
  obtain ⟨t626, A90, H⟩ := H
  replace H : (tens_both_G.j0 F k (!t626) l0_0 l0_1 l1_0 l1_1) = some (r1, r2, r3) := H
  have A9 := zA_ A90
  clear A90
  have H' := zA_ H
  clear H
  have hnb10 := NB622_623.out
  have hnc10 := NB623_622.out
  have hnb11 := NB622_624.out
  have hnc11 := NB624_622.out
  have hcz12_0 := zx_ (v := .slice A0_0 l0_0.length c0_0) BK622 0
  have hcz12_1 := zx_ (v := .slice A0_1 l0_1.length c0_1) BK622 1
  have hfz12_0 := blk_frozen BK622.out 0
  have hfz12_1 := blk_frozen BK622.out 1
  go_wp2_with (first | ((with_reducible refine gate_callee (f := 308) rfl ?_); refine zg_ (some 16) Tryz.func308 #[.agg #[.slice A0_0 l0_0.length c0_0, .slice A0_1 l0_1.length c0_1]] (h := ?_); (with_reducible refine (tens_Good.calls k _ _ l0_0 _ _ l0_1 true _ ?side1 ?side2 ?side3 ?side4 A7.out).mono ?_); (case side1 => exact zk_ (Kd.C_below HR0_0.out HB.out)); (case side2 => exact HC0_0.out); (case side3 => exact zk_ (Kd.C_below HR0_1.out HB.out)); (case side4 => exact HC0_1.out); rintro e w13 ⟨rfl, hb⟩; refine ⟨_, rfl, ?_⟩; replace BK622 := za_ BK622 hb; replace BK623 := za_ BK623 hb; replace BK624 := za_ BK624 hb; replace HB := zA_ (below_step (zw3_ HB GE622 GE623 GE624) hb); (try clear hb); have hnb14 := NB623_624.out; have hnc14 := NB624_623.out; have hcz15_0 := zx_ (v := .slice A1_0 l1_0.length c1_0) BK623 0; have hcz15_1 := zx_ (v := .slice A1_1 l1_1.length c1_1) BK623 1; have hfz15_0 := blk_frozen BK623.out 0; have hfz15_1 := blk_frozen BK623.out 1) | (go_at_call 308; (with_reducible refine (tens_Good.calls k _ _ l1_0 _ _ l1_1 t626 _ ?side1 ?side2 ?side3 ?side4 A9.out).mono ?_); (case side1 => exact zk_ (Kd.C_below HR1_0.out HB.out)); (case side2 => exact HC1_0.out); (case side3 => exact zk_ (Kd.C_below HR1_1.out HB.out)); (case side4 => exact HC1_1.out); rintro e w16 ⟨rfl, hb⟩; replace BK622 := za_ BK622 hb; replace BK623 := za_ BK623 hb; replace BK624 := za_ BK624 hb; replace HB := zA_ (below_step (zw3_ HB GE622 GE623 GE624) hb); (try clear hb)))
  go_meet
  case rel => exact ⟨_, (!t626), z1_, H', ⟨by first | omega | exact Nat.le_refl _⟩, ⟨zb_ BK622⟩, ⟨zb_ BK623⟩, ⟨zb_ BK624⟩, ⟨zw3_ HB GE622 GE623 GE624⟩⟩
 case rest =>
  clear HC3
  try clear p2
  try clear hcz12_0
  try clear hcz12_1
  try clear hcz15_0
  try clear hcz15_1
  try clear hcz19_0
  try clear hcz19_1
  try clear hfz12_0
  try clear hfz12_1
  try clear hfz15_0
  try clear hfz15_1
  try clear hfz19_0
  try clear hfz19_1
  obtain ⟨kq, x22_2, rfl, HA, HJ2, BK622, BK623, BK624, HB⟩ := hcut
  cases kq with
  | zero => exact absurd HA.out (by simp [tens_both_G.j0])
  | succ kj2 =>
   have H := HA.out
   clear HA
   simp only [tens_both_G.j0] at H
   by_cases c21 : x22_2 = true
   ·subst c21
    have H1 : (none) = some (r1, r2, r3) := by rw [if_pos rfl] at H; exact H
    clear H
    have H := H1
    clear H1
    exact zN_ H
   replace c21 := Bool.eq_false_iff.mpr c21
   subst c21
   have H1 := H
   rw [if_neg (show ¬ (false = true) by decide)] at H1
   clear H
   have H := H1
   clear H1
   replace H := zO_ H
   obtain ⟨⟨t627, t628⟩, A220, H⟩ := H
   (try dsimp only at H)
   have A22 := zA_ A220
   clear A220
   by_cases c23 : t628 = 0
   rotate_left
   ·rw [if_neg c23] at H
    exact zN_ H
   rw [if_pos c23] at H
   have c23b0 : (t628 == 0) = true := beq_iff_eq.mpr c23
   have c23b1 : (t628 != 0) = false := bne_eq_false_iff_eq.mpr c23
   clear c23
   replace H := zO_ H
   obtain ⟨⟨t631, t634, t637⟩, A240, H⟩ := H
   (try dsimp only at H)
   have A24 := zA_ A240
   clear A240
   replace H := zO_ H
   obtain ⟨t639, A250, H⟩ := H
   (try dsimp only at H)
   have A25 := zA_ A250
   clear A250
   replace H := zO_ H
   obtain ⟨t642, A260, H⟩ := H
   replace H : (tens_both_G.l0 F kj2 t639 t642 (t634.length : Int) 0 l0_0 l0_1 l1_0 l1_1 t631 t634) = some (r1, r2, r3) := H
   have A26 := zA_ A260
   clear A260
   have H' := zA_ H
   clear H
   have hnb27 := NB622_623.out
   have hnc27 := NB623_622.out
   have hnb28 := NB622_624.out
   have hnc28 := NB624_622.out
   have hcz29_0 := zx_ (v := .slice A0_0 l0_0.length c0_0) BK622 0
   have hcz29_1 := zx_ (v := .slice A0_1 l0_1.length c0_1) BK622 1
   have hfz29_0 := blk_frozen BK622.out 0
   have hfz29_1 := blk_frozen BK622.out 1
   have hnb30 := NB623_624.out
   have hnc30 := NB624_623.out
   have hcz31_0 := zx_ (v := .slice A1_0 l1_0.length c1_0) BK623 0
   have hcz31_1 := zx_ (v := .slice A1_1 l1_1.length c1_1) BK623 1
   have hfz31_0 := blk_frozen BK623.out 0
   have hfz31_1 := blk_frozen BK623.out 1
   try go_wp2_with (first | ((with_reducible refine gate_callee (f := 362) rfl ?_); refine zg_ (some 29) Tryz.func362 #[.slice A0_0 l0_0.length c0_0, .slice A1_0 l1_0.length c1_0] (h := ?_); (with_reducible refine (shape_Join.calls kj2 _ _ l0_0 _ _ l1_0 t627 t628 _ ?side1 ?side2 ?side3 ?side4 A22.out).mono ?_); (case side1 => exact zk_ (Kd.C_below HR0_0.out HB.out)); (case side2 => exact HC0_0.out); (case side3 => exact zk_ (Kd.C_below HR1_0.out HB.out)); (case side4 => exact HC1_0.out); rintro e w32 ⟨v629, rfl, ho0, hb⟩; refine ⟨_, rfl, ?_⟩; have HO630 := zA_ (Kd.R_lower ho0 (below_size (zw3_ HB GE622 GE623 GE624))); replace BK622 := za_ BK622 hb; replace BK623 := za_ BK623 hb; replace BK624 := za_ BK624 hb; replace HB := zA_ (below_step (zw3_ HB GE622 GE623 GE624) hb); (try clear hb); (try clear ho0); obtain ⟨Ao33, co33, eo33⟩ := Kd.R_slice HO630.out; subst eo33) | ((with_reducible refine gate_callee (f := 250) rfl ?_); refine zg_ (some 38) Tryz.func250 #[.slice Ao33 t627.length co33, .int .i64 0] (h := ?_); (with_reducible refine (tens_New.calls kj2 _ _ t627 0 t631 t634 t637 _ ?side1 ?side2 A24.out).mono ?_); (case side1 => exact zk_ ((Kd.R_reads' HO630.out).2.2)); (case side2 => exact (Kd.R_reads' HO630.out).2.1); rintro e w34 ⟨v632, v635, rfl, ho0, ho1, hb⟩; refine ⟨_, rfl, ?_⟩; have HO633 := zA_ (Kd.R_lower (Kd.R_new' ho0 (Kd.R_lt (zr_ HO630.out))) (below_size (zw3_ HB GE622 GE623 GE624))); replace HO630 := ze_ HO630 ho0 hb; have HO636 := zA_ (Kd.R_lower ho1 (below_size (zw3_ HB GE622 GE623 GE624))); replace BK622 := za_ BK622 hb; replace BK623 := za_ BK623 hb; replace BK624 := za_ BK624 hb; replace HB := zA_ (below_step (zw3_ HB GE622 GE623 GE624) hb); (try clear hb); (try clear ho0); (try clear ho1)) | ((with_reducible refine gate_dst (N := 10) rfl ?_); refine zB_ (#[.slice none 0 0, .slice none 0 0]) 273 ?_; intro gb638 hg w35 hbox hb; replace HO630 := zy_ HO630 hb; replace HO633 := zy_ HO633 hb; replace HO636 := zy_ HO636 hb; have BK638 := zA_ (hbox); have GW638 := zA_ (zs_ hg (zw3_ HB GE622 GE623 GE624)); have GE638 := zA_ (zs_ hg (zw3_ HB GE622 GE623 GE624)); replace HB := zA_ (below_step (zw3_ HB GE622 GE623 GE624) hb); have NB622_638 := zA_ (zn_ hg BK622); have NB638_622 := zA_ (zm_ hg BK622); replace BK622 := za_ BK622 hb; have NB623_638 := zA_ (zn_ hg BK623); have NB638_623 := zA_ (zm_ hg BK623); replace BK623 := za_ BK623 hb; have NB624_638 := zA_ (zn_ hg BK624); have NB638_624 := zA_ (zm_ hg BK624); replace BK624 := za_ BK624 hb; clear hb hbox hg; obtain ⟨Ao36, co36, eo36⟩ := Kd.R_slice HO633.out; subst eo36; have hnb37 := NB638_622.out; have hnc37 := NB622_638.out; have hnb38 := NB638_623.out; have hnc38 := NB623_638.out; have hnb39 := NB638_624.out; have hnc39 := NB624_638.out; have hcz40_0 := zx_ (v := .slice none 0 0) BK638 0; have hcz40_1 := zx_ (v := .slice none 0 0) BK638 1; have hfz40_0 := blk_frozen BK638.out 0; have hfz40_1 := blk_frozen BK638.out 1; obtain ⟨Ao41, co41, eo41⟩ := Kd.R_slice HO636.out; subst eo41))
   have n0_ : Aside0 (Kd.R (Kd.int .i64) 3 ((w35.setCell ⟨gb638, 0, none⟩ (.slice Ao36 t631.length co36)).setCell ⟨gb638, 1, none⟩ (.slice Ao41 t634.length co41)) w.heap.size (fun k_ => some k_ ≠ (.slice Ao36 t631.length co36 : Value).ownBlock) (.slice Ao33 t627.length co33) t627) := ⟨zr_ (Kd.R_mono (Kd.R_far (p := ⟨gb638, 1, none⟩) (Kd.R_far (p := ⟨gb638, 0, none⟩) (Kd.R_types HO630.out BK638.out (by decide)) (fun _ hk => hk.2) (.slice Ao36 t631.length co36)) (fun _ hk => hk.2) (.slice Ao41 t634.length co41)) (fun _ hk => hk.1.2))⟩
   have n1_ : Aside0 (Kd.R (Kd.int .i64) 3 ((w35.setCell ⟨gb638, 0, none⟩ (.slice Ao36 t631.length co36)).setCell ⟨gb638, 1, none⟩ (.slice Ao41 t634.length co41)) w.heap.size (fun k_ => some k_ ≠ (.slice Ao33 t627.length co33 : Value).ownBlock) (.slice Ao36 t631.length co36) t631) := ⟨zr_ (Kd.R_mono (Kd.R_far (p := ⟨gb638, 1, none⟩) (Kd.R_far (p := ⟨gb638, 0, none⟩) (Kd.R_types HO633.out BK638.out (by decide)) (fun _ hk => hk.2) (.slice Ao36 t631.length co36)) (fun _ hk => hk.2) (.slice Ao41 t634.length co41)) (fun _ hk => hk.1.2))⟩
   have n2_ : Aside0 (Kd.R (Kd.int .i64) 36 ((w35.setCell ⟨gb638, 0, none⟩ (.slice Ao36 t631.length co36)).setCell ⟨gb638, 1, none⟩ (.slice Ao41 t634.length co41)) w.heap.size (fun _ => True) (.slice Ao41 t634.length co41) t634) := ⟨zr_ (Kd.R_mono (Kd.R_far (p := ⟨gb638, 1, none⟩) (Kd.R_far (p := ⟨gb638, 0, none⟩) (Kd.R_types HO636.out BK638.out (by decide)) (fun _ hk => hk.2) (.slice Ao36 t631.length co36)) (fun _ hk => hk.2) (.slice Ao41 t634.length co41)) (fun _ hk => trivial))⟩
   have n3_ : Aside0 (((w35.setCell ⟨gb638, 0, none⟩ (.slice Ao36 t631.length co36)).setCell ⟨gb638, 1, none⟩ (.slice Ao41 t634.length co41)).heap[gb622]? = some (.cells #[.slice A0_0 l0_0.length c0_0, .slice A0_1 l0_1.length c0_1] 273 (0, 0))) := ⟨zv1_ BK622 NB622_638⟩
   have n4_ : Aside0 (((w35.setCell ⟨gb638, 0, none⟩ (.slice Ao36 t631.length co36)).setCell ⟨gb638, 1, none⟩ (.slice Ao41 t634.length co41)).heap[gb623]? = some (.cells #[.slice A1_0 l1_0.length c1_0, .slice A1_1 l1_1.length c1_1] 273 (0, 0))) := ⟨zv1_ BK623 NB623_638⟩
   have n5_ : Aside0 (((w35.setCell ⟨gb638, 0, none⟩ (.slice Ao36 t631.length co36)).setCell ⟨gb638, 1, none⟩ (.slice Ao41 t634.length co41)).heap[gb624]? = some (.cells #[.slice none 0 0, .slice none 0 0] 273 (0, 0))) := ⟨zv1_ BK624 NB624_638⟩
   have n6_ : Aside0 (((w35.setCell ⟨gb638, 0, none⟩ (.slice Ao36 t631.length co36)).setCell ⟨gb638, 1, none⟩ (.slice Ao41 t634.length co41)).heap[gb638]? = some (.cells #[.slice Ao36 t631.length co36, .slice Ao41 t634.length co41] 273 (0, 0))) := ⟨zo2_ BK638⟩
   have n7_ : Aside0 (Below w.heap.size w ((w35.setCell ⟨gb638, 0, none⟩ (.slice Ao36 t631.length co36)).setCell ⟨gb638, 1, none⟩ (.slice Ao41 t634.length co41))) := ⟨zw4_ HB GE622 GE623 GE624 GE638⟩
   (try clear HO630)
   (try clear HO633)
   (try clear HO636)
   (try clear BK622)
   (try clear BK623)
   (try clear BK624)
   (try clear BK638)
   (try clear HB)
   generalize ((w35.setCell ⟨gb638, 0, none⟩ (.slice Ao36 t631.length co36)).setCell ⟨gb638, 1, none⟩ (.slice Ao41 t634.length co41)) = w42 at n0_ n1_ n2_ n3_ n4_ n5_ n6_ n7_ ⊢
   have HO630 := n0_
   have HO633 := n1_
   have HO636 := n2_
   have BK622 := n3_
   have BK623 := n4_
   have BK624 := n5_
   have BK638 := n6_
   have HB := n7_
   clear n0_ n1_ n2_ n3_ n4_ n5_ n6_ n7_
   replace HO630 := zA_ (Kd.R_drew HO630.out)
   replace HO633 := zA_ (Kd.R_drew HO633.out)
   replace HO636 := zA_ (Kd.R_drew HO636.out)
   replace BK622 := zA_ (blk_drew BK622.out)
   replace BK623 := zA_ (blk_drew BK623.out)
   replace BK624 := zA_ (blk_drew BK624.out)
   replace BK638 := zA_ (blk_drew BK638.out)
   replace HB := zA_ (below_drew1 HB.out)
   refine start_ (n := 10) (S := fun w' => w'.cell? ⟨gb622, 0, none⟩ = some (.slice A0_0 l0_0.length c0_0) ∧ w'.cell? ⟨gb622, 1, none⟩ = some (.slice A0_1 l0_1.length c0_1) ∧ w'.cell? ⟨gb623, 0, none⟩ = some (.slice A1_0 l1_0.length c1_0) ∧ w'.cell? ⟨gb623, 1, none⟩ = some (.slice A1_1 l1_1.length c1_1)) (ds := []) #[false, false, false, false, false, false, false, false, false, false] (by kernel_rfl) rfl rfl ⟨(blk_cell BK622.out 0).trans rfl, (blk_cell BK622.out 1).trans rfl, (blk_cell BK623.out 0).trans rfl, (blk_cell BK623.out 1).trans rfl⟩ (fun hHeld => ?_); refine with_tabW tens_both_G.tab7 tens_both_G.bits7 (fun HT_ HW_ => ?_)
   generalize w42.drew = w43 at HO630 HO633 HO636 BK622 BK623 BK624 BK638 HB hHeld ⊢
   refine yp_ ?_ 0 41
   refine yp_ ?_ 2 43
   refine yp_ ?_ 4 45
   refine yp_ ?_ 6 47
   refine yt4_ ?_ 1 42
   refine yt4_ ?_ 5 46
   refine yo_ 3 (some 44) (fun K hK => ?_)
   refine yg_ Tryz.func363 #[.slice A0_0 l0_0.length c0_0, .slice Ao33 t627.length co33] ?_
   with_reducible refine (shape_Spread.calls kj2 _ _ l0_0 _ _ t627 t639 _ ?side1 ?side2 ?side3 ?side4 A25.out).mono ?_
   (case side1 => exact zk_ (Kd.C_below HR0_0.out HB.out))
   (case side2 => exact HC0_0.out)
   (case side3 => exact zk_ ((Kd.R_reads' HO630.out).2.2))
   (case side4 => exact (Kd.R_reads' HO630.out).2.1)
   rintro e w44 ⟨v640, rfl, ho0, hb⟩
   refine ⟨_, rfl, ?_⟩
   replace HO636 := zy_ HO636 hb
   have HO641 := zA_ (Kd.R_lower (Kd.R_new' (Kd.R_new' ho0 (Kd.R_lt (zr_ HO630.out))) (Kd.R_lt (zr_ HO633.out))) (below_size (zw4_ HB GE622 GE623 GE624 GE638)))
   replace HO630 := ze_ HO630 ho0 hb
   replace HO633 := ze_ HO633 ho0 hb
   replace BK622 := za_ BK622 hb
   replace BK623 := za_ BK623 hb
   replace BK624 := za_ BK624 hb
   replace BK638 := za_ BK638 hb
   replace HB := zA_ (below_step (zw4_ HB GE622 GE623 GE624 GE638) hb)
   (try clear hb)
   (try clear hb2)
   (try clear hk)
   (try clear hi)
   (try clear ho0)
   refine hK.out _ _ ⟨zx_ BK622 0, zx_ BK622 1, zx_ BK623 0, zx_ BK623 1⟩ (fun hHeld => ?_)
   clear hK K
   refine zq_ (some 44) (h := ?_)
   refine yo_ 7 (some 48) (fun K hK => ?_)
   refine yg_ Tryz.func363 #[.slice A1_0 l1_0.length c1_0, .slice Ao33 t627.length co33] ?_
   with_reducible refine (shape_Spread.calls kj2 _ _ l1_0 _ _ t627 t642 _ ?side1 ?side2 ?side3 ?side4 A26.out).mono ?_
   (case side1 => exact zk_ (Kd.C_below HR1_0.out HB.out))
   (case side2 => exact HC1_0.out)
   (case side3 => exact zk_ ((Kd.R_reads' HO630.out).2.2))
   (case side4 => exact (Kd.R_reads' HO630.out).2.1)
   rintro e w45 ⟨v643, rfl, ho0, hb⟩
   refine ⟨_, rfl, ?_⟩
   replace HO636 := zy_ HO636 hb
   have HO644 := zA_ (Kd.R_lower (Kd.R_new' (Kd.R_new' (Kd.R_new' ho0 (Kd.R_lt (zr_ HO630.out))) (Kd.R_lt (zr_ HO633.out))) (Kd.R_lt (zr_ HO641.out))) (below_size (zw4_ HB GE622 GE623 GE624 GE638)))
   replace HO630 := ze_ HO630 ho0 hb
   replace HO633 := ze_ HO633 ho0 hb
   replace HO641 := ze_ HO641 ho0 hb
   replace BK622 := za_ BK622 hb
   replace BK623 := za_ BK623 hb
   replace BK624 := za_ BK624 hb
   replace BK638 := za_ BK638 hb
   replace HB := zA_ (below_step (zw4_ HB GE622 GE623 GE624 GE638) hb)
   (try clear hb)
   (try clear hb2)
   (try clear hk)
   (try clear hi)
   (try clear ho0)
   refine hK.out _ _ ⟨zx_ BK622 0, zx_ BK622 1, zx_ BK623 0, zx_ BK623 1⟩ (fun hHeld => ?_)
   clear hK K
   refine zq_ (some 48) (h := ?_)
   refine yp_ ?_ 8 12
   refine yp_ ?_ 9 13
   refine done_ (done_of HT_.out (by kernel_rfl)) ?_
   have hcz46_0 := zx_ (v := .slice Ao36 t631.length co36) BK638 0
   have hcz46_1 := zx_ (v := .slice Ao41 t634.length co41) BK638 1
   have hfz46_0 := blk_frozen BK638.out 0
   have hfz46_1 := blk_frozen BK638.out 1
   try go_wp2
   go_loopg [52] kj2 (fun kq v52 w' => ∃ (x52_2 : Int) (x639001_2 : List Int) (u639001 : Value), v52 = .int .i64 x52_2 ∧ Aside0 (tens_both_G.l0 F kq t639 t642 (t634.length : Int) x52_2 l0_0 l0_1 l1_0 l1_1 t631 x639001_2 = some (r1, r2, r3)) ∧ Aside0 (kq ≤ kj2) ∧ Aside0 (Kd.R (Kd.int .i64) 3 w' w.heap.size (fun k_ => some k_ ≠ (v643 : Value).ownBlock ∧ some k_ ≠ ((.slice Ao36 t631.length co36) : Value).ownBlock) v640 t639) ∧ Aside0 (Kd.R (Kd.int .i64) 3 w' w.heap.size (fun k_ => some k_ ≠ (v640 : Value).ownBlock ∧ some k_ ≠ ((.slice Ao36 t631.length co36) : Value).ownBlock) v643 t642) ∧ Aside0 (Kd.R (Kd.int .i64) 3 w' w.heap.size (fun k_ => some k_ ≠ (v640 : Value).ownBlock ∧ some k_ ≠ (v643 : Value).ownBlock) (.slice Ao36 t631.length co36) t631) ∧ Aside0 (Kd.R (Kd.int .i64) 36 w' w.heap.size (fun _ => True) u639001 x639001_2) ∧ Aside0 (w'.heap[gb622]? = some (.cells #[(.slice A0_0 l0_0.length c0_0), (.slice A0_1 l0_1.length c0_1)] 273 (0, 0))) ∧ Aside0 (w'.heap[gb623]? = some (.cells #[(.slice A1_0 l1_0.length c1_0), (.slice A1_1 l1_1.length c1_1)] 273 (0, 0))) ∧ Aside0 (w'.heap[gb624]? = some (.cells #[(.slice none 0 0), (.slice none 0 0)] 273 (0, 0))) ∧ Aside0 (w'.heap[gb638]? = some (.cells #[(.slice Ao36 t631.length co36), u639001] 273 (0, 0))) ∧ Aside0 (Below w.heap.size w w'))
   case atStart => exact ⟨(0), (t634), (.slice Ao41 t634.length co41), z1_, H', ⟨Nat.le_refl _⟩, ⟨zr_ (Kd.R_mono HO641.out (fun _ hk => ⟨hk.2, hk.1.2⟩))⟩, ⟨zr_ (Kd.R_mono HO644.out (fun _ hk => ⟨hk.2, hk.1.2⟩))⟩, ⟨zr_ (Kd.R_mono HO633.out (fun _ hk => ⟨hk.1.2, hk.2⟩))⟩, ⟨zr_ HO636.out⟩, ⟨zb_ BK622⟩, ⟨zb_ BK623⟩, ⟨zb_ BK624⟩, ⟨zb_ BK638⟩, ⟨zw4_ HB GE622 GE623 GE624 GE638⟩⟩
   case round =>
    clear H'
    try clear p2
    try clear c23b0
    try clear c23b1
    try clear hcz12_0
    try clear hcz12_1
    try clear hcz15_0
    try clear hcz15_1
    try clear hcz19_0
    try clear hcz19_1
    try clear hcz29_0
    try clear hcz29_1
    try clear hcz31_0
    try clear hcz31_1
    try clear hcz40_0
    try clear hcz40_1
    try clear hcz46_0
    try clear hcz46_1
    try clear hfz12_0
    try clear hfz12_1
    try clear hfz15_0
    try clear hfz15_1
    try clear hfz19_0
    try clear hfz19_1
    try clear hfz29_0
    try clear hfz29_1
    try clear hfz31_0
    try clear hfz31_1
    try clear hfz40_0
    try clear hfz40_1
    try clear hfz46_0
    try clear hfz46_1
    try clear p2
    obtain ⟨x52_2, x639001_2, u639001, rfl, HA, HK2, HO_12, HO_13, HO_639000, HO_639001, BK622, BK623, BK624, BK638, HB⟩ := hrel
    cases gk with
    | zero => exact absurd HA.out (by simp [tens_both_G.l0])
    | succ k2 =>
     have H := HA.out
     clear HA
     simp only [tens_both_G.l0] at H
     by_cases c47 : x52_2 < (t634.length : Int)
     rotate_left
     ·rw [if_neg c47] at H
      have c47b0 : decide (x52_2 < (t634.length : Int)) = false := decide_eq_false c47
      clear c47
      simp only [Option.some.injEq, Prod.mk.injEq] at H
      obtain ⟨rfl, rfl, rfl⟩ := H
      have hnb62 := NB638_622.out
      have hnc62 := NB622_638.out
      have hnb63 := NB638_623.out
      have hnc63 := NB623_638.out
      have hnb64 := NB638_624.out
      have hnc64 := NB624_638.out
      have hcz65_0 := zx_ (v := .slice Ao36 t631.length co36) BK638 0
      have hcz65_1 := zx_ (v := u639001) BK638 1
      have hfz65_0 := blk_frozen BK638.out 0
      have hfz65_1 := blk_frozen BK638.out 1
      have hnb66 := NB624_622.out
      have hnc66 := NB622_624.out
      have hnb67 := NB624_623.out
      have hnc67 := NB623_624.out
      have hcz68_0 := zx_ (v := .slice none 0 0) BK624 0
      have hcz68_1 := zx_ (v := .slice none 0 0) BK624 1
      have hfz68_0 := blk_frozen BK624.out 0
      have hfz68_1 := blk_frozen BK624.out 1
      obtain ⟨Ao69, co69, eo69⟩ := Kd.R_slice HO_639001.out
      subst eo69
      go_wp2
      refine bodyPost_ret (results_ct rfl _ _ gb624 273 #[.slice Ao36 t631.length co36, .slice Ao69 x639001_2.length co69] (0, 0) _ rfl (zo2_ BK624) Tryz.underlying273 rfl (by kernel_rfl)) rfl ?_
      exact ⟨_, _, z0_, zr_ (Kd.R_mono (Kd.R_far (p := ⟨gb624, 1, none⟩) (Kd.R_far (p := ⟨gb624, 0, none⟩) (Kd.R_types HO_639000.out BK624.out (by decide)) (fun _ hk => hk.2) (.slice Ao36 t631.length co36)) (fun _ hk => hk.2) (.slice Ao69 x639001_2.length co69)) (fun _ hk => trivial)), zr_ (Kd.R_mono (Kd.R_far (p := ⟨gb624, 1, none⟩) (Kd.R_far (p := ⟨gb624, 0, none⟩) (Kd.R_types HO_639001.out BK624.out (by decide)) (fun _ hk => hk.2) (.slice Ao36 t631.length co36)) (fun _ hk => hk.2) (.slice Ao69 x639001_2.length co69)) (fun _ hk => trivial)), zw4_ HB GE622 GE623 GE624 GE638⟩
     rw [if_pos c47] at H
     have c47b0 : decide (x52_2 < (t634.length : Int)) = true := decide_eq_true c47
     clear c47
     by_cases c48 : 0 ≤ x52_2
     rotate_left
     ·rw [if_neg c48] at H
      exact zN_ H
     rw [if_pos c48] at H
     have c48b0 : decide (0 ≤ x52_2) = true := decide_eq_true c48
     clear c48
     by_cases c49 : x52_2 < (t639.length : Int)
     rotate_left
     ·rw [if_neg c49] at H
      exact zN_ H
     rw [if_pos c49] at H
     have c49b0 : decide (x52_2 < (t639.length : Int)) = true := decide_eq_true c49
     clear c49
     by_cases c50 : 0 ≤ (rd t639 x52_2)
     rotate_left
     ·rw [if_neg c50] at H
      exact zN_ H
     rw [if_pos c50] at H
     have c50b0 : decide (0 ≤ (rd t639 x52_2)) = true := decide_eq_true c50
     clear c50
     by_cases c51 : (rd t639 x52_2) < (l0_1.length : Int)
     rotate_left
     ·rw [if_neg c51] at H
      exact zN_ H
     rw [if_pos c51] at H
     have c51b0 : decide ((rd t639 x52_2) < (l0_1.length : Int)) = true := decide_eq_true c51
     clear c51
     by_cases c52 : x52_2 < (t642.length : Int)
     rotate_left
     ·rw [if_neg c52] at H
      exact zN_ H
     rw [if_pos c52] at H
     have c52b0 : decide (x52_2 < (t642.length : Int)) = true := decide_eq_true c52
     clear c52
     by_cases c53 : 0 ≤ (rd t642 x52_2)
     rotate_left
     ·rw [if_neg c53] at H
      exact zN_ H
     rw [if_pos c53] at H
     have c53b0 : decide (0 ≤ (rd t642 x52_2)) = true := decide_eq_true c53
     clear c53
     by_cases c54 : (rd t642 x52_2) < (l1_1.length : Int)
     rotate_left
     ·rw [if_neg c54] at H
      exact zN_ H
     rw [if_pos c54] at H
     have c54b0 : decide ((rd t642 x52_2) < (l1_1.length : Int)) = true := decide_eq_true c54
     clear c54
     replace H := zO_ H
     obtain ⟨t649, A550, H⟩ := H
     (try dsimp only at H)
     have A55 := zA_ A550
     clear A550
     by_cases c56 : x52_2 < (x639001_2.length : Int)
     rotate_left
     ·rw [if_neg c56] at H
      exact zN_ H
     rw [if_pos c56] at H
     have c56b0 : decide (x52_2 < (x639001_2.length : Int)) = true := decide_eq_true c56
     clear c56
     obtain ⟨y650, hy650⟩ : ∃ y_ : List Int, y_ = (x639001_2.set (x52_2 : Int).toNat t649) := ⟨_, rfl⟩
     replace H : (tens_both_G.l0 F k2 t639 t642 (t634.length : Int) (wrap64 (x52_2 + 1)) l0_0 l0_1 l1_0 l1_1 t631 y650) = some (r1, r2, r3) := by first | (rw [hy650]; with_reducible exact H) | (have H2_ := (Option.bind_some _ _).symm.trans H; rw [hy650]; with_reducible exact H2_) | (have H2_ := (Option.bind_some _ _).symm.trans H; with_reducible exact H2_) | with_reducible exact H | (rw [hy650]; exact H) | exact H
     have Ny650 := zA_ hy650
     clear hy650
     have H' := zA_ H
     clear H
     try go_wp2
     replace HO_12 := zA_ (Kd.R_drew HO_12.out)
     replace HO_13 := zA_ (Kd.R_drew HO_13.out)
     replace HO_639000 := zA_ (Kd.R_drew HO_639000.out)
     replace HO_639001 := zA_ (Kd.R_drew HO_639001.out)
     replace BK622 := zA_ (blk_drew BK622.out)
     replace BK623 := zA_ (blk_drew BK623.out)
     replace BK624 := zA_ (blk_drew BK624.out)
     replace BK638 := zA_ (blk_drew BK638.out)
     replace HB := zA_ (below_drew1 HB.out)
     obtain ⟨Ao59, co59, eo59⟩ := Kd.R_slice HO_12.out
     (first | subst eo59 | (injection eo59 with f1_ f2_ f3_; have f4_ := f1_.symm; have f5_ := f3_.symm; clear f1_ f2_ f3_; subst f4_; subst f5_))
     have p645 : 0 ≤ (x52_2 : Int) := zD_
     have q645 : x52_2 < (t639.length : Int) := zD_
     obtain ⟨ad645, e645, hx645_0⟩ := Kd.at_int (Kd.R_reads' HO_12.out).2.2 x52_2 p645 q645
     cases e645
     replace p645 := eq_true p645
     replace q645 := eq_true q645
     have p646 : 0 ≤ ((rd t639 x52_2) : Int) := zD_
     have q646 : (rd t639 x52_2) < (l0_1.length : Int) := zD_
     obtain ⟨ad646, e646, hx646_0⟩ := Kd.at_int HR0_1.out (rd t639 x52_2) p646 q646
     have hw646_0 := hx646_0
     cases e646
     replace hx646_0 := (HB.out.cell (World.block_lt_of_cell? w _ hx646_0)).trans hx646_0
     replace p646 := eq_true p646
     replace q646 := eq_true q646
     obtain ⟨Ao60, co60, eo60⟩ := Kd.R_slice HO_13.out
     (first | subst eo60 | (injection eo60 with f1_ f2_ f3_; have f4_ := f1_.symm; have f5_ := f3_.symm; clear f1_ f2_ f3_; subst f4_; subst f5_))
     have p647 : 0 ≤ (x52_2 : Int) := zD_
     have q647 : x52_2 < (t642.length : Int) := zD_
     obtain ⟨ad647, e647, hx647_0⟩ := Kd.at_int (Kd.R_reads' HO_13.out).2.2 x52_2 p647 q647
     cases e647
     replace p647 := eq_true p647
     replace q647 := eq_true q647
     have p648 : 0 ≤ ((rd t642 x52_2) : Int) := zD_
     have q648 : (rd t642 x52_2) < (l1_1.length : Int) := zD_
     obtain ⟨ad648, e648, hx648_0⟩ := Kd.at_int HR1_1.out (rd t642 x52_2) p648 q648
     have hw648_0 := hx648_0
     cases e648
     replace hx648_0 := (HB.out.cell (World.block_lt_of_cell? w _ hx648_0)).trans hx648_0
     replace p648 := eq_true p648
     replace q648 := eq_true q648
     refine start_ (n := 23) (S := fun w' => w'.cell? ⟨gb638, 0, none⟩ = some (.slice Ao36 t631.length co36) ∧ w'.cell? ⟨gb638, 1, none⟩ = some (u639001) ∧ w'.cell? ⟨gb622, 0, none⟩ = some (.slice A0_0 l0_0.length c0_0) ∧ w'.cell? ⟨gb622, 1, none⟩ = some (.slice (some ad646) l0_1.length c0_1) ∧ w'.cell? ⟨gb623, 0, none⟩ = some (.slice A1_0 l1_0.length c1_0) ∧ w'.cell? ⟨gb623, 1, none⟩ = some (.slice (some ad648) l1_1.length c1_1) ∧ w'.cell? (ad645.add (x52_2).toNat) = some (.int .i64 (rd t639 x52_2)) ∧ w'.cell? (ad646.add ((rd t639 x52_2)).toNat) = some (.int .i64 (rd l0_1 (rd t639 x52_2))) ∧ w'.cell? (ad647.add (x52_2).toNat) = some (.int .i64 (rd t642 x52_2)) ∧ w'.cell? (ad648.add ((rd t642 x52_2)).toNat) = some (.int .i64 (rd l1_1 (rd t642 x52_2)))) (ds := [22]) #[false, false, false, false, false, false, false, false, false, false, false, false, false, false, false, false, false, false, false, false, false, false, false] (by kernel_rfl) rfl rfl ⟨(blk_cell BK638.out 0).trans rfl, (blk_cell BK638.out 1).trans rfl, (blk_cell BK622.out 0).trans rfl, (blk_cell BK622.out 1).trans rfl, (blk_cell BK623.out 0).trans rfl, (blk_cell BK623.out 1).trans rfl, hx645_0, ((HB.out.cell (World.block_lt_of_cell? w _ hw646_0)).trans hw646_0), hx647_0, ((HB.out.cell (World.block_lt_of_cell? w _ hw648_0)).trans hw648_0)⟩ (fun hHeld => ?_); refine with_tabW tens_both_G.tab11 tens_both_G.bits11 (fun HT_ HW_ => ?_)
     generalize wr.drew = w58 at HO_12 HO_13 HO_639000 HO_639001 BK622 BK623 BK624 BK638 HB hx645_0 hx646_0 hx647_0 hx648_0 hHeld ⊢
     refine yp_ ?_ 0 55
     refine yp_ ?_ 2 57
     refine yp_ ?_ 3 58
     refine yp_ ?_ 4 59
     refine yp_ ?_ 6 61
     refine yp_ ?_ 7 62
     refine yp_ ?_ 8 63
     refine yp_ ?_ 12 67
     refine yp_ ?_ 14 69
     refine yp_ ?_ 15 70
     refine yp_ ?_ 16 71
     refine yt10_ ?_ 1 56
     refine yt10_ ?_ 5 60
     refine yt10_ ?_ 9 64
     refine yp_ ?_ 10 65
     refine yt10_ ?_ 11 66
     refine yt10_ ?_ 13 68
     refine yt10_ ?_ 17 72
     refine yp_ ?_ 18 73
     refine yt10_ ?_ 19 74
     refine yo_ 20 (some 75) (fun K hK => ?_)
     refine goesT442_ (t := .tmp 58) HG_.out.1 HG_.out.2.1 HG_.out.2.2.1 #[.int .i64 (rd l0_1 (rd t639 x52_2)), .int .i64 (rd l1_1 (rd t642 x52_2))] (by rfl) rfl rfl (by first | rfl | (go_simp; done) | (go_simp; rfl)) (by (try simp only [List.map_toArray, List.map_cons, List.map_nil]); first | done | rfl | (simp only [List.length_drop, List.length_take]; rfl)) ?_
     with_reducible refine (HG_.out.2.2.2 k2 (rd l0_1 (rd t639 x52_2)) (rd l1_1 (rd t642 x52_2)) t649 _ A55.out).mono ?_
     rintro e w' ⟨rfl, ⟨nd, rfl⟩⟩
     refine ⟨_, rfl, ?_⟩
     have p57 : 0 ≤ (x52_2 : Int) := zD_
     have q57 : (x52_2 : Int) < ((x639001_2.length : Int) : Int) := zD_
     obtain ⟨go57, co57, eo57, gb57, gl57, cl57, HG57⟩ := Kd.R_form HO_639001.out (by omega)
     (first | cases eo57 | (injection eo57 with ea_ en_ ec_; (first | subst ea_ | (injection ea_ with ea_; subst ea_)); subst ec_; clear en_))
     have GB57 := zA_ gb57
     have GG57 := zA_ HG57
     clear gb57 gl57 HG57
     obtain ⟨hx57_0, hf57_0⟩ := Kd.R_celln 0 HO_639001.out (x52_2 : Int) p57 q57
     replace p57 := eq_true p57
     replace q57 := eq_true q57
     have HP61 := Kd.R_putn HO_639001.out (x52_2 : Int) t649
     rw [← Ny650.out] at HP61
     have HQ61 := zA_ HP61
     clear HP61
     refine hK.out _ _ ⟨(blk_cell BK638.out 0).trans rfl, (blk_cell BK638.out 1).trans rfl, (blk_cell BK622.out 0).trans rfl, (blk_cell BK622.out 1).trans rfl, (blk_cell BK623.out 0).trans rfl, (blk_cell BK623.out 1).trans rfl, hHeld.2.2.2.2.2.2.1, ((HB.out.cell (World.block_lt_of_cell? w _ hw646_0)).trans hw646_0), hHeld.2.2.2.2.2.2.2.2.1, ((HB.out.cell (World.block_lt_of_cell? w _ hw648_0)).trans hw648_0)⟩ (fun hHeld => ?_)
     clear hK K
     refine zq_ (some 75) (h := ?_)
     refine yp_ ?_ 21 76
     refine yl_ 22 none (fun K hK => ?_)
     refine skip_ (w1 := ?_) (by rfl) rfl ?_ ?_
     rotate_left
     ·go_simp
      rfl
     refine hK.out _ _ ?_
     clear hK K
     refine done_ (done_of HT_.out (by kernel_rfl)) ?_
     try go_wp2
     go_roundg k2
     case measure => have := HJ2.out; have := HK2.out; omega
     case rel => exact ⟨(wrap64 (x52_2 + 1)), (y650), (.slice (some ⟨go57, 0, none⟩) x639001_2.length co57), z1_, H', ⟨by have := HJ2.out; have := HK2.out; omega⟩, ⟨zr_ (Kd.R_mono (Kd.R_far (p := ⟨go57, (x52_2 : Int).toNat, none⟩) (Kd.R_types HO_12.out GG57.out (by decide)) (fun _ hk => hk.2) (.int .i64 t649)) (fun _ hk => ⟨hk.1.1, hk.1.2⟩))⟩, ⟨zr_ (Kd.R_mono (Kd.R_far (p := ⟨go57, (x52_2 : Int).toNat, none⟩) (Kd.R_types HO_13.out GG57.out (by decide)) (fun _ hk => hk.2) (.int .i64 t649)) (fun _ hk => ⟨hk.1.1, hk.1.2⟩))⟩, ⟨zr_ (Kd.R_mono (Kd.R_far (p := ⟨go57, (x52_2 : Int).toNat, none⟩) (Kd.R_types HO_639000.out GG57.out (by decide)) (fun _ hk => hk.2) (.int .i64 t649)) (fun _ hk => ⟨hk.1.1, hk.1.2⟩))⟩, ⟨zr_ HQ61.out⟩, ⟨by (with_reducible repeat (first | refine blk_drewN ?_ _ | refine blk_drew ?_ | refine blk_alloc ?_ _)); refine blk_far ?_ (by have h_ := Kd.R_ne HO_639001.out BK622.out (by decide); intro e_; exact h_ (by rw [e_]; rfl)) _; (with_reducible repeat (first | refine blk_drewN ?_ _ | refine blk_drew ?_ | refine blk_alloc ?_ _)); exact BK622.out⟩, ⟨by (with_reducible repeat (first | refine blk_drewN ?_ _ | refine blk_drew ?_ | refine blk_alloc ?_ _)); refine blk_far ?_ (by have h_ := Kd.R_ne HO_639001.out BK623.out (by decide); intro e_; exact h_ (by rw [e_]; rfl)) _; (with_reducible repeat (first | refine blk_drewN ?_ _ | refine blk_drew ?_ | refine blk_alloc ?_ _)); exact BK623.out⟩, ⟨by (with_reducible repeat (first | refine blk_drewN ?_ _ | refine blk_drew ?_ | refine blk_alloc ?_ _)); refine blk_far ?_ (by have h_ := Kd.R_ne HO_639001.out BK624.out (by decide); intro e_; exact h_ (by rw [e_]; rfl)) _; (with_reducible repeat (first | refine blk_drewN ?_ _ | refine blk_drew ?_ | refine blk_alloc ?_ _)); exact BK624.out⟩, ⟨by (with_reducible repeat (first | refine blk_drewN ?_ _ | refine blk_drew ?_ | refine blk_alloc ?_ _)); refine blk_far ?_ (by have h_ := Kd.R_ne HO_639001.out BK638.out (by decide); intro e_; exact h_ (by rw [e_]; rfl)) _; (with_reducible repeat (first | refine blk_drewN ?_ _ | refine blk_drew ?_ | refine blk_alloc ?_ _)); exact BK638.out⟩, ⟨by repeat (first | (with_reducible first | exact HB.out | apply below_alloc | apply pw_below_drewN | apply below_drew1 | refine below_set ?_ GB57.out | refine below_set ?_ GE622.out | refine below_set ?_ GE623.out | refine below_set ?_ GE624.out | refine below_set ?_ GE638.out) | exact HB.out)⟩⟩
def tens_both_Add.f (k : Nat) (l0_0 l0_1 l1_0 l1_1 : List Int) : Option (List Int × List Int × Int) := tens_both_G.f fix_Add.f k l0_0 l0_1 l1_0 l1_1
theorem tens_both_Add.calls (k : Nat) (A0_0 : Option Addr) (c0_0 : Nat) (l0_0 : List Int) (A0_1 : Option Addr) (c0_1 : Nat) (l0_1 : List Int) (A1_0 : Option Addr) (c1_0 : Nat) (l1_0 : List Int) (A1_1 : Option Addr) (c1_1 : Nat) (l1_1 : List Int) (r1 : List Int) (r2 : List Int) (r3 : Int) (w : World) (hr0_0 : Kd.C (Kd.int .i64) w A0_0 l0_0.length l0_0) (hc0_0 : l0_0.length ≤ c0_0) (hr0_1 : Kd.C (Kd.int .i64) w A0_1 l0_1.length l0_1) (hc0_1 : l0_1.length ≤ c0_1) (hr1_0 : Kd.C (Kd.int .i64) w A1_0 l1_0.length l1_0) (hc1_0 : l1_0.length ≤ c1_0) (hr1_1 : Kd.C (Kd.int .i64) w A1_1 l1_1.length l1_1) (hc1_1 : l1_1.length ≤ c1_1) (h : tens_both_Add.f k l0_0 l0_1 l1_0 l1_1 = some (r1, r2, r3)) :
  Calls Tryz.prog 354 #[.agg #[.slice A0_0 l0_0.length c0_0, .slice A0_1 l0_1.length c0_1], .agg #[.slice A1_0 l1_0.length c1_0, .slice A1_1 l1_1.length c1_1], .func (.func 329) #[] #[]] w fun e w' => ∃ v0_ v1_ : Value, e = .returned (.tuple #[.agg #[v0_, v1_], .int .i64 r3]) ∧ Kd.R (Kd.int .i64) 3 w' w.heap.size (fun _ => True) v0_ r1 ∧ Kd.R (Kd.int .i64) 36 w' w.heap.size (fun _ => True) v1_ r2 ∧ Below w.heap.size w w' :=
 tens_both_G.calls fix_Add.f 329 _ Tryz.func329 (by kernel_rfl) rfl fix_Add.calls k A0_0 c0_0 l0_0 A0_1 c0_1 l0_1 A1_0 c1_0 l1_0 A1_1 c1_1 l1_1 r1 r2 r3 w hr0_0 hc0_0 hr0_1 hc0_1 hr1_0 hc1_0 hr1_1 hc1_1 h
def tens_both_Mul.f (k : Nat) (l0_0 l0_1 l1_0 l1_1 : List Int) : Option (List Int × List Int × Int) := tens_both_G.f fix_Mul.f k l0_0 l0_1 l1_0 l1_1
theorem tens_both_Mul.calls (k : Nat) (A0_0 : Option Addr) (c0_0 : Nat) (l0_0 : List Int) (A0_1 : Option Addr) (c0_1 : Nat) (l0_1 : List Int) (A1_0 : Option Addr) (c1_0 : Nat) (l1_0 : List Int) (A1_1 : Option Addr) (c1_1 : Nat) (l1_1 : List Int) (r1 : List Int) (r2 : List Int) (r3 : Int) (w : World) (hr0_0 : Kd.C (Kd.int .i64) w A0_0 l0_0.length l0_0) (hc0_0 : l0_0.length ≤ c0_0) (hr0_1 : Kd.C (Kd.int .i64) w A0_1 l0_1.length l0_1) (hc0_1 : l0_1.length ≤ c0_1) (hr1_0 : Kd.C (Kd.int .i64) w A1_0 l1_0.length l1_0) (hc1_0 : l1_0.length ≤ c1_0) (hr1_1 : Kd.C (Kd.int .i64) w A1_1 l1_1.length l1_1) (hc1_1 : l1_1.length ≤ c1_1) (h : tens_both_Mul.f k l0_0 l0_1 l1_0 l1_1 = some (r1, r2, r3)) :
  Calls Tryz.prog 354 #[.agg #[.slice A0_0 l0_0.length c0_0, .slice A0_1 l0_1.length c0_1], .agg #[.slice A1_0 l1_0.length c1_0, .slice A1_1 l1_1.length c1_1], .func (.func 330) #[] #[]] w fun e w' => ∃ v0_ v1_ : Value, e = .returned (.tuple #[.agg #[v0_, v1_], .int .i64 r3]) ∧ Kd.R (Kd.int .i64) 3 w' w.heap.size (fun _ => True) v0_ r1 ∧ Kd.R (Kd.int .i64) 36 w' w.heap.size (fun _ => True) v1_ r2 ∧ Below w.heap.size w w' :=
 tens_both_G.calls fix_Mul.f 330 _ Tryz.func330 (by kernel_rfl) rfl fix_Mul.calls k A0_0 c0_0 l0_0 A0_1 c0_1 l0_1 A1_0 c1_0 l1_0 A1_1 c1_1 l1_1 r1 r2 r3 w hr0_0 hc0_0 hr0_1 hc0_1 hr1_0 hc1_0 hr1_1 hc1_1 h
def tens_both_Sub.f (k : Nat) (l0_0 l0_1 l1_0 l1_1 : List Int) : Option (List Int × List Int × Int) := tens_both_G.f fix_Sub.f k l0_0 l0_1 l1_0 l1_1
theorem tens_both_Sub.calls (k : Nat) (A0_0 : Option Addr) (c0_0 : Nat) (l0_0 : List Int) (A0_1 : Option Addr) (c0_1 : Nat) (l0_1 : List Int) (A1_0 : Option Addr) (c1_0 : Nat) (l1_0 : List Int) (A1_1 : Option Addr) (c1_1 : Nat) (l1_1 : List Int) (r1 : List Int) (r2 : List Int) (r3 : Int) (w : World) (hr0_0 : Kd.C (Kd.int .i64) w A0_0 l0_0.length l0_0) (hc0_0 : l0_0.length ≤ c0_0) (hr0_1 : Kd.C (Kd.int .i64) w A0_1 l0_1.length l0_1) (hc0_1 : l0_1.length ≤ c0_1) (hr1_0 : Kd.C (Kd.int .i64) w A1_0 l1_0.length l1_0) (hc1_0 : l1_0.length ≤ c1_0) (hr1_1 : Kd.C (Kd.int .i64) w A1_1 l1_1.length l1_1) (hc1_1 : l1_1.length ≤ c1_1) (h : tens_both_Sub.f k l0_0 l0_1 l1_0 l1_1 = some (r1, r2, r3)) :
  Calls Tryz.prog 354 #[.agg #[.slice A0_0 l0_0.length c0_0, .slice A0_1 l0_1.length c0_1], .agg #[.slice A1_0 l1_0.length c1_0, .slice A1_1 l1_1.length c1_1], .func (.func 332) #[] #[]] w fun e w' => ∃ v0_ v1_ : Value, e = .returned (.tuple #[.agg #[v0_, v1_], .int .i64 r3]) ∧ Kd.R (Kd.int .i64) 3 w' w.heap.size (fun _ => True) v0_ r1 ∧ Kd.R (Kd.int .i64) 36 w' w.heap.size (fun _ => True) v1_ r2 ∧ Below w.heap.size w w' :=
 tens_both_G.calls fix_Sub.f 332 _ Tryz.func332 (by kernel_rfl) rfl fix_Sub.calls k A0_0 c0_0 l0_0 A0_1 c0_1 l0_1 A1_0 c1_0 l1_0 A1_1 c1_1 l1_1 r1 r2 r3 w hr0_0 hc0_0 hr0_1 hc0_1 hr1_0 hc1_0 hr1_1 hc1_1 h
def tens_Add.f (k : Nat) (l0_0 : List Int) (l0_1 : List Int) (l1_0 : List Int) (l1_1 : List Int) : Option (List Int × List Int × Int) := (tens_both_Add.f k l0_0 l0_1 l1_0 l1_1).bind fun bt712 => (some (bt712.1, bt712.2.1, bt712.2.2))
theorem tens_Add.calls (k : Nat) (A0_0 : Option Addr) (c0_0 : Nat) (l0_0 : List Int) (A0_1 : Option Addr) (c0_1 : Nat) (l0_1 : List Int) (A1_0 : Option Addr) (c1_0 : Nat) (l1_0 : List Int) (A1_1 : Option Addr) (c1_1 : Nat) (l1_1 : List Int) (r1 : List Int) (r2 : List Int) (r3 : Int) (w : World) (hr0_0 : Kd.C (Kd.int .i64) w A0_0 l0_0.length l0_0) (hc0_0 : l0_0.length ≤ c0_0) (hr0_1 : Kd.C (Kd.int .i64) w A0_1 l0_1.length l0_1) (hc0_1 : l0_1.length ≤ c0_1) (hr1_0 : Kd.C (Kd.int .i64) w A1_0 l1_0.length l1_0) (hc1_0 : l1_0.length ≤ c1_0) (hr1_1 : Kd.C (Kd.int .i64) w A1_1 l1_1.length l1_1) (hc1_1 : l1_1.length ≤ c1_1) (h : tens_Add.f k l0_0 l0_1 l1_0 l1_1 = some (r1, r2, r3)) :
  Calls Tryz.prog 312 #[.agg #[.slice A0_0 l0_0.length c0_0, .slice A0_1 l0_1.length c0_1], .agg #[.slice A1_0 l1_0.length c1_0, .slice A1_1 l1_1.length c1_1]] w fun e w' => ∃ v0_ v1_ : Value, e = .returned (.tuple #[.agg #[v0_, v1_], .int .i64 r3]) ∧ Kd.R (Kd.int .i64) 3 w' w.heap.size (fun _ => True) v0_ r1 ∧ Kd.R (Kd.int .i64) 36 w' w.heap.size (fun _ => True) v1_ r2 ∧ Below w.heap.size w w' := by
 have hu273 := Tryz.underlying273
 have HR0_0 := zA_ hr0_0
 have HC0_0 := zA_ hc0_0
 clear hr0_0 hc0_0
 have HR0_1 := zA_ hr0_1
 have HC0_1 := zA_ hc0_1
 clear hr0_1 hc0_1
 have HR1_0 := zA_ hr1_0
 have HC1_0 := zA_ hc1_0
 clear hr1_0 hc1_0
 have HR1_1 := zA_ hr1_1
 have HC1_1 := zA_ hc1_1
 clear hr1_1 hc1_1
 have HB := zA_ (Below.refl w.heap.size w)
 have H : ((tens_both_Add.f k l0_0 l0_1 l1_0 l1_1).bind fun bt712 => (some (bt712.1, bt712.2.1, bt712.2.2))) = some (r1, r2, r3) := h
 clear h
 replace H := zO_ H
 obtain ⟨⟨t712, t715, t718⟩, A30, H⟩ := H
 replace H : (some (t712, t715, t718)) = some (r1, r2, r3) := H
 have A3 := zA_ A30
 clear A30
 simp only [Option.some.injEq, Prod.mk.injEq] at H
 obtain ⟨rfl, rfl, rfl⟩ := H
 go_enter Tryz.func312, Tryz.ntmps312
 go_wp2_with (first | ((with_reducible refine gate_dst (N := 2) rfl ?_); refine zB_ (#[.slice A0_0 l0_0.length c0_0, .slice A0_1 l0_1.length c0_1]) 273 ?_; intro gb709 hg w4 hbox hb; have BK709 := zA_ (hbox); have GW709 := zA_ (zs_ hg (zw0_ HB)); have GE709 := zA_ (zs_ hg (zw0_ HB)); replace HB := zA_ (below_step (zw0_ HB) hb); clear hb hbox hg) | ((with_reducible refine gate_dst (N := 3) rfl ?_); refine zB_ (#[.slice A1_0 l1_0.length c1_0, .slice A1_1 l1_1.length c1_1]) 273 ?_; intro gb710 hg w5 hbox hb; have BK710 := zA_ (hbox); have GW710 := zA_ (zs_ hg (zw1_ HB GE709)); have GE710 := zA_ (zs_ hg (zw1_ HB GE709)); replace HB := zA_ (below_step (zw1_ HB GE709) hb); have NB709_710 := zA_ (zn_ hg BK709); have NB710_709 := zA_ (zm_ hg BK709); replace BK709 := za_ BK709 hb; clear hb hbox hg) | ((with_reducible refine gate_dst (N := 4) rfl ?_); refine zB_ (#[.slice none 0 0, .slice none 0 0]) 273 ?_; intro gb711 hg w6 hbox hb; have BK711 := zA_ (hbox); have GW711 := zA_ (zs_ hg (zw2_ HB GE709 GE710)); have GE711 := zA_ (zs_ hg (zw2_ HB GE709 GE710)); replace HB := zA_ (below_step (zw2_ HB GE709 GE710) hb); have NB709_711 := zA_ (zn_ hg BK709); have NB711_709 := zA_ (zm_ hg BK709); replace BK709 := za_ BK709 hb; have NB710_711 := zA_ (zn_ hg BK710); have NB711_710 := zA_ (zm_ hg BK710); replace BK710 := za_ BK710 hb; clear hb hbox hg; have hnb7 := NB709_710.out; have hnc7 := NB710_709.out; have hnb8 := NB709_711.out; have hnc8 := NB711_709.out; have hcz9_0 := zx_ (v := .slice A0_0 l0_0.length c0_0) BK709 0; have hcz9_1 := zx_ (v := .slice A0_1 l0_1.length c0_1) BK709 1; have hfz9_0 := blk_frozen BK709.out 0; have hfz9_1 := blk_frozen BK709.out 1; have hnb10 := NB710_711.out; have hnc10 := NB711_710.out; have hcz11_0 := zx_ (v := .slice A1_0 l1_0.length c1_0) BK710 0; have hcz11_1 := zx_ (v := .slice A1_1 l1_1.length c1_1) BK710 1; have hfz11_0 := blk_frozen BK710.out 0; have hfz11_1 := blk_frozen BK710.out 1) | ((with_reducible refine gate_callee (f := 354) rfl ?_); refine zg_ (some 8) Tryz.func354 #[.agg #[.slice A0_0 l0_0.length c0_0, .slice A0_1 l0_1.length c0_1], .agg #[.slice A1_0 l1_0.length c1_0, .slice A1_1 l1_1.length c1_1], .func (.func 329) #[] #[]] (h := ?_); (with_reducible refine (tens_both_Add.calls k _ _ l0_0 _ _ l0_1 _ _ l1_0 _ _ l1_1 t712 t715 t718 _ ?side1 ?side2 ?side3 ?side4 ?side5 ?side6 ?side7 ?side8 A3.out).mono ?_); (case side1 => exact zk_ (Kd.C_below HR0_0.out HB.out)); (case side2 => exact HC0_0.out); (case side3 => exact zk_ (Kd.C_below HR0_1.out HB.out)); (case side4 => exact HC0_1.out); (case side5 => exact zk_ (Kd.C_below HR1_0.out HB.out)); (case side6 => exact HC1_0.out); (case side7 => exact zk_ (Kd.C_below HR1_1.out HB.out)); (case side8 => exact HC1_1.out); rintro e w12 ⟨v713, v716, rfl, ho0, ho1, hb⟩; refine ⟨_, rfl, ?_⟩; have HO714 := zA_ (Kd.R_lower ho0 (below_size (zw3_ HB GE709 GE710 GE711))); have HO717 := zA_ (Kd.R_lower ho1 (below_size (zw3_ HB GE709 GE710 GE711))); replace BK709 := za_ BK709 hb; replace BK710 := za_ BK710 hb; replace BK711 := za_ BK711 hb; replace HB := zA_ (below_step (zw3_ HB GE709 GE710 GE711) hb); (try clear hb); (try clear ho0); (try clear ho1); obtain ⟨Ao13, co13, eo13⟩ := Kd.R_slice HO714.out; subst eo13; have hcz14_0 := zx_ (v := .slice none 0 0) BK711 0; have hcz14_1 := zx_ (v := .slice none 0 0) BK711 1; have hfz14_0 := blk_frozen BK711.out 0; have hfz14_1 := blk_frozen BK711.out 1; obtain ⟨Ao15, co15, eo15⟩ := Kd.R_slice HO717.out; subst eo15))
 refine bodyPost_ret (results_ct rfl _ _ gb711 273 #[.slice Ao13 t712.length co13, .slice Ao15 t715.length co15] (0, 0) _ rfl (zo2_ BK711) Tryz.underlying273 rfl (by kernel_rfl)) rfl ?_
 exact ⟨_, _, z0_, zr_ (Kd.R_mono (Kd.R_far (p := ⟨gb711, 1, none⟩) (Kd.R_far (p := ⟨gb711, 0, none⟩) (Kd.R_types HO714.out BK711.out (by decide)) (fun _ hk => hk.2) (.slice Ao13 t712.length co13)) (fun _ hk => hk.2) (.slice Ao15 t715.length co15)) (fun _ hk => trivial)), zr_ (Kd.R_mono (Kd.R_far (p := ⟨gb711, 1, none⟩) (Kd.R_far (p := ⟨gb711, 0, none⟩) (Kd.R_types HO717.out BK711.out (by decide)) (fun _ hk => hk.2) (.slice Ao13 t712.length co13)) (fun _ hk => hk.2) (.slice Ao15 t715.length co15)) (fun _ hk => trivial)), zw3_ HB GE709 GE710 GE711⟩
def tens_Mul.f (k : Nat) (l0_0 : List Int) (l0_1 : List Int) (l1_0 : List Int) (l1_1 : List Int) : Option (List Int × List Int × Int) := (tens_both_Mul.f k l0_0 l0_1 l1_0 l1_1).bind fun bt722 => (some (bt722.1, bt722.2.1, bt722.2.2))
theorem tens_Mul.calls (k : Nat) (A0_0 : Option Addr) (c0_0 : Nat) (l0_0 : List Int) (A0_1 : Option Addr) (c0_1 : Nat) (l0_1 : List Int) (A1_0 : Option Addr) (c1_0 : Nat) (l1_0 : List Int) (A1_1 : Option Addr) (c1_1 : Nat) (l1_1 : List Int) (r1 : List Int) (r2 : List Int) (r3 : Int) (w : World) (hr0_0 : Kd.C (Kd.int .i64) w A0_0 l0_0.length l0_0) (hc0_0 : l0_0.length ≤ c0_0) (hr0_1 : Kd.C (Kd.int .i64) w A0_1 l0_1.length l0_1) (hc0_1 : l0_1.length ≤ c0_1) (hr1_0 : Kd.C (Kd.int .i64) w A1_0 l1_0.length l1_0) (hc1_0 : l1_0.length ≤ c1_0) (hr1_1 : Kd.C (Kd.int .i64) w A1_1 l1_1.length l1_1) (hc1_1 : l1_1.length ≤ c1_1) (h : tens_Mul.f k l0_0 l0_1 l1_0 l1_1 = some (r1, r2, r3)) :
  Calls Tryz.prog 341 #[.agg #[.slice A0_0 l0_0.length c0_0, .slice A0_1 l0_1.length c0_1], .agg #[.slice A1_0 l1_0.length c1_0, .slice A1_1 l1_1.length c1_1]] w fun e w' => ∃ v0_ v1_ : Value, e = .returned (.tuple #[.agg #[v0_, v1_], .int .i64 r3]) ∧ Kd.R (Kd.int .i64) 3 w' w.heap.size (fun _ => True) v0_ r1 ∧ Kd.R (Kd.int .i64) 36 w' w.heap.size (fun _ => True) v1_ r2 ∧ Below w.heap.size w w' := by
 have hu273 := Tryz.underlying273
 have HR0_0 := zA_ hr0_0
 have HC0_0 := zA_ hc0_0
 clear hr0_0 hc0_0
 have HR0_1 := zA_ hr0_1
 have HC0_1 := zA_ hc0_1
 clear hr0_1 hc0_1
 have HR1_0 := zA_ hr1_0
 have HC1_0 := zA_ hc1_0
 clear hr1_0 hc1_0
 have HR1_1 := zA_ hr1_1
 have HC1_1 := zA_ hc1_1
 clear hr1_1 hc1_1
 have HB := zA_ (Below.refl w.heap.size w)
 have H : ((tens_both_Mul.f k l0_0 l0_1 l1_0 l1_1).bind fun bt722 => (some (bt722.1, bt722.2.1, bt722.2.2))) = some (r1, r2, r3) := h
 clear h
 replace H := zO_ H
 obtain ⟨⟨t722, t725, t728⟩, A30, H⟩ := H
 replace H : (some (t722, t725, t728)) = some (r1, r2, r3) := H
 have A3 := zA_ A30
 clear A30
 simp only [Option.some.injEq, Prod.mk.injEq] at H
 obtain ⟨rfl, rfl, rfl⟩ := H
 go_enter Tryz.func341, Tryz.ntmps341
 go_wp2_with (first | ((with_reducible refine gate_dst (N := 2) rfl ?_); refine zB_ (#[.slice A0_0 l0_0.length c0_0, .slice A0_1 l0_1.length c0_1]) 273 ?_; intro gb719 hg w4 hbox hb; have BK719 := zA_ (hbox); have GW719 := zA_ (zs_ hg (zw0_ HB)); have GE719 := zA_ (zs_ hg (zw0_ HB)); replace HB := zA_ (below_step (zw0_ HB) hb); clear hb hbox hg) | ((with_reducible refine gate_dst (N := 3) rfl ?_); refine zB_ (#[.slice A1_0 l1_0.length c1_0, .slice A1_1 l1_1.length c1_1]) 273 ?_; intro gb720 hg w5 hbox hb; have BK720 := zA_ (hbox); have GW720 := zA_ (zs_ hg (zw1_ HB GE719)); have GE720 := zA_ (zs_ hg (zw1_ HB GE719)); replace HB := zA_ (below_step (zw1_ HB GE719) hb); have NB719_720 := zA_ (zn_ hg BK719); have NB720_719 := zA_ (zm_ hg BK719); replace BK719 := za_ BK719 hb; clear hb hbox hg) | ((with_reducible refine gate_dst (N := 4) rfl ?_); refine zB_ (#[.slice none 0 0, .slice none 0 0]) 273 ?_; intro gb721 hg w6 hbox hb; have BK721 := zA_ (hbox); have GW721 := zA_ (zs_ hg (zw2_ HB GE719 GE720)); have GE721 := zA_ (zs_ hg (zw2_ HB GE719 GE720)); replace HB := zA_ (below_step (zw2_ HB GE719 GE720) hb); have NB719_721 := zA_ (zn_ hg BK719); have NB721_719 := zA_ (zm_ hg BK719); replace BK719 := za_ BK719 hb; have NB720_721 := zA_ (zn_ hg BK720); have NB721_720 := zA_ (zm_ hg BK720); replace BK720 := za_ BK720 hb; clear hb hbox hg; have hnb7 := NB719_720.out; have hnc7 := NB720_719.out; have hnb8 := NB719_721.out; have hnc8 := NB721_719.out; have hcz9_0 := zx_ (v := .slice A0_0 l0_0.length c0_0) BK719 0; have hcz9_1 := zx_ (v := .slice A0_1 l0_1.length c0_1) BK719 1; have hfz9_0 := blk_frozen BK719.out 0; have hfz9_1 := blk_frozen BK719.out 1; have hnb10 := NB720_721.out; have hnc10 := NB721_720.out; have hcz11_0 := zx_ (v := .slice A1_0 l1_0.length c1_0) BK720 0; have hcz11_1 := zx_ (v := .slice A1_1 l1_1.length c1_1) BK720 1; have hfz11_0 := blk_frozen BK720.out 0; have hfz11_1 := blk_frozen BK720.out 1) | ((with_reducible refine gate_callee (f := 354) rfl ?_); refine zg_ (some 8) Tryz.func354 #[.agg #[.slice A0_0 l0_0.length c0_0, .slice A0_1 l0_1.length c0_1], .agg #[.slice A1_0 l1_0.length c1_0, .slice A1_1 l1_1.length c1_1], .func (.func 330) #[] #[]] (h := ?_); (with_reducible refine (tens_both_Mul.calls k _ _ l0_0 _ _ l0_1 _ _ l1_0 _ _ l1_1 t722 t725 t728 _ ?side1 ?side2 ?side3 ?side4 ?side5 ?side6 ?side7 ?side8 A3.out).mono ?_); (case side1 => exact zk_ (Kd.C_below HR0_0.out HB.out)); (case side2 => exact HC0_0.out); (case side3 => exact zk_ (Kd.C_below HR0_1.out HB.out)); (case side4 => exact HC0_1.out); (case side5 => exact zk_ (Kd.C_below HR1_0.out HB.out)); (case side6 => exact HC1_0.out); (case side7 => exact zk_ (Kd.C_below HR1_1.out HB.out)); (case side8 => exact HC1_1.out); rintro e w12 ⟨v723, v726, rfl, ho0, ho1, hb⟩; refine ⟨_, rfl, ?_⟩; have HO724 := zA_ (Kd.R_lower ho0 (below_size (zw3_ HB GE719 GE720 GE721))); have HO727 := zA_ (Kd.R_lower ho1 (below_size (zw3_ HB GE719 GE720 GE721))); replace BK719 := za_ BK719 hb; replace BK720 := za_ BK720 hb; replace BK721 := za_ BK721 hb; replace HB := zA_ (below_step (zw3_ HB GE719 GE720 GE721) hb); (try clear hb); (try clear ho0); (try clear ho1); obtain ⟨Ao13, co13, eo13⟩ := Kd.R_slice HO724.out; subst eo13; have hcz14_0 := zx_ (v := .slice none 0 0) BK721 0; have hcz14_1 := zx_ (v := .slice none 0 0) BK721 1; have hfz14_0 := blk_frozen BK721.out 0; have hfz14_1 := blk_frozen BK721.out 1; obtain ⟨Ao15, co15, eo15⟩ := Kd.R_slice HO727.out; subst eo15))
 refine bodyPost_ret (results_ct rfl _ _ gb721 273 #[.slice Ao13 t722.length co13, .slice Ao15 t725.length co15] (0, 0) _ rfl (zo2_ BK721) Tryz.underlying273 rfl (by kernel_rfl)) rfl ?_
 exact ⟨_, _, z0_, zr_ (Kd.R_mono (Kd.R_far (p := ⟨gb721, 1, none⟩) (Kd.R_far (p := ⟨gb721, 0, none⟩) (Kd.R_types HO724.out BK721.out (by decide)) (fun _ hk => hk.2) (.slice Ao13 t722.length co13)) (fun _ hk => hk.2) (.slice Ao15 t725.length co15)) (fun _ hk => trivial)), zr_ (Kd.R_mono (Kd.R_far (p := ⟨gb721, 1, none⟩) (Kd.R_far (p := ⟨gb721, 0, none⟩) (Kd.R_types HO727.out BK721.out (by decide)) (fun _ hk => hk.2) (.slice Ao13 t722.length co13)) (fun _ hk => hk.2) (.slice Ao15 t725.length co15)) (fun _ hk => trivial)), zw3_ HB GE719 GE720 GE721⟩
def tens_Sub.f (k : Nat) (l0_0 : List Int) (l0_1 : List Int) (l1_0 : List Int) (l1_1 : List Int) : Option (List Int × List Int × Int) := (tens_both_Sub.f k l0_0 l0_1 l1_0 l1_1).bind fun bt732 => (some (bt732.1, bt732.2.1, bt732.2.2))
theorem tens_Sub.calls (k : Nat) (A0_0 : Option Addr) (c0_0 : Nat) (l0_0 : List Int) (A0_1 : Option Addr) (c0_1 : Nat) (l0_1 : List Int) (A1_0 : Option Addr) (c1_0 : Nat) (l1_0 : List Int) (A1_1 : Option Addr) (c1_1 : Nat) (l1_1 : List Int) (r1 : List Int) (r2 : List Int) (r3 : Int) (w : World) (hr0_0 : Kd.C (Kd.int .i64) w A0_0 l0_0.length l0_0) (hc0_0 : l0_0.length ≤ c0_0) (hr0_1 : Kd.C (Kd.int .i64) w A0_1 l0_1.length l0_1) (hc0_1 : l0_1.length ≤ c0_1) (hr1_0 : Kd.C (Kd.int .i64) w A1_0 l1_0.length l1_0) (hc1_0 : l1_0.length ≤ c1_0) (hr1_1 : Kd.C (Kd.int .i64) w A1_1 l1_1.length l1_1) (hc1_1 : l1_1.length ≤ c1_1) (h : tens_Sub.f k l0_0 l0_1 l1_0 l1_1 = some (r1, r2, r3)) :
  Calls Tryz.prog 385 #[.agg #[.slice A0_0 l0_0.length c0_0, .slice A0_1 l0_1.length c0_1], .agg #[.slice A1_0 l1_0.length c1_0, .slice A1_1 l1_1.length c1_1]] w fun e w' => ∃ v0_ v1_ : Value, e = .returned (.tuple #[.agg #[v0_, v1_], .int .i64 r3]) ∧ Kd.R (Kd.int .i64) 3 w' w.heap.size (fun _ => True) v0_ r1 ∧ Kd.R (Kd.int .i64) 36 w' w.heap.size (fun _ => True) v1_ r2 ∧ Below w.heap.size w w' := by
 have hu273 := Tryz.underlying273
 have HR0_0 := zA_ hr0_0
 have HC0_0 := zA_ hc0_0
 clear hr0_0 hc0_0
 have HR0_1 := zA_ hr0_1
 have HC0_1 := zA_ hc0_1
 clear hr0_1 hc0_1
 have HR1_0 := zA_ hr1_0
 have HC1_0 := zA_ hc1_0
 clear hr1_0 hc1_0
 have HR1_1 := zA_ hr1_1
 have HC1_1 := zA_ hc1_1
 clear hr1_1 hc1_1
 have HB := zA_ (Below.refl w.heap.size w)
 have H : ((tens_both_Sub.f k l0_0 l0_1 l1_0 l1_1).bind fun bt732 => (some (bt732.1, bt732.2.1, bt732.2.2))) = some (r1, r2, r3) := h
 clear h
 replace H := zO_ H
 obtain ⟨⟨t732, t735, t738⟩, A30, H⟩ := H
 replace H : (some (t732, t735, t738)) = some (r1, r2, r3) := H
 have A3 := zA_ A30
 clear A30
 simp only [Option.some.injEq, Prod.mk.injEq] at H
 obtain ⟨rfl, rfl, rfl⟩ := H
 go_enter Tryz.func385, Tryz.ntmps385
 go_wp2_with (first | ((with_reducible refine gate_dst (N := 2) rfl ?_); refine zB_ (#[.slice A0_0 l0_0.length c0_0, .slice A0_1 l0_1.length c0_1]) 273 ?_; intro gb729 hg w4 hbox hb; have BK729 := zA_ (hbox); have GW729 := zA_ (zs_ hg (zw0_ HB)); have GE729 := zA_ (zs_ hg (zw0_ HB)); replace HB := zA_ (below_step (zw0_ HB) hb); clear hb hbox hg) | ((with_reducible refine gate_dst (N := 3) rfl ?_); refine zB_ (#[.slice A1_0 l1_0.length c1_0, .slice A1_1 l1_1.length c1_1]) 273 ?_; intro gb730 hg w5 hbox hb; have BK730 := zA_ (hbox); have GW730 := zA_ (zs_ hg (zw1_ HB GE729)); have GE730 := zA_ (zs_ hg (zw1_ HB GE729)); replace HB := zA_ (below_step (zw1_ HB GE729) hb); have NB729_730 := zA_ (zn_ hg BK729); have NB730_729 := zA_ (zm_ hg BK729); replace BK729 := za_ BK729 hb; clear hb hbox hg) | ((with_reducible refine gate_dst (N := 4) rfl ?_); refine zB_ (#[.slice none 0 0, .slice none 0 0]) 273 ?_; intro gb731 hg w6 hbox hb; have BK731 := zA_ (hbox); have GW731 := zA_ (zs_ hg (zw2_ HB GE729 GE730)); have GE731 := zA_ (zs_ hg (zw2_ HB GE729 GE730)); replace HB := zA_ (below_step (zw2_ HB GE729 GE730) hb); have NB729_731 := zA_ (zn_ hg BK729); have NB731_729 := zA_ (zm_ hg BK729); replace BK729 := za_ BK729 hb; have NB730_731 := zA_ (zn_ hg BK730); have NB731_730 := zA_ (zm_ hg BK730); replace BK730 := za_ BK730 hb; clear hb hbox hg; have hnb7 := NB729_730.out; have hnc7 := NB730_729.out; have hnb8 := NB729_731.out; have hnc8 := NB731_729.out; have hcz9_0 := zx_ (v := .slice A0_0 l0_0.length c0_0) BK729 0; have hcz9_1 := zx_ (v := .slice A0_1 l0_1.length c0_1) BK729 1; have hfz9_0 := blk_frozen BK729.out 0; have hfz9_1 := blk_frozen BK729.out 1; have hnb10 := NB730_731.out; have hnc10 := NB731_730.out; have hcz11_0 := zx_ (v := .slice A1_0 l1_0.length c1_0) BK730 0; have hcz11_1 := zx_ (v := .slice A1_1 l1_1.length c1_1) BK730 1; have hfz11_0 := blk_frozen BK730.out 0; have hfz11_1 := blk_frozen BK730.out 1) | ((with_reducible refine gate_callee (f := 354) rfl ?_); refine zg_ (some 8) Tryz.func354 #[.agg #[.slice A0_0 l0_0.length c0_0, .slice A0_1 l0_1.length c0_1], .agg #[.slice A1_0 l1_0.length c1_0, .slice A1_1 l1_1.length c1_1], .func (.func 332) #[] #[]] (h := ?_); (with_reducible refine (tens_both_Sub.calls k _ _ l0_0 _ _ l0_1 _ _ l1_0 _ _ l1_1 t732 t735 t738 _ ?side1 ?side2 ?side3 ?side4 ?side5 ?side6 ?side7 ?side8 A3.out).mono ?_); (case side1 => exact zk_ (Kd.C_below HR0_0.out HB.out)); (case side2 => exact HC0_0.out); (case side3 => exact zk_ (Kd.C_below HR0_1.out HB.out)); (case side4 => exact HC0_1.out); (case side5 => exact zk_ (Kd.C_below HR1_0.out HB.out)); (case side6 => exact HC1_0.out); (case side7 => exact zk_ (Kd.C_below HR1_1.out HB.out)); (case side8 => exact HC1_1.out); rintro e w12 ⟨v733, v736, rfl, ho0, ho1, hb⟩; refine ⟨_, rfl, ?_⟩; have HO734 := zA_ (Kd.R_lower ho0 (below_size (zw3_ HB GE729 GE730 GE731))); have HO737 := zA_ (Kd.R_lower ho1 (below_size (zw3_ HB GE729 GE730 GE731))); replace BK729 := za_ BK729 hb; replace BK730 := za_ BK730 hb; replace BK731 := za_ BK731 hb; replace HB := zA_ (below_step (zw3_ HB GE729 GE730 GE731) hb); (try clear hb); (try clear ho0); (try clear ho1); obtain ⟨Ao13, co13, eo13⟩ := Kd.R_slice HO734.out; subst eo13; have hcz14_0 := zx_ (v := .slice none 0 0) BK731 0; have hcz14_1 := zx_ (v := .slice none 0 0) BK731 1; have hfz14_0 := blk_frozen BK731.out 0; have hfz14_1 := blk_frozen BK731.out 1; obtain ⟨Ao15, co15, eo15⟩ := Kd.R_slice HO737.out; subst eo15))
 refine bodyPost_ret (results_ct rfl _ _ gb731 273 #[.slice Ao13 t732.length co13, .slice Ao15 t735.length co15] (0, 0) _ rfl (zo2_ BK731) Tryz.underlying273 rfl (by kernel_rfl)) rfl ?_
 exact ⟨_, _, z0_, zr_ (Kd.R_mono (Kd.R_far (p := ⟨gb731, 1, none⟩) (Kd.R_far (p := ⟨gb731, 0, none⟩) (Kd.R_types HO734.out BK731.out (by decide)) (fun _ hk => hk.2) (.slice Ao13 t732.length co13)) (fun _ hk => hk.2) (.slice Ao15 t735.length co15)) (fun _ hk => trivial)), zr_ (Kd.R_mono (Kd.R_far (p := ⟨gb731, 1, none⟩) (Kd.R_far (p := ⟨gb731, 0, none⟩) (Kd.R_types HO737.out BK731.out (by decide)) (fun _ hk => hk.2) (.slice Ao13 t732.length co13)) (fun _ hk => hk.2) (.slice Ao15 t735.length co15)) (fun _ hk => trivial)), zw3_ HB GE729 GE730 GE731⟩
def tape_pair.f (k : Nat) (a0 : Int) (l1_0 : List Int) (l1_1 : List Int) (l2_0 : List Int) (l2_1 : List Int) (a3 : Int) : Option (List Int × List Int × Int) := if a0 = 2 then ((tens_Add.f k l1_0 l1_1 l2_0 l2_1).bind fun bt785 => (some (bt785.1, bt785.2.1, bt785.2.2))) else (if a0 = 3 then ((tens_Sub.f k l1_0 l1_1 l2_0 l2_1).bind fun bt792 => (some (bt792.1, bt792.2.1, bt792.2.2))) else (if a0 = 4 then ((tens_Mul.f k l1_0 l1_1 l2_0 l2_1).bind fun bt799 => (some (bt799.1, bt799.2.1, bt799.2.2))) else (none)))
theorem tape_pair.calls (k : Nat) (a0 : Int) (A1_0 : Option Addr) (c1_0 : Nat) (l1_0 : List Int) (A1_1 : Option Addr) (c1_1 : Nat) (l1_1 : List Int) (A2_0 : Option Addr) (c2_0 : Nat) (l2_0 : List Int) (A2_1 : Option Addr) (c2_1 : Nat) (l2_1 : List Int) (a3 : Int) (r1 : List Int) (r2 : List Int) (r3 : Int) (w : World) (hr1_0 : Kd.C (Kd.int .i64) w A1_0 l1_0.length l1_0) (hc1_0 : l1_0.length ≤ c1_0) (hr1_1 : Kd.C (Kd.int .i64) w A1_1 l1_1.length l1_1) (hc1_1 : l1_1.length ≤ c1_1) (hr2_0 : Kd.C (Kd.int .i64) w A2_0 l2_0.length l2_0) (hc2_0 : l2_0.length ≤ c2_0) (hr2_1 : Kd.C (Kd.int .i64) w A2_1 l2_1.length l2_1) (hc2_1 : l2_1.length ≤ c2_1) (h : tape_pair.f k a0 l1_0 l1_1 l2_0 l2_1 a3 = some (r1, r2, r3)) :
  Calls Tryz.prog 360 #[.int .i64 a0, .agg #[.slice A1_0 l1_0.length c1_0, .slice A1_1 l1_1.length c1_1], .agg #[.slice A2_0 l2_0.length c2_0, .slice A2_1 l2_1.length c2_1], .int .i64 a3] w fun e w' => ∃ v0_ v1_ : Value, e = .returned (.tuple #[.agg #[v0_, v1_], .int .i64 r3]) ∧ Kd.R (Kd.int .i64) 3 w' w.heap.size (fun _ => True) v0_ r1 ∧ Kd.R (Kd.int .i64) 36 w' w.heap.size (fun _ => True) v1_ r2 ∧ Below w.heap.size w w' := by
 have hu273 := Tryz.underlying273
 have HR1_0 := zA_ hr1_0
 have HC1_0 := zA_ hc1_0
 clear hr1_0 hc1_0
 have HR1_1 := zA_ hr1_1
 have HC1_1 := zA_ hc1_1
 clear hr1_1 hc1_1
 have HR2_0 := zA_ hr2_0
 have HC2_0 := zA_ hc2_0
 clear hr2_0 hc2_0
 have HR2_1 := zA_ hr2_1
 have HC2_1 := zA_ hc2_1
 clear hr2_1 hc2_1
 have HB := zA_ (Below.refl w.heap.size w)
 have H : (if a0 = 2 then ((tens_Add.f k l1_0 l1_1 l2_0 l2_1).bind fun bt785 => (some (bt785.1, bt785.2.1, bt785.2.2))) else (if a0 = 3 then ((tens_Sub.f k l1_0 l1_1 l2_0 l2_1).bind fun bt792 => (some (bt792.1, bt792.2.1, bt792.2.2))) else (if a0 = 4 then ((tens_Mul.f k l1_0 l1_1 l2_0 l2_1).bind fun bt799 => (some (bt799.1, bt799.2.1, bt799.2.2))) else (none)))) = some (r1, r2, r3) := h
 clear h
 by_cases c5 : a0 = 2
 ·rw [if_pos c5] at H
  have c5b0 : (a0 == 2) = true := beq_iff_eq.mpr c5
  have c5b1 : (a0 != 2) = false := bne_eq_false_iff_eq.mpr c5
  clear c5
  replace H := zO_ H
  obtain ⟨⟨t785, t788, t791⟩, A60, H⟩ := H
  replace H : (some (t785, t788, t791)) = some (r1, r2, r3) := H
  have A6 := zA_ A60
  clear A60
  simp only [Option.some.injEq, Prod.mk.injEq] at H
  obtain ⟨rfl, rfl, rfl⟩ := H
  go_enter Tryz.func360, Tryz.ntmps360
  go_wp2_with (first | ((with_reducible refine gate_dst (N := 5) rfl ?_); refine zB_ (#[.slice A1_0 l1_0.length c1_0, .slice A1_1 l1_1.length c1_1]) 273 ?_; intro gb782 hg w7 hbox hb; have BK782 := zA_ (hbox); have GW782 := zA_ (zs_ hg (zw0_ HB)); have GE782 := zA_ (zs_ hg (zw0_ HB)); replace HB := zA_ (below_step (zw0_ HB) hb); clear hb hbox hg) | ((with_reducible refine gate_dst (N := 6) rfl ?_); refine zB_ (#[.slice A2_0 l2_0.length c2_0, .slice A2_1 l2_1.length c2_1]) 273 ?_; intro gb783 hg w8 hbox hb; have BK783 := zA_ (hbox); have GW783 := zA_ (zs_ hg (zw1_ HB GE782)); have GE783 := zA_ (zs_ hg (zw1_ HB GE782)); replace HB := zA_ (below_step (zw1_ HB GE782) hb); have NB782_783 := zA_ (zn_ hg BK782); have NB783_782 := zA_ (zm_ hg BK782); replace BK782 := za_ BK782 hb; clear hb hbox hg) | ((with_reducible refine gate_dst (N := 8) rfl ?_); refine zB_ (#[.slice none 0 0, .slice none 0 0]) 273 ?_; intro gb784 hg w9 hbox hb; have BK784 := zA_ (hbox); have GW784 := zA_ (zs_ hg (zw2_ HB GE782 GE783)); have GE784 := zA_ (zs_ hg (zw2_ HB GE782 GE783)); replace HB := zA_ (below_step (zw2_ HB GE782 GE783) hb); have NB782_784 := zA_ (zn_ hg BK782); have NB784_782 := zA_ (zm_ hg BK782); replace BK782 := za_ BK782 hb; have NB783_784 := zA_ (zn_ hg BK783); have NB784_783 := zA_ (zm_ hg BK783); replace BK783 := za_ BK783 hb; clear hb hbox hg; have hnb10 := NB782_783.out; have hnc10 := NB783_782.out; have hnb11 := NB782_784.out; have hnc11 := NB784_782.out; have hcz12_0 := zx_ (v := .slice A1_0 l1_0.length c1_0) BK782 0; have hcz12_1 := zx_ (v := .slice A1_1 l1_1.length c1_1) BK782 1; have hfz12_0 := blk_frozen BK782.out 0; have hfz12_1 := blk_frozen BK782.out 1; have hnb13 := NB783_784.out; have hnc13 := NB784_783.out; have hcz14_0 := zx_ (v := .slice A2_0 l2_0.length c2_0) BK783 0; have hcz14_1 := zx_ (v := .slice A2_1 l2_1.length c2_1) BK783 1; have hfz14_0 := blk_frozen BK783.out 0; have hfz14_1 := blk_frozen BK783.out 1) | ((with_reducible refine gate_callee (f := 312) rfl ?_); refine zg_ (some 15) Tryz.func312 #[.agg #[.slice A1_0 l1_0.length c1_0, .slice A1_1 l1_1.length c1_1], .agg #[.slice A2_0 l2_0.length c2_0, .slice A2_1 l2_1.length c2_1]] (h := ?_); (with_reducible refine (tens_Add.calls k _ _ l1_0 _ _ l1_1 _ _ l2_0 _ _ l2_1 t785 t788 t791 _ ?side1 ?side2 ?side3 ?side4 ?side5 ?side6 ?side7 ?side8 A6.out).mono ?_); (case side1 => exact zk_ (Kd.C_below HR1_0.out HB.out)); (case side2 => exact HC1_0.out); (case side3 => exact zk_ (Kd.C_below HR1_1.out HB.out)); (case side4 => exact HC1_1.out); (case side5 => exact zk_ (Kd.C_below HR2_0.out HB.out)); (case side6 => exact HC2_0.out); (case side7 => exact zk_ (Kd.C_below HR2_1.out HB.out)); (case side8 => exact HC2_1.out); rintro e w15 ⟨v786, v789, rfl, ho0, ho1, hb⟩; refine ⟨_, rfl, ?_⟩; have HO787 := zA_ (Kd.R_lower ho0 (below_size (zw3_ HB GE782 GE783 GE784))); have HO790 := zA_ (Kd.R_lower ho1 (below_size (zw3_ HB GE782 GE783 GE784))); replace BK782 := za_ BK782 hb; replace BK783 := za_ BK783 hb; replace BK784 := za_ BK784 hb; replace HB := zA_ (below_step (zw3_ HB GE782 GE783 GE784) hb); (try clear hb); (try clear ho0); (try clear ho1); obtain ⟨Ao16, co16, eo16⟩ := Kd.R_slice HO787.out; subst eo16; have hcz17_0 := zx_ (v := .slice none 0 0) BK784 0; have hcz17_1 := zx_ (v := .slice none 0 0) BK784 1; have hfz17_0 := blk_frozen BK784.out 0; have hfz17_1 := blk_frozen BK784.out 1; obtain ⟨Ao18, co18, eo18⟩ := Kd.R_slice HO790.out; subst eo18))
  refine bodyPost_ret (results_ct rfl _ _ gb784 273 #[.slice Ao16 t785.length co16, .slice Ao18 t788.length co18] (0, 0) _ rfl (zo2_ BK784) Tryz.underlying273 rfl (by kernel_rfl)) rfl ?_
  exact ⟨_, _, z0_, zr_ (Kd.R_mono (Kd.R_far (p := ⟨gb784, 1, none⟩) (Kd.R_far (p := ⟨gb784, 0, none⟩) (Kd.R_types HO787.out BK784.out (by decide)) (fun _ hk => hk.2) (.slice Ao16 t785.length co16)) (fun _ hk => hk.2) (.slice Ao18 t788.length co18)) (fun _ hk => trivial)), zr_ (Kd.R_mono (Kd.R_far (p := ⟨gb784, 1, none⟩) (Kd.R_far (p := ⟨gb784, 0, none⟩) (Kd.R_types HO790.out BK784.out (by decide)) (fun _ hk => hk.2) (.slice Ao16 t785.length co16)) (fun _ hk => hk.2) (.slice Ao18 t788.length co18)) (fun _ hk => trivial)), zw3_ HB GE782 GE783 GE784⟩
 rw [if_neg c5] at H
 have c5b0 : (a0 == 2) = false := beq_eq_false_iff_ne.mpr c5
 have c5b1 : (a0 != 2) = true := bne_iff_ne.mpr c5
 by_cases c19 : a0 = 3
 ·rw [if_pos c19] at H
  have c19b0 : (a0 == 3) = true := beq_iff_eq.mpr c19
  have c19b1 : (a0 != 3) = false := bne_eq_false_iff_eq.mpr c19
  clear c19
  replace H := zO_ H
  obtain ⟨⟨t792, t795, t798⟩, A200, H⟩ := H
  replace H : (some (t792, t795, t798)) = some (r1, r2, r3) := H
  have A20 := zA_ A200
  clear A200
  simp only [Option.some.injEq, Prod.mk.injEq] at H
  obtain ⟨rfl, rfl, rfl⟩ := H
  go_enter Tryz.func360, Tryz.ntmps360
  go_wp2_with (first | ((with_reducible refine gate_dst (N := 5) rfl ?_); refine zB_ (#[.slice A1_0 l1_0.length c1_0, .slice A1_1 l1_1.length c1_1]) 273 ?_; intro gb782 hg w21 hbox hb; have BK782 := zA_ (hbox); have GW782 := zA_ (zs_ hg (zw0_ HB)); have GE782 := zA_ (zs_ hg (zw0_ HB)); replace HB := zA_ (below_step (zw0_ HB) hb); clear hb hbox hg) | ((with_reducible refine gate_dst (N := 6) rfl ?_); refine zB_ (#[.slice A2_0 l2_0.length c2_0, .slice A2_1 l2_1.length c2_1]) 273 ?_; intro gb783 hg w22 hbox hb; have BK783 := zA_ (hbox); have GW783 := zA_ (zs_ hg (zw1_ HB GE782)); have GE783 := zA_ (zs_ hg (zw1_ HB GE782)); replace HB := zA_ (below_step (zw1_ HB GE782) hb); have NB782_783 := zA_ (zn_ hg BK782); have NB783_782 := zA_ (zm_ hg BK782); replace BK782 := za_ BK782 hb; clear hb hbox hg) | ((with_reducible refine gate_dst (N := 8) rfl ?_); refine zB_ (#[.slice none 0 0, .slice none 0 0]) 273 ?_; intro gb784 hg w23 hbox hb; have BK784 := zA_ (hbox); have GW784 := zA_ (zs_ hg (zw2_ HB GE782 GE783)); have GE784 := zA_ (zs_ hg (zw2_ HB GE782 GE783)); replace HB := zA_ (below_step (zw2_ HB GE782 GE783) hb); have NB782_784 := zA_ (zn_ hg BK782); have NB784_782 := zA_ (zm_ hg BK782); replace BK782 := za_ BK782 hb; have NB783_784 := zA_ (zn_ hg BK783); have NB784_783 := zA_ (zm_ hg BK783); replace BK783 := za_ BK783 hb; clear hb hbox hg; have hnb24 := NB782_783.out; have hnc24 := NB783_782.out; have hnb25 := NB782_784.out; have hnc25 := NB784_782.out; have hcz26_0 := zx_ (v := .slice A1_0 l1_0.length c1_0) BK782 0; have hcz26_1 := zx_ (v := .slice A1_1 l1_1.length c1_1) BK782 1; have hfz26_0 := blk_frozen BK782.out 0; have hfz26_1 := blk_frozen BK782.out 1; have hnb27 := NB783_784.out; have hnc27 := NB784_783.out; have hcz28_0 := zx_ (v := .slice A2_0 l2_0.length c2_0) BK783 0; have hcz28_1 := zx_ (v := .slice A2_1 l2_1.length c2_1) BK783 1; have hfz28_0 := blk_frozen BK783.out 0; have hfz28_1 := blk_frozen BK783.out 1) | ((with_reducible refine gate_callee (f := 385) rfl ?_); refine zg_ (some 22) Tryz.func385 #[.agg #[.slice A1_0 l1_0.length c1_0, .slice A1_1 l1_1.length c1_1], .agg #[.slice A2_0 l2_0.length c2_0, .slice A2_1 l2_1.length c2_1]] (h := ?_); (with_reducible refine (tens_Sub.calls k _ _ l1_0 _ _ l1_1 _ _ l2_0 _ _ l2_1 t792 t795 t798 _ ?side1 ?side2 ?side3 ?side4 ?side5 ?side6 ?side7 ?side8 A20.out).mono ?_); (case side1 => exact zk_ (Kd.C_below HR1_0.out HB.out)); (case side2 => exact HC1_0.out); (case side3 => exact zk_ (Kd.C_below HR1_1.out HB.out)); (case side4 => exact HC1_1.out); (case side5 => exact zk_ (Kd.C_below HR2_0.out HB.out)); (case side6 => exact HC2_0.out); (case side7 => exact zk_ (Kd.C_below HR2_1.out HB.out)); (case side8 => exact HC2_1.out); rintro e w29 ⟨v793, v796, rfl, ho0, ho1, hb⟩; refine ⟨_, rfl, ?_⟩; have HO794 := zA_ (Kd.R_lower ho0 (below_size (zw3_ HB GE782 GE783 GE784))); have HO797 := zA_ (Kd.R_lower ho1 (below_size (zw3_ HB GE782 GE783 GE784))); replace BK782 := za_ BK782 hb; replace BK783 := za_ BK783 hb; replace BK784 := za_ BK784 hb; replace HB := zA_ (below_step (zw3_ HB GE782 GE783 GE784) hb); (try clear hb); (try clear ho0); (try clear ho1); obtain ⟨Ao30, co30, eo30⟩ := Kd.R_slice HO794.out; subst eo30; have hcz31_0 := zx_ (v := .slice none 0 0) BK784 0; have hcz31_1 := zx_ (v := .slice none 0 0) BK784 1; have hfz31_0 := blk_frozen BK784.out 0; have hfz31_1 := blk_frozen BK784.out 1; obtain ⟨Ao32, co32, eo32⟩ := Kd.R_slice HO797.out; subst eo32))
  refine bodyPost_ret (results_ct rfl _ _ gb784 273 #[.slice Ao30 t792.length co30, .slice Ao32 t795.length co32] (0, 0) _ rfl (zo2_ BK784) Tryz.underlying273 rfl (by kernel_rfl)) rfl ?_
  exact ⟨_, _, z0_, zr_ (Kd.R_mono (Kd.R_far (p := ⟨gb784, 1, none⟩) (Kd.R_far (p := ⟨gb784, 0, none⟩) (Kd.R_types HO794.out BK784.out (by decide)) (fun _ hk => hk.2) (.slice Ao30 t792.length co30)) (fun _ hk => hk.2) (.slice Ao32 t795.length co32)) (fun _ hk => trivial)), zr_ (Kd.R_mono (Kd.R_far (p := ⟨gb784, 1, none⟩) (Kd.R_far (p := ⟨gb784, 0, none⟩) (Kd.R_types HO797.out BK784.out (by decide)) (fun _ hk => hk.2) (.slice Ao30 t792.length co30)) (fun _ hk => hk.2) (.slice Ao32 t795.length co32)) (fun _ hk => trivial)), zw3_ HB GE782 GE783 GE784⟩
 rw [if_neg c19] at H
 have c19b0 : (a0 == 3) = false := beq_eq_false_iff_ne.mpr c19
 have c19b1 : (a0 != 3) = true := bne_iff_ne.mpr c19
 by_cases c33 : a0 = 4
 rotate_left
 ·rw [if_neg c33] at H
  exact zN_ H
 rw [if_pos c33] at H
 have c33b0 : (a0 == 4) = true := beq_iff_eq.mpr c33
 have c33b1 : (a0 != 4) = false := bne_eq_false_iff_eq.mpr c33
 clear c33
 replace H := zO_ H
 obtain ⟨⟨t799, t802, t805⟩, A340, H⟩ := H
 replace H : (some (t799, t802, t805)) = some (r1, r2, r3) := H
 have A34 := zA_ A340
 clear A340
 simp only [Option.some.injEq, Prod.mk.injEq] at H
 obtain ⟨rfl, rfl, rfl⟩ := H
 go_enter Tryz.func360, Tryz.ntmps360
 go_wp2_with (first | ((with_reducible refine gate_dst (N := 5) rfl ?_); refine zB_ (#[.slice A1_0 l1_0.length c1_0, .slice A1_1 l1_1.length c1_1]) 273 ?_; intro gb782 hg w35 hbox hb; have BK782 := zA_ (hbox); have GW782 := zA_ (zs_ hg (zw0_ HB)); have GE782 := zA_ (zs_ hg (zw0_ HB)); replace HB := zA_ (below_step (zw0_ HB) hb); clear hb hbox hg) | ((with_reducible refine gate_dst (N := 6) rfl ?_); refine zB_ (#[.slice A2_0 l2_0.length c2_0, .slice A2_1 l2_1.length c2_1]) 273 ?_; intro gb783 hg w36 hbox hb; have BK783 := zA_ (hbox); have GW783 := zA_ (zs_ hg (zw1_ HB GE782)); have GE783 := zA_ (zs_ hg (zw1_ HB GE782)); replace HB := zA_ (below_step (zw1_ HB GE782) hb); have NB782_783 := zA_ (zn_ hg BK782); have NB783_782 := zA_ (zm_ hg BK782); replace BK782 := za_ BK782 hb; clear hb hbox hg) | ((with_reducible refine gate_dst (N := 8) rfl ?_); refine zB_ (#[.slice none 0 0, .slice none 0 0]) 273 ?_; intro gb784 hg w37 hbox hb; have BK784 := zA_ (hbox); have GW784 := zA_ (zs_ hg (zw2_ HB GE782 GE783)); have GE784 := zA_ (zs_ hg (zw2_ HB GE782 GE783)); replace HB := zA_ (below_step (zw2_ HB GE782 GE783) hb); have NB782_784 := zA_ (zn_ hg BK782); have NB784_782 := zA_ (zm_ hg BK782); replace BK782 := za_ BK782 hb; have NB783_784 := zA_ (zn_ hg BK783); have NB784_783 := zA_ (zm_ hg BK783); replace BK783 := za_ BK783 hb; clear hb hbox hg; have hnb38 := NB782_783.out; have hnc38 := NB783_782.out; have hnb39 := NB782_784.out; have hnc39 := NB784_782.out; have hcz40_0 := zx_ (v := .slice A1_0 l1_0.length c1_0) BK782 0; have hcz40_1 := zx_ (v := .slice A1_1 l1_1.length c1_1) BK782 1; have hfz40_0 := blk_frozen BK782.out 0; have hfz40_1 := blk_frozen BK782.out 1; have hnb41 := NB783_784.out; have hnc41 := NB784_783.out; have hcz42_0 := zx_ (v := .slice A2_0 l2_0.length c2_0) BK783 0; have hcz42_1 := zx_ (v := .slice A2_1 l2_1.length c2_1) BK783 1; have hfz42_0 := blk_frozen BK783.out 0; have hfz42_1 := blk_frozen BK783.out 1) | ((with_reducible refine gate_callee (f := 341) rfl ?_); refine zg_ (some 29) Tryz.func341 #[.agg #[.slice A1_0 l1_0.length c1_0, .slice A1_1 l1_1.length c1_1], .agg #[.slice A2_0 l2_0.length c2_0, .slice A2_1 l2_1.length c2_1]] (h := ?_); (with_reducible refine (tens_Mul.calls k _ _ l1_0 _ _ l1_1 _ _ l2_0 _ _ l2_1 t799 t802 t805 _ ?side1 ?side2 ?side3 ?side4 ?side5 ?side6 ?side7 ?side8 A34.out).mono ?_); (case side1 => exact zk_ (Kd.C_below HR1_0.out HB.out)); (case side2 => exact HC1_0.out); (case side3 => exact zk_ (Kd.C_below HR1_1.out HB.out)); (case side4 => exact HC1_1.out); (case side5 => exact zk_ (Kd.C_below HR2_0.out HB.out)); (case side6 => exact HC2_0.out); (case side7 => exact zk_ (Kd.C_below HR2_1.out HB.out)); (case side8 => exact HC2_1.out); rintro e w43 ⟨v800, v803, rfl, ho0, ho1, hb⟩; refine ⟨_, rfl, ?_⟩; have HO801 := zA_ (Kd.R_lower ho0 (below_size (zw3_ HB GE782 GE783 GE784))); have HO804 := zA_ (Kd.R_lower ho1 (below_size (zw3_ HB GE782 GE783 GE784))); replace BK782 := za_ BK782 hb; replace BK783 := za_ BK783 hb; replace BK784 := za_ BK784 hb; replace HB := zA_ (below_step (zw3_ HB GE782 GE783 GE784) hb); (try clear hb); (try clear ho0); (try clear ho1); obtain ⟨Ao44, co44, eo44⟩ := Kd.R_slice HO801.out; subst eo44; have hcz45_0 := zx_ (v := .slice none 0 0) BK784 0; have hcz45_1 := zx_ (v := .slice none 0 0) BK784 1; have hfz45_0 := blk_frozen BK784.out 0; have hfz45_1 := blk_frozen BK784.out 1; obtain ⟨Ao46, co46, eo46⟩ := Kd.R_slice HO804.out; subst eo46))
 refine bodyPost_ret (results_ct rfl _ _ gb784 273 #[.slice Ao44 t799.length co44, .slice Ao46 t802.length co46] (0, 0) _ rfl (zo2_ BK784) Tryz.underlying273 rfl (by kernel_rfl)) rfl ?_
 exact ⟨_, _, z0_, zr_ (Kd.R_mono (Kd.R_far (p := ⟨gb784, 1, none⟩) (Kd.R_far (p := ⟨gb784, 0, none⟩) (Kd.R_types HO801.out BK784.out (by decide)) (fun _ hk => hk.2) (.slice Ao44 t799.length co44)) (fun _ hk => hk.2) (.slice Ao46 t802.length co46)) (fun _ hk => trivial)), zr_ (Kd.R_mono (Kd.R_far (p := ⟨gb784, 1, none⟩) (Kd.R_far (p := ⟨gb784, 0, none⟩) (Kd.R_types HO804.out BK784.out (by decide)) (fun _ hk => hk.2) (.slice Ao44 t799.length co44)) (fun _ hk => hk.2) (.slice Ao46 t802.length co46)) (fun _ hk => trivial)), zw3_ HB GE782 GE783 GE784⟩
def tens_Scale.l0 : Nat → Int → Int → Int → List Int → List Int → Option (List Int × List Int × Int)
 | 0, _, _, _, _, _ => none
 | k + 1, x1, x17, x18, x816000, x816001 => if x18 < x17 then (if 0 ≤ x18 then (if x18 < (x816001.length : Int) then ((fix_Mul.f k (rd x816001 x18) x1).bind fun t817 => (tens_Scale.l0 k x1 x17 (wrap64 (x18 + 1)) x816000 (x816001.set (x18 : Int).toNat t817))) else (none)) else (none)) else (some (x816000, x816001, 0))
def tens_Scale.f (k : Nat) (l0_0 : List Int) (l0_1 : List Int) (a1 : Int) : Option (List Int × List Int × Int) := (tens_Good.f k l0_0 l0_1).bind fun t808 => (if t808 = true then ((tens_Copy.f l0_0 l0_1).bind fun bt809 => (tens_Scale.l0 k a1 (bt809.2.length : Int) 0 bt809.1 bt809.2)) else (none))
def tens_Scale.T7 : Bool × List (List Nat × List Nat) := (true, [([], []), ([0], [0]), ([], []), ([], []), ([], []), ([3, 4], [3, 4]), ([1, 2, 0, 1, 2, 3, 4, 5], [1, 2]), ([6, 5, 5, 0, 1, 2, 3, 4, 5], [5, 6])])
def tens_Scale.B7 : List Nat := [0, 1, 0, 0, 0, 24, 63, 127]
theorem tens_Scale.tab7 : rtab .any (opsOf Tryz.f343 7) = tens_Scale.T7 := by kernel_rfl
theorem tens_Scale.bits7 : waitsOk tens_Scale.T7.2 tens_Scale.B7 = true := by kernel_rfl
theorem tens_Scale.calls (k : Nat) (A0_0 : Option Addr) (c0_0 : Nat) (l0_0 : List Int) (A0_1 : Option Addr) (c0_1 : Nat) (l0_1 : List Int) (a1 : Int) (r1 : List Int) (r2 : List Int) (r3 : Int) (w : World) (hr0_0 : Kd.C (Kd.int .i64) w A0_0 l0_0.length l0_0) (hc0_0 : l0_0.length ≤ c0_0) (hr0_1 : Kd.C (Kd.int .i64) w A0_1 l0_1.length l0_1) (hc0_1 : l0_1.length ≤ c0_1) (h : tens_Scale.f k l0_0 l0_1 a1 = some (r1, r2, r3)) :
  Calls Tryz.prog 343 #[.agg #[.slice A0_0 l0_0.length c0_0, .slice A0_1 l0_1.length c0_1], .int .i64 a1] w fun e w' => ∃ v0_ v1_ : Value, e = .returned (.tuple #[.agg #[v0_, v1_], .int .i64 r3]) ∧ Kd.R (Kd.int .i64) 3 w' w.heap.size (fun _ => True) v0_ r1 ∧ Kd.R (Kd.int .i64) 36 w' w.heap.size (fun _ => True) v1_ r2 ∧ Below w.heap.size w w' := by
 have hu273 := Tryz.underlying273
 have HR0_0 := zA_ hr0_0
 have HC0_0 := zA_ hc0_0
 clear hr0_0 hc0_0
 have HR0_1 := zA_ hr0_1
 have HC0_1 := zA_ hc0_1
 clear hr0_1 hc0_1
 have HB := zA_ (Below.refl w.heap.size w)
 have H : ((tens_Good.f k l0_0 l0_1).bind fun t808 => (if t808 = true then ((tens_Copy.f l0_0 l0_1).bind fun bt809 => (tens_Scale.l0 k a1 (bt809.2.length : Int) 0 bt809.1 bt809.2)) else (none))) = some (r1, r2, r3) := h
 clear h
 replace H := zO_ H
 obtain ⟨t808, A30, H⟩ := H
 (try dsimp only at H)
 have A3 := zA_ A30
 clear A30
 by_cases c4 : t808 = true
 rotate_left
 ·replace c4 := Bool.eq_false_iff.mpr c4
  subst c4
  have H1 : (none) = some (r1, r2, r3) := by rw [if_neg (show ¬ (false = true) by decide)] at H; exact H
  clear H
  have H := H1
  clear H1
  exact zN_ H
 subst c4
 have H1 := H
 rw [if_pos rfl] at H1
 clear H
 have H := H1
 clear H1
 replace H := zO_ H
 obtain ⟨⟨t809, t812⟩, A50, H⟩ := H
 replace H : (tens_Scale.l0 k a1 (t812.length : Int) 0 t809 t812) = some (r1, r2, r3) := H
 have A5 := zA_ A50
 clear A50
 have H' := zA_ H
 clear H
 go_enter Tryz.func343, Tryz.ntmps343
 go_wp2_with (first | ((with_reducible refine gate_dst (N := 2) rfl ?_); refine zB_ (#[.slice A0_0 l0_0.length c0_0, .slice A0_1 l0_1.length c0_1]) 273 ?_; intro gb806 hg w6 hbox hb; have BK806 := zA_ (hbox); have GW806 := zA_ (zs_ hg (zw0_ HB)); have GE806 := zA_ (zs_ hg (zw0_ HB)); replace HB := zA_ (below_step (zw0_ HB) hb); clear hb hbox hg) | ((with_reducible refine gate_dst (N := 4) rfl ?_); refine zB_ (#[.slice none 0 0, .slice none 0 0]) 273 ?_; intro gb807 hg w7 hbox hb; have BK807 := zA_ (hbox); have GW807 := zA_ (zs_ hg (zw1_ HB GE806)); have GE807 := zA_ (zs_ hg (zw1_ HB GE806)); replace HB := zA_ (below_step (zw1_ HB GE806) hb); have NB806_807 := zA_ (zn_ hg BK806); have NB807_806 := zA_ (zm_ hg BK806); replace BK806 := za_ BK806 hb; clear hb hbox hg; have hnb8 := NB806_807.out; have hnc8 := NB807_806.out; have hcz9_0 := zx_ (v := .slice A0_0 l0_0.length c0_0) BK806 0; have hcz9_1 := zx_ (v := .slice A0_1 l0_1.length c0_1) BK806 1; have hfz9_0 := blk_frozen BK806.out 0; have hfz9_1 := blk_frozen BK806.out 1) | ((with_reducible refine gate_callee (f := 308) rfl ?_); refine zg_ (some 10) Tryz.func308 #[.agg #[.slice A0_0 l0_0.length c0_0, .slice A0_1 l0_1.length c0_1]] (h := ?_); (with_reducible refine (tens_Good.calls k _ _ l0_0 _ _ l0_1 true _ ?side1 ?side2 ?side3 ?side4 A3.out).mono ?_); (case side1 => exact zk_ (Kd.C_below HR0_0.out HB.out)); (case side2 => exact HC0_0.out); (case side3 => exact zk_ (Kd.C_below HR0_1.out HB.out)); (case side4 => exact HC0_1.out); rintro e w10 ⟨rfl, hb⟩; refine ⟨_, rfl, ?_⟩; replace BK806 := za_ BK806 hb; replace BK807 := za_ BK807 hb; replace HB := zA_ (below_step (zw2_ HB GE806 GE807) hb); (try clear hb); have hcz11_0 := zx_ (v := .slice A0_0 l0_0.length c0_0) BK806 0; have hcz11_1 := zx_ (v := .slice A0_1 l0_1.length c0_1) BK806 1; have hfz11_0 := blk_frozen BK806.out 0; have hfz11_1 := blk_frozen BK806.out 1) | ((with_reducible refine gate_callee (f := 307) rfl ?_); refine zg_ (some 14) Tryz.func307 #[.agg #[.slice A0_0 l0_0.length c0_0, .slice A0_1 l0_1.length c0_1]] (h := ?_); (with_reducible refine (tens_Copy.calls _ _ l0_0 _ _ l0_1 t809 t812 _ ?side1 ?side2 ?side3 ?side4 A5.out).mono ?_); (case side1 => exact zk_ (Kd.C_below HR0_0.out HB.out)); (case side2 => exact HC0_0.out); (case side3 => exact zk_ (Kd.C_below HR0_1.out HB.out)); (case side4 => exact HC0_1.out); rintro e w12 ⟨v810, v813, rfl, ho0, ho1, hb⟩; refine ⟨_, rfl, ?_⟩; have HO811 := zA_ (Kd.R_lower ho0 (below_size (zw2_ HB GE806 GE807))); have HO814 := zA_ (Kd.R_lower ho1 (below_size (zw2_ HB GE806 GE807))); replace BK806 := za_ BK806 hb; replace BK807 := za_ BK807 hb; replace HB := zA_ (below_step (zw2_ HB GE806 GE807) hb); (try clear hb); (try clear ho0); (try clear ho1)) | ((with_reducible refine gate_dst (N := 6) rfl ?_); refine zB_ (#[.slice none 0 0, .slice none 0 0]) 273 ?_; intro gb815 hg w13 hbox hb; replace HO811 := zy_ HO811 hb; replace HO814 := zy_ HO814 hb; have BK815 := zA_ (hbox); have GW815 := zA_ (zs_ hg (zw2_ HB GE806 GE807)); have GE815 := zA_ (zs_ hg (zw2_ HB GE806 GE807)); replace HB := zA_ (below_step (zw2_ HB GE806 GE807) hb); have NB806_815 := zA_ (zn_ hg BK806); have NB815_806 := zA_ (zm_ hg BK806); replace BK806 := za_ BK806 hb; have NB807_815 := zA_ (zn_ hg BK807); have NB815_807 := zA_ (zm_ hg BK807); replace BK807 := za_ BK807 hb; clear hb hbox hg; obtain ⟨Ao14, co14, eo14⟩ := Kd.R_slice HO811.out; subst eo14; have hnb15 := NB815_806.out; have hnc15 := NB806_815.out; have hnb16 := NB815_807.out; have hnc16 := NB807_815.out; have hcz17_0 := zx_ (v := .slice none 0 0) BK815 0; have hcz17_1 := zx_ (v := .slice none 0 0) BK815 1; have hfz17_0 := blk_frozen BK815.out 0; have hfz17_1 := blk_frozen BK815.out 1; obtain ⟨Ao18, co18, eo18⟩ := Kd.R_slice HO814.out; subst eo18))
 go_loopg [18] k (fun kq v18 w' => ∃ (x18_1 : Int) (x816001_1 : List Int) (u816001 : Value), v18 = .int .i64 x18_1 ∧ Aside0 (u816001 = .slice Ao18 t812.length co18) ∧ Aside0 (x816001_1.length = t812.length) ∧ Aside0 (tens_Scale.l0 kq a1 (t812.length : Int) x18_1 t809 x816001_1 = some (r1, r2, r3)) ∧ Aside0 (kq ≤ k) ∧ Aside0 (Kd.R (Kd.int .i64) 3 w' w.heap.size (fun _ => True) (.slice Ao14 t809.length co14) t809) ∧ Aside0 (Kd.R (Kd.int .i64) 36 w' w.heap.size (fun _ => True) u816001 x816001_1) ∧ Aside0 (w'.heap[gb806]? = some (.cells #[(.slice A0_0 l0_0.length c0_0), (.slice A0_1 l0_1.length c0_1)] 273 (0, 0))) ∧ Aside0 (w'.heap[gb807]? = some (.cells #[(.slice none 0 0), (.slice none 0 0)] 273 (0, 0))) ∧ Aside0 (w'.heap[gb815]? = some (.cells #[(.slice Ao14 t809.length co14), u816001] 273 (0, 0))) ∧ Aside0 (Below w.heap.size w w'))
 case atStart => exact ⟨(0), (t812), (.slice Ao18 t812.length co18), z1_, ⟨rfl⟩, ⟨rfl⟩, H', ⟨Nat.le_refl _⟩, ⟨zr_ (Kd.R_mono (Kd.R_far (p := ⟨gb815, 1, none⟩) (Kd.R_far (p := ⟨gb815, 0, none⟩) (Kd.R_types HO811.out BK815.out (by decide)) (fun _ hk => hk.2) (.slice Ao14 t809.length co14)) (fun _ hk => hk.2) (.slice Ao18 t812.length co18)) (fun _ hk => trivial))⟩, ⟨zr_ (Kd.R_mono (Kd.R_far (p := ⟨gb815, 1, none⟩) (Kd.R_far (p := ⟨gb815, 0, none⟩) (Kd.R_types HO814.out BK815.out (by decide)) (fun _ hk => hk.2) (.slice Ao14 t809.length co14)) (fun _ hk => hk.2) (.slice Ao18 t812.length co18)) (fun _ hk => trivial))⟩, ⟨zv1_ BK806 NB806_815⟩, ⟨zv1_ BK807 NB807_815⟩, ⟨zo2_ BK815⟩, ⟨zw3_ HB GE806 GE807 GE815⟩⟩
 case round =>
  clear H'
  try clear p2
  try clear hcz11_0
  try clear hcz11_1
  try clear hcz17_0
  try clear hcz17_1
  try clear hcz9_0
  try clear hcz9_1
  try clear hfz11_0
  try clear hfz11_1
  try clear hfz17_0
  try clear hfz17_1
  try clear hfz9_0
  try clear hfz9_1
  obtain ⟨x18_1, x816001_1, u816001, rfl, hu_, hl_, HA, HK1, HO_816000, HO_816001, BK806, BK807, BK815, HB⟩ := hrel
  cases gk with
  | zero => exact absurd HA.out (by simp [tens_Scale.l0])
  | succ k1 =>
   have H := HA.out
   clear HA
   simp only [tens_Scale.l0] at H
   by_cases c19 : x18_1 < (t812.length : Int)
   rotate_left
   ·rw [if_neg c19] at H
    have c19b0 : decide (x18_1 < (t812.length : Int)) = false := decide_eq_false c19
    clear c19
    simp only [Option.some.injEq, Prod.mk.injEq] at H
    obtain ⟨rfl, rfl, rfl⟩ := H
    have hnb30 := NB815_806.out
    have hnc30 := NB806_815.out
    have hnb31 := NB815_807.out
    have hnc31 := NB807_815.out
    have hcz32_0 := zx_ (v := .slice Ao14 t809.length co14) BK815 0
    have hcz32_1 := zx_ (v := u816001) BK815 1
    have hfz32_0 := blk_frozen BK815.out 0
    have hfz32_1 := blk_frozen BK815.out 1
    have hnb33 := NB807_806.out
    have hnc33 := NB806_807.out
    have hcz34_0 := zx_ (v := .slice none 0 0) BK807 0
    have hcz34_1 := zx_ (v := .slice none 0 0) BK807 1
    have hfz34_0 := blk_frozen BK807.out 0
    have hfz34_1 := blk_frozen BK807.out 1
    obtain ⟨Ao35, co35, eo35⟩ := Kd.R_slice HO_816001.out
    subst eo35
    go_wp2
    refine bodyPost_ret (results_ct rfl _ _ gb807 273 #[.slice Ao14 t809.length co14, .slice Ao35 x816001_1.length co35] (0, 0) _ rfl (zo2_ BK807) Tryz.underlying273 rfl (by kernel_rfl)) rfl ?_
    exact ⟨_, _, z0_, zr_ (Kd.R_mono (Kd.R_far (p := ⟨gb807, 1, none⟩) (Kd.R_far (p := ⟨gb807, 0, none⟩) (Kd.R_types HO_816000.out BK807.out (by decide)) (fun _ hk => hk.2) (.slice Ao14 t809.length co14)) (fun _ hk => hk.2) (.slice Ao35 x816001_1.length co35)) (fun _ hk => trivial)), zr_ (Kd.R_mono (Kd.R_far (p := ⟨gb807, 1, none⟩) (Kd.R_far (p := ⟨gb807, 0, none⟩) (Kd.R_types HO_816001.out BK807.out (by decide)) (fun _ hk => hk.2) (.slice Ao14 t809.length co14)) (fun _ hk => hk.2) (.slice Ao35 x816001_1.length co35)) (fun _ hk => trivial)), zw3_ HB GE806 GE807 GE815⟩
   rw [if_pos c19] at H
   have c19b0 : decide (x18_1 < (t812.length : Int)) = true := decide_eq_true c19
   clear c19
   by_cases c20 : 0 ≤ x18_1
   rotate_left
   ·rw [if_neg c20] at H
    exact zN_ H
   rw [if_pos c20] at H
   have c20b0 : decide (0 ≤ x18_1) = true := decide_eq_true c20
   clear c20
   by_cases c21 : x18_1 < (x816001_1.length : Int)
   rotate_left
   ·rw [if_neg c21] at H
    exact zN_ H
   rw [if_pos c21] at H
   have c21b0 : decide (x18_1 < (x816001_1.length : Int)) = true := decide_eq_true c21
   clear c21
   replace H := zO_ H
   obtain ⟨t817, A220, H⟩ := H
   replace H : (tens_Scale.l0 k1 a1 (t812.length : Int) (wrap64 (x18_1 + 1)) t809 (x816001_1.set (x18_1 : Int).toNat t817)) = some (r1, r2, r3) := H
   have A22 := zA_ A220
   clear A220
   obtain ⟨y818, hy818⟩ : ∃ y_ : List Int, y_ = (x816001_1.set (x18_1 : Int).toNat t817) := ⟨_, rfl⟩
   replace H : (tens_Scale.l0 k1 a1 (t812.length : Int) (wrap64 (x18_1 + 1)) t809 y818) = some (r1, r2, r3) := by first | (rw [hy818]; with_reducible exact H) | (have H2_ := (Option.bind_some _ _).symm.trans H; rw [hy818]; with_reducible exact H2_) | (have H2_ := (Option.bind_some _ _).symm.trans H; with_reducible exact H2_) | with_reducible exact H | (rw [hy818]; exact H) | exact H
   have Ny818 := zA_ hy818
   clear hy818
   have H' := zA_ H
   clear H
   have hnb24 := NB815_806.out
   have hnc24 := NB806_815.out
   have hnb25 := NB815_807.out
   have hnc25 := NB807_815.out
   have hcz26_0 := zx_ (v := .slice Ao14 t809.length co14) BK815 0
   have hcz26_1 := zx_ (v := u816001) BK815 1
   have hfz26_0 := blk_frozen BK815.out 0
   have hfz26_1 := blk_frozen BK815.out 1
   obtain ⟨Ao27, co27, eo27⟩ := Kd.R_slice HO_816001.out
   have eq_ := eo27.symm.trans hu_.out
   subst eo27
   injection eq_ with ea_ en_ ec_
   clear en_ hu_
   subst ea_
   subst ec_
   have p816 : 0 ≤ (x18_1 : Int) := zD_
   have q816 : x18_1 < (x816001_1.length : Int) := zD_
   obtain ⟨ad816, e816, hx816_0⟩ := Kd.at_int (Kd.R_reads' HO_816001.out).2.2 x18_1 p816 q816
   cases e816
   replace p816 := eq_true p816
   rw [hl_.out] at q816
   replace q816 := eq_true q816
   try go_wp2
   replace HO_816000 := zA_ (Kd.R_drew HO_816000.out)
   replace HO_816001 := zA_ (Kd.R_drew HO_816001.out)
   replace BK806 := zA_ (blk_drew BK806.out)
   replace BK807 := zA_ (blk_drew BK807.out)
   replace BK815 := zA_ (blk_drew BK815.out)
   replace HB := zA_ (below_drew1 HB.out)
   refine start_ (n := 8) (S := fun w' => w'.cell? ⟨gb815, 0, none⟩ = some (.slice Ao14 t809.length co14) ∧ w'.cell? ⟨gb815, 1, none⟩ = some (.slice (some ad816) x816001_1.length co27)) (ds := [7]) #[false, false, false, false, false, false, false, false] (by kernel_rfl) rfl rfl ⟨(blk_cell BK815.out 0).trans rfl, (blk_cell BK815.out 1).trans rfl⟩ (fun hHeld => ?_); refine with_tabW tens_Scale.tab7 tens_Scale.bits7 (fun HT_ HW_ => ?_)
   generalize wr.drew = w28 at HO_816000 HO_816001 BK806 BK807 BK815 HB hHeld ⊢
   refine yp_ ?_ 0 23
   refine yp_ ?_ 2 25
   refine yp_ ?_ 3 26
   refine yp_ ?_ 4 27
   refine yt2_ ?_ 1 24
   refine yo_ 5 (some 28) (fun K hK => ?_)
   refine yg_ Tryz.func330 #[.int .i64 (rd x816001_1 x18_1), .int .i64 a1] ?_
   with_reducible refine (fix_Mul.calls k1 (rd x816001_1 x18_1) a1 t817 _ A22.out).mono ?_
   rintro e w' ⟨rfl, ⟨nd, rfl⟩⟩
   refine ⟨_, rfl, ?_⟩
   have p23 : 0 ≤ (x18_1 : Int) := zD_
   have q23 : (x18_1 : Int) < ((x816001_1.length : Int) : Int) := zD_
   obtain ⟨go23, co23, eo23, gb23, gl23, cl23, HG23⟩ := Kd.R_form HO_816001.out (by omega)
   (first | cases eo23 | (injection eo23 with ea_ en_ ec_; (first | subst ea_ | (injection ea_ with ea_; subst ea_)); subst ec_; clear en_))
   have GB23 := zA_ gb23
   have GG23 := zA_ HG23
   clear gb23 gl23 HG23
   (first | simp only [add_plain] at hx816_0 | skip)
   obtain ⟨hx23_0, hf23_0⟩ := Kd.R_celln 0 HO_816001.out (x18_1 : Int) p23 q23
   replace p23 := eq_true p23
   replace q23 := eq_true q23
   have HP29 := Kd.R_putn HO_816001.out (x18_1 : Int) t817
   rw [← Ny818.out] at HP29
   have HQ29 := zA_ HP29
   clear HP29
   refine hK.out _ _ ⟨zx_ BK815 0, zx_ BK815 1⟩ (fun hHeld => ?_)
   clear hK K
   refine zq_ (some 28) (h := ?_)
   refine yp_ ?_ 6 29
   refine yl_ 7 none (fun K hK => ?_)
   refine skip_ (w1 := ?_) (by rfl) rfl ?_ ?_
   rotate_left
   ·go_simp
    rfl
   refine hK.out _ _ ?_
   clear hK K
   refine done_ (done_of HT_.out (by kernel_rfl)) ?_
   try go_wp2
   go_roundg k1
   case measure => have := HK1.out; omega
   case rel => exact ⟨(wrap64 (x18_1 + 1)), (y818), (.slice (some ⟨go23, 0, none⟩) x816001_1.length co27), z1_, ⟨by rw [hl_.out]⟩, ⟨by rw [Ny818.out, List.length_set]; exact hl_.out⟩, H', ⟨by have := HK1.out; omega⟩, ⟨zr_ (Kd.R_mono (Kd.R_far (p := ⟨go23, (x18_1 : Int).toNat, none⟩) (Kd.R_types HO_816000.out GG23.out (by decide)) (fun _ hk => hk.2) (.int .i64 t817)) (fun _ hk => trivial))⟩, ⟨zr_ HQ29.out⟩, ⟨by (with_reducible repeat (first | refine blk_drewN ?_ _ | refine blk_drew ?_ | refine blk_alloc ?_ _)); refine blk_far ?_ (by have h_ := Kd.R_ne HO_816001.out BK806.out (by decide); intro e_; exact h_ (by rw [e_]; rfl)) _; (with_reducible repeat (first | refine blk_drewN ?_ _ | refine blk_drew ?_ | refine blk_alloc ?_ _)); exact BK806.out⟩, ⟨by (with_reducible repeat (first | refine blk_drewN ?_ _ | refine blk_drew ?_ | refine blk_alloc ?_ _)); refine blk_far ?_ (by have h_ := Kd.R_ne HO_816001.out BK807.out (by decide); intro e_; exact h_ (by rw [e_]; rfl)) _; (with_reducible repeat (first | refine blk_drewN ?_ _ | refine blk_drew ?_ | refine blk_alloc ?_ _)); exact BK807.out⟩, ⟨by (with_reducible repeat (first | refine blk_drewN ?_ _ | refine blk_drew ?_ | refine blk_alloc ?_ _)); refine blk_far ?_ (by have h_ := Kd.R_ne HO_816001.out BK815.out (by decide); intro e_; exact h_ (by rw [e_]; rfl)) _; (with_reducible repeat (first | refine blk_drewN ?_ _ | refine blk_drew ?_ | refine blk_alloc ?_ _)); exact BK815.out⟩, ⟨by repeat (first | (with_reducible first | exact HB.out | apply below_alloc | apply pw_below_drewN | apply below_drew1 | refine below_set ?_ GB23.out | refine below_set ?_ GE806.out | refine below_set ?_ GE807.out | refine below_set ?_ GE815.out) | exact HB.out)⟩⟩
end Go.Proofs.YtmddclifcgcpcaaGreatDoor.PTopNames
