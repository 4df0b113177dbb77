/- The functions that the law OptKnown reaches, as Lean functions, and that each call of the Go function does what its Lean function says, wherever that one answers. Written by a program of mine over the print of the kit; Lean checks it. -/
import Derived.Test.YtaanhfcioemekaaPOptKnownx0
import Derived.Test.YtaanhfcioemekaaPOptKnownx2
import Derived.Test.YtaanhfcioemekaaPOptKnownx6
namespace Go.Proofs.Ytaanhfcioemekaa.POptKnown
open Go.RowKit Go.Proofs.YtaanhfcioemekaaW.PrintWords Go.Proofs.YtaanhfcioemekaaW.PrintLast Go.Proofs.YtaanhfcioemekaaW.PrintMore
attribute [local go_sem] max2_int min2_int max_two min_two max_three min_three max_four min_four   -- for this text's walks alone
theorem bs_17 {w w' : World} {g : Nat} {o : Obj} (h : Aside0 (w.heap[g]? = some o)) (t : w.heap[g]? = some o → w'.heap[g]? = some o := by intro h_; (with_reducible repeat (first | refine blk_drewN ?_ _ | refine blk_drew ?_ | refine blk_alloc ?_ _)); exact h_) : w'.heap[g]? = some o := t h.out
theorem rs_17 {α : Type} {d : Kd α} {e b : Nat} {w w' : World} {ok : Nat → Prop} {v : Value} {xs : List α} (h : Kd.R d e w b ok v xs) (t : Kd.R d e w b ok v xs → Kd.R d e w' b ok v xs := by intro h_; (with_reducible repeat (first | apply Kd.R_alloc | apply Kd.R_drewN | apply Kd.R_drew)); exact h_) : Kd.R d e w' b ok v xs := t h
theorem ws_17 {b : Nat} {w0 w w' : World} (h : Aside0 (Below b w0 w)) (t : Below b w0 w → Below b w0 w' := by intro h_; repeat (first | (with_reducible first | exact h_ | apply below_alloc | apply pw_below_drewN | apply below_drew1) | exact h_)) : Below b w0 w' := t h.out
theorem ws1_17 {b g : Nat} {w0 w w' : World} (h : Aside0 (Below b w0 w)) (i : Aside0 (b ≤ g)) (t : Below b w0 w → b ≤ g → Below b w0 w' := by intro h_ i_; repeat (first | (with_reducible first | exact h_ | apply below_alloc | apply pw_below_drewN | apply below_drew1 | refine below_set ?_ i_) | exact h_)) : Below b w0 w' := t h.out i.out
theorem ws2_17 {b g g2 : Nat} {w0 w w' : World} (h : Aside0 (Below b w0 w)) (i : Aside0 (b ≤ g)) (j : Aside0 (b ≤ g2)) (t : Below b w0 w → b ≤ g → b ≤ g2 → Below b w0 w' := by intro h_ i_ j_; repeat (first | (with_reducible first | exact h_ | apply below_alloc | apply pw_below_drewN | apply below_drew1 | refine below_set ?_ i_ | refine below_set ?_ j_) | exact h_)) : Below b w0 w' := t h.out i.out j.out
set_option linter.unusedVariables false
set_option linter.unusedSimpArgs false

/-! ### carouselref10_Alike: function 17 -/
def carouselref10_Alike.l0 : Nat → List Int → List Int → Int → Option (Bool)
 | 0, _, _, _ => none
 | k + 1, x0, x1, x5 => if x5 < (x0.length : Int) then (if 0 ≤ x5 then (if x5 < (x1.length : Int) then (if (rd x0 x5) = (rd x1 x5) then (carouselref10_Alike.l0 k x0 x1 (wrap64 (x5 + 1))) else (some false)) else (none)) else (none)) else (some true)
def carouselref10_Alike.f (k : Nat) (l0 : List Int) (l1 : List Int) : Option (Bool) := if (l0.length : Int) = (l1.length : Int) then (carouselref10_Alike.l0 k l0 l1 0) else (some false)
theorem carouselref10_Alike.mono_l : ∀ k, (∀ y0 y1 y2, LeO (carouselref10_Alike.l0 k y0 y1 y2) (carouselref10_Alike.l0 (k + 1) y0 y1 y2))
 | 0 => fun _ _ _ r h => by simp [carouselref10_Alike.l0] at h
 | k + 1 => by
  have ih0 := carouselref10_Alike.mono_l k
  ·intro y0 y1 y2
   unfold carouselref10_Alike.l0
   repeat' first
   | (with_reducible exact ih0 _ _ _)
   | (with_reducible exact LeO.refl _)
   | (with_reducible exact LeO.none _)
   | (with_reducible refine LeO.ite ?_ ?_)
   | (with_reducible refine LeO.bind ?_ (fun _ => ?_))
   | exact ih0 _ _ _
   | exact LeO.none _
   | refine LeO.ite ?_ ?_
   | refine LeO.bind ?_ (fun _ => ?_)
theorem carouselref10_Alike.mono : ∀ a0 a1 k, LeO (carouselref10_Alike.f k a0 a1) (carouselref10_Alike.f (k + 1) a0 a1) := by
 intro a0 a1 k
 have ih0 := carouselref10_Alike.mono_l k
 unfold carouselref10_Alike.f
 repeat' first
   | (with_reducible exact ih0 _ _ _)
   | (with_reducible exact LeO.refl _)
   | (with_reducible exact LeO.none _)
   | (with_reducible refine LeO.ite ?_ ?_)
   | (with_reducible refine LeO.bind ?_ (fun _ => ?_))
   | exact ih0 _ _ _
   | exact LeO.none _
   | refine LeO.ite ?_ ?_
   | refine LeO.bind ?_ (fun _ => ?_)
set_option maxHeartbeats 8000000 in
set_option maxRecDepth 100000 in
theorem carouselref10_Alike.calls (k : Nat) (A0 : Option Addr) (c0 : Nat) (l0 : List Int) (A1 : Option Addr) (c1 : Nat) (l1 : List Int) (r : Bool) (w : World) (hr0 : Kd.C (Kd.int .i64) w A0 l0.length l0) (hc0 : l0.length ≤ c0) (hr1 : Kd.C (Kd.int .i64) w A1 l1.length l1) (hc1 : l1.length ≤ c1) (h : carouselref10_Alike.f k l0 l1 = some r) :
  Calls Try.prog 17 #[.slice A0 l0.length c0, .slice A1 l1.length c1] w fun e w' => e = .returned (.bool r) ∧ Drawn0 w w' := by
 have HR0 := Aside0.mk hr0
 have HC0 := Aside0.mk hc0
 clear hr0 hc0
 have HR1 := Aside0.mk hr1
 have HC1 := Aside0.mk hc1
 clear hr1 hc1
 have H : (if (l0.length : Int) = (l1.length : Int) then (carouselref10_Alike.l0 k l0 l1 0) else (some false)) = some r := h
 clear h
 by_cases c3 : (l0.length : Int) = (l1.length : Int)
 ·rw [if_pos c3] at H
  have c3b0 : ((l0.length : Int) == (l1.length : Int)) = true := beq_iff_eq.mpr c3
  have c3b1 : ((l0.length : Int) != (l1.length : Int)) = false := bne_eq_false_iff_eq.mpr c3
  have c3b2 : (l0.length == l1.length) = true := by first | simpa using c3 | (simp at c3 ⊢; omega)
  clear c3
  have H' := Aside0.mk H
  clear H
  go_enter Try.func17, Try.ntmps17
  go_wp2
  repeat (go_quiet (fail); try go_wp2)
  go_loopg [5] k (fun kq v5 w' => ∃ (x5_1 : Int), v5 = .int .i64 x5_1 ∧ Aside0 (carouselref10_Alike.l0 kq l0 l1 x5_1 = some r) ∧ Aside0 (kq ≤ k) ∧ Drawn0 w w')
  case atStart => exact ⟨(0), (by first | rfl | (simp; done) | (simp [*]; done)), H', ⟨Nat.le_refl _⟩, by repeat (first | exact Drawn0.refl _ | apply Drawn0.step)⟩
  case round =>
   clear H'
   try clear c1
   try clear p2
   try clear c3
   try clear c3b0
   try clear c3b1
   try clear c3b2
   obtain ⟨x5_1, rfl, HA, HK1, ⟨m1, rfl⟩⟩ := hrel
   cases gk with
   | zero => exact absurd HA.out (by simp [carouselref10_Alike.l0])
   | succ k1 =>
    have H := HA.out
    clear HA
    simp only [carouselref10_Alike.l0] at H
    by_cases c4 : x5_1 < (l0.length : Int)
    ·rw [if_pos c4] at H
     have c4b0 : decide (x5_1 < (l0.length : Int)) = true := decide_eq_true c4
     clear c4
     by_cases c5 : 0 ≤ x5_1
     ·rw [if_pos c5] at H
      have c5b0 : decide (0 ≤ x5_1) = true := decide_eq_true c5
      clear c5
      by_cases c6 : x5_1 < (l1.length : Int)
      ·rw [if_pos c6] at H
       have c6b0 : decide (x5_1 < (l1.length : Int)) = true := decide_eq_true c6
       clear c6
       by_cases c7 : (rd l0 x5_1) = (rd l1 x5_1)
       ·rw [if_pos c7] at H
        have c7b0 : ((rd l0 x5_1) == (rd l1 x5_1)) = true := beq_iff_eq.mpr c7
        have c7b1 : ((rd l0 x5_1) != (rd l1 x5_1)) = false := bne_eq_false_iff_eq.mpr c7
        clear c7
        have H' := Aside0.mk H
        clear H
        have p185 : 0 ≤ (x5_1 : Int) := of_decide_eq_true (by first | (with_reducible assumption) | assumption)
        have q185 : x5_1 < (l0.length : Int) := of_decide_eq_true (by first | (with_reducible assumption) | assumption)
        obtain ⟨ad185, e185, hx185_0⟩ := Kd.at_int HR0.out x5_1 p185 q185
        cases e185
        replace p185 := eq_true p185
        replace q185 := eq_true q185
        have p186 : 0 ≤ (x5_1 : Int) := of_decide_eq_true (by first | (with_reducible assumption) | assumption)
        have q186 : x5_1 < (l1.length : Int) := of_decide_eq_true (by first | (with_reducible assumption) | assumption)
        obtain ⟨ad186, e186, hx186_0⟩ := Kd.at_int HR1.out x5_1 p186 q186
        cases e186
        replace p186 := eq_true p186
        replace q186 := eq_true q186
        go_wp2
        repeat (go_quiet (fail); try go_wp2)
        go_roundg k1
        case measure => have := HK1.out; omega
        case rel => exact ⟨(wrap64 (x5_1 + 1)), (by first | rfl | (simp; done) | (simp [*]; done)), H', ⟨by have := HK1.out; omega⟩, by repeat (first | exact Drawn0.refl _ | apply Drawn0.step)⟩
       ·rw [if_neg c7] at H
        have c7b0 : ((rd l0 x5_1) == (rd l1 x5_1)) = false := beq_eq_false_iff_ne.mpr c7
        have c7b1 : ((rd l0 x5_1) != (rd l1 x5_1)) = true := bne_iff_ne.mpr c7
        obtain rfl := Option.some.inj H
        have p185 : 0 ≤ (x5_1 : Int) := of_decide_eq_true (by first | (with_reducible assumption) | assumption)
        have q185 : x5_1 < (l0.length : Int) := of_decide_eq_true (by first | (with_reducible assumption) | assumption)
        obtain ⟨ad185, e185, hx185_0⟩ := Kd.at_int HR0.out x5_1 p185 q185
        cases e185
        replace p185 := eq_true p185
        replace q185 := eq_true q185
        have p186 : 0 ≤ (x5_1 : Int) := of_decide_eq_true (by first | (with_reducible assumption) | assumption)
        have q186 : x5_1 < (l1.length : Int) := of_decide_eq_true (by first | (with_reducible assumption) | assumption)
        obtain ⟨ad186, e186, hx186_0⟩ := Kd.at_int HR1.out x5_1 p186 q186
        cases e186
        replace p186 := eq_true p186
        replace q186 := eq_true q186
        go_wp2
        repeat (go_quiet (fail); try go_wp2)
        go_ret
        exact ⟨by first | rfl | (simp; done) | (simp [*]; done), by repeat (first | exact Drawn0.refl _ | apply Drawn0.step)⟩
      ·rw [if_neg c6] at H
       exact absurd H (by simp)
     ·rw [if_neg c5] at H
      exact absurd H (by simp)
    ·rw [if_neg c4] at H
     have c4b0 : decide (x5_1 < (l0.length : Int)) = false := decide_eq_false c4
     clear c4
     obtain rfl := Option.some.inj H
     go_wp2
     repeat (go_quiet (fail); try go_wp2)
     go_ret
     exact ⟨by first | rfl | (simp; done) | (simp [*]; done), by repeat (first | exact Drawn0.refl _ | apply Drawn0.step)⟩
 ·rw [if_neg c3] at H
  have c3b0 : ((l0.length : Int) == (l1.length : Int)) = false := beq_eq_false_iff_ne.mpr c3
  have c3b1 : ((l0.length : Int) != (l1.length : Int)) = true := bne_iff_ne.mpr c3
  have c3b2 : (l0.length == l1.length) = false := by first | simpa using c3 | (simp at c3 ⊢; omega)
  obtain rfl := Option.some.inj H
  go_enter Try.func17, Try.ntmps17
  go_wp2
  repeat (go_quiet (fail); try go_wp2)
  go_ret
  exact ⟨by first | rfl | (simp; done) | (simp [*]; done), by repeat (first | exact Drawn0.refl _ | apply Drawn0.step)⟩

/-! ### carousellaw15_awake: function 9 -/
def carousellaw15_awake.f (k : Nat)  : Option (Bool) := (opt_New.f (([4294967296] : List Int))).bind fun bt190 => ((wide_Of.f 8589934592).bind fun bt196 => ((opt_Apply.f k bt190.1 bt190.2 (([(⟨bt196.1, bt196.2⟩ : S30)] : List (S30))) 1 4294967296 0 0).bind fun bt201 => (if bt201.2.2 = 0 then ((carouselref10_Alike.f k bt201.1 (([(-4294967296)] : List Int))).bind fun t212 => (if t212 = true then ((carouselref10_Alike.f k bt201.2.1 (([8589934592] : List Int))).bind fun t216 => (some t216)) else (none))) else (none))))
theorem carousellaw15_awake.mono : ∀ k, LeO (carousellaw15_awake.f k ) (carousellaw15_awake.f (k + 1) ) := by
 intro  k
 unfold carousellaw15_awake.f
 repeat' first
   | (with_reducible exact carouselref10_Alike.mono _ _ _)
   | (with_reducible exact opt_Apply.mono _ _ _ _ _ _ _ _)
   | (with_reducible exact LeO.refl _)
   | (with_reducible exact LeO.none _)
   | (with_reducible refine LeO.ite ?_ ?_)
   | (with_reducible refine LeO.bind ?_ (fun _ => ?_))
   | exact carouselref10_Alike.mono _ _ _
   | exact opt_Apply.mono _ _ _ _ _ _ _ _
   | exact LeO.none _
   | refine LeO.ite ?_ ?_
   | refine LeO.bind ?_ (fun _ => ?_)
set_option maxHeartbeats 8000000 in
set_option maxRecDepth 100000 in
theorem carousellaw15_awake.calls (k : Nat)  (r : Bool) (w : World) (h : carousellaw15_awake.f k  = some r) :
  Calls Try.prog 9 #[] w fun e w' => e = .returned (.bool r) ∧ Below w.heap.size w w' := by
 have hu37 := Try.underlying37
 have hu25 := Try.underlying25
 have HB := Aside0.mk (Below.refl w.heap.size w)
 have H : ((opt_New.f (([4294967296] : List Int))).bind fun bt190 => ((wide_Of.f 8589934592).bind fun bt196 => ((opt_Apply.f k bt190.1 bt190.2 (([(⟨bt196.1, bt196.2⟩ : S30)] : List (S30))) 1 4294967296 0 0).bind fun bt201 => (if bt201.2.2 = 0 then ((carouselref10_Alike.f k bt201.1 (([(-4294967296)] : List Int))).bind fun t212 => (if t212 = true then ((carouselref10_Alike.f k bt201.2.1 (([8589934592] : List Int))).bind fun t216 => (some t216)) else (none))) else (none))))) = some r := h
 clear h
 obtain ⟨y187, hy187⟩ : ∃ y_ : List Int, y_ = (([4294967296] : List Int)) := ⟨_, rfl⟩
 replace H : ((opt_New.f y187).bind fun bt190 => ((wide_Of.f 8589934592).bind fun bt196 => ((opt_Apply.f k bt190.1 bt190.2 (([(⟨bt196.1, bt196.2⟩ : S30)] : List (S30))) 1 4294967296 0 0).bind fun bt201 => (if bt201.2.2 = 0 then ((carouselref10_Alike.f k bt201.1 (([(-4294967296)] : List Int))).bind fun t212 => (if t212 = true then ((carouselref10_Alike.f k bt201.2.1 (([8589934592] : List Int))).bind fun t216 => (some t216)) else (none))) else (none))))) = some r := by first | (rw [hy187]; with_reducible exact H) | (have H2_ := (Option.bind_some _ _).symm.trans H; rw [hy187]; with_reducible exact H2_) | (have H2_ := (Option.bind_some _ _).symm.trans H; with_reducible exact H2_) | with_reducible exact H | (rw [hy187]; exact H) | exact H
 have Ny187 := Aside0.mk hy187
 clear hy187
 replace H := Option.bind_eq_some_iff.mp H
 obtain ⟨⟨t190, t193⟩, A10, H⟩ := H
 (try dsimp only at H)
 have A1 := Aside0.mk A10
 clear A10
 replace H := Option.bind_eq_some_iff.mp H
 obtain ⟨⟨t196, t197⟩, A20, H⟩ := H
 (try dsimp only at H)
 have A2 := Aside0.mk A20
 clear A20
 obtain ⟨y198, hy198⟩ : ∃ y_ : List (S30), y_ = (([(⟨t196, t197⟩ : S30)] : List (S30))) := ⟨_, rfl⟩
 replace H : ((opt_Apply.f k t190 t193 y198 1 4294967296 0 0).bind fun bt201 => (if bt201.2.2 = 0 then ((carouselref10_Alike.f k bt201.1 (([(-4294967296)] : List Int))).bind fun t212 => (if t212 = true then ((carouselref10_Alike.f k bt201.2.1 (([8589934592] : List Int))).bind fun t216 => (some t216)) else (none))) else (none))) = some r := by first | (rw [hy198]; with_reducible exact H) | (have H2_ := (Option.bind_some _ _).symm.trans H; rw [hy198]; with_reducible exact H2_) | (have H2_ := (Option.bind_some _ _).symm.trans H; with_reducible exact H2_) | with_reducible exact H | (rw [hy198]; exact H) | exact H
 have Ny198 := Aside0.mk hy198
 clear hy198
 replace H := Option.bind_eq_some_iff.mp H
 obtain ⟨⟨t201, t204, t207⟩, A30, H⟩ := H
 (try dsimp only at H)
 have A3 := Aside0.mk A30
 clear A30
 by_cases c4 : t207 = 0
 ·rw [if_pos c4] at H
  have c4b0 : (t207 == 0) = true := beq_iff_eq.mpr c4
  have c4b1 : (t207 != 0) = false := bne_eq_false_iff_eq.mpr c4
  clear c4
  obtain ⟨y209, hy209⟩ : ∃ y_ : List Int, y_ = (([(-4294967296)] : List Int)) := ⟨_, rfl⟩
  replace H : ((carouselref10_Alike.f k t201 y209).bind fun t212 => (if t212 = true then ((carouselref10_Alike.f k t204 (([8589934592] : List Int))).bind fun t216 => (some t216)) else (none))) = some r := by first | (rw [hy209]; with_reducible exact H) | (have H2_ := (Option.bind_some _ _).symm.trans H; rw [hy209]; with_reducible exact H2_) | (have H2_ := (Option.bind_some _ _).symm.trans H; with_reducible exact H2_) | with_reducible exact H | (rw [hy209]; exact H) | exact H
  have Ny209 := Aside0.mk hy209
  clear hy209
  replace H := Option.bind_eq_some_iff.mp H
  obtain ⟨t212, A50, H⟩ := H
  replace H : (if t212 = true then ((carouselref10_Alike.f k t204 (([8589934592] : List Int))).bind fun t216 => (some t216)) else (none)) = some r := H
  have A5 := Aside0.mk A50
  clear A50
  by_cases c6 : t212 = true
  ·subst c6
   have H1 : ((carouselref10_Alike.f k t204 (([8589934592] : List Int))).bind fun t216 => (some t216)) = some r := by rw [if_pos rfl] at H; exact H
   clear H
   have H := H1
   clear H1
   obtain ⟨y213, hy213⟩ : ∃ y_ : List Int, y_ = (([8589934592] : List Int)) := ⟨_, rfl⟩
   replace H : ((carouselref10_Alike.f k t204 y213).bind fun t216 => (some t216)) = some r := by first | (rw [hy213]; with_reducible exact H) | (have H2_ := (Option.bind_some _ _).symm.trans H; rw [hy213]; with_reducible exact H2_) | (have H2_ := (Option.bind_some _ _).symm.trans H; with_reducible exact H2_) | with_reducible exact H | (rw [hy213]; exact H) | exact H
   have Ny213 := Aside0.mk hy213
   clear hy213
   replace H := Option.bind_eq_some_iff.mp H
   obtain ⟨t216, A70, H⟩ := H
   replace H : (some t216) = some r := H
   have A7 := Aside0.mk A70
   clear A70
   obtain rfl := Option.some.inj H
   go_enter Try.func9, Try.ntmps9
   go_wp2_with (first | ((with_reducible refine gate_dst (N := 4) rfl ?_); (try (refine gate_guard (by rfl) ?_; dsimp only)); refine Kd.R_lit (Kd.int .i64) _ 27 ?hg (N := 4) ?hd (xs := ([4294967296] : List Int)) (inner := [.int .i64 4294967296]) (ok := fun _ => True) (okp := fun _ => True) ?hr ?hp (fun _ hk => hk) trivial (Below.refl _ _) (Nat.le_refl _) (by simp) ?_; (case hd => rfl); (case hg => rfl); (case hr => first | (go_simp; done) | (go_simp; rfl)); (case hp => exact (Reps.one (show Kd.M (Kd.int .i64) _ _ _ 4294967296 [.int .i64 4294967296] from rfl) (Reps.none _ _))); intro v188 w8 ho9 hb hg_ hnew_; clear hg_ hnew_; (first | rw [← Ny187.out] at ho9 | (simp only [Int.reduceToNat] at ho9; rw [← Ny187.out] at ho9)); have n0_ := Aside0.mk (Kd.R_lower ho9 (below_size (ws_17 HB))); have n1_ := Aside0.mk (below_step (ws_17 HB) hb); clear HB; have HO189 := n0_; have HB := n1_; clear n0_ n1_; clear hb ho9; obtain ⟨Ao10, co10, eo10⟩ := Kd.R_slice HO189.out; subst eo10) | ((with_reducible refine gate_callee (f := 10) rfl ?_); refine goesL_ (some 5) rfl rfl Try.func10 (by kernel_rfl) rfl #[.slice Ao10 y187.length co10] rfl (by (try simp only [List.map_toArray, List.map_cons, List.map_nil]); first | done | rfl | (simp only [List.length_drop, List.length_take]; rfl)) ?_; (with_reducible refine (opt_New.calls _ _ y187 t190 t193 _ ?side1 ?side2 A1.out).mono ?_); (case side1 => repeat (first | exact (Kd.R_reads' HO189.out).2.2 | (with_reducible refine Kd.C_alloc ?_ _) | (with_reducible refine Kd.C_drewN ?_ _) | (with_reducible refine Kd.C_drew ?_))); (case side2 => exact (Kd.R_reads' HO189.out).2.1); rintro e w11 ⟨v191, v194, rfl, ho0, ho1, hb⟩; refine ⟨_, rfl, ?_⟩; have n0_ := Aside0.mk (Kd.R_mono (Kd.R_told (Kd.R_told (Kd.R_old (rs_17 HO189.out) hb) (Kd.R_base ho0)) (Kd.R_base ho1)) (fun _ h_ => h_.1)); have n1_ := Aside0.mk (Kd.R_lower (Kd.R_new' ho0 (Kd.R_lt (rs_17 HO189.out))) (below_size (ws_17 HB))); have n2_ := Aside0.mk (Kd.R_lower (Kd.R_new' ho1 (Kd.R_lt (rs_17 HO189.out))) (below_size (ws_17 HB))); have n3_ := Aside0.mk (below_step (ws_17 HB) hb); clear HO189; clear HB; have HO189 := n0_; have HO192 := n1_; have HO195 := n2_; have HB := n3_; clear n0_ n1_ n2_ n3_; (try clear hb); (try clear hb2); (try clear hk); (try clear hi); (try clear ho0); (try clear ho1)) | ((with_reducible refine gate_callee (f := 11) rfl ?_); refine goesL_ (some 6) rfl rfl Try.func11 (by kernel_rfl) rfl #[.int .i64 8589934592] rfl (by (try simp only [List.map_toArray, List.map_cons, List.map_nil]); first | done | rfl | (simp only [List.length_drop, List.length_take]; rfl)) ?_; (with_reducible refine (wide_Of.calls 8589934592 t196 t197 _ A2.out).mono ?_); rintro e w12 ⟨rfl, hb⟩; refine ⟨_, rfl, ?_⟩; have n0_ := Aside0.mk (Kd.R_below (rs_17 HO189.out) hb); have n1_ := Aside0.mk (Kd.R_below (rs_17 HO192.out) hb); have n2_ := Aside0.mk (Kd.R_below (rs_17 HO195.out) hb); have n3_ := Aside0.mk (below_step (ws_17 HB) hb); clear HO189; clear HO192; clear HO195; clear HB; have HO189 := n0_; have HO192 := n1_; have HO195 := n2_; have HB := n3_; clear n0_ n1_ n2_ n3_; (try clear hb); (try clear hb2); (try clear hk); (try clear hi)) | ((with_reducible refine gate_dst (N := 7) rfl ?_); (try (refine gate_guard (by rfl) ?_; dsimp only)); refine Kd.R_lit k30 _ 30 ?hg (N := 7) ?hd (xs := ([(⟨t196, t197⟩ : S30)] : List (S30))) (inner := [.int .i64 t196, .int .u64 t197]) (ok := fun _ => True) (okp := fun _ => True) ?hr ?hp (fun _ hk => hk) trivial (Below.refl _ _) (Nat.le_refl _) (by simp) ?_; (case hd => rfl); (case hg => rfl); (case hr => first | (go_simp; done) | (go_simp; rfl)); (case hp => exact (Reps.c2 (show Kd.M k30 _ _ _ (⟨t196, t197⟩ : S30) [.int .i64 t196, .int .u64 t197] from (k30_mkM _ _ _ (⟨t196, t197⟩ : S30) )) (Reps.none _ _))); intro v199 w13 ho14 hb hg_ hnew_; clear hg_ hnew_; (first | rw [← Ny198.out] at ho14 | (simp only [Int.reduceToNat] at ho14; rw [← Ny198.out] at ho14)); have n0_ := Aside0.mk (Kd.R_below (rs_17 HO189.out) hb); have n1_ := Aside0.mk (Kd.R_below (rs_17 HO192.out) hb); have n2_ := Aside0.mk (Kd.R_below (rs_17 HO195.out) hb); have n3_ := Aside0.mk (Kd.R_lower ho14 (below_size (ws_17 HB))); have n4_ := Aside0.mk (below_step (ws_17 HB) hb); clear HO189; clear HO192; clear HO195; clear HB; have HO189 := n0_; have HO192 := n1_; have HO195 := n2_; have HO200 := n3_; have HB := n4_; clear n0_ n1_ n2_ n3_ n4_; clear hb ho14; obtain ⟨Ao15, co15, eo15⟩ := Kd.R_slice HO192.out; subst eo15; obtain ⟨Ao16, co16, eo16⟩ := Kd.R_slice HO195.out; subst eo16; obtain ⟨Ao17, co17, eo17⟩ := Kd.R_slice HO200.out; subst eo17) | ((with_reducible refine gate_callee (f := 12) rfl ?_); refine goesL_ (some 9) rfl rfl Try.func12 (by kernel_rfl) rfl #[.agg #[.slice Ao15 t190.length co15, .slice Ao16 t193.length co16], .slice Ao17 y198.length co17, .int .i64 1, .agg #[.int .i64 4294967296, .int .i64 0, .int .i64 0]] rfl (by (try simp only [List.map_toArray, List.map_cons, List.map_nil]); first | done | rfl | (simp only [List.length_drop, List.length_take]; rfl)) ?_; (with_reducible refine (opt_Apply.calls k _ _ t190 _ _ t193 _ _ y198 1 4294967296 0 0 t201 t204 t207 _ ?side1 ?side2 ?side3 ?side4 ?side5 ?side6 A3.out).mono ?_); (case side1 => repeat (first | exact (Kd.R_reads' HO192.out).2.2 | (with_reducible refine Kd.C_alloc ?_ _) | (with_reducible refine Kd.C_drewN ?_ _) | (with_reducible refine Kd.C_drew ?_))); (case side2 => exact (Kd.R_reads' HO192.out).2.1); (case side3 => repeat (first | exact (Kd.R_reads' HO195.out).2.2 | (with_reducible refine Kd.C_alloc ?_ _) | (with_reducible refine Kd.C_drewN ?_ _) | (with_reducible refine Kd.C_drew ?_))); (case side4 => exact (Kd.R_reads' HO195.out).2.1); (case side5 => repeat (first | exact (Kd.R_reads' HO200.out).2.2 | (with_reducible refine Kd.C_alloc ?_ _) | (with_reducible refine Kd.C_drewN ?_ _) | (with_reducible refine Kd.C_drew ?_))); (case side6 => exact (Kd.R_reads' HO200.out).2.1); rintro e w18 ⟨v202, v205, rfl, ho0, ho1, hb⟩; refine ⟨_, rfl, ?_⟩; have n0_ := Aside0.mk (Kd.R_mono (Kd.R_told (Kd.R_told (Kd.R_old (rs_17 HO189.out) hb) (Kd.R_base ho0)) (Kd.R_base ho1)) (fun _ h_ => h_.1)); have n1_ := Aside0.mk (Kd.R_mono (Kd.R_told (Kd.R_told (Kd.R_old (rs_17 HO192.out) hb) (Kd.R_base ho0)) (Kd.R_base ho1)) (fun _ h_ => h_.1)); have n2_ := Aside0.mk (Kd.R_mono (Kd.R_told (Kd.R_told (Kd.R_old (rs_17 HO195.out) hb) (Kd.R_base ho0)) (Kd.R_base ho1)) (fun _ h_ => h_.1)); have n3_ := Aside0.mk (Kd.R_below (rs_17 HO200.out) hb); have n4_ := Aside0.mk (Kd.R_lower (Kd.R_new' (Kd.R_new' (Kd.R_new' ho0 (Kd.R_lt (rs_17 HO189.out))) (Kd.R_lt (rs_17 HO192.out))) (Kd.R_lt (rs_17 HO195.out))) (below_size (ws_17 HB))); have n5_ := Aside0.mk (Kd.R_lower (Kd.R_new' (Kd.R_new' (Kd.R_new' ho1 (Kd.R_lt (rs_17 HO189.out))) (Kd.R_lt (rs_17 HO192.out))) (Kd.R_lt (rs_17 HO195.out))) (below_size (ws_17 HB))); have n6_ := Aside0.mk (below_step (ws_17 HB) hb); clear HO189; clear HO192; clear HO195; clear HO200; clear HB; have HO189 := n0_; have HO192 := n1_; have HO195 := n2_; have HO200 := n3_; have HO203 := n4_; have HO206 := n5_; have HB := n6_; clear n0_ n1_ n2_ n3_ n4_ n5_ n6_; (try clear hb); (try clear hb2); (try clear hk); (try clear hi); (try clear ho0); (try clear ho1)) | ((with_reducible refine gate_dst (N := 1) rfl ?_); (try (refine gate_guard (by rfl) ?_; dsimp only)); refine box_event ?hg (N := 1) ?hd (cs := #[.slice none 0 0, .slice none 0 0]) (t := 25) ?hr ?_; (case hd => rfl); (case hg => rfl); (case hr => first | (go_simp; done) | (go_simp; rfl)); intro gb208 hg w19 hbox hb; have n0_ := Aside0.mk (Kd.R_below (rs_17 HO189.out) hb); have n1_ := Aside0.mk (Kd.R_below (rs_17 HO192.out) hb); have n2_ := Aside0.mk (Kd.R_below (rs_17 HO195.out) hb); have n3_ := Aside0.mk (Kd.R_below (rs_17 HO200.out) hb); have n4_ := Aside0.mk (Kd.R_below (rs_17 HO203.out) hb); have n5_ := Aside0.mk (Kd.R_below (rs_17 HO206.out) hb); have n6_ := Aside0.mk (below_step (ws_17 HB) hb); have n7_ := Aside0.mk (hbox); have n8_ := Aside0.mk ((by rw [hg]; exact (below_size (ws_17 HB)) : w.heap.size ≤ gb208)); have n9_ := Aside0.mk ((by rw [hg]; exact (below_size (ws_17 HB)) : w.heap.size ≤ gb208)); clear HO189; clear HO192; clear HO195; clear HO200; clear HO203; clear HO206; clear HB; have HO189 := n0_; have HO192 := n1_; have HO195 := n2_; have HO200 := n3_; have HO203 := n4_; have HO206 := n5_; have HB := n6_; have BK208 := n7_; have GW208 := n8_; have GE208 := n9_; clear n0_ n1_ n2_ n3_ n4_ n5_ n6_ n7_ n8_ n9_; clear hb hbox hg; obtain ⟨Ao20, co20, eo20⟩ := Kd.R_slice HO203.out; subst eo20; have hcz21_0 : w19.cell? ⟨gb208, 0, none⟩ = some (.slice none 0 0) := (blk_cell BK208.out 0).trans rfl; have hcz21_1 : w19.cell? ⟨gb208, 1, none⟩ = some (.slice none 0 0) := (blk_cell BK208.out 1).trans rfl; have hfz21_0 := blk_frozen BK208.out 0; have hfz21_1 := blk_frozen BK208.out 1; obtain ⟨Ao22, co22, eo22⟩ := Kd.R_slice HO206.out; subst eo22) | ((with_reducible refine gate_dst (N := 17) rfl ?_); (try (refine gate_guard (by rfl) ?_; dsimp only)); refine Kd.R_lit (Kd.int .i64) _ 27 ?hg (N := 17) ?hd (xs := ([(-4294967296)] : List Int)) (inner := [.int .i64 (-4294967296)]) (ok := fun _ => True) (okp := fun _ => True) ?hr ?hp (fun _ hk => hk) trivial (Below.refl _ _) (Nat.le_refl _) (by simp) ?_; (case hd => rfl); (case hg => rfl); (case hr => first | (go_simp; done) | (go_simp; rfl)); (case hp => exact (Reps.one (show Kd.M (Kd.int .i64) _ _ _ (-4294967296) [.int .i64 (-4294967296)] from rfl) (Reps.none _ _))); intro v210 w23 ho24 hb hg_ hnew_; clear hg_ hnew_; (first | rw [← Ny209.out] at ho24 | (simp only [Int.reduceToNat] at ho24; rw [← Ny209.out] at ho24)); have n0_ := Aside0.mk (Kd.R_elder' (rs_17 ((Kd.R_mono (Kd.R_far (p := ⟨gb208, 1, none⟩) (Kd.R_far (p := ⟨gb208, 0, none⟩) (Kd.R_types HO189.out BK208.out (by decide)) (fun _ hk => hk.2) (.slice Ao20 t201.length co20)) (fun _ hk => hk.2) (.slice Ao22 t204.length co22)) (fun _ h_ => h_.1)))) (Kd.R_base ho24) hb); have n1_ := Aside0.mk (Kd.R_elder' (rs_17 ((Kd.R_mono (Kd.R_far (p := ⟨gb208, 1, none⟩) (Kd.R_far (p := ⟨gb208, 0, none⟩) (Kd.R_types HO192.out BK208.out (by decide)) (fun _ hk => hk.2) (.slice Ao20 t201.length co20)) (fun _ hk => hk.2) (.slice Ao22 t204.length co22)) (fun _ h_ => h_.1)))) (Kd.R_base ho24) hb); have n2_ := Aside0.mk (Kd.R_elder' (rs_17 ((Kd.R_mono (Kd.R_far (p := ⟨gb208, 1, none⟩) (Kd.R_far (p := ⟨gb208, 0, none⟩) (Kd.R_types HO195.out BK208.out (by decide)) (fun _ hk => hk.2) (.slice Ao20 t201.length co20)) (fun _ hk => hk.2) (.slice Ao22 t204.length co22)) (fun _ h_ => h_.1)))) (Kd.R_base ho24) hb); have n3_ := Aside0.mk (Kd.R_below (rs_17 ((Kd.R_mono (Kd.R_far (p := ⟨gb208, 1, none⟩) (Kd.R_far (p := ⟨gb208, 0, none⟩) (Kd.R_types HO200.out BK208.out (by decide)) (fun _ hk => hk.2) (.slice Ao20 t201.length co20)) (fun _ hk => hk.2) (.slice Ao22 t204.length co22)) (fun _ h_ => h_.1)))) hb); have n4_ := Aside0.mk (Kd.R_elder' (rs_17 ((Kd.R_mono (Kd.R_far (p := ⟨gb208, 1, none⟩) (Kd.R_far (p := ⟨gb208, 0, none⟩) (Kd.R_types HO203.out BK208.out (by decide)) (fun _ hk => hk.2) (.slice Ao20 t201.length co20)) (fun _ hk => hk.2) (.slice Ao22 t204.length co22)) (fun _ h_ => h_.1)))) (Kd.R_base ho24) hb); have n5_ := Aside0.mk (Kd.R_elder' (rs_17 ((Kd.R_mono (Kd.R_far (p := ⟨gb208, 1, none⟩) (Kd.R_far (p := ⟨gb208, 0, none⟩) (Kd.R_types HO206.out BK208.out (by decide)) (fun _ hk => hk.2) (.slice Ao20 t201.length co20)) (fun _ hk => hk.2) (.slice Ao22 t204.length co22)) (fun _ h_ => h_.1)))) (Kd.R_base ho24) hb); have n6_ := Aside0.mk (Kd.R_lower (Kd.R_new' (Kd.R_new' (Kd.R_new' (Kd.R_new' (Kd.R_new' ho24 (Kd.R_lt (rs_17 ((Kd.R_mono (Kd.R_far (p := ⟨gb208, 1, none⟩) (Kd.R_far (p := ⟨gb208, 0, none⟩) (Kd.R_types HO189.out BK208.out (by decide)) (fun _ hk => hk.2) (.slice Ao20 t201.length co20)) (fun _ hk => hk.2) (.slice Ao22 t204.length co22)) (fun _ h_ => h_.1)))))) (Kd.R_lt (rs_17 ((Kd.R_mono (Kd.R_far (p := ⟨gb208, 1, none⟩) (Kd.R_far (p := ⟨gb208, 0, none⟩) (Kd.R_types HO192.out BK208.out (by decide)) (fun _ hk => hk.2) (.slice Ao20 t201.length co20)) (fun _ hk => hk.2) (.slice Ao22 t204.length co22)) (fun _ h_ => h_.1)))))) (Kd.R_lt (rs_17 ((Kd.R_mono (Kd.R_far (p := ⟨gb208, 1, none⟩) (Kd.R_far (p := ⟨gb208, 0, none⟩) (Kd.R_types HO195.out BK208.out (by decide)) (fun _ hk => hk.2) (.slice Ao20 t201.length co20)) (fun _ hk => hk.2) (.slice Ao22 t204.length co22)) (fun _ h_ => h_.1)))))) (Kd.R_lt (rs_17 ((Kd.R_mono (Kd.R_far (p := ⟨gb208, 1, none⟩) (Kd.R_far (p := ⟨gb208, 0, none⟩) (Kd.R_types HO203.out BK208.out (by decide)) (fun _ hk => hk.2) (.slice Ao20 t201.length co20)) (fun _ hk => hk.2) (.slice Ao22 t204.length co22)) (fun _ h_ => h_.1)))))) (Kd.R_lt (rs_17 ((Kd.R_mono (Kd.R_far (p := ⟨gb208, 1, none⟩) (Kd.R_far (p := ⟨gb208, 0, none⟩) (Kd.R_types HO206.out BK208.out (by decide)) (fun _ hk => hk.2) (.slice Ao20 t201.length co20)) (fun _ hk => hk.2) (.slice Ao22 t204.length co22)) (fun _ h_ => h_.1)))))) (below_size (ws1_17 HB GE208))); have n7_ := Aside0.mk (blk_below (g := gb208) (o := .cells #[.slice Ao20 t201.length co20, .slice Ao22 t204.length co22] 25 (0, 0)) (by (with_reducible repeat (first | refine blk_drewN ?_ _ | refine blk_drew ?_ | refine blk_alloc ?_ _)); refine blk_put (cs := #[.slice Ao20 t201.length co20, .slice none 0 0]) ?_ 1 _ rfl; (with_reducible repeat (first | refine blk_drewN ?_ _ | refine blk_drew ?_ | refine blk_alloc ?_ _)); refine blk_put (cs := #[.slice none 0 0, .slice none 0 0]) ?_ 0 _ rfl; (with_reducible repeat (first | refine blk_drewN ?_ _ | refine blk_drew ?_ | refine blk_alloc ?_ _)); exact BK208.out) hb); have n8_ := Aside0.mk (below_step (ws1_17 HB GE208) hb); clear HO189; clear HO192; clear HO195; clear HO200; clear HO203; clear HO206; clear BK208; clear HB; have HO189 := n0_; have HO192 := n1_; have HO195 := n2_; have HO200 := n3_; have HO203 := n4_; have HO206 := n5_; have HO211 := n6_; have BK208 := n7_; have HB := n8_; clear n0_ n1_ n2_ n3_ n4_ n5_ n6_ n7_ n8_; clear hb ho24; obtain ⟨Ao25, co25, eo25⟩ := Kd.R_slice HO211.out; subst eo25) | (go_at_call 17; (with_reducible refine (carouselref10_Alike.calls k _ _ t201 _ _ y209 true _ ?side1 ?side2 ?side3 ?side4 A5.out).mono ?_); (case side1 => repeat (first | exact (Kd.R_reads' HO203.out).2.2 | (with_reducible refine Kd.C_alloc ?_ _) | (with_reducible refine Kd.C_drewN ?_ _) | (with_reducible refine Kd.C_drew ?_))); (case side2 => exact (Kd.R_reads' HO203.out).2.1); (case side3 => repeat (first | exact (Kd.R_reads' HO211.out).2.2 | (with_reducible refine Kd.C_alloc ?_ _) | (with_reducible refine Kd.C_drewN ?_ _) | (with_reducible refine Kd.C_drew ?_))); (case side4 => exact (Kd.R_reads' HO211.out).2.1); rintro e w' ⟨rfl, ⟨nd, rfl⟩⟩; have hcz26_0 : w23.cell? ⟨gb208, 0, none⟩ = some (.slice Ao20 t201.length co20) := (blk_cell BK208.out 0).trans rfl; have hcz26_1 : w23.cell? ⟨gb208, 1, none⟩ = some (.slice Ao22 t204.length co22) := (blk_cell BK208.out 1).trans rfl; have hfz26_0 := blk_frozen BK208.out 0; have hfz26_1 := blk_frozen BK208.out 1) | ((with_reducible refine gate_dst (N := 23) rfl ?_); (try (refine gate_guard (by rfl) ?_; dsimp only)); refine Kd.R_lit (Kd.int .i64) _ 27 ?hg (N := 23) ?hd (xs := ([8589934592] : List Int)) (inner := [.int .i64 8589934592]) (ok := fun _ => True) (okp := fun _ => True) ?hr ?hp (fun _ hk => hk) trivial (Below.refl _ _) (Nat.le_refl _) (by simp) ?_; (case hd => rfl); (case hg => rfl); (case hr => first | (go_simp; done) | (go_simp; rfl)); (case hp => exact (Reps.one (show Kd.M (Kd.int .i64) _ _ _ 8589934592 [.int .i64 8589934592] from rfl) (Reps.none _ _))); intro v214 w27 ho28 hb hg_ hnew_; clear hg_ hnew_; (first | rw [← Ny213.out] at ho28 | (simp only [Int.reduceToNat] at ho28; rw [← Ny213.out] at ho28)); have n0_ := Aside0.mk (Kd.R_elder' (rs_17 HO189.out) (Kd.R_base ho28) hb); have n1_ := Aside0.mk (Kd.R_elder' (rs_17 HO192.out) (Kd.R_base ho28) hb); have n2_ := Aside0.mk (Kd.R_elder' (rs_17 HO195.out) (Kd.R_base ho28) hb); have n3_ := Aside0.mk (Kd.R_below (rs_17 HO200.out) hb); have n4_ := Aside0.mk (Kd.R_elder' (rs_17 HO203.out) (Kd.R_base ho28) hb); have n5_ := Aside0.mk (Kd.R_elder' (rs_17 HO206.out) (Kd.R_base ho28) hb); have n6_ := Aside0.mk (Kd.R_elder' (rs_17 HO211.out) (Kd.R_base ho28) hb); have n7_ := Aside0.mk (Kd.R_lower (Kd.R_new' (Kd.R_new' (Kd.R_new' (Kd.R_new' (Kd.R_new' (Kd.R_new' ho28 (Kd.R_lt (rs_17 HO189.out))) (Kd.R_lt (rs_17 HO192.out))) (Kd.R_lt (rs_17 HO195.out))) (Kd.R_lt (rs_17 HO203.out))) (Kd.R_lt (rs_17 HO206.out))) (Kd.R_lt (rs_17 HO211.out))) (below_size (ws1_17 HB GE208))); have n8_ := Aside0.mk (blk_below (g := gb208) (o := .cells #[.slice Ao20 t201.length co20, .slice Ao22 t204.length co22] 25 (0, 0)) (bs_17 BK208) hb); have n9_ := Aside0.mk (below_step (ws1_17 HB GE208) hb); clear HO189; clear HO192; clear HO195; clear HO200; clear HO203; clear HO206; clear HO211; clear BK208; clear HB; have HO189 := n0_; have HO192 := n1_; have HO195 := n2_; have HO200 := n3_; have HO203 := n4_; have HO206 := n5_; have HO211 := n6_; have HO215 := n7_; have BK208 := n8_; have HB := n9_; clear n0_ n1_ n2_ n3_ n4_ n5_ n6_ n7_ n8_ n9_; clear hb ho28; obtain ⟨Ao29, co29, eo29⟩ := Kd.R_slice HO215.out; subst eo29) | (go_at_call 17; (with_reducible refine (carouselref10_Alike.calls k _ _ t204 _ _ y213 t216 _ ?side1 ?side2 ?side3 ?side4 A7.out).mono ?_); (case side1 => repeat (first | exact (Kd.R_reads' HO206.out).2.2 | (with_reducible refine Kd.C_alloc ?_ _) | (with_reducible refine Kd.C_drewN ?_ _) | (with_reducible refine Kd.C_drew ?_))); (case side2 => exact (Kd.R_reads' HO206.out).2.1); (case side3 => repeat (first | exact (Kd.R_reads' HO215.out).2.2 | (with_reducible refine Kd.C_alloc ?_ _) | (with_reducible refine Kd.C_drewN ?_ _) | (with_reducible refine Kd.C_drew ?_))); (case side4 => exact (Kd.R_reads' HO215.out).2.1); rintro e w' ⟨rfl, ⟨nd, rfl⟩⟩))
   go_ret
   exact ⟨by first | rfl | (simp [errW_none, errW_some] <;> rfl) | (simp [*, errW_none, errW_some] <;> rfl), ws1_17 HB GE208⟩
  ·replace c6 := Bool.eq_false_iff.mpr c6
   subst c6
   have H1 : (none) = some r := by rw [if_neg (show ¬ (false = true) by decide)] at H; exact H
   clear H
   have H := H1
   clear H1
   exact absurd H (by simp)
 ·rw [if_neg c4] at H
  exact absurd H (by simp)

end Go.Proofs.Ytaanhfcioemekaa.POptKnown
