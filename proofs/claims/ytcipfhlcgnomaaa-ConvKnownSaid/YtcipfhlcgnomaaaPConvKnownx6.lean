/- The functions that the law ConvKnown reaches, as Lean functions, and that each call of the Go function does what its Lean function says, wherever that one answers. Written by a program of mine over the print of the kit; Lean checks it. -/
import Derived.Test.YtcipfhlcgnomaaaPConvKnownx0
import Derived.Test.YtcipfhlcgnomaaaPConvKnownx5
namespace Go.Proofs.Ytcipfhlcgnomaaa.PConvKnown
open Go.RowKit Go.Proofs.YtcipfhlcgnomaaaW.PrintWords Go.Proofs.YtcipfhlcgnomaaaW.PrintLast Go.Proofs.YtcipfhlcgnomaaaW.PrintMore
attribute [local go_sem] max2_int min2_int max_two min_two max_three min_three max_four min_four   -- for this text's walks alone
set_option linter.unusedVariables false
set_option linter.unusedSimpArgs false

/-! ### carouselref5_Same: function 21 -/
def carouselref5_Same.l0 : Nat → List Int → List Int → Int → Option (Bool)
  | 0, _, _, _ => none
  | k + 1, x0, x1, x5 => if x5 < (x0.length : Int) then (if 0 ≤ x5 then (if x5 < (x1.length : Int) then (if (rd x0 x5) = (rd x1 x5) then (carouselref5_Same.l0 k x0 x1 (wrap64 (x5 + 1))) else (some false)) else (none)) else (none)) else (some true)
def carouselref5_Same.f (k : Nat) (l0 : List Int) (l1 : List Int) : Option (Bool) := if (l0.length : Int) = (l1.length : Int) then (carouselref5_Same.l0 k l0 l1 0) else (some false)
theorem carouselref5_Same.mono_l : ∀ k, (∀ y0 y1 y2, LeO (carouselref5_Same.l0 k y0 y1 y2) (carouselref5_Same.l0 (k + 1) y0 y1 y2))
  | 0 => fun _ _ _ r h => by simp [carouselref5_Same.l0] at h
  | k + 1 => by
    have ih0 := carouselref5_Same.mono_l k
    · intro y0 y1 y2
      unfold carouselref5_Same.l0
      repeat' first
      | (with_reducible exact ih0 _ _ _)
      | (with_reducible exact LeO.refl _)
      | (with_reducible exact LeO.none _)
      | (with_reducible refine LeO.ite ?_ ?_)
      | (with_reducible refine LeO.bind ?_ (fun _ => ?_))
      | exact ih0 _ _ _
      | exact LeO.none _
      | refine LeO.ite ?_ ?_
      | refine LeO.bind ?_ (fun _ => ?_)
theorem carouselref5_Same.mono : ∀ a0 a1 k, LeO (carouselref5_Same.f k a0 a1) (carouselref5_Same.f (k + 1) a0 a1) := by
  intro a0 a1 k
  have ih0 := carouselref5_Same.mono_l k
  unfold carouselref5_Same.f
  repeat' first
      | (with_reducible exact ih0 _ _ _)
      | (with_reducible exact LeO.refl _)
      | (with_reducible exact LeO.none _)
      | (with_reducible refine LeO.ite ?_ ?_)
      | (with_reducible refine LeO.bind ?_ (fun _ => ?_))
      | exact ih0 _ _ _
      | exact LeO.none _
      | refine LeO.ite ?_ ?_
      | refine LeO.bind ?_ (fun _ => ?_)
set_option maxHeartbeats 8000000 in
set_option maxRecDepth 100000 in
theorem carouselref5_Same.calls (k : Nat) (A0 : Option Addr) (c0 : Nat) (l0 : List Int) (A1 : Option Addr) (c1 : Nat) (l1 : List Int) (r : Bool) (w : World) (hr0 : Kd.C (Kd.int .i64) w A0 l0.length l0) (hc0 : l0.length ≤ c0) (hr1 : Kd.C (Kd.int .i64) w A1 l1.length l1) (hc1 : l1.length ≤ c1) (h : carouselref5_Same.f k l0 l1 = some r) :
    Calls Try.prog 21 #[.slice A0 l0.length c0, .slice A1 l1.length c1] w fun e w' => e = .returned (.bool r) ∧ Drawn0 w w' := by
  have HR0 := Aside0.mk hr0
  have HC0 := Aside0.mk hc0
  clear hr0 hc0
  have HR1 := Aside0.mk hr1
  have HC1 := Aside0.mk hc1
  clear hr1 hc1
  have H : (if (l0.length : Int) = (l1.length : Int) then (carouselref5_Same.l0 k l0 l1 0) else (some false)) = some r := h
  clear h
  by_cases c3 : (l0.length : Int) = (l1.length : Int)
  · rw [if_pos c3] at H
    have c3b0 : ((l0.length : Int) == (l1.length : Int)) = true := beq_iff_eq.mpr c3
    have c3b1 : ((l0.length : Int) != (l1.length : Int)) = false := bne_eq_false_iff_eq.mpr c3
    have c3b2 : (l0.length == l1.length) = true := by first | simpa using c3 | (simp at c3 ⊢; omega)
    clear c3
    have H' := Aside0.mk H
    clear H
    go_enter Try.func21, Try.ntmps21
    go_wp2
    repeat (go_quiet (fail); try go_wp2)
    go_loopg [5] k (fun kq v5 w' => ∃ (x5_1 : Int), v5 = .int .i64 x5_1 ∧ Aside0 (carouselref5_Same.l0 kq l0 l1 x5_1 = some r) ∧ Aside0 (kq ≤ k) ∧ Drawn0 w w')
    case atStart => exact ⟨(0), z1_, H', ⟨Nat.le_refl _⟩, by repeat (first | exact Drawn0.refl _ | apply Drawn0.step)⟩
    case round =>
      clear H'
      try clear c1
      try clear c2
      try clear p2
      try clear c3
      try clear c3b0
      try clear c3b1
      try clear c3b2
      obtain ⟨x5_1, rfl, HA, HK1, ⟨m1, rfl⟩⟩ := hrel
      cases gk with
      | zero => exact absurd HA.out (by simp [carouselref5_Same.l0])
      | succ k1 =>
        have H := HA.out
        clear HA
        simp only [carouselref5_Same.l0] at H
        by_cases c4 : x5_1 < (l0.length : Int)
        · rw [if_pos c4] at H
          have c4b0 : decide (x5_1 < (l0.length : Int)) = true := decide_eq_true c4
          clear c4
          by_cases c5 : 0 ≤ x5_1
          · rw [if_pos c5] at H
            have c5b0 : decide (0 ≤ x5_1) = true := decide_eq_true c5
            clear c5
            by_cases c6 : x5_1 < (l1.length : Int)
            · rw [if_pos c6] at H
              have c6b0 : decide (x5_1 < (l1.length : Int)) = true := decide_eq_true c6
              clear c6
              by_cases c7 : (rd l0 x5_1) = (rd l1 x5_1)
              · rw [if_pos c7] at H
                have c7b0 : ((rd l0 x5_1) == (rd l1 x5_1)) = true := beq_iff_eq.mpr c7
                have c7b1 : ((rd l0 x5_1) != (rd l1 x5_1)) = false := bne_eq_false_iff_eq.mpr c7
                clear c7
                have H' := Aside0.mk H
                clear H
                have p206 : 0 ≤ (x5_1 : Int) := of_decide_eq_true (by first | (with_reducible assumption) | assumption)
                have q206 : x5_1 < (l0.length : Int) := of_decide_eq_true (by first | (with_reducible assumption) | assumption)
                obtain ⟨ad206, e206, hx206_0⟩ := Kd.at_int HR0.out x5_1 p206 q206
                cases e206
                replace p206 := eq_true p206
                replace q206 := eq_true q206
                have p207 : 0 ≤ (x5_1 : Int) := of_decide_eq_true (by first | (with_reducible assumption) | assumption)
                have q207 : x5_1 < (l1.length : Int) := of_decide_eq_true (by first | (with_reducible assumption) | assumption)
                obtain ⟨ad207, e207, hx207_0⟩ := Kd.at_int HR1.out x5_1 p207 q207
                cases e207
                replace p207 := eq_true p207
                replace q207 := eq_true q207
                go_wp2
                repeat (go_quiet (fail); try go_wp2)
                go_roundg k1
                case measure => have := HK1.out; omega
                case rel => exact ⟨(wrap64 (x5_1 + 1)), z1_, H', ⟨by have := HK1.out; omega⟩, by repeat (first | exact Drawn0.refl _ | apply Drawn0.step)⟩
              · rw [if_neg c7] at H
                have c7b0 : ((rd l0 x5_1) == (rd l1 x5_1)) = false := beq_eq_false_iff_ne.mpr c7
                have c7b1 : ((rd l0 x5_1) != (rd l1 x5_1)) = true := bne_iff_ne.mpr c7
                obtain rfl := Option.some.inj H
                have p206 : 0 ≤ (x5_1 : Int) := of_decide_eq_true (by first | (with_reducible assumption) | assumption)
                have q206 : x5_1 < (l0.length : Int) := of_decide_eq_true (by first | (with_reducible assumption) | assumption)
                obtain ⟨ad206, e206, hx206_0⟩ := Kd.at_int HR0.out x5_1 p206 q206
                cases e206
                replace p206 := eq_true p206
                replace q206 := eq_true q206
                have p207 : 0 ≤ (x5_1 : Int) := of_decide_eq_true (by first | (with_reducible assumption) | assumption)
                have q207 : x5_1 < (l1.length : Int) := of_decide_eq_true (by first | (with_reducible assumption) | assumption)
                obtain ⟨ad207, e207, hx207_0⟩ := Kd.at_int HR1.out x5_1 p207 q207
                cases e207
                replace p207 := eq_true p207
                replace q207 := eq_true q207
                go_wp2
                repeat (go_quiet (fail); try go_wp2)
                go_ret
                exact ⟨by first | rfl | (simp; done) | (simp [*]; done), by repeat (first | exact Drawn0.refl _ | apply Drawn0.step)⟩
            · rw [if_neg c6] at H
              exact absurd H (by simp)
          · rw [if_neg c5] at H
            exact absurd H (by simp)
        · rw [if_neg c4] at H
          have c4b0 : decide (x5_1 < (l0.length : Int)) = false := decide_eq_false c4
          clear c4
          obtain rfl := Option.some.inj H
          go_wp2
          repeat (go_quiet (fail); try go_wp2)
          go_ret
          exact ⟨by first | rfl | (simp; done) | (simp [*]; done), by repeat (first | exact Drawn0.refl _ | apply Drawn0.step)⟩
  · rw [if_neg c3] at H
    have c3b0 : ((l0.length : Int) == (l1.length : Int)) = false := beq_eq_false_iff_ne.mpr c3
    have c3b1 : ((l0.length : Int) != (l1.length : Int)) = true := bne_iff_ne.mpr c3
    have c3b2 : (l0.length == l1.length) = false := by first | simpa using c3 | (simp at c3 ⊢; omega)
    obtain rfl := Option.some.inj H
    go_enter Try.func21, Try.ntmps21
    go_wp2
    repeat (go_quiet (fail); try go_wp2)
    go_ret
    exact ⟨by first | rfl | (simp; done) | (simp [*]; done), by repeat (first | exact Drawn0.refl _ | apply Drawn0.step)⟩

/-! ### carouselref5_Alike: function 15 -/
mutual
def carouselref5_Alike.j0 : Nat → Bool → List Int → List Int → List Int → List Int → Option (Bool)
  | 0, _, _, _, _, _ => none
  | k + 1, x20, x209000, x209001, x210000, x210001 => if x20 = true then (some false) else (carouselref5_Alike.l0 k 0 x209000 x209001 x210000 x210001)
def carouselref5_Alike.l0 : Nat → Int → List Int → List Int → List Int → List Int → Option (Bool)
  | 0, _, _, _, _, _ => none
  | k + 1, x5, x209000, x209001, x210000, x210001 => if x5 < (x209001.length : Int) then (if 0 ≤ x5 then (if x5 < (x210001.length : Int) then (if (rd x209001 x5) = (rd x210001 x5) then (carouselref5_Alike.l0 k (wrap64 (x5 + 1)) x209000 x209001 x210000 x210001) else (some false)) else (none)) else (none)) else (some true)
end
def carouselref5_Alike.f (k : Nat) (l0_0 : List Int) (l0_1 : List Int) (l1_0 : List Int) (l1_1 : List Int) : Option (Bool) := (carouselref5_Same.f k l0_0 l1_0).bind fun t210 => (if t210 = true then (carouselref5_Alike.j0 k ((l0_1.length : Int) != (l1_1.length : Int)) l0_0 l0_1 l1_0 l1_1) else (carouselref5_Alike.j0 k true l0_0 l0_1 l1_0 l1_1))
theorem carouselref5_Alike.mono_l : ∀ k, (∀ y0 y1 y2 y3 y4, LeO (carouselref5_Alike.j0 k y0 y1 y2 y3 y4) (carouselref5_Alike.j0 (k + 1) y0 y1 y2 y3 y4)) ∧ (∀ y0 y1 y2 y3 y4, LeO (carouselref5_Alike.l0 k y0 y1 y2 y3 y4) (carouselref5_Alike.l0 (k + 1) y0 y1 y2 y3 y4))
  | 0 => ⟨fun _ _ _ _ _ r h => by simp [carouselref5_Alike.j0] at h, fun _ _ _ _ _ r h => by simp [carouselref5_Alike.l0] at h⟩
  | k + 1 => by
    obtain ⟨ih0, ih1⟩ := carouselref5_Alike.mono_l k
    refine ⟨?_, ?_⟩
    · intro y0 y1 y2 y3 y4
      unfold carouselref5_Alike.j0
      repeat' first
      | (with_reducible exact ih0 _ _ _ _ _)
      | (with_reducible exact ih1 _ _ _ _ _)
      | (with_reducible exact LeO.refl _)
      | (with_reducible exact LeO.none _)
      | (with_reducible refine LeO.ite ?_ ?_)
      | (with_reducible refine LeO.bind ?_ (fun _ => ?_))
      | exact ih0 _ _ _ _ _
      | exact ih1 _ _ _ _ _
      | exact LeO.none _
      | refine LeO.ite ?_ ?_
      | refine LeO.bind ?_ (fun _ => ?_)
    · intro y0 y1 y2 y3 y4
      unfold carouselref5_Alike.l0
      repeat' first
      | (with_reducible exact ih0 _ _ _ _ _)
      | (with_reducible exact ih1 _ _ _ _ _)
      | (with_reducible exact LeO.refl _)
      | (with_reducible exact LeO.none _)
      | (with_reducible refine LeO.ite ?_ ?_)
      | (with_reducible refine LeO.bind ?_ (fun _ => ?_))
      | exact ih0 _ _ _ _ _
      | exact ih1 _ _ _ _ _
      | exact LeO.none _
      | refine LeO.ite ?_ ?_
      | refine LeO.bind ?_ (fun _ => ?_)
theorem carouselref5_Alike.mono : ∀ a0 a1 a2 a3 k, LeO (carouselref5_Alike.f k a0 a1 a2 a3) (carouselref5_Alike.f (k + 1) a0 a1 a2 a3) := by
  intro a0 a1 a2 a3 k
  obtain ⟨ih0, ih1⟩ := carouselref5_Alike.mono_l k
  unfold carouselref5_Alike.f
  repeat' first
      | (with_reducible exact ih0 _ _ _ _ _)
      | (with_reducible exact ih1 _ _ _ _ _)
      | (with_reducible exact carouselref5_Same.mono _ _ _)
      | (with_reducible exact LeO.refl _)
      | (with_reducible exact LeO.none _)
      | (with_reducible refine LeO.ite ?_ ?_)
      | (with_reducible refine LeO.bind ?_ (fun _ => ?_))
      | exact ih0 _ _ _ _ _
      | exact ih1 _ _ _ _ _
      | exact carouselref5_Same.mono _ _ _
      | exact LeO.none _
      | refine LeO.ite ?_ ?_
      | refine LeO.bind ?_ (fun _ => ?_)
set_option maxHeartbeats 8000000 in
set_option maxRecDepth 100000 in
theorem carouselref5_Alike.calls (k : Nat) (A0_0 : Option Addr) (c0_0 : Nat) (l0_0 : List Int) (A0_1 : Option Addr) (c0_1 : Nat) (l0_1 : List Int) (A1_0 : Option Addr) (c1_0 : Nat) (l1_0 : List Int) (A1_1 : Option Addr) (c1_1 : Nat) (l1_1 : List Int) (r : Bool) (w : World) (hr0_0 : Kd.C (Kd.int .i64) w A0_0 l0_0.length l0_0) (hc0_0 : l0_0.length ≤ c0_0) (hr0_1 : Kd.C (Kd.int .i64) w A0_1 l0_1.length l0_1) (hc0_1 : l0_1.length ≤ c0_1) (hr1_0 : Kd.C (Kd.int .i64) w A1_0 l1_0.length l1_0) (hc1_0 : l1_0.length ≤ c1_0) (hr1_1 : Kd.C (Kd.int .i64) w A1_1 l1_1.length l1_1) (hc1_1 : l1_1.length ≤ c1_1) (h : carouselref5_Alike.f k l0_0 l0_1 l1_0 l1_1 = some r) :
    Calls Try.prog 15 #[.agg #[.slice A0_0 l0_0.length c0_0, .slice A0_1 l0_1.length c0_1], .agg #[.slice A1_0 l1_0.length c1_0, .slice A1_1 l1_1.length c1_1]] w fun e w' => e = .returned (.bool r) ∧ Below w.heap.size w w' := by
  have hu25 := Try.underlying25
  have HR0_0 := Aside0.mk hr0_0
  have HC0_0 := Aside0.mk hc0_0
  clear hr0_0 hc0_0
  have HR0_1 := Aside0.mk hr0_1
  have HC0_1 := Aside0.mk hc0_1
  clear hr0_1 hc0_1
  have HR1_0 := Aside0.mk hr1_0
  have HC1_0 := Aside0.mk hc1_0
  clear hr1_0 hc1_0
  have HR1_1 := Aside0.mk hr1_1
  have HC1_1 := Aside0.mk hc1_1
  clear hr1_1 hc1_1
  have HB := Aside0.mk (Below.refl w.heap.size w)
  have H : ((carouselref5_Same.f k l0_0 l1_0).bind fun t210 => (if t210 = true then (carouselref5_Alike.j0 k ((l0_1.length : Int) != (l1_1.length : Int)) l0_0 l0_1 l1_0 l1_1) else (carouselref5_Alike.j0 k true l0_0 l0_1 l1_0 l1_1))) = some r := h
  clear h
  have HC3 := Aside0.mk H
  clear H
  go_enter Try.func15, Try.ntmps15
  go_upto_region 1 with (first | ((with_reducible refine gate_dst (N := 2) rfl ?_); (try (refine gate_guard (by rfl) ?_; dsimp only)); refine box_event ?hg (N := 2) ?hd (cs := #[.slice A0_0 l0_0.length c0_0, .slice A0_1 l0_1.length c0_1]) (t := 25) ?hr ?_; (case hd => rfl); (case hg => rfl); (case hr => first | (go_simp; done) | (go_simp; rfl)); intro gb208 hg w4 hbox hb; have BK208 := Aside0.mk (hbox); have GW208 := Aside0.mk (zs_ hg (zw0_ HB)); have GE208 := Aside0.mk (zs_ hg (zw0_ HB)); replace HB := Aside0.mk (below_step (zw0_ HB) hb); clear hb hbox hg) | ((with_reducible refine gate_dst (N := 3) rfl ?_); (try (refine gate_guard (by rfl) ?_; dsimp only)); refine box_event ?hg (N := 3) ?hd (cs := #[.slice A1_0 l1_0.length c1_0, .slice A1_1 l1_1.length c1_1]) (t := 25) ?hr ?_; (case hd => rfl); (case hg => rfl); (case hr => first | (go_simp; done) | (go_simp; rfl)); intro gb209 hg w5 hbox hb; have BK209 := Aside0.mk (hbox); have GW209 := Aside0.mk (zs_ hg (zw1_ HB GE208)); have GE209 := Aside0.mk (zs_ hg (zw1_ HB GE208)); replace HB := Aside0.mk (below_step (zw1_ HB GE208) hb); have NB208_209 := Aside0.mk (zn_ hg BK208); have NB209_208 := Aside0.mk (zm_ hg BK208); replace BK208 := za_ BK208 hb; clear hb hbox hg))
  repeat (go_quiet (first | ((with_reducible refine gate_dst (N := 2) rfl ?_); (try (refine gate_guard (by rfl) ?_; dsimp only)); refine box_event ?hg (N := 2) ?hd (cs := #[.slice A0_0 l0_0.length c0_0, .slice A0_1 l0_1.length c0_1]) (t := 25) ?hr ?_; (case hd => rfl); (case hg => rfl); (case hr => first | (go_simp; done) | (go_simp; rfl)); intro gb208 hg w4 hbox hb; have BK208 := Aside0.mk (hbox); have GW208 := Aside0.mk (zs_ hg (zw0_ HB)); have GE208 := Aside0.mk (zs_ hg (zw0_ HB)); replace HB := Aside0.mk (below_step (zw0_ HB) hb); clear hb hbox hg) | ((with_reducible refine gate_dst (N := 3) rfl ?_); (try (refine gate_guard (by rfl) ?_; dsimp only)); refine box_event ?hg (N := 3) ?hd (cs := #[.slice A1_0 l1_0.length c1_0, .slice A1_1 l1_1.length c1_1]) (t := 25) ?hr ?_; (case hd => rfl); (case hg => rfl); (case hr => first | (go_simp; done) | (go_simp; rfl)); intro gb209 hg w5 hbox hb; have BK209 := Aside0.mk (hbox); have GW209 := Aside0.mk (zs_ hg (zw1_ HB GE208)); have GE209 := Aside0.mk (zs_ hg (zw1_ HB GE208)); replace HB := Aside0.mk (below_step (zw1_ HB GE208) hb); have NB208_209 := Aside0.mk (zn_ hg BK208); have NB209_208 := Aside0.mk (zm_ hg BK208); replace BK208 := za_ BK208 hb; clear hb hbox hg)); go_upto_region 1 with (first | ((with_reducible refine gate_dst (N := 2) rfl ?_); (try (refine gate_guard (by rfl) ?_; dsimp only)); refine box_event ?hg (N := 2) ?hd (cs := #[.slice A0_0 l0_0.length c0_0, .slice A0_1 l0_1.length c0_1]) (t := 25) ?hr ?_; (case hd => rfl); (case hg => rfl); (case hr => first | (go_simp; done) | (go_simp; rfl)); intro gb208 hg w4 hbox hb; have BK208 := Aside0.mk (hbox); have GW208 := Aside0.mk (zs_ hg (zw0_ HB)); have GE208 := Aside0.mk (zs_ hg (zw0_ HB)); replace HB := Aside0.mk (below_step (zw0_ HB) hb); clear hb hbox hg) | ((with_reducible refine gate_dst (N := 3) rfl ?_); (try (refine gate_guard (by rfl) ?_; dsimp only)); refine box_event ?hg (N := 3) ?hd (cs := #[.slice A1_0 l1_0.length c1_0, .slice A1_1 l1_1.length c1_1]) (t := 25) ?hr ?_; (case hd => rfl); (case hg => rfl); (case hr => first | (go_simp; done) | (go_simp; rfl)); intro gb209 hg w5 hbox hb; have BK209 := Aside0.mk (hbox); have GW209 := Aside0.mk (zs_ hg (zw1_ HB GE208)); have GE209 := Aside0.mk (zs_ hg (zw1_ HB GE208)); replace HB := Aside0.mk (below_step (zw1_ HB GE208) hb); have NB208_209 := Aside0.mk (zn_ hg BK208); have NB209_208 := Aside0.mk (zm_ hg BK208); replace BK208 := za_ BK208 hb; clear hb hbox hg)))
  (try simp only [Act.put, List.setIfInBounds_toArray, List.set_cons_zero, List.set_cons_succ])
  go_cut [20] (fun v20 wc => ∃ (kq : Nat) (x20_2 : Bool), v20 = .bool x20_2 ∧ Aside0 (carouselref5_Alike.j0 kq x20_2 l0_0 l0_1 l1_0 l1_1 = some r) ∧ Aside0 (kq ≤ k) ∧ Aside0 (wc.heap[gb208]? = some (.cells #[(.slice A0_0 l0_0.length c0_0), (.slice A0_1 l0_1.length c0_1)] 25 (0, 0))) ∧ Aside0 (wc.heap[gb209]? = some (.cells #[(.slice A1_0 l1_0.length c1_0), (.slice A1_1 l1_1.length c1_1)] 25 (0, 0))) ∧ Aside0 (Below w.heap.size w wc))
  case first =>
    have H := HC3.out
    clear HC3
    replace H := Option.bind_eq_some_iff.mp H
    obtain ⟨t210, A60, H⟩ := H
    (try dsimp only at H)
    have A6 := Aside0.mk A60
    clear A60
    by_cases c7 : t210 = true
    · subst c7
      have H1 : (carouselref5_Alike.j0 k ((l0_1.length : Int) != (l1_1.length : Int)) l0_0 l0_1 l1_0 l1_1) = some r := by rw [if_pos rfl] at H; exact H
      clear H
      have H := H1
      clear H1
      have H' := Aside0.mk H
      clear H
      have hnb8 := NB208_209.out
      have hnc8 := NB209_208.out
      have hcz9_0 := zx_ (v := .slice A0_0 l0_0.length c0_0) BK208 0
      have hcz9_1 := zx_ (v := .slice A0_1 l0_1.length c0_1) BK208 1
      have hfz9_0 := blk_frozen BK208.out 0
      have hfz9_1 := blk_frozen BK208.out 1
      have hcz10_0 := zx_ (v := .slice A1_0 l1_0.length c1_0) BK209 0
      have hcz10_1 := zx_ (v := .slice A1_1 l1_1.length c1_1) BK209 1
      have hfz10_0 := blk_frozen BK209.out 0
      have hfz10_1 := blk_frozen BK209.out 1
      go_wp2_with (first | (go_at_call 21; (with_reducible refine (carouselref5_Same.calls k _ _ l0_0 _ _ l1_0 true _ ?side1 ?side2 ?side3 ?side4 A6.out).mono ?_); (case side1 => exact zk_ (Kd.C_below HR0_0.out HB.out)); (case side2 => exact HC0_0.out); (case side3 => exact zk_ (Kd.C_below HR1_0.out HB.out)); (case side4 => exact HC1_0.out); rintro e w' ⟨rfl, ⟨nd, rfl⟩⟩; (try first | exact ⟨rfl, _, World.drewN_drewN _ _ _⟩ | exact ⟨rfl, _, Eq.trans (World.drewN_drewN _ _ _) (congrArg (World.drewN _) (Nat.add_assoc _ _ _))⟩)))
      repeat (go_quiet (first | (go_at_call 21; (with_reducible refine (carouselref5_Same.calls k _ _ l0_0 _ _ l1_0 true _ ?side1 ?side2 ?side3 ?side4 A6.out).mono ?_); (case side1 => exact zk_ (Kd.C_below HR0_0.out HB.out)); (case side2 => exact HC0_0.out); (case side3 => exact zk_ (Kd.C_below HR1_0.out HB.out)); (case side4 => exact HC1_0.out); rintro e w' ⟨rfl, ⟨nd, rfl⟩⟩; (try first | exact ⟨rfl, _, World.drewN_drewN _ _ _⟩ | exact ⟨rfl, _, Eq.trans (World.drewN_drewN _ _ _) (congrArg (World.drewN _) (Nat.add_assoc _ _ _))⟩))); try go_wp2_with (first | (go_at_call 21; (with_reducible refine (carouselref5_Same.calls k _ _ l0_0 _ _ l1_0 true _ ?side1 ?side2 ?side3 ?side4 A6.out).mono ?_); (case side1 => exact zk_ (Kd.C_below HR0_0.out HB.out)); (case side2 => exact HC0_0.out); (case side3 => exact zk_ (Kd.C_below HR1_0.out HB.out)); (case side4 => exact HC1_0.out); rintro e w' ⟨rfl, ⟨nd, rfl⟩⟩; (try first | exact ⟨rfl, _, World.drewN_drewN _ _ _⟩ | exact ⟨rfl, _, Eq.trans (World.drewN_drewN _ _ _) (congrArg (World.drewN _) (Nat.add_assoc _ _ _))⟩))))
      go_meet
      case rel => exact ⟨_, (((l0_1.length : Int) != (l1_1.length : Int))), z1_, H', ⟨by first | omega | exact Nat.le_refl _⟩, ⟨zb_ BK208⟩, ⟨zb_ BK209⟩, ⟨zw2_ HB GE208 GE209⟩⟩
    · replace c7 := Bool.eq_false_iff.mpr c7
      subst c7
      have H1 : (carouselref5_Alike.j0 k true l0_0 l0_1 l1_0 l1_1) = some r := by rw [if_neg (show ¬ (false = true) by decide)] at H; exact H
      clear H
      have H := H1
      clear H1
      have H' := Aside0.mk H
      clear H
      have hnb11 := NB208_209.out
      have hnc11 := NB209_208.out
      have hcz12_0 := zx_ (v := .slice A0_0 l0_0.length c0_0) BK208 0
      have hcz12_1 := zx_ (v := .slice A0_1 l0_1.length c0_1) BK208 1
      have hfz12_0 := blk_frozen BK208.out 0
      have hfz12_1 := blk_frozen BK208.out 1
      have hcz13_0 := zx_ (v := .slice A1_0 l1_0.length c1_0) BK209 0
      have hcz13_1 := zx_ (v := .slice A1_1 l1_1.length c1_1) BK209 1
      have hfz13_0 := blk_frozen BK209.out 0
      have hfz13_1 := blk_frozen BK209.out 1
      go_wp2_with (first | (go_at_call 21; (with_reducible refine (carouselref5_Same.calls k _ _ l0_0 _ _ l1_0 false _ ?side1 ?side2 ?side3 ?side4 A6.out).mono ?_); (case side1 => exact zk_ (Kd.C_below HR0_0.out HB.out)); (case side2 => exact HC0_0.out); (case side3 => exact zk_ (Kd.C_below HR1_0.out HB.out)); (case side4 => exact HC1_0.out); rintro e w' ⟨rfl, ⟨nd, rfl⟩⟩; (try first | exact ⟨rfl, _, World.drewN_drewN _ _ _⟩ | exact ⟨rfl, _, Eq.trans (World.drewN_drewN _ _ _) (congrArg (World.drewN _) (Nat.add_assoc _ _ _))⟩)))
      repeat (go_quiet (first | (go_at_call 21; (with_reducible refine (carouselref5_Same.calls k _ _ l0_0 _ _ l1_0 false _ ?side1 ?side2 ?side3 ?side4 A6.out).mono ?_); (case side1 => exact zk_ (Kd.C_below HR0_0.out HB.out)); (case side2 => exact HC0_0.out); (case side3 => exact zk_ (Kd.C_below HR1_0.out HB.out)); (case side4 => exact HC1_0.out); rintro e w' ⟨rfl, ⟨nd, rfl⟩⟩; (try first | exact ⟨rfl, _, World.drewN_drewN _ _ _⟩ | exact ⟨rfl, _, Eq.trans (World.drewN_drewN _ _ _) (congrArg (World.drewN _) (Nat.add_assoc _ _ _))⟩))); try go_wp2_with (first | (go_at_call 21; (with_reducible refine (carouselref5_Same.calls k _ _ l0_0 _ _ l1_0 false _ ?side1 ?side2 ?side3 ?side4 A6.out).mono ?_); (case side1 => exact zk_ (Kd.C_below HR0_0.out HB.out)); (case side2 => exact HC0_0.out); (case side3 => exact zk_ (Kd.C_below HR1_0.out HB.out)); (case side4 => exact HC1_0.out); rintro e w' ⟨rfl, ⟨nd, rfl⟩⟩; (try first | exact ⟨rfl, _, World.drewN_drewN _ _ _⟩ | exact ⟨rfl, _, Eq.trans (World.drewN_drewN _ _ _) (congrArg (World.drewN _) (Nat.add_assoc _ _ _))⟩))))
      go_meet
      case rel => exact ⟨_, (true), z1_, H', ⟨by first | omega | exact Nat.le_refl _⟩, ⟨zb_ BK208⟩, ⟨zb_ BK209⟩, ⟨zw2_ HB GE208 GE209⟩⟩
  case rest =>
    clear HC3
    try clear c1
    try clear p2
    try clear c7
    try clear c8
    try clear c11
    try clear hcz10_0
    try clear hcz10_1
    try clear hcz12_0
    try clear hcz12_1
    try clear hcz13_0
    try clear hcz13_1
    try clear hcz9_0
    try clear hcz9_1
    try clear hfz10_0
    try clear hfz10_1
    try clear hfz12_0
    try clear hfz12_1
    try clear hfz13_0
    try clear hfz13_1
    try clear hfz9_0
    try clear hfz9_1
    obtain ⟨kq, x20_2, rfl, HA, HJ2, BK208, BK209, HB⟩ := hcut
    cases kq with
    | zero => exact absurd HA.out (by simp [carouselref5_Alike.j0])
    | succ kj2 =>
      have H := HA.out
      clear HA
      simp only [carouselref5_Alike.j0] at H
      by_cases c14 : x20_2 = true
      · subst c14
        have H1 : (some false) = some r := by rw [if_pos rfl] at H; exact H
        clear H
        have H := H1
        clear H1
        obtain rfl := Option.some.inj H
        go_wp2
        repeat (go_quiet (fail); try go_wp2)
        go_ret
        exact ⟨z0_, zw2_ HB GE208 GE209⟩
      · replace c14 := Bool.eq_false_iff.mpr c14
        subst c14
        have H1 : (carouselref5_Alike.l0 kj2 0 l0_0 l0_1 l1_0 l1_1) = some r := by rw [if_neg (show ¬ (false = true) by decide)] at H; exact H
        clear H
        have H := H1
        clear H1
        have H' := Aside0.mk H
        clear H
        go_wp2
        repeat (go_quiet (fail); try go_wp2)
        go_loopg [5] kj2 (fun kq v5 w' => ∃ (x5_2 : Int), v5 = .int .i64 x5_2 ∧ Aside0 (carouselref5_Alike.l0 kq x5_2 l0_0 l0_1 l1_0 l1_1 = some r) ∧ Aside0 (kq ≤ kj2) ∧ Aside0 (w'.heap[gb208]? = some (.cells #[(.slice A0_0 l0_0.length c0_0), (.slice A0_1 l0_1.length c0_1)] 25 (0, 0))) ∧ Aside0 (w'.heap[gb209]? = some (.cells #[(.slice A1_0 l1_0.length c1_0), (.slice A1_1 l1_1.length c1_1)] 25 (0, 0))) ∧ Aside0 (Below w.heap.size w w'))
        case atStart => exact ⟨(0), z1_, H', ⟨Nat.le_refl _⟩, ⟨zb_ BK208⟩, ⟨zb_ BK209⟩, ⟨zw2_ HB GE208 GE209⟩⟩
        case round =>
          clear H'
          try clear c1
          try clear p2
          try clear c7
          try clear c8
          try clear c11
          try clear c14
          try clear hcz10_0
          try clear hcz10_1
          try clear hcz12_0
          try clear hcz12_1
          try clear hcz13_0
          try clear hcz13_1
          try clear hcz9_0
          try clear hcz9_1
          try clear hfz10_0
          try clear hfz10_1
          try clear hfz12_0
          try clear hfz12_1
          try clear hfz13_0
          try clear hfz13_1
          try clear hfz9_0
          try clear hfz9_1
          try clear p2
          obtain ⟨x5_2, rfl, HA, HK2, BK208, BK209, HB⟩ := hrel
          cases gk with
          | zero => exact absurd HA.out (by simp [carouselref5_Alike.l0])
          | succ k2 =>
            have H := HA.out
            clear HA
            simp only [carouselref5_Alike.l0] at H
            by_cases c15 : x5_2 < (l0_1.length : Int)
            · rw [if_pos c15] at H
              have c15b0 : decide (x5_2 < (l0_1.length : Int)) = true := decide_eq_true c15
              clear c15
              by_cases c16 : 0 ≤ x5_2
              · rw [if_pos c16] at H
                have c16b0 : decide (0 ≤ x5_2) = true := decide_eq_true c16
                clear c16
                by_cases c17 : x5_2 < (l1_1.length : Int)
                · rw [if_pos c17] at H
                  have c17b0 : decide (x5_2 < (l1_1.length : Int)) = true := decide_eq_true c17
                  clear c17
                  by_cases c18 : (rd l0_1 x5_2) = (rd l1_1 x5_2)
                  · rw [if_pos c18] at H
                    have c18b0 : ((rd l0_1 x5_2) == (rd l1_1 x5_2)) = true := beq_iff_eq.mpr c18
                    have c18b1 : ((rd l0_1 x5_2) != (rd l1_1 x5_2)) = false := bne_eq_false_iff_eq.mpr c18
                    clear c18
                    have H' := Aside0.mk H
                    clear H
                    have hnb19 := NB208_209.out
                    have hnc19 := NB209_208.out
                    have hcz20_0 := zx_ (v := .slice A0_0 l0_0.length c0_0) BK208 0
                    have hcz20_1 := zx_ (v := .slice A0_1 l0_1.length c0_1) BK208 1
                    have hfz20_0 := blk_frozen BK208.out 0
                    have hfz20_1 := blk_frozen BK208.out 1
                    have p211 : 0 ≤ (x5_2 : Int) := of_decide_eq_true (by first | (with_reducible assumption) | assumption)
                    have q211 : x5_2 < (l0_1.length : Int) := of_decide_eq_true (by first | (with_reducible assumption) | assumption)
                    obtain ⟨ad211, e211, hx211_0⟩ := Kd.at_int HR0_1.out x5_2 p211 q211
                    cases e211
                    replace hx211_0 := (HB.out.cell (World.block_lt_of_cell? w _ hx211_0)).trans hx211_0
                    replace p211 := eq_true p211
                    replace q211 := eq_true q211
                    have hcz21_0 := zx_ (v := .slice A1_0 l1_0.length c1_0) BK209 0
                    have hcz21_1 := zx_ (v := .slice A1_1 l1_1.length c1_1) BK209 1
                    have hfz21_0 := blk_frozen BK209.out 0
                    have hfz21_1 := blk_frozen BK209.out 1
                    have p212 : 0 ≤ (x5_2 : Int) := of_decide_eq_true (by first | (with_reducible assumption) | assumption)
                    have q212 : x5_2 < (l1_1.length : Int) := of_decide_eq_true (by first | (with_reducible assumption) | assumption)
                    obtain ⟨ad212, e212, hx212_0⟩ := Kd.at_int HR1_1.out x5_2 p212 q212
                    cases e212
                    replace hx212_0 := (HB.out.cell (World.block_lt_of_cell? w _ hx212_0)).trans hx212_0
                    replace p212 := eq_true p212
                    replace q212 := eq_true q212
                    go_wp2
                    repeat (go_quiet (fail); try go_wp2)
                    go_roundg k2
                    case measure => have := HJ2.out; have := HK2.out; omega
                    case rel => exact ⟨(wrap64 (x5_2 + 1)), z1_, H', ⟨by have := HJ2.out; have := HK2.out; omega⟩, ⟨zb_ BK208⟩, ⟨zb_ BK209⟩, ⟨zw2_ HB GE208 GE209⟩⟩
                  · rw [if_neg c18] at H
                    have c18b0 : ((rd l0_1 x5_2) == (rd l1_1 x5_2)) = false := beq_eq_false_iff_ne.mpr c18
                    have c18b1 : ((rd l0_1 x5_2) != (rd l1_1 x5_2)) = true := bne_iff_ne.mpr c18
                    obtain rfl := Option.some.inj H
                    have hnb22 := NB208_209.out
                    have hnc22 := NB209_208.out
                    have hcz23_0 := zx_ (v := .slice A0_0 l0_0.length c0_0) BK208 0
                    have hcz23_1 := zx_ (v := .slice A0_1 l0_1.length c0_1) BK208 1
                    have hfz23_0 := blk_frozen BK208.out 0
                    have hfz23_1 := blk_frozen BK208.out 1
                    have p211 : 0 ≤ (x5_2 : Int) := of_decide_eq_true (by first | (with_reducible assumption) | assumption)
                    have q211 : x5_2 < (l0_1.length : Int) := of_decide_eq_true (by first | (with_reducible assumption) | assumption)
                    obtain ⟨ad211, e211, hx211_0⟩ := Kd.at_int HR0_1.out x5_2 p211 q211
                    cases e211
                    replace hx211_0 := (HB.out.cell (World.block_lt_of_cell? w _ hx211_0)).trans hx211_0
                    replace p211 := eq_true p211
                    replace q211 := eq_true q211
                    have hcz24_0 := zx_ (v := .slice A1_0 l1_0.length c1_0) BK209 0
                    have hcz24_1 := zx_ (v := .slice A1_1 l1_1.length c1_1) BK209 1
                    have hfz24_0 := blk_frozen BK209.out 0
                    have hfz24_1 := blk_frozen BK209.out 1
                    have p212 : 0 ≤ (x5_2 : Int) := of_decide_eq_true (by first | (with_reducible assumption) | assumption)
                    have q212 : x5_2 < (l1_1.length : Int) := of_decide_eq_true (by first | (with_reducible assumption) | assumption)
                    obtain ⟨ad212, e212, hx212_0⟩ := Kd.at_int HR1_1.out x5_2 p212 q212
                    cases e212
                    replace hx212_0 := (HB.out.cell (World.block_lt_of_cell? w _ hx212_0)).trans hx212_0
                    replace p212 := eq_true p212
                    replace q212 := eq_true q212
                    go_wp2
                    repeat (go_quiet (fail); try go_wp2)
                    go_ret
                    exact ⟨z0_, zw2_ HB GE208 GE209⟩
                · rw [if_neg c17] at H
                  exact absurd H (by simp)
              · rw [if_neg c16] at H
                exact absurd H (by simp)
            · rw [if_neg c15] at H
              have c15b0 : decide (x5_2 < (l0_1.length : Int)) = false := decide_eq_false c15
              clear c15
              obtain rfl := Option.some.inj H
              have hnb25 := NB208_209.out
              have hnc25 := NB209_208.out
              have hcz26_0 := zx_ (v := .slice A0_0 l0_0.length c0_0) BK208 0
              have hcz26_1 := zx_ (v := .slice A0_1 l0_1.length c0_1) BK208 1
              have hfz26_0 := blk_frozen BK208.out 0
              have hfz26_1 := blk_frozen BK208.out 1
              go_wp2
              repeat (go_quiet (fail); try go_wp2)
              go_ret
              exact ⟨z0_, zw2_ HB GE208 GE209⟩

/-! ### carousellaw8_windows: function 16 -/
def carousellaw8_windows.f (a0 : Int) (a1 : Int) (l2 : List Int) : Option (List Int) := if a0 = 0 then (none) else (if a1 = 0 then (none) else (some (([a0, a1, wrap64 (Int.tdiv (wrap64 ((l2.length : Int) / a0)) a1)] : List Int))))
set_option maxHeartbeats 8000000 in
set_option maxRecDepth 100000 in
theorem carousellaw8_windows.calls (a0 : Int) (a1 : Int) (A2 : Option Addr) (c2 : Nat) (l2 : List Int) (r : List Int) (w : World) (hr2 : Kd.C (Kd.int .i64) w A2 l2.length l2) (hc2 : l2.length ≤ c2) (h : carousellaw8_windows.f a0 a1 l2 = some r) :
  Calls Try.prog 16 #[.int .i64 a0, .int .i64 a1, .slice A2 l2.length c2] w fun e w' => ∃ v0_ : Value, e = .returned (.agg #[v0_, .slice A2 l2.length c2]) ∧ Kd.R (Kd.int .i64) 3 w' w.heap.size (fun _ => True) v0_ r ∧ Below w.heap.size w w' := by
 have hu25 := Try.underlying25
 have HB := Aside0.mk (Below.refl w.heap.size w)
 have H : (if a0 = 0 then (none) else (if a1 = 0 then (none) else (some ((([a0, a1, wrap64 (Int.tdiv (wrap64 ((l2.length : Int) / a0)) a1)] : List Int)))))) = some r := h
 clear h
 by_cases c4 : a0 = 0
 ·rw [if_pos c4] at H
  exact absurd H (by simp)
 rw [if_neg c4] at H
 have c4b0 : (a0 == 0) = false := beq_eq_false_iff_ne.mpr c4
 have c4b1 : (a0 != 0) = true := bne_iff_ne.mpr c4
 by_cases c5 : a1 = 0
 ·rw [if_pos c5] at H
  exact absurd H (by simp)
 rw [if_neg c5] at H
 have c5b0 : (a1 == 0) = false := beq_eq_false_iff_ne.mpr c5
 have c5b1 : (a1 != 0) = true := bne_iff_ne.mpr c5
 obtain ⟨y214, hy214⟩ : ∃ y_ : List Int, y_ = (([a0, a1, wrap64 (Int.tdiv (wrap64 ((l2.length : Int) / a0)) a1)] : List Int)) := ⟨_, rfl⟩
 replace H : (some (y214)) = some r := by first | (rw [hy214]; with_reducible exact H) | (have H2_ := (Option.bind_some _ _).symm.trans H; rw [hy214]; with_reducible exact H2_) | (have H2_ := (Option.bind_some _ _).symm.trans H; with_reducible exact H2_) | with_reducible exact H | (rw [hy214]; exact H) | exact H
 have Ny214 := Aside0.mk hy214
 clear hy214
 obtain rfl := Option.some.inj H
 go_enter Try.func16, Try.ntmps16
 go_wp2_with (first | ((with_reducible refine gate_dst (N := 6) rfl ?_); refine box_event ?hg (N := 6) ?hd (cs := #[.slice none 0 0, .slice none 0 0]) (t := 25) ?hr ?_; (case hd => rfl); (case hg => rfl); (case hr => first | (go_simp; done) | (go_simp; rfl)); intro gb213 hg w6 hbox hb; have BK213 := Aside0.mk (hbox); have GW213 := Aside0.mk (zs_ hg (zw0_ HB)); have GE213 := Aside0.mk (zs_ hg (zw0_ HB)); replace HB := Aside0.mk (below_step (zw0_ HB) hb); clear hb hbox hg) | ((with_reducible refine gate_dst (N := 15) rfl ?_); refine Kd.R_lit (Kd.int .i64) _ 3 ?hg (N := 15) ?hd (xs := ([a0, a1, wrap64 (Int.tdiv (wrap64 ((l2.length : Int) / a0)) a1)] : List Int)) (inner := [.int .i64 a0, .int .i64 a1, .int .i64 (wrap64 (Int.tdiv (wrap64 ((l2.length : Int) / a0)) a1))]) (ok := fun _ => True) (okp := fun _ => True) ?hr ?hp (fun _ hk => hk) trivial (Below.refl _ _) (Nat.le_refl _) (by simp) ?_; (case hd => rfl); (case hg => rfl); (case hr => first | (go_simp; done) | (go_simp; rfl)); (case hp => exact (Reps.one (show Kd.M (Kd.int .i64) _ _ _ a0 [.int .i64 a0] from rfl) (Reps.one (show Kd.M (Kd.int .i64) _ _ _ a1 [.int .i64 a1] from rfl) (Reps.one (show Kd.M (Kd.int .i64) _ _ _ (wrap64 (Int.tdiv (wrap64 ((l2.length : Int) / a0)) a1)) [.int .i64 (wrap64 (Int.tdiv (wrap64 ((l2.length : Int) / a0)) a1))] from rfl) (Reps.none _ _))))); intro v215 w7 ho8 hb hg_ hnew_; clear hg_ hnew_; (first | rw [← Ny214.out] at ho8 | (simp only [Int.reduceToNat] at ho8; rw [← Ny214.out] at ho8)); have HO216 := Aside0.mk (Kd.R_lower ho8 (below_size (zw1_ HB GE213))); replace BK213 := za_ BK213 hb; replace HB := Aside0.mk (below_step (zw1_ HB GE213) hb); clear hb ho8; obtain ⟨Ao9, co9, eo9⟩ := Kd.R_slice HO216.out; subst eo9; have hcz10_0 := zx_ (v := .slice none 0 0) BK213 0; have hcz10_1 := zx_ (v := .slice none 0 0) BK213 1; have hfz10_0 := blk_frozen BK213.out 0; have hfz10_1 := blk_frozen BK213.out 1))
 refine bodyPost_ret (results_cell_row rfl _ _ gb213 25 #[.slice Ao9 y214.length co9, .slice A2 l2.length c2] (0, 0) _ rfl (zo2_ BK213) Try.underlying25 rfl (by kernel_rfl)) rfl ?_
 exact ⟨_, z0_, zr_ (Kd.R_mono (Kd.R_far (p := ⟨gb213, 1, none⟩) (Kd.R_far (p := ⟨gb213, 0, none⟩) (Kd.R_types HO216.out BK213.out (by decide)) (fun _ hk => hk.2) (.slice Ao9 y214.length co9)) (fun _ hk => hk.2) (.slice A2 l2.length c2)) (fun _ hk => trivial)), zw1_ HB GE213⟩

/-! ### carousellaw8_rows: function 17 -/
def carousellaw8_rows.f (a0 : Int) (l1 : List Int) : Option (List Int) := if a0 = 0 then (none) else (some (([a0, wrap64 ((l1.length : Int) / a0)] : List Int)))
set_option maxHeartbeats 8000000 in
set_option maxRecDepth 100000 in
theorem carousellaw8_rows.calls (a0 : Int) (A1 : Option Addr) (c1 : Nat) (l1 : List Int) (r : List Int) (w : World) (hr1 : Kd.C (Kd.int .i64) w A1 l1.length l1) (hc1 : l1.length ≤ c1) (h : carousellaw8_rows.f a0 l1 = some r) :
  Calls Try.prog 17 #[.int .i64 a0, .slice A1 l1.length c1] w fun e w' => ∃ v0_ : Value, e = .returned (.agg #[v0_, .slice A1 l1.length c1]) ∧ Kd.R (Kd.int .i64) 3 w' w.heap.size (fun _ => True) v0_ r ∧ Below w.heap.size w w' := by
 have hu25 := Try.underlying25
 have HB := Aside0.mk (Below.refl w.heap.size w)
 have H : (if a0 = 0 then (none) else (some ((([a0, wrap64 ((l1.length : Int) / a0)] : List Int))))) = some r := h
 clear h
 by_cases c3 : a0 = 0
 ·rw [if_pos c3] at H
  exact absurd H (by simp)
 rw [if_neg c3] at H
 have c3b0 : (a0 == 0) = false := beq_eq_false_iff_ne.mpr c3
 have c3b1 : (a0 != 0) = true := bne_iff_ne.mpr c3
 obtain ⟨y218, hy218⟩ : ∃ y_ : List Int, y_ = (([a0, wrap64 ((l1.length : Int) / a0)] : List Int)) := ⟨_, rfl⟩
 replace H : (some (y218)) = some r := by first | (rw [hy218]; with_reducible exact H) | (have H2_ := (Option.bind_some _ _).symm.trans H; rw [hy218]; with_reducible exact H2_) | (have H2_ := (Option.bind_some _ _).symm.trans H; with_reducible exact H2_) | with_reducible exact H | (rw [hy218]; exact H) | exact H
 have Ny218 := Aside0.mk hy218
 clear hy218
 obtain rfl := Option.some.inj H
 go_enter Try.func17, Try.ntmps17
 go_wp2_with (first | ((with_reducible refine gate_dst (N := 4) rfl ?_); refine box_event ?hg (N := 4) ?hd (cs := #[.slice none 0 0, .slice none 0 0]) (t := 25) ?hr ?_; (case hd => rfl); (case hg => rfl); (case hr => first | (go_simp; done) | (go_simp; rfl)); intro gb217 hg w4 hbox hb; have BK217 := Aside0.mk (hbox); have GW217 := Aside0.mk (zs_ hg (zw0_ HB)); have GE217 := Aside0.mk (zs_ hg (zw0_ HB)); replace HB := Aside0.mk (below_step (zw0_ HB) hb); clear hb hbox hg) | ((with_reducible refine gate_dst (N := 10) rfl ?_); refine Kd.R_lit (Kd.int .i64) _ 3 ?hg (N := 10) ?hd (xs := ([a0, wrap64 ((l1.length : Int) / a0)] : List Int)) (inner := [.int .i64 a0, .int .i64 (wrap64 ((l1.length : Int) / a0))]) (ok := fun _ => True) (okp := fun _ => True) ?hr ?hp (fun _ hk => hk) trivial (Below.refl _ _) (Nat.le_refl _) (by simp) ?_; (case hd => rfl); (case hg => rfl); (case hr => first | (go_simp; done) | (go_simp; rfl)); (case hp => exact (Reps.one (show Kd.M (Kd.int .i64) _ _ _ a0 [.int .i64 a0] from rfl) (Reps.one (show Kd.M (Kd.int .i64) _ _ _ (wrap64 ((l1.length : Int) / a0)) [.int .i64 (wrap64 ((l1.length : Int) / a0))] from rfl) (Reps.none _ _)))); intro v219 w5 ho6 hb hg_ hnew_; clear hg_ hnew_; (first | rw [← Ny218.out] at ho6 | (simp only [Int.reduceToNat] at ho6; rw [← Ny218.out] at ho6)); have HO220 := Aside0.mk (Kd.R_lower ho6 (below_size (zw1_ HB GE217))); replace BK217 := za_ BK217 hb; replace HB := Aside0.mk (below_step (zw1_ HB GE217) hb); clear hb ho6; obtain ⟨Ao7, co7, eo7⟩ := Kd.R_slice HO220.out; subst eo7; have hcz8_0 := zx_ (v := .slice none 0 0) BK217 0; have hcz8_1 := zx_ (v := .slice none 0 0) BK217 1; have hfz8_0 := blk_frozen BK217.out 0; have hfz8_1 := blk_frozen BK217.out 1))
 refine bodyPost_ret (results_cell_row rfl _ _ gb217 25 #[.slice Ao7 y218.length co7, .slice A1 l1.length c1] (0, 0) _ rfl (zo2_ BK217) Try.underlying25 rfl (by kernel_rfl)) rfl ?_
 exact ⟨_, z0_, zr_ (Kd.R_mono (Kd.R_far (p := ⟨gb217, 1, none⟩) (Kd.R_far (p := ⟨gb217, 0, none⟩) (Kd.R_types HO220.out BK217.out (by decide)) (fun _ hk => hk.2) (.slice Ao7 y218.length co7)) (fun _ hk => hk.2) (.slice A1 l1.length c1)) (fun _ hk => trivial)), zw1_ HB GE217⟩

/-! ### carousellaw8_awake: function 11 -/
def carousellaw8_awake.f (k : Nat)  : Option (Bool) := (some (([1, 2, 3] : List Int) : List Int)).bind fun y213 => ((carousellaw8_rows.f 1 y213).bind fun t216 => ((some (([4294967296, 4294967296] : List Int) : List Int)).bind fun y219 => ((carousellaw8_windows.f 1 1 y219).bind fun t222 => ((conv_Row.f k t216 y213 t222 y219 1).bind fun bt225 => (if bt225.2.2 = 0 then ((some (([3, 5] : List Int) : List Int)).bind fun y233 => ((carousellaw8_rows.f 1 y233).bind fun t236 => ((carouselref5_Alike.f k bt225.1 bt225.2.1 t236 y233).bind fun t239 => (some t239)))) else (none))))))
theorem carousellaw8_awake.mono : ∀ k, LeO (carousellaw8_awake.f k ) (carousellaw8_awake.f (k + 1) ) := by
  intro  k
  unfold carousellaw8_awake.f
  repeat' first
      | (with_reducible exact carouselref5_Alike.mono _ _ _ _ _)
      | (with_reducible exact conv_Row.mono _ _ _ _ _ _)
      | (with_reducible exact LeO.refl _)
      | (with_reducible exact LeO.none _)
      | (with_reducible refine LeO.ite ?_ ?_)
      | (with_reducible refine LeO.bind ?_ (fun _ => ?_))
      | exact carouselref5_Alike.mono _ _ _ _ _
      | exact conv_Row.mono _ _ _ _ _ _
      | exact LeO.none _
      | refine LeO.ite ?_ ?_
      | refine LeO.bind ?_ (fun _ => ?_)
def carousellaw8_awake.T2 : Bool × List (List Nat × List Nat) := (true, [([], []), ([0], [0]), ([1], [1]), ([2], [2]), ([2], [2]), ([4, 2, 2], [2, 4]), ([3, 5, 5, 2], [2, 3, 5]), ([2, 6], [2, 6]), ([7, 6, 0, 1, 2, 3, 4, 5, 6, 7], [7])])
def carousellaw8_awake.B2 : List Nat := [0, 1, 3, 7, 7, 23, 63, 127, 255]
theorem carousellaw8_awake.tab2 : rtab .any (opsOf Try.f11 2) = carousellaw8_awake.T2 := by kernel_rfl
theorem carousellaw8_awake.bits2 : waitsOk carousellaw8_awake.T2.2 carousellaw8_awake.B2 = true := by kernel_rfl
set_option maxHeartbeats 8000000 in
set_option maxRecDepth 100000 in
theorem carousellaw8_awake.calls (k : Nat)  (r : Bool) (w : World) (h : carousellaw8_awake.f k  = some r) :
    Calls Try.prog 11 #[] w fun e w' => e = .returned (.bool r) ∧ Below w.heap.size w w' := by
  have hu25 := Try.underlying25
  have HB := Aside0.mk (Below.refl w.heap.size w)
  have H : ((some (([1, 2, 3] : List Int) : List Int)).bind fun y213 => ((carousellaw8_rows.f 1 y213).bind fun t216 => ((some (([4294967296, 4294967296] : List Int) : List Int)).bind fun y219 => ((carousellaw8_windows.f 1 1 y219).bind fun t222 => ((conv_Row.f k t216 y213 t222 y219 1).bind fun bt225 => (if bt225.2.2 = 0 then ((some (([3, 5] : List Int) : List Int)).bind fun y233 => ((carousellaw8_rows.f 1 y233).bind fun t236 => ((carouselref5_Alike.f k bt225.1 bt225.2.1 t236 y233).bind fun t239 => (some t239)))) else (none))))))) = some r := h
  clear h
  obtain ⟨y213, hy213⟩ : ∃ y_ : List Int, y_ = (([1, 2, 3] : List Int)) := ⟨_, rfl⟩
  replace H : ((carousellaw8_rows.f 1 y213).bind fun t216 => ((some (([4294967296, 4294967296] : List Int) : List Int)).bind fun y219 => ((carousellaw8_windows.f 1 1 y219).bind fun t222 => ((conv_Row.f k t216 y213 t222 y219 1).bind fun bt225 => (if bt225.2.2 = 0 then ((some (([3, 5] : List Int) : List Int)).bind fun y233 => ((carousellaw8_rows.f 1 y233).bind fun t236 => ((carouselref5_Alike.f k bt225.1 bt225.2.1 t236 y233).bind fun t239 => (some t239)))) else (none)))))) = some r := by first | (rw [hy213]; with_reducible exact H) | (have H2_ := (Option.bind_some _ _).symm.trans H; rw [hy213]; with_reducible exact H2_) | (have H2_ := (Option.bind_some _ _).symm.trans H; with_reducible exact H2_) | with_reducible exact H | (rw [hy213]; exact H) | exact H
  have Ny213 := Aside0.mk hy213
  clear hy213
  replace H := Option.bind_eq_some_iff.mp H
  obtain ⟨t216, A10, H⟩ := H
  (try dsimp only at H)
  have A1 := Aside0.mk A10
  clear A10
  obtain ⟨y219, hy219⟩ : ∃ y_ : List Int, y_ = (([4294967296, 4294967296] : List Int)) := ⟨_, rfl⟩
  replace H : ((carousellaw8_windows.f 1 1 y219).bind fun t222 => ((conv_Row.f k t216 y213 t222 y219 1).bind fun bt225 => (if bt225.2.2 = 0 then ((some (([3, 5] : List Int) : List Int)).bind fun y233 => ((carousellaw8_rows.f 1 y233).bind fun t236 => ((carouselref5_Alike.f k bt225.1 bt225.2.1 t236 y233).bind fun t239 => (some t239)))) else (none)))) = some r := by first | (rw [hy219]; with_reducible exact H) | (have H2_ := (Option.bind_some _ _).symm.trans H; rw [hy219]; with_reducible exact H2_) | (have H2_ := (Option.bind_some _ _).symm.trans H; with_reducible exact H2_) | with_reducible exact H | (rw [hy219]; exact H) | exact H
  have Ny219 := Aside0.mk hy219
  clear hy219
  replace H := Option.bind_eq_some_iff.mp H
  obtain ⟨t222, A20, H⟩ := H
  (try dsimp only at H)
  have A2 := Aside0.mk A20
  clear A20
  replace H := Option.bind_eq_some_iff.mp H
  obtain ⟨⟨t225, t228, t231⟩, A30, H⟩ := H
  (try dsimp only at H)
  have A3 := Aside0.mk A30
  clear A30
  by_cases c4 : t231 = 0
  · rw [if_pos c4] at H
    have c4b0 : (t231 == 0) = true := beq_iff_eq.mpr c4
    have c4b1 : (t231 != 0) = false := bne_eq_false_iff_eq.mpr c4
    clear c4
    obtain ⟨y233, hy233⟩ : ∃ y_ : List Int, y_ = (([3, 5] : List Int)) := ⟨_, rfl⟩
    replace H : ((carousellaw8_rows.f 1 y233).bind fun t236 => ((carouselref5_Alike.f k t225 t228 t236 y233).bind fun t239 => (some t239))) = some r := by first | (rw [hy233]; with_reducible exact H) | (have H2_ := (Option.bind_some _ _).symm.trans H; rw [hy233]; with_reducible exact H2_) | (have H2_ := (Option.bind_some _ _).symm.trans H; with_reducible exact H2_) | with_reducible exact H | (rw [hy233]; exact H) | exact H
    have Ny233 := Aside0.mk hy233
    clear hy233
    replace H := Option.bind_eq_some_iff.mp H
    obtain ⟨t236, A50, H⟩ := H
    replace H : ((carouselref5_Alike.f k t225 t228 t236 y233).bind fun t239 => (some t239)) = some r := H
    have A5 := Aside0.mk A50
    clear A50
    replace H := Option.bind_eq_some_iff.mp H
    obtain ⟨t239, A60, H⟩ := H
    replace H : (some t239) = some r := H
    have A6 := Aside0.mk A60
    clear A60
    obtain rfl := Option.some.inj H
    go_enter Try.func11, Try.ntmps11
    try go_wp2_with (first | ((with_reducible refine gate_dst (N := 4) rfl ?_); (try (refine gate_guard (by rfl) ?_; dsimp only)); refine Kd.R_lit (Kd.int .i64) _ 33 ?hg (N := 4) ?hd (xs := ([1, 2, 3] : List Int)) (inner := [.int .i64 1, .int .i64 2, .int .i64 3]) (ok := fun _ => True) (okp := fun _ => True) ?hr ?hp (fun _ hk => hk) trivial (Below.refl _ _) (Nat.le_refl _) (by simp) ?_; (case hd => rfl); (case hg => rfl); (case hr => first | (go_simp; done) | (go_simp; rfl)); (case hp => exact (Reps.one (show Kd.M (Kd.int .i64) _ _ _ 1 [.int .i64 1] from rfl) (Reps.one (show Kd.M (Kd.int .i64) _ _ _ 2 [.int .i64 2] from rfl) (Reps.one (show Kd.M (Kd.int .i64) _ _ _ 3 [.int .i64 3] from rfl) (Reps.none _ _))))); intro v214 w7 ho8 hb hg_ hnew_; clear hg_ hnew_; (first | rw [← Ny213.out] at ho8 | (simp only [Int.reduceToNat] at ho8; rw [← Ny213.out] at ho8)); have HO215 := Aside0.mk (Kd.R_lower ho8 (below_size (zw0_ HB))); replace HB := Aside0.mk (below_step (zw0_ HB) hb); clear hb ho8; obtain ⟨Ao9, co9, eo9⟩ := Kd.R_slice HO215.out; subst eo9) | ((with_reducible refine gate_callee (f := 17) rfl ?_); refine zg_ (some 5) Try.func17 #[.int .i64 1, .slice Ao9 y213.length co9] (h := ?_); (with_reducible refine (carousellaw8_rows.calls 1 _ _ y213 t216 _ ?side1 ?side2 A1.out).mono ?_); (case side1 => exact zk_ ((Kd.R_reads' HO215.out).2.2)); (case side2 => exact (Kd.R_reads' HO215.out).2.1); rintro e w10 ⟨v217, rfl, ho0, hb⟩; refine ⟨_, rfl, ?_⟩; replace HO215 := zy_ HO215 hb; have HO218 := Aside0.mk (Kd.R_lower ho0 (below_size (zw0_ HB))); replace HB := Aside0.mk (below_step (zw0_ HB) hb); (try clear hb); (try clear ho0)) | ((with_reducible refine gate_dst (N := 6) rfl ?_); (try (refine gate_guard (by rfl) ?_; dsimp only)); refine Kd.R_lit (Kd.int .i64) _ 33 ?hg (N := 6) ?hd (xs := ([4294967296, 4294967296] : List Int)) (inner := [.int .i64 4294967296, .int .i64 4294967296]) (ok := fun _ => True) (okp := fun _ => True) ?hr ?hp (fun _ hk => hk) trivial (Below.refl _ _) (Nat.le_refl _) (by simp) ?_; (case hd => rfl); (case hg => rfl); (case hr => first | (go_simp; done) | (go_simp; rfl)); (case hp => exact (Reps.one (show Kd.M (Kd.int .i64) _ _ _ 4294967296 [.int .i64 4294967296] from rfl) (Reps.one (show Kd.M (Kd.int .i64) _ _ _ 4294967296 [.int .i64 4294967296] from rfl) (Reps.none _ _)))); intro v220 w11 ho12 hb hg_ hnew_; clear hg_ hnew_; (first | rw [← Ny219.out] at ho12 | (simp only [Int.reduceToNat] at ho12; rw [← Ny219.out] at ho12)); replace HO218 := zy_ HO218 hb; have HO221 := Aside0.mk (Kd.R_lower (Kd.R_new' ho12 (Kd.R_lt (zr_ HO215.out))) (below_size (zw0_ HB))); replace HO215 := ze_ HO215 ho12 hb; replace HB := Aside0.mk (below_step (zw0_ HB) hb); clear hb ho12; obtain ⟨Ao13, co13, eo13⟩ := Kd.R_slice HO221.out; subst eo13) | ((with_reducible refine gate_callee (f := 16) rfl ?_); refine zg_ (some 7) Try.func16 #[.int .i64 1, .int .i64 1, .slice Ao13 y219.length co13] (h := ?_); (with_reducible refine (carousellaw8_windows.calls 1 1 _ _ y219 t222 _ ?side1 ?side2 A2.out).mono ?_); (case side1 => exact zk_ ((Kd.R_reads' HO221.out).2.2)); (case side2 => exact (Kd.R_reads' HO221.out).2.1); rintro e w14 ⟨v223, rfl, ho0, hb⟩; refine ⟨_, rfl, ?_⟩; replace HO215 := zy_ HO215 hb; replace HO221 := zy_ HO221 hb; have HO224 := Aside0.mk (Kd.R_lower (Kd.R_new' ho0 (Kd.R_lt (zr_ HO218.out))) (below_size (zw0_ HB))); replace HO218 := ze_ HO218 ho0 hb; replace HB := Aside0.mk (below_step (zw0_ HB) hb); (try clear hb); (try clear ho0); obtain ⟨Ao15, co15, eo15⟩ := Kd.R_slice HO218.out; subst eo15; obtain ⟨Ao16, co16, eo16⟩ := Kd.R_slice HO224.out; subst eo16) | ((with_reducible refine gate_callee (f := 13) rfl ?_); refine zg_ (some 8) Try.func13 #[.agg #[.slice Ao15 t216.length co15, .slice Ao9 y213.length co9], .agg #[.slice Ao16 t222.length co16, .slice Ao13 y219.length co13], .int .i64 1] (h := ?_); (with_reducible refine (conv_Row.calls k _ _ t216 _ _ y213 _ _ t222 _ _ y219 1 t225 t228 t231 _ ?side1 ?side2 ?side3 ?side4 ?side5 ?side6 ?side7 ?side8 A3.out).mono ?_); (case side1 => exact zk_ ((Kd.R_reads' HO218.out).2.2)); (case side2 => exact (Kd.R_reads' HO218.out).2.1); (case side3 => exact zk_ ((Kd.R_reads' HO215.out).2.2)); (case side4 => exact (Kd.R_reads' HO215.out).2.1); (case side5 => exact zk_ ((Kd.R_reads' HO224.out).2.2)); (case side6 => exact (Kd.R_reads' HO224.out).2.1); (case side7 => exact zk_ ((Kd.R_reads' HO221.out).2.2)); (case side8 => exact (Kd.R_reads' HO221.out).2.1); rintro e w17 ⟨v226, v229, rfl, ho0, ho1, hb⟩; refine ⟨_, rfl, ?_⟩; have HO227 := Aside0.mk (Kd.R_lower (Kd.R_new' (Kd.R_new' ho0 (Kd.R_lt (zr_ HO218.out))) (Kd.R_lt (zr_ HO224.out))) (below_size (zw0_ HB))); replace HO218 := ze_ HO218 ho0 hb; replace HO224 := ze_ HO224 ho0 hb; have HO230 := Aside0.mk (Kd.R_lower (Kd.R_new' (Kd.R_new' ho1 (Kd.R_lt (zr_ HO215.out))) (Kd.R_lt (zr_ HO221.out))) (below_size (zw0_ HB))); replace HO215 := ze_ HO215 ho1 hb; replace HO221 := ze_ HO221 ho1 hb; replace HB := Aside0.mk (below_step (zw0_ HB) hb); (try clear hb); (try clear ho0); (try clear ho1)) | ((with_reducible refine gate_dst (N := 1) rfl ?_); (try (refine gate_guard (by rfl) ?_; dsimp only)); refine box_event ?hg (N := 1) ?hd (cs := #[.slice none 0 0, .slice none 0 0]) (t := 25) ?hr ?_; (case hd => rfl); (case hg => rfl); (case hr => first | (go_simp; done) | (go_simp; rfl)); intro gb232 hg w18 hbox hb; replace HO215 := zy_ HO215 hb; replace HO218 := zy_ HO218 hb; replace HO221 := zy_ HO221 hb; replace HO224 := zy_ HO224 hb; replace HO227 := zy_ HO227 hb; replace HO230 := zy_ HO230 hb; have BK232 := Aside0.mk (hbox); have GW232 := Aside0.mk (zs_ hg (zw0_ HB)); have GE232 := Aside0.mk (zs_ hg (zw0_ HB)); replace HB := Aside0.mk (below_step (zw0_ HB) hb); clear hb hbox hg; obtain ⟨Ao19, co19, eo19⟩ := Kd.R_slice HO227.out; subst eo19; have hcz20_0 := zx_ (v := .slice none 0 0) BK232 0; have hcz20_1 := zx_ (v := .slice none 0 0) BK232 1; have hfz20_0 := blk_frozen BK232.out 0; have hfz20_1 := blk_frozen BK232.out 1; obtain ⟨Ao21, co21, eo21⟩ := Kd.R_slice HO230.out; subst eo21))
    have n0_ : Aside0 (Kd.R (Kd.int .i64) 33 ((w18.setCell ⟨gb232, 0, none⟩ (.slice Ao19 t225.length co19)).setCell ⟨gb232, 1, none⟩ (.slice Ao21 t228.length co21)) w.heap.size (fun k_ => some k_ ≠ (.slice Ao13 y219.length co13 : Value).ownBlock ∧ some k_ ≠ (.slice Ao21 t228.length co21 : Value).ownBlock) (.slice Ao9 y213.length co9) y213) := ⟨zr_ (Kd.R_mono (Kd.R_far (p := ⟨gb232, 1, none⟩) (Kd.R_far (p := ⟨gb232, 0, none⟩) (Kd.R_types HO215.out BK232.out (by decide)) (fun _ hk => hk.2) (.slice Ao19 t225.length co19)) (fun _ hk => hk.2) (.slice Ao21 t228.length co21)) (fun _ hk => ⟨hk.1.1.2, hk.1.2⟩))⟩
    have n1_ : Aside0 (Kd.R (Kd.int .i64) 3 ((w18.setCell ⟨gb232, 0, none⟩ (.slice Ao19 t225.length co19)).setCell ⟨gb232, 1, none⟩ (.slice Ao21 t228.length co21)) w.heap.size (fun k_ => some k_ ≠ (.slice Ao16 t222.length co16 : Value).ownBlock ∧ some k_ ≠ (.slice Ao19 t225.length co19 : Value).ownBlock) (.slice Ao15 t216.length co15) t216) := ⟨zr_ (Kd.R_mono (Kd.R_far (p := ⟨gb232, 1, none⟩) (Kd.R_far (p := ⟨gb232, 0, none⟩) (Kd.R_types HO218.out BK232.out (by decide)) (fun _ hk => hk.2) (.slice Ao19 t225.length co19)) (fun _ hk => hk.2) (.slice Ao21 t228.length co21)) (fun _ hk => ⟨hk.1.1.2, hk.1.2⟩))⟩
    have n2_ : Aside0 (Kd.R (Kd.int .i64) 33 ((w18.setCell ⟨gb232, 0, none⟩ (.slice Ao19 t225.length co19)).setCell ⟨gb232, 1, none⟩ (.slice Ao21 t228.length co21)) w.heap.size (fun k_ => some k_ ≠ (.slice Ao9 y213.length co9 : Value).ownBlock ∧ some k_ ≠ (.slice Ao21 t228.length co21 : Value).ownBlock) (.slice Ao13 y219.length co13) y219) := ⟨zr_ (Kd.R_mono (Kd.R_far (p := ⟨gb232, 1, none⟩) (Kd.R_far (p := ⟨gb232, 0, none⟩) (Kd.R_types HO221.out BK232.out (by decide)) (fun _ hk => hk.2) (.slice Ao19 t225.length co19)) (fun _ hk => hk.2) (.slice Ao21 t228.length co21)) (fun _ hk => ⟨hk.1.1.2, hk.1.2⟩))⟩
    have n3_ : Aside0 (Kd.R (Kd.int .i64) 3 ((w18.setCell ⟨gb232, 0, none⟩ (.slice Ao19 t225.length co19)).setCell ⟨gb232, 1, none⟩ (.slice Ao21 t228.length co21)) w.heap.size (fun k_ => some k_ ≠ (.slice Ao15 t216.length co15 : Value).ownBlock ∧ some k_ ≠ (.slice Ao19 t225.length co19 : Value).ownBlock) (.slice Ao16 t222.length co16) t222) := ⟨zr_ (Kd.R_mono (Kd.R_far (p := ⟨gb232, 1, none⟩) (Kd.R_far (p := ⟨gb232, 0, none⟩) (Kd.R_types HO224.out BK232.out (by decide)) (fun _ hk => hk.2) (.slice Ao19 t225.length co19)) (fun _ hk => hk.2) (.slice Ao21 t228.length co21)) (fun _ hk => ⟨hk.1.1.2, hk.1.2⟩))⟩
    have n4_ : Aside0 (Kd.R (Kd.int .i64) 3 ((w18.setCell ⟨gb232, 0, none⟩ (.slice Ao19 t225.length co19)).setCell ⟨gb232, 1, none⟩ (.slice Ao21 t228.length co21)) w.heap.size (fun k_ => some k_ ≠ (.slice Ao15 t216.length co15 : Value).ownBlock ∧ some k_ ≠ (.slice Ao16 t222.length co16 : Value).ownBlock) (.slice Ao19 t225.length co19) t225) := ⟨zr_ (Kd.R_mono (Kd.R_far (p := ⟨gb232, 1, none⟩) (Kd.R_far (p := ⟨gb232, 0, none⟩) (Kd.R_types HO227.out BK232.out (by decide)) (fun _ hk => hk.2) (.slice Ao19 t225.length co19)) (fun _ hk => hk.2) (.slice Ao21 t228.length co21)) (fun _ hk => ⟨hk.1.1.2, hk.1.2⟩))⟩
    have n5_ : Aside0 (Kd.R (Kd.int .i64) 33 ((w18.setCell ⟨gb232, 0, none⟩ (.slice Ao19 t225.length co19)).setCell ⟨gb232, 1, none⟩ (.slice Ao21 t228.length co21)) w.heap.size (fun k_ => some k_ ≠ (.slice Ao9 y213.length co9 : Value).ownBlock ∧ some k_ ≠ (.slice Ao13 y219.length co13 : Value).ownBlock) (.slice Ao21 t228.length co21) t228) := ⟨zr_ (Kd.R_mono (Kd.R_far (p := ⟨gb232, 1, none⟩) (Kd.R_far (p := ⟨gb232, 0, none⟩) (Kd.R_types HO230.out BK232.out (by decide)) (fun _ hk => hk.2) (.slice Ao19 t225.length co19)) (fun _ hk => hk.2) (.slice Ao21 t228.length co21)) (fun _ hk => ⟨hk.1.1.2, hk.1.2⟩))⟩
    have n6_ : Aside0 (((w18.setCell ⟨gb232, 0, none⟩ (.slice Ao19 t225.length co19)).setCell ⟨gb232, 1, none⟩ (.slice Ao21 t228.length co21)).heap[gb232]? = some (.cells #[.slice Ao19 t225.length co19, .slice Ao21 t228.length co21] 25 (0, 0))) := ⟨zo2_ BK232⟩
    have n7_ : Aside0 (Below w.heap.size w ((w18.setCell ⟨gb232, 0, none⟩ (.slice Ao19 t225.length co19)).setCell ⟨gb232, 1, none⟩ (.slice Ao21 t228.length co21))) := ⟨zw1_ HB GE232⟩
    (try clear HO215)
    (try clear HO218)
    (try clear HO221)
    (try clear HO224)
    (try clear HO227)
    (try clear HO230)
    (try clear BK232)
    (try clear HB)
    generalize ((w18.setCell ⟨gb232, 0, none⟩ (.slice Ao19 t225.length co19)).setCell ⟨gb232, 1, none⟩ (.slice Ao21 t228.length co21)) = w22 at n0_ n1_ n2_ n3_ n4_ n5_ n6_ n7_ ⊢
    have HO215 := n0_
    have HO218 := n1_
    have HO221 := n2_
    have HO224 := n3_
    have HO227 := n4_
    have HO230 := n5_
    have BK232 := n6_
    have HB := n7_
    clear n0_ n1_ n2_ n3_ n4_ n5_ n6_ n7_
    replace HO215 := Aside0.mk (Kd.R_drew HO215.out)
    replace HO218 := Aside0.mk (Kd.R_drew HO218.out)
    replace HO221 := Aside0.mk (Kd.R_drew HO221.out)
    replace HO224 := Aside0.mk (Kd.R_drew HO224.out)
    replace HO227 := Aside0.mk (Kd.R_drew HO227.out)
    replace HO230 := Aside0.mk (Kd.R_drew HO230.out)
    replace BK232 := Aside0.mk (blk_drew BK232.out)
    replace HB := Aside0.mk (below_drew1 HB.out)
    refine start_ (n := 9) (S := fun w' => w'.cell? ⟨gb232, 0, none⟩ = some (.slice Ao19 t225.length co19) ∧ w'.cell? ⟨gb232, 1, none⟩ = some (.slice Ao21 t228.length co21)) (ds := []) #[false, false, false, false, false, false, false, false, false] (by kernel_rfl) rfl rfl ⟨(blk_cell BK232.out 0).trans rfl, (blk_cell BK232.out 1).trans rfl⟩ (fun hHeld => ?_); refine with_tabW carousellaw8_awake.tab2 carousellaw8_awake.bits2 (fun HT_ HW_ => ?_)
    generalize w22.drew = w23 at HO215 HO218 HO221 HO224 HO227 HO230 BK232 HB hHeld ⊢
    refine yp_ ?_ 0 11
    refine yp_ ?_ 1 12
    refine yp_ ?_ 2 13
    refine yt2_ ?_ 3 14
    refine yo_ 4 (some 15) (fun K hK => ?_)
    refine Kd.R_lit_step (Kd.int .i64) _ 33 ?hg (N := 15) ?hd (xs := ([3, 5] : List Int)) (inner := [.int .i64 3, .int .i64 5]) (ok := fun _ => True) (okp := fun _ => True) ?hr ?hp (fun _ hk => hk) trivial (Below.refl _ _) (Nat.le_refl _) (by simp) ?_; (case hd => rfl); (case hg => rfl); (case hr => first | (go_simp; done) | (go_simp; rfl)); (case hp => exact (Reps.one (show Kd.M (Kd.int .i64) _ _ _ 3 [.int .i64 3] from rfl) (Reps.one (show Kd.M (Kd.int .i64) _ _ _ 5 [.int .i64 5] from rfl) (Reps.none _ _))))
    intro v234 w24 ho25 hb hg_ hnew_
    clear hg_ hnew_
    (first | rw [← Ny233.out] at ho25 | (simp only [Int.reduceToNat] at ho25; rw [← Ny233.out] at ho25))
    replace HO218 := zy_ HO218 hb
    replace HO224 := zy_ HO224 hb
    replace HO227 := zy_ HO227 hb
    have HO235 := Aside0.mk (Kd.R_lower (Kd.R_new' (Kd.R_new' (Kd.R_new' ho25 (Kd.R_lt (zr_ HO215.out))) (Kd.R_lt (zr_ HO221.out))) (Kd.R_lt (zr_ HO230.out))) (below_size (zw1_ HB GE232)))
    replace HO215 := ze_ HO215 ho25 hb
    replace HO221 := ze_ HO221 ho25 hb
    replace HO230 := ze_ HO230 ho25 hb
    replace BK232 := za_ BK232 hb
    replace HB := Aside0.mk (below_step (zw1_ HB GE232) hb)
    clear hb ho25
    obtain ⟨Ao26, co26, eo26⟩ := Kd.R_slice HO235.out
    (first | subst eo26 | (injection eo26 with f1_ f2_ f3_; have f4_ := f1_.symm; have f5_ := f3_.symm; clear f1_ f2_ f3_; subst f4_; subst f5_))
    refine hK.out _ _ ⟨zx_ BK232 0, zx_ BK232 1⟩ (fun hHeld => ?_)
    clear hK K
    refine zq_ (some 15) (h := ?_)
    refine yo_ 5 (some 16) (fun K hK => ?_)
    refine yg_ Try.func17 #[.int .i64 1, .slice Ao26 y233.length co26] ?_
    with_reducible refine (carousellaw8_rows.calls 1 _ _ y233 t236 _ ?side1 ?side2 A5.out).mono ?_
    (case side1 => exact zk_ ((Kd.R_reads' HO235.out).2.2))
    (case side2 => exact (Kd.R_reads' HO235.out).2.1)
    rintro e w27 ⟨v237, rfl, ho0, hb⟩
    refine ⟨_, rfl, ?_⟩
    replace HO215 := zy_ HO215 hb
    replace HO221 := zy_ HO221 hb
    replace HO230 := zy_ HO230 hb
    replace HO235 := zy_ HO235 hb
    have HO238 := Aside0.mk (Kd.R_lower (Kd.R_new' (Kd.R_new' (Kd.R_new' ho0 (Kd.R_lt (zr_ HO218.out))) (Kd.R_lt (zr_ HO224.out))) (Kd.R_lt (zr_ HO227.out))) (below_size (zw1_ HB GE232)))
    replace HO218 := ze_ HO218 ho0 hb
    replace HO224 := ze_ HO224 ho0 hb
    replace HO227 := ze_ HO227 ho0 hb
    replace BK232 := za_ BK232 hb
    replace HB := Aside0.mk (below_step (zw1_ HB GE232) hb)
    (try clear hb)
    (try clear hb2)
    (try clear hk)
    (try clear hi)
    (try clear ho0)
    obtain ⟨Ao28, co28, eo28⟩ := Kd.R_slice HO238.out
    (first | subst eo28 | (injection eo28 with f1_ f2_ f3_; have f4_ := f1_.symm; have f5_ := f3_.symm; clear f1_ f2_ f3_; subst f4_; subst f5_))
    refine hK.out _ _ ⟨zx_ BK232 0, zx_ BK232 1⟩ (fun hHeld => ?_)
    clear hK K
    refine zq_ (some 16) (h := ?_)
    refine yo_ 6 (some 17) (fun K hK => ?_)
    refine yg_ Try.func15 #[.agg #[.slice Ao19 t225.length co19, .slice Ao21 t228.length co21], .agg #[.slice Ao28 t236.length co28, .slice Ao26 y233.length co26]] ?_
    with_reducible refine (carouselref5_Alike.calls k _ _ t225 _ _ t228 _ _ t236 _ _ y233 t239 _ ?side1 ?side2 ?side3 ?side4 ?side5 ?side6 ?side7 ?side8 A6.out).mono ?_
    (case side1 => exact zk_ ((Kd.R_reads' HO227.out).2.2))
    (case side2 => exact (Kd.R_reads' HO227.out).2.1)
    (case side3 => exact zk_ ((Kd.R_reads' HO230.out).2.2))
    (case side4 => exact (Kd.R_reads' HO230.out).2.1)
    (case side5 => exact zk_ ((Kd.R_reads' HO238.out).2.2))
    (case side6 => exact (Kd.R_reads' HO238.out).2.1)
    (case side7 => exact zk_ ((Kd.R_reads' HO235.out).2.2))
    (case side8 => exact (Kd.R_reads' HO235.out).2.1)
    rintro e w29 ⟨rfl, hb⟩
    refine ⟨_, rfl, ?_⟩
    replace HO215 := zy_ HO215 hb
    replace HO218 := zy_ HO218 hb
    replace HO221 := zy_ HO221 hb
    replace HO224 := zy_ HO224 hb
    replace HO227 := zy_ HO227 hb
    replace HO230 := zy_ HO230 hb
    replace HO235 := zy_ HO235 hb
    replace HO238 := zy_ HO238 hb
    replace BK232 := za_ BK232 hb
    replace HB := Aside0.mk (below_step (zw1_ HB GE232) hb)
    (try clear hb)
    (try clear hb2)
    (try clear hk)
    (try clear hi)
    refine hK.out _ _ ⟨zx_ BK232 0, zx_ BK232 1⟩ (fun hHeld => ?_)
    clear hK K
    refine zq_ (some 17) (h := ?_)
    refine yp_ ?_ 7 18
    refine yp_ ?_ 8 0
    refine done_ (done_of HT_.out (by kernel_rfl)) ?_
    try go_wp2
    go_ret
    exact ⟨z0_, zw1_ HB GE232⟩
  · rw [if_neg c4] at H
    have c4b0 : (t231 == 0) = false := beq_eq_false_iff_ne.mpr c4
    have c4b1 : (t231 != 0) = true := bne_iff_ne.mpr c4
    exact absurd H (by simp)

end Go.Proofs.Ytcipfhlcgnomaaa.PConvKnown
