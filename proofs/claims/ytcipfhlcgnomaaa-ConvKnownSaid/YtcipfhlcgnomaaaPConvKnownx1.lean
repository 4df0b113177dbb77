/- The functions that the law ConvKnown reaches, as Lean functions, and that each call of the Go function does what its Lean function says, wherever that one answers. Written by a program of mine over the print of the kit; Lean checks it. -/
import Derived.Test.YtcipfhlcgnomaaaPConvKnownx0
namespace Go.Proofs.Ytcipfhlcgnomaaa.PConvKnown
open Go.RowKit Go.Proofs.YtcipfhlcgnomaaaW.PrintWords Go.Proofs.YtcipfhlcgnomaaaW.PrintLast Go.Proofs.YtcipfhlcgnomaaaW.PrintMore
attribute [local go_sem] max2_int min2_int max_two min_two max_three min_three max_four min_four   -- for this text's walks alone
set_option linter.unusedVariables false
set_option linter.unusedSimpArgs false

/-! ### shape_product: function 53 -/
mutual
def shape_product.l0 : Nat → Int → List Int → Int → Int → Option (Int)
 | 0, _, _, _, _ => none
 | k + 1, x3, x9, x10, x11 => if x11 < x10 then (if 0 ≤ x11 then (if x11 < (x9.length : Int) then (if (rd x9 x11) < 1 then (shape_product.j1 k x3 (rd x9 x11) x9 x10 x11 true) else (shape_product.j1 k x3 (rd x9 x11) x9 x10 x11 (decide ((rd x9 x11) > 4096)))) else (none)) else (none)) else (some x3)
def shape_product.j1 : Nat → Int → Int → List Int → Int → Int → Bool → Option (Int)
 | 0, _, _, _, _, _, _ => none
 | k + 1, x3, x5, x9, x10, x11, x20 => if x20 = true then (some 0) else (if (wrap64 (x3 * x5)) > 4096 then (some 0) else (shape_product.l0 k (wrap64 (x3 * x5)) x9 x10 (wrap64 (x11 + 1))))
end
def shape_product.f (k : Nat) (l0 : List Int) : Option (Int) := if (l0.length : Int) > 4 then (some 0) else (shape_product.l0 k 1 l0 (l0.length : Int) 0)
theorem shape_product.mono_l : ∀ k, (∀ y0 y1 y2 y3, LeO (shape_product.l0 k y0 y1 y2 y3) (shape_product.l0 (k + 1) y0 y1 y2 y3)) ∧ (∀ y0 y1 y2 y3 y4 y5, LeO (shape_product.j1 k y0 y1 y2 y3 y4 y5) (shape_product.j1 (k + 1) y0 y1 y2 y3 y4 y5))
 | 0 => ⟨fun _ _ _ _ r h => by simp [shape_product.l0] at h, fun _ _ _ _ _ _ r h => by simp [shape_product.j1] at h⟩
 | k + 1 => by
  obtain ⟨ih0, ih1⟩ := shape_product.mono_l k
  refine ⟨?_, ?_⟩
  ·intro y0 y1 y2 y3
   unfold shape_product.l0
   repeat' first
   | (with_reducible exact ih0 _ _ _ _)
   | (with_reducible exact ih1 _ _ _ _ _ _)
   | (with_reducible exact LeO.refl _)
   | (with_reducible exact LeO.none _)
   | (with_reducible refine LeO.ite ?_ ?_)
   | (with_reducible refine LeO.bind ?_ (fun _ => ?_))
   | exact ih0 _ _ _ _
   | exact ih1 _ _ _ _ _ _
   | exact LeO.none _
   | refine LeO.ite ?_ ?_
   | refine LeO.bind ?_ (fun _ => ?_)
  ·intro y0 y1 y2 y3 y4 y5
   unfold shape_product.j1
   repeat' first
   | (with_reducible exact ih0 _ _ _ _)
   | (with_reducible exact ih1 _ _ _ _ _ _)
   | (with_reducible exact LeO.refl _)
   | (with_reducible exact LeO.none _)
   | (with_reducible refine LeO.ite ?_ ?_)
   | (with_reducible refine LeO.bind ?_ (fun _ => ?_))
   | exact ih0 _ _ _ _
   | exact ih1 _ _ _ _ _ _
   | exact LeO.none _
   | refine LeO.ite ?_ ?_
   | refine LeO.bind ?_ (fun _ => ?_)
theorem shape_product.mono : ∀ a0 k, LeO (shape_product.f k a0) (shape_product.f (k + 1) a0) := by
 intro a0 k
 obtain ⟨ih0, ih1⟩ := shape_product.mono_l k
 unfold shape_product.f
 repeat' first
   | (with_reducible exact ih0 _ _ _ _)
   | (with_reducible exact ih1 _ _ _ _ _ _)
   | (with_reducible exact LeO.refl _)
   | (with_reducible exact LeO.none _)
   | (with_reducible refine LeO.ite ?_ ?_)
   | (with_reducible refine LeO.bind ?_ (fun _ => ?_))
   | exact ih0 _ _ _ _
   | exact ih1 _ _ _ _ _ _
   | exact LeO.none _
   | refine LeO.ite ?_ ?_
   | refine LeO.bind ?_ (fun _ => ?_)
set_option maxHeartbeats 8000000 in
set_option maxRecDepth 100000 in
theorem shape_product.calls (k : Nat) (A0 : Option Addr) (c0 : Nat) (l0 : List Int) (r : Int) (w : World) (hr0 : Kd.C (Kd.int .i64) w A0 l0.length l0) (hc0 : l0.length ≤ c0) (h : shape_product.f k l0 = some r) :
  Calls Try.prog 53 #[.slice A0 l0.length c0] w fun e w' => e = .returned (.int .i64 r) ∧ Drawn0 w w' := by
 have HR0 := Aside0.mk hr0
 have HC0 := Aside0.mk hc0
 clear hr0 hc0
 have H : (if (l0.length : Int) > 4 then (some 0) else (shape_product.l0 k 1 l0 (l0.length : Int) 0)) = some r := h
 clear h
 by_cases c2 : (l0.length : Int) > 4
 ·rw [if_pos c2] at H
  have c2b0 : decide (4 < (l0.length : Int)) = true := decide_eq_true c2
  have c2b1 : decide (4 < l0.length) = true := decide_eq_true (by omega)
  clear c2
  obtain rfl := Option.some.inj H
  go_enter Try.func53, Try.ntmps53
  go_wp2
  go_ret
  exact ⟨by first | rfl | (simp; done) | (simp [*]; done), by repeat (first | exact Drawn0.refl _ | apply Drawn0.step)⟩
 rw [if_neg c2] at H
 have c2b0 : decide (4 < (l0.length : Int)) = false := decide_eq_false c2
 have c2b1 : decide (4 < l0.length) = false := decide_eq_false (by omega)
 clear c2
 have H' := Aside0.mk H
 clear H
 go_enter Try.func53, Try.ntmps53
 go_wp2
 go_loopg [3, 11] k (fun kq v3 v11 w' => ∃ (x3_1 : Int) (x11_1 : Int), v3 = .int .i64 x3_1 ∧ v11 = .int .i64 x11_1 ∧ Aside0 (shape_product.l0 kq x3_1 l0 (l0.length : Int) x11_1 = some r) ∧ Aside0 (kq ≤ k) ∧ Drawn0 w w')
 case atStart => exact ⟨(1), (0), z1_, z1_, H', ⟨Nat.le_refl _⟩, by repeat (first | exact Drawn0.refl _ | apply Drawn0.step)⟩
 case round =>
  clear H'
  try clear c2
  try clear c2b0
  try clear c2b1
  try clear p2
  obtain ⟨x3_1, x11_1, rfl, rfl, HA, HK1, ⟨m1, rfl⟩⟩ := hrel
  cases gk with
  | zero => exact absurd HA.out (by simp [shape_product.l0])
  | succ k1 =>
   have H := HA.out
   clear HA
   simp only [shape_product.l0] at H
   by_cases c3 : x11_1 < (l0.length : Int)
   rotate_left
   ·rw [if_neg c3] at H
    have c3b0 : decide (x11_1 < (l0.length : Int)) = false := decide_eq_false c3
    clear c3
    obtain rfl := Option.some.inj H
    go_wp2
    go_ret
    exact ⟨by first | rfl | (simp; done) | (simp [*]; done), by repeat (first | exact Drawn0.refl _ | apply Drawn0.step)⟩
   rw [if_pos c3] at H
   have c3b0 : decide (x11_1 < (l0.length : Int)) = true := decide_eq_true c3
   clear c3
   by_cases c4 : 0 ≤ x11_1
   rotate_left
   ·rw [if_neg c4] at H
    exact absurd H (by simp)
   rw [if_pos c4] at H
   have c4b0 : decide (0 ≤ x11_1) = true := decide_eq_true c4
   clear c4
   by_cases c5 : x11_1 < (l0.length : Int)
   rotate_left
   ·rw [if_neg c5] at H
    exact absurd H (by simp)
   rw [if_pos c5] at H
   have c5b0 : decide (x11_1 < (l0.length : Int)) = true := decide_eq_true c5
   clear c5
   have HC6 := Aside0.mk H
   clear H
   have p101 : 0 ≤ (x11_1 : Int) := of_decide_eq_true (by first | (with_reducible assumption) | assumption)
   have q101 : x11_1 < (l0.length : Int) := of_decide_eq_true (by first | (with_reducible assumption) | assumption)
   obtain ⟨ad101, e101, hx101_0⟩ := Kd.at_int HR0.out x11_1 p101 q101
   cases e101
   replace p101 := eq_true p101
   replace q101 := eq_true q101
   go_upto_region 7 with (fail)
   go_cut [20] (fun v20 wc => ∃ (kq : Nat) (x20_5 : Bool), v20 = .bool x20_5 ∧ Aside0 (shape_product.j1 kq x3_1 (rd l0 x11_1) l0 (l0.length : Int) x11_1 x20_5 = some r) ∧ Aside0 (kq ≤ k1) ∧ Drawn0 w wc)
   case first =>
    have H := HC6.out
    clear HC6
    by_cases c7 : (rd l0 x11_1) < 1
    ·rw [if_pos c7] at H
     have c7b0 : decide ((rd l0 x11_1) < 1) = true := decide_eq_true c7
     clear c7
     (first | rw [c7b0] | (simp only [i64_w, i32_w]; rw [c7b0]) | skip)
     have H' := Aside0.mk H
     clear H
     go_wp2
     go_meet
     case rel => exact ⟨_, (true), z1_, H', ⟨by have := HK1.out; first | omega | exact Nat.le_refl _⟩, by repeat (first | exact Drawn0.refl _ | apply Drawn0.step)⟩
    rw [if_neg c7] at H
    have c7b0 : decide ((rd l0 x11_1) < 1) = false := decide_eq_false c7
    clear c7
    (first | rw [c7b0] | (simp only [i64_w, i32_w]; rw [c7b0]) | skip)
    have H' := Aside0.mk H
    clear H
    go_wp2
    go_meet
    case rel => exact ⟨_, (decide ((rd l0 x11_1) > 4096)), z1_, H', ⟨by have := HK1.out; first | omega | exact Nat.le_refl _⟩, by repeat (first | exact Drawn0.refl _ | apply Drawn0.step)⟩
   case rest =>
    clear HC6
    try clear p1
    try clear q1
    try clear hx1
    try clear c2
    try clear c2b0
    try clear c2b1
    try clear p2
    try clear c3
    try clear c3b0
    try clear c4
    try clear c4b0
    try clear c5
    try clear c5b0
    try clear c7
    try clear c7b0
    try clear hx101_0
    try clear p101
    try clear p2
    try clear q101
    obtain ⟨kq, x20_5, rfl, HA, HJ5, ⟨mc5, rfl⟩⟩ := hcut
    cases kq with
    | zero => exact absurd HA.out (by simp [shape_product.j1])
    | succ kj5 =>
     have H := HA.out
     clear HA
     simp only [shape_product.j1] at H
     by_cases c8 : x20_5 = true
     ·subst c8
      have H1 : (some 0) = some r := by rw [if_pos rfl] at H; exact H
      clear H
      have H := H1
      clear H1
      obtain rfl := Option.some.inj H
      go_wp2
      go_ret
      exact ⟨by first | rfl | (simp; done) | (simp [*]; done), by repeat (first | exact Drawn0.refl _ | apply Drawn0.step)⟩
     replace c8 := Bool.eq_false_iff.mpr c8
     subst c8
     have H1 := H
     rw [if_neg (show ¬ (false = true) by decide)] at H1
     clear H
     have H := H1
     clear H1
     by_cases c9 : (wrap64 (x3_1 * (rd l0 x11_1))) > 4096
     ·rw [if_pos c9] at H
      have c9b0 : decide (4096 < (wrap64 (x3_1 * (rd l0 x11_1)))) = true := decide_eq_true c9
      clear c9
      obtain rfl := Option.some.inj H
      go_wp2
      go_ret
      exact ⟨by first | rfl | (simp; done) | (simp [*]; done), by repeat (first | exact Drawn0.refl _ | apply Drawn0.step)⟩
     rw [if_neg c9] at H
     have c9b0 : decide (4096 < (wrap64 (x3_1 * (rd l0 x11_1)))) = false := decide_eq_false c9
     clear c9
     have H' := Aside0.mk H
     clear H
     go_wp2
     go_roundg kj5
     case measure => have := HK1.out; have := HJ5.out; omega
     case rel => exact ⟨(wrap64 (x3_1 * (rd l0 x11_1))), (wrap64 (x11_1 + 1)), z1_, z1_, H', ⟨by have := HK1.out; have := HJ5.out; omega⟩, by repeat (first | exact Drawn0.refl _ | apply Drawn0.step)⟩

/-! ### shape_Good: function 40 -/
def shape_Good.f (k : Nat) (l0 : List Int) : Option (Bool) := (shape_product.f k l0).bind fun t102 => (some (decide (t102 > 0)))
theorem shape_Good.mono : ∀ a0 k, LeO (shape_Good.f k a0) (shape_Good.f (k + 1) a0) := by
 intro a0 k
 unfold shape_Good.f
 repeat' first
   | (with_reducible exact shape_product.mono _ _)
   | (with_reducible exact LeO.refl _)
   | (with_reducible exact LeO.none _)
   | (with_reducible refine LeO.ite ?_ ?_)
   | (with_reducible refine LeO.bind ?_ (fun _ => ?_))
   | exact shape_product.mono _ _
   | exact LeO.none _
   | refine LeO.ite ?_ ?_
   | refine LeO.bind ?_ (fun _ => ?_)
set_option maxHeartbeats 8000000 in
set_option maxRecDepth 100000 in
theorem shape_Good.calls (k : Nat) (A0 : Option Addr) (c0 : Nat) (l0 : List Int) (r : Bool) (w : World) (hr0 : Kd.C (Kd.int .i64) w A0 l0.length l0) (hc0 : l0.length ≤ c0) (h : shape_Good.f k l0 = some r) :
  Calls Try.prog 40 #[.slice A0 l0.length c0] w fun e w' => e = .returned (.bool r) ∧ Drawn0 w w' := by
 have HR0 := Aside0.mk hr0
 have HC0 := Aside0.mk hc0
 clear hr0 hc0
 have H : ((shape_product.f k l0).bind fun t102 => (some (decide (t102 > 0)))) = some r := h
 clear h
 replace H := Option.bind_eq_some_iff.mp H
 obtain ⟨t102, A20, H⟩ := H
 replace H : (some (decide (t102 > 0))) = some r := H
 have A2 := Aside0.mk A20
 clear A20
 obtain rfl := Option.some.inj H
 go_enter Try.func40, Try.ntmps40
 go_wp2_with (first | ((with_reducible refine gate_callee (f := 53) rfl ?_); refine zg_ (some 4) Try.func53 #[.slice A0 l0.length c0] (h := ?_); (with_reducible refine (shape_product.calls k _ _ l0 t102 _ ?side1 ?side2 A2.out).mono ?_); (case side1 => repeat (first | exact HR0.out | (with_reducible refine Kd.C_alloc ?_ _) | (with_reducible refine Kd.C_drewN ?_ _) | (with_reducible refine Kd.C_drew ?_))); (case side2 => exact HC0.out); rintro e w' ⟨rfl, ⟨nd, rfl⟩⟩; refine ⟨_, rfl, ?_⟩))
 go_ret
 exact ⟨by first | rfl | (simp; done) | (simp [*]; done), by repeat (first | exact Drawn0.refl _ | apply Drawn0.step)⟩

/-! ### shape_Size: function 41 -/
def shape_Size.f (k : Nat) (l0 : List Int) : Option (Int) := (shape_product.f k l0).bind fun t103 => (some t103)
theorem shape_Size.mono : ∀ a0 k, LeO (shape_Size.f k a0) (shape_Size.f (k + 1) a0) := by
 intro a0 k
 unfold shape_Size.f
 repeat' first
   | (with_reducible exact shape_product.mono _ _)
   | (with_reducible exact LeO.refl _)
   | (with_reducible exact LeO.none _)
   | (with_reducible refine LeO.ite ?_ ?_)
   | (with_reducible refine LeO.bind ?_ (fun _ => ?_))
   | exact shape_product.mono _ _
   | exact LeO.none _
   | refine LeO.ite ?_ ?_
   | refine LeO.bind ?_ (fun _ => ?_)
set_option maxHeartbeats 8000000 in
set_option maxRecDepth 100000 in
theorem shape_Size.calls (k : Nat) (A0 : Option Addr) (c0 : Nat) (l0 : List Int) (r : Int) (w : World) (hr0 : Kd.C (Kd.int .i64) w A0 l0.length l0) (hc0 : l0.length ≤ c0) (h : shape_Size.f k l0 = some r) :
  Calls Try.prog 41 #[.slice A0 l0.length c0] w fun e w' => e = .returned (.int .i64 r) ∧ Drawn0 w w' := by
 have HR0 := Aside0.mk hr0
 have HC0 := Aside0.mk hc0
 clear hr0 hc0
 have H : ((shape_product.f k l0).bind fun t103 => (some t103)) = some r := h
 clear h
 replace H := Option.bind_eq_some_iff.mp H
 obtain ⟨t103, A20, H⟩ := H
 replace H : (some t103) = some r := H
 have A2 := Aside0.mk A20
 clear A20
 obtain rfl := Option.some.inj H
 go_enter Try.func41, Try.ntmps41
 go_wp2_with (first | ((with_reducible refine gate_callee (f := 53) rfl ?_); refine zg_ (some 4) Try.func53 #[.slice A0 l0.length c0] (h := ?_); (with_reducible refine (shape_product.calls k _ _ l0 t103 _ ?side1 ?side2 A2.out).mono ?_); (case side1 => repeat (first | exact HR0.out | (with_reducible refine Kd.C_alloc ?_ _) | (with_reducible refine Kd.C_drewN ?_ _) | (with_reducible refine Kd.C_drew ?_))); (case side2 => exact HC0.out); rintro e w' ⟨rfl, ⟨nd, rfl⟩⟩; refine ⟨_, rfl, ?_⟩))
 go_ret
 exact ⟨by first | rfl | (simp; done) | (simp [*]; done), by repeat (first | exact Drawn0.refl _ | apply Drawn0.step)⟩

/-! ### tens_Good: function 26 -/
def tens_Good.f (k : Nat) (l0_0 : List Int) (l0_1 : List Int) : Option (Bool) := (shape_Good.f k l0_0).bind fun t105 => (if t105 = true then ((shape_Size.f k l0_0).bind fun t106 => (some ((l0_1.length : Int) == t106))) else (some false))
theorem tens_Good.mono : ∀ a0 a1 k, LeO (tens_Good.f k a0 a1) (tens_Good.f (k + 1) a0 a1) := by
 intro a0 a1 k
 unfold tens_Good.f
 repeat' first
   | (with_reducible exact shape_Good.mono _ _)
   | (with_reducible exact shape_Size.mono _ _)
   | (with_reducible exact LeO.refl _)
   | (with_reducible exact LeO.none _)
   | (with_reducible refine LeO.ite ?_ ?_)
   | (with_reducible refine LeO.bind ?_ (fun _ => ?_))
   | exact shape_Good.mono _ _
   | exact shape_Size.mono _ _
   | exact LeO.none _
   | refine LeO.ite ?_ ?_
   | refine LeO.bind ?_ (fun _ => ?_)
set_option maxHeartbeats 8000000 in
set_option maxRecDepth 100000 in
theorem tens_Good.calls (k : Nat) (A0_0 : Option Addr) (c0_0 : Nat) (l0_0 : List Int) (A0_1 : Option Addr) (c0_1 : Nat) (l0_1 : List Int) (r : Bool) (w : World) (hr0_0 : Kd.C (Kd.int .i64) w A0_0 l0_0.length l0_0) (hc0_0 : l0_0.length ≤ c0_0) (hr0_1 : Kd.C (Kd.int .i64) w A0_1 l0_1.length l0_1) (hc0_1 : l0_1.length ≤ c0_1) (h : tens_Good.f k l0_0 l0_1 = some r) :
  Calls Try.prog 26 #[.agg #[.slice A0_0 l0_0.length c0_0, .slice A0_1 l0_1.length c0_1]] w fun e w' => e = .returned (.bool r) ∧ Below w.heap.size w w' := by
 have hu25 := Try.underlying25
 have HR0_0 := Aside0.mk hr0_0
 have HC0_0 := Aside0.mk hc0_0
 clear hr0_0 hc0_0
 have HR0_1 := Aside0.mk hr0_1
 have HC0_1 := Aside0.mk hc0_1
 clear hr0_1 hc0_1
 have HB := Aside0.mk (Below.refl w.heap.size w)
 have H : ((shape_Good.f k l0_0).bind fun t105 => (if t105 = true then ((shape_Size.f k l0_0).bind fun t106 => (some ((l0_1.length : Int) == t106))) else (some false))) = some r := h
 clear h
 replace H := Option.bind_eq_some_iff.mp H
 obtain ⟨t105, A20, H⟩ := H
 replace H : (if t105 = true then ((shape_Size.f k l0_0).bind fun t106 => (some ((l0_1.length : Int) == t106))) else (some false)) = some r := H
 have A2 := Aside0.mk A20
 clear A20
 by_cases c3 : t105 = true
 rotate_left
 ·replace c3 := Bool.eq_false_iff.mpr c3
  subst c3
  have H1 : (some false) = some r := by rw [if_neg (show ¬ (false = true) by decide)] at H; exact H
  clear H
  have H := H1
  clear H1
  obtain rfl := Option.some.inj H
  go_enter Try.func26, Try.ntmps26
  go_wp2_with (first | ((with_reducible refine gate_dst (N := 1) rfl ?_); (try (refine gate_guard (by rfl) ?_; dsimp only)); refine box_event ?hg (N := 1) ?hd (cs := #[.slice A0_0 l0_0.length c0_0, .slice A0_1 l0_1.length c0_1]) (t := 25) ?hr ?_; (case hd => rfl); (case hg => rfl); (case hr => first | (go_simp; done) | (go_simp; rfl)); intro gb104 hg w7 hbox hb; have BK104 := Aside0.mk (hbox); have GW104 := Aside0.mk (zs_ hg (zw0_ HB)); have GE104 := Aside0.mk (zs_ hg (zw0_ HB)); replace HB := Aside0.mk (below_step (zw0_ HB) hb); clear hb hbox hg; have hcz8_0 := zx_ (v := .slice A0_0 l0_0.length c0_0) BK104 0; have hcz8_1 := zx_ (v := .slice A0_1 l0_1.length c0_1) BK104 1; have hfz8_0 := blk_frozen BK104.out 0; have hfz8_1 := blk_frozen BK104.out 1) | (go_at_call 40; (with_reducible refine (shape_Good.calls k _ _ l0_0 false _ ?side1 ?side2 A2.out).mono ?_); (case side1 => exact zk_ (Kd.C_below HR0_0.out HB.out)); (case side2 => exact HC0_0.out); rintro e w' ⟨rfl, ⟨nd, rfl⟩⟩; (try first | exact ⟨rfl, _, World.drewN_drewN _ _ _⟩ | exact ⟨rfl, _, Eq.trans (World.drewN_drewN _ _ _) (congrArg (World.drewN _) (Nat.add_assoc _ _ _))⟩)))
  repeat (go_quiet (first | ((with_reducible refine gate_dst (N := 1) rfl ?_); (try (refine gate_guard (by rfl) ?_; dsimp only)); refine box_event ?hg (N := 1) ?hd (cs := #[.slice A0_0 l0_0.length c0_0, .slice A0_1 l0_1.length c0_1]) (t := 25) ?hr ?_; (case hd => rfl); (case hg => rfl); (case hr => first | (go_simp; done) | (go_simp; rfl)); intro gb104 hg w7 hbox hb; have BK104 := Aside0.mk (hbox); have GW104 := Aside0.mk (zs_ hg (zw0_ HB)); have GE104 := Aside0.mk (zs_ hg (zw0_ HB)); replace HB := Aside0.mk (below_step (zw0_ HB) hb); clear hb hbox hg; have hcz8_0 := zx_ (v := .slice A0_0 l0_0.length c0_0) BK104 0; have hcz8_1 := zx_ (v := .slice A0_1 l0_1.length c0_1) BK104 1; have hfz8_0 := blk_frozen BK104.out 0; have hfz8_1 := blk_frozen BK104.out 1) | (go_at_call 40; (with_reducible refine (shape_Good.calls k _ _ l0_0 false _ ?side1 ?side2 A2.out).mono ?_); (case side1 => exact zk_ (Kd.C_below HR0_0.out HB.out)); (case side2 => exact HC0_0.out); rintro e w' ⟨rfl, ⟨nd, rfl⟩⟩; (try first | exact ⟨rfl, _, World.drewN_drewN _ _ _⟩ | exact ⟨rfl, _, Eq.trans (World.drewN_drewN _ _ _) (congrArg (World.drewN _) (Nat.add_assoc _ _ _))⟩))); try go_wp2_with (first | ((with_reducible refine gate_dst (N := 1) rfl ?_); (try (refine gate_guard (by rfl) ?_; dsimp only)); refine box_event ?hg (N := 1) ?hd (cs := #[.slice A0_0 l0_0.length c0_0, .slice A0_1 l0_1.length c0_1]) (t := 25) ?hr ?_; (case hd => rfl); (case hg => rfl); (case hr => first | (go_simp; done) | (go_simp; rfl)); intro gb104 hg w7 hbox hb; have BK104 := Aside0.mk (hbox); have GW104 := Aside0.mk (zs_ hg (zw0_ HB)); have GE104 := Aside0.mk (zs_ hg (zw0_ HB)); replace HB := Aside0.mk (below_step (zw0_ HB) hb); clear hb hbox hg; have hcz8_0 := zx_ (v := .slice A0_0 l0_0.length c0_0) BK104 0; have hcz8_1 := zx_ (v := .slice A0_1 l0_1.length c0_1) BK104 1; have hfz8_0 := blk_frozen BK104.out 0; have hfz8_1 := blk_frozen BK104.out 1) | (go_at_call 40; (with_reducible refine (shape_Good.calls k _ _ l0_0 false _ ?side1 ?side2 A2.out).mono ?_); (case side1 => exact zk_ (Kd.C_below HR0_0.out HB.out)); (case side2 => exact HC0_0.out); rintro e w' ⟨rfl, ⟨nd, rfl⟩⟩; (try first | exact ⟨rfl, _, World.drewN_drewN _ _ _⟩ | exact ⟨rfl, _, Eq.trans (World.drewN_drewN _ _ _) (congrArg (World.drewN _) (Nat.add_assoc _ _ _))⟩))))
  go_ret
  exact ⟨z0_, zw1_ HB GE104⟩
 subst c3
 have H1 : ((shape_Size.f k l0_0).bind fun t106 => (some ((l0_1.length : Int) == t106))) = some r := by rw [if_pos rfl] at H; exact H
 clear H
 have H := H1
 clear H1
 replace H := Option.bind_eq_some_iff.mp H
 obtain ⟨t106, A40, H⟩ := H
 replace H : (some ((l0_1.length : Int) == t106)) = some r := H
 have A4 := Aside0.mk A40
 clear A40
 obtain rfl := Option.some.inj H
 go_enter Try.func26, Try.ntmps26
 go_wp2_with (first | ((with_reducible refine gate_dst (N := 1) rfl ?_); (try (refine gate_guard (by rfl) ?_; dsimp only)); refine box_event ?hg (N := 1) ?hd (cs := #[.slice A0_0 l0_0.length c0_0, .slice A0_1 l0_1.length c0_1]) (t := 25) ?hr ?_; (case hd => rfl); (case hg => rfl); (case hr => first | (go_simp; done) | (go_simp; rfl)); intro gb104 hg w5 hbox hb; have BK104 := Aside0.mk (hbox); have GW104 := Aside0.mk (zs_ hg (zw0_ HB)); have GE104 := Aside0.mk (zs_ hg (zw0_ HB)); replace HB := Aside0.mk (below_step (zw0_ HB) hb); clear hb hbox hg; have hcz6_0 := zx_ (v := .slice A0_0 l0_0.length c0_0) BK104 0; have hcz6_1 := zx_ (v := .slice A0_1 l0_1.length c0_1) BK104 1; have hfz6_0 := blk_frozen BK104.out 0; have hfz6_1 := blk_frozen BK104.out 1) | (go_at_call 40; (with_reducible refine (shape_Good.calls k _ _ l0_0 true _ ?side1 ?side2 A2.out).mono ?_); (case side1 => exact zk_ (Kd.C_below HR0_0.out HB.out)); (case side2 => exact HC0_0.out); rintro e w' ⟨rfl, ⟨nd, rfl⟩⟩; (try first | exact ⟨rfl, _, World.drewN_drewN _ _ _⟩ | exact ⟨rfl, _, Eq.trans (World.drewN_drewN _ _ _) (congrArg (World.drewN _) (Nat.add_assoc _ _ _))⟩)) | (go_at_call 41; (with_reducible refine (shape_Size.calls k _ _ l0_0 t106 _ ?side1 ?side2 A4.out).mono ?_); (case side1 => repeat (first | exact (Kd.C_below HR0_0.out (zw1_ HB GE104)) | (with_reducible refine Kd.C_alloc ?_ _) | (with_reducible refine Kd.C_drewN ?_ _) | (with_reducible refine Kd.C_drew ?_))); (case side2 => exact HC0_0.out); rintro e w' ⟨rfl, ⟨nd, rfl⟩⟩; (try first | exact ⟨rfl, _, World.drewN_drewN _ _ _⟩ | exact ⟨rfl, _, Eq.trans (World.drewN_drewN _ _ _) (congrArg (World.drewN _) (Nat.add_assoc _ _ _))⟩)))
 repeat (go_quiet (first | ((with_reducible refine gate_dst (N := 1) rfl ?_); (try (refine gate_guard (by rfl) ?_; dsimp only)); refine box_event ?hg (N := 1) ?hd (cs := #[.slice A0_0 l0_0.length c0_0, .slice A0_1 l0_1.length c0_1]) (t := 25) ?hr ?_; (case hd => rfl); (case hg => rfl); (case hr => first | (go_simp; done) | (go_simp; rfl)); intro gb104 hg w5 hbox hb; have BK104 := Aside0.mk (hbox); have GW104 := Aside0.mk (zs_ hg (zw0_ HB)); have GE104 := Aside0.mk (zs_ hg (zw0_ HB)); replace HB := Aside0.mk (below_step (zw0_ HB) hb); clear hb hbox hg; have hcz6_0 := zx_ (v := .slice A0_0 l0_0.length c0_0) BK104 0; have hcz6_1 := zx_ (v := .slice A0_1 l0_1.length c0_1) BK104 1; have hfz6_0 := blk_frozen BK104.out 0; have hfz6_1 := blk_frozen BK104.out 1) | (go_at_call 40; (with_reducible refine (shape_Good.calls k _ _ l0_0 true _ ?side1 ?side2 A2.out).mono ?_); (case side1 => exact zk_ (Kd.C_below HR0_0.out HB.out)); (case side2 => exact HC0_0.out); rintro e w' ⟨rfl, ⟨nd, rfl⟩⟩; (try first | exact ⟨rfl, _, World.drewN_drewN _ _ _⟩ | exact ⟨rfl, _, Eq.trans (World.drewN_drewN _ _ _) (congrArg (World.drewN _) (Nat.add_assoc _ _ _))⟩)) | (go_at_call 41; (with_reducible refine (shape_Size.calls k _ _ l0_0 t106 _ ?side1 ?side2 A4.out).mono ?_); (case side1 => repeat (first | exact (Kd.C_below HR0_0.out (zw1_ HB GE104)) | (with_reducible refine Kd.C_alloc ?_ _) | (with_reducible refine Kd.C_drewN ?_ _) | (with_reducible refine Kd.C_drew ?_))); (case side2 => exact HC0_0.out); rintro e w' ⟨rfl, ⟨nd, rfl⟩⟩; (try first | exact ⟨rfl, _, World.drewN_drewN _ _ _⟩ | exact ⟨rfl, _, Eq.trans (World.drewN_drewN _ _ _) (congrArg (World.drewN _) (Nat.add_assoc _ _ _))⟩))); try go_wp2_with (first | ((with_reducible refine gate_dst (N := 1) rfl ?_); (try (refine gate_guard (by rfl) ?_; dsimp only)); refine box_event ?hg (N := 1) ?hd (cs := #[.slice A0_0 l0_0.length c0_0, .slice A0_1 l0_1.length c0_1]) (t := 25) ?hr ?_; (case hd => rfl); (case hg => rfl); (case hr => first | (go_simp; done) | (go_simp; rfl)); intro gb104 hg w5 hbox hb; have BK104 := Aside0.mk (hbox); have GW104 := Aside0.mk (zs_ hg (zw0_ HB)); have GE104 := Aside0.mk (zs_ hg (zw0_ HB)); replace HB := Aside0.mk (below_step (zw0_ HB) hb); clear hb hbox hg; have hcz6_0 := zx_ (v := .slice A0_0 l0_0.length c0_0) BK104 0; have hcz6_1 := zx_ (v := .slice A0_1 l0_1.length c0_1) BK104 1; have hfz6_0 := blk_frozen BK104.out 0; have hfz6_1 := blk_frozen BK104.out 1) | (go_at_call 40; (with_reducible refine (shape_Good.calls k _ _ l0_0 true _ ?side1 ?side2 A2.out).mono ?_); (case side1 => exact zk_ (Kd.C_below HR0_0.out HB.out)); (case side2 => exact HC0_0.out); rintro e w' ⟨rfl, ⟨nd, rfl⟩⟩; (try first | exact ⟨rfl, _, World.drewN_drewN _ _ _⟩ | exact ⟨rfl, _, Eq.trans (World.drewN_drewN _ _ _) (congrArg (World.drewN _) (Nat.add_assoc _ _ _))⟩)) | (go_at_call 41; (with_reducible refine (shape_Size.calls k _ _ l0_0 t106 _ ?side1 ?side2 A4.out).mono ?_); (case side1 => repeat (first | exact (Kd.C_below HR0_0.out (zw1_ HB GE104)) | (with_reducible refine Kd.C_alloc ?_ _) | (with_reducible refine Kd.C_drewN ?_ _) | (with_reducible refine Kd.C_drew ?_))); (case side2 => exact HC0_0.out); rintro e w' ⟨rfl, ⟨nd, rfl⟩⟩; (try first | exact ⟨rfl, _, World.drewN_drewN _ _ _⟩ | exact ⟨rfl, _, Eq.trans (World.drewN_drewN _ _ _) (congrArg (World.drewN _) (Nat.add_assoc _ _ _))⟩))))
 go_ret
 exact ⟨z0_, zw1_ HB GE104⟩

/-! ### conv_stepGood: function 27 -/
def conv_stepGood.f (a0 : Int) : Option (Bool) := if a0 ≥ 1 then (some (decide (a0 ≤ 64))) else (some false)
set_option maxHeartbeats 8000000 in
set_option maxRecDepth 100000 in
theorem conv_stepGood.calls (a0 : Int) (r : Bool) (w : World) (h : conv_stepGood.f a0 = some r) :
  Calls Try.prog 27 #[.int .i64 a0] w fun e w' => e = .returned (.bool r) ∧ Drawn0 w w' := by
 have H : (if a0 ≥ 1 then (some (decide (a0 ≤ 64))) else (some false)) = some r := h
 clear h
 by_cases c2 : a0 ≥ 1
 ·rw [if_pos c2] at H
  have c2b0 : decide (1 ≤ a0) = true := decide_eq_true c2
  clear c2
  obtain rfl := Option.some.inj H
  go_enter Try.func27, Try.ntmps27
  go_wp2
  go_ret
  exact ⟨by first | rfl | (simp; done) | (simp [*]; done), by repeat (first | exact Drawn0.refl _ | apply Drawn0.step)⟩
 rw [if_neg c2] at H
 have c2b0 : decide (1 ≤ a0) = false := decide_eq_false c2
 clear c2
 obtain rfl := Option.some.inj H
 go_enter Try.func27, Try.ntmps27
 go_wp2
 go_ret
 exact ⟨by first | rfl | (simp; done) | (simp [*]; done), by repeat (first | exact Drawn0.refl _ | apply Drawn0.step)⟩

/-! ### conv_windows: function 28 -/
def conv_windows.f (a0 : Int) (a1 : Int) (a2 : Int) : Option (Int) := if a1 > a0 then (some 0) else (if a2 = 0 then (none) else (some (wrap64 ((wrap64 (Int.tdiv (wrap64 (a0 - a1)) a2)) + 1))))
set_option maxHeartbeats 8000000 in
set_option maxRecDepth 100000 in
theorem conv_windows.calls (a0 : Int) (a1 : Int) (a2 : Int) (r : Int) (w : World) (h : conv_windows.f a0 a1 a2 = some r) :
  Calls Try.prog 28 #[.int .i64 a0, .int .i64 a1, .int .i64 a2] w fun e w' => e = .returned (.int .i64 r) ∧ Drawn0 w w' := by
 have H : (if a1 > a0 then (some 0) else (if a2 = 0 then (none) else (some (wrap64 ((wrap64 (Int.tdiv (wrap64 (a0 - a1)) a2)) + 1))))) = some r := h
 clear h
 by_cases c4 : a1 > a0
 ·rw [if_pos c4] at H
  have c4b0 : decide (a0 < a1) = true := decide_eq_true c4
  clear c4
  obtain rfl := Option.some.inj H
  go_enter Try.func28, Try.ntmps28
  go_wp2
  go_ret
  exact ⟨by first | rfl | (simp; done) | (simp [*]; done), by repeat (first | exact Drawn0.refl _ | apply Drawn0.step)⟩
 rw [if_neg c4] at H
 have c4b0 : decide (a0 < a1) = false := decide_eq_false c4
 clear c4
 by_cases c5 : a2 = 0
 ·rw [if_pos c5] at H
  exact absurd H (by simp)
 rw [if_neg c5] at H
 have c5b0 : (a2 == 0) = false := beq_eq_false_iff_ne.mpr c5
 have c5b1 : (a2 != 0) = true := bne_iff_ne.mpr c5
 obtain rfl := Option.some.inj H
 go_enter Try.func28, Try.ntmps28
 go_wp2
 go_ret
 exact ⟨by first | rfl | (simp; done) | (simp [*]; done), by repeat (first | exact Drawn0.refl _ | apply Drawn0.step)⟩

/-! ### slices_Clone_int_int: function 54 -/
def slices_Clone_int_int.f (l0 : List Int) : Option (List Int) := if l0.length < 17592186044416 then some l0 else none
set_option maxHeartbeats 8000000 in
set_option maxRecDepth 100000 in
theorem slices_Clone_int_int.calls (A0 : Option Addr) (c0 : Nat) (l0 : List Int) (r : List Int) (w : World) (hr0 : Kd.C (Kd.int .i64) w A0 l0.length l0) (hc0 : l0.length ≤ c0) (h : slices_Clone_int_int.f l0 = some r) :
  Calls Try.prog 54 #[.slice A0 l0.length c0] w fun e w' => ∃ v0_ : Value, e = .returned (v0_) ∧ Kd.R (Kd.int .i64) 3 w' w.heap.size (fun _ => True) v0_ r ∧ Below w.heap.size w w' := by
 have HR0 := Aside0.mk hr0
 have HC0 := Aside0.mk hc0
 clear hc0
 have HB := Aside0.mk (Below.refl w.heap.size w)
 have heq : ∀ (w : World) (a : Option Addr) (n c n' c' : Nat), (binOp .eql 22 (.slice a n c) (.slice none n' c')).run Try.prog w = .ok (.bool a.isNone) w := fun w a n c n' c' => Lib.run_eql_slice_nil w _ _ a n c n' c' Try.underlying22
 unfold slices_Clone_int_int.f at h
 by_cases c3 : l0.length < 17592186044416
 rotate_left
 ·rw [if_neg c3] at h
  cases h
 rw [if_pos c3] at h
 obtain rfl := Option.some.inj h
 have LMc3 := Aside0.mk c3
 clear c3 h
 cases A0 with
 | none =>
  have e0 : l0 = [] := by
   cases l0 with
   | nil => rfl
   | cons x xs => obtain ⟨ad, e, _⟩ := hr0.2.2 (by simp); cases e
  subst e0
  clear hr0
  go_enter Try.func54, Try.ntmps54
  go_wp2
  go_ret
  exact ⟨_, rfl, Kd.R_nil _ _ _ _ _, Below.refl _ _⟩
 | some a0 =>
  clear hr0
  obtain ⟨y0, hy0⟩ : ∃ y_ : List Int, y_ = (([] : List Int)) := ⟨_, rfl⟩
  have Ny0 := Aside0.mk hy0
  have LMc4 : Aside0 (y0.length + l0.length < 17592186044416) := ⟨by rw [hy0]; simpa using LMc3.out⟩
  obtain ⟨y1, hy1⟩ : ∃ y_ : List Int, y_ = y0 ++ l0 := ⟨_, rfl⟩
  have e1 : y1 = l0 := by rw [hy1, hy0]; rfl
  have Ny1 := Aside0.mk hy1
  have E1 := Aside0.mk e1
  clear hy0 hy1 e1
  go_enter Try.func54, Try.ntmps54
  go_wp2_with (first | ((with_reducible refine gate_dst (N := 5) rfl ?_); refine Kd.R_lit (Kd.int .i64) _ 3 ?hg (N := 5) ?hd (xs := ([] : List Int)) (inner := []) (ok := fun _ => True) (okp := fun _ => True) ?hr ?hp (fun _ hk => hk) trivial (Below.refl _ _) (Nat.le_refl _) (by simp) ?_; (case hd => rfl); (case hg => rfl); (case hr => first | (go_simp; done) | (go_simp; rfl)); (case hp => exact (Reps.none _ _)); intro v182 w8 ho9 hb hg_ hnew_; clear hg_ hnew_; rw [← Ny0.out] at ho9; have n0_ := Aside0.mk (Kd.R_lower ho9 (below_size (zw0_ HB))); have n2_ := Aside0.mk (below_step (zw0_ HB) hb); clear HB; have HO183 := n0_; have HB := n2_; clear n0_ n2_; clear hb ho9) | ((with_reducible refine gate_builtin (b := .append) (xs := #[.tmp 5, .tmp 6]) rfl ?_); at_builtin; refine Kd.R_append_rows (Kd.int .i64) (w0 := w) w.heap.size rfl (.tmp 5) (.tmp 6) 22 3 (.int .i64 0) 8 rfl Try.underlying22 info3 rfl (by decide) (by omega) v182 y0 l0 _ _ _ (fun _ => True) (fun _ => False) rfl rfl ?aO ?aR (fun _ _ h => h) (fun _ h => h.elim) ?aF ?aB ?aS ?aL ?_; (case aR => exact zk_ (Kd.C_below HR0.out HB.out)); (case aB => exact (zw0_ HB)); (case aF => exact (fun _ _ => trivial)); (case aO => exact (zr_ HO183.out)); (case aS => exact (below_size (zw0_ HB))); (case aL => have := LMc4.out; omega); intro v185 w10 ho hb hg hat; rw [← Ny1.out] at ho; have n1_ := Aside0.mk (hb); have n2_ := Aside0.mk (ho); clear HB HO183; have HB := n1_; have HO186 := n2_; clear n1_ n2_; clear ho hb hg hat))
  go_ret
  exact ⟨_, rfl, by rw [← E1.out]; exact HO186.out, HB.out⟩

/-! ### bits_Mul64: function 56 -/
def bits_Mul64.f (a0 : Int) (a1 : Int) : Option (Int × Int) := some (IntKind.u64.wrap ((IntKind.u64.wrap ((IntKind.u64.wrap ((a0 / 4294967296) * (a1 / 4294967296))) + ((IntKind.u64.wrap ((IntKind.u64.wrap ((a0 / 4294967296) * (Go.bits .and .u64 a1 4294967295))) + ((IntKind.u64.wrap ((Go.bits .and .u64 a0 4294967295) * (Go.bits .and .u64 a1 4294967295))) / 4294967296))) / 4294967296))) + ((IntKind.u64.wrap ((Go.bits .and .u64 (IntKind.u64.wrap ((IntKind.u64.wrap ((a0 / 4294967296) * (Go.bits .and .u64 a1 4294967295))) + ((IntKind.u64.wrap ((Go.bits .and .u64 a0 4294967295) * (Go.bits .and .u64 a1 4294967295))) / 4294967296))) 4294967295) + (IntKind.u64.wrap ((Go.bits .and .u64 a0 4294967295) * (a1 / 4294967296))))) / 4294967296)), IntKind.u64.wrap (a0 * a1))
set_option maxHeartbeats 8000000 in
set_option maxRecDepth 100000 in
theorem bits_Mul64.calls (a0 : Int) (a1 : Int) (r1 : Int) (r2 : Int) (w : World) (h : bits_Mul64.f a0 a1 = some (r1, r2)) :
  Calls Try.prog 56 #[.int .u64 a0, .int .u64 a1] w fun e w' => e = .returned (.tuple #[.int .u64 r1, .int .u64 r2]) ∧ Drawn0 w w' := by
 have H : (some (IntKind.u64.wrap ((IntKind.u64.wrap ((IntKind.u64.wrap ((a0 / 4294967296) * (a1 / 4294967296))) + ((IntKind.u64.wrap ((IntKind.u64.wrap ((a0 / 4294967296) * (Go.bits .and .u64 a1 4294967295))) + ((IntKind.u64.wrap ((Go.bits .and .u64 a0 4294967295) * (Go.bits .and .u64 a1 4294967295))) / 4294967296))) / 4294967296))) + ((IntKind.u64.wrap ((Go.bits .and .u64 (IntKind.u64.wrap ((IntKind.u64.wrap ((a0 / 4294967296) * (Go.bits .and .u64 a1 4294967295))) + ((IntKind.u64.wrap ((Go.bits .and .u64 a0 4294967295) * (Go.bits .and .u64 a1 4294967295))) / 4294967296))) 4294967295) + (IntKind.u64.wrap ((Go.bits .and .u64 a0 4294967295) * (a1 / 4294967296))))) / 4294967296)), IntKind.u64.wrap (a0 * a1))) = some (r1, r2) := h
 clear h
 simp only [Option.some.injEq, Prod.mk.injEq] at H
 obtain ⟨rfl, rfl⟩ := H
 go_enter Try.func56, Try.ntmps56
 go_wp2
 go_ret2
 exact ⟨by first | rfl | (simp; done) | (simp [*]; done), by repeat (first | exact Drawn0.refl _ | apply Drawn0.step)⟩

/-! ### bits_Mul32: function 64 -/
def bits_Mul32.f (a0 : Int) (a1 : Int) : Option (Int × Int) := some (((IntKind.u64.wrap ((IntKind.u64.wrap (a0)) * (IntKind.u64.wrap (a1)))) / 4294967296) % 4294967296, (IntKind.u64.wrap ((IntKind.u64.wrap (a0)) * (IntKind.u64.wrap (a1)))) % 4294967296)
set_option maxHeartbeats 8000000 in
set_option maxRecDepth 100000 in
theorem bits_Mul32.calls (a0 : Int) (a1 : Int) (r1 : Int) (r2 : Int) (w : World) (h : bits_Mul32.f a0 a1 = some (r1, r2)) :
  Calls Try.prog 64 #[.int .u32 a0, .int .u32 a1] w fun e w' => e = .returned (.tuple #[.int .u32 r1, .int .u32 r2]) ∧ Drawn0 w w' := by
 have H : (some (((IntKind.u64.wrap ((IntKind.u64.wrap (a0)) * (IntKind.u64.wrap (a1)))) / 4294967296) % 4294967296, (IntKind.u64.wrap ((IntKind.u64.wrap (a0)) * (IntKind.u64.wrap (a1)))) % 4294967296)) = some (r1, r2) := h
 clear h
 simp only [Option.some.injEq, Prod.mk.injEq] at H
 obtain ⟨rfl, rfl⟩ := H
 go_enter Try.func64, Try.ntmps64
 go_wp2
 go_ret2
 exact ⟨by first | rfl | (simp; done) | (simp [*]; done), by repeat (first | exact Drawn0.refl _ | apply Drawn0.step)⟩

/-! ### bits_Mul: function 62 -/
def bits_Mul.f (a0 : Int) (a1 : Int) : Option (Int × Int) := (bits_Mul64.f a0 a1).bind fun bt107 => (some (bt107.1, bt107.2))
set_option maxHeartbeats 8000000 in
set_option maxRecDepth 100000 in
theorem bits_Mul.calls (a0 : Int) (a1 : Int) (r1 : Int) (r2 : Int) (w : World) (h : bits_Mul.f a0 a1 = some (r1, r2)) :
  Calls Try.prog 62 #[.int .u64 a0, .int .u64 a1] w fun e w' => e = .returned (.tuple #[.int .u64 r1, .int .u64 r2]) ∧ Drawn0 w w' := by
 have H : ((bits_Mul64.f a0 a1).bind fun bt107 => (some (bt107.1, bt107.2))) = some (r1, r2) := h
 clear h
 replace H := Option.bind_eq_some_iff.mp H
 obtain ⟨⟨t107, t108⟩, A30, H⟩ := H
 replace H : (some (t107, t108)) = some (r1, r2) := H
 have A3 := Aside0.mk A30
 clear A30
 simp only [Option.some.injEq, Prod.mk.injEq] at H
 obtain ⟨rfl, rfl⟩ := H
 go_enter Try.func62, Try.ntmps62
 go_wp2_with (first | ((with_reducible refine gate_callee (f := 56) rfl ?_); refine zg_ (some 25) Try.func56 #[.int .u64 a0, .int .u64 a1] (h := ?_); (with_reducible refine (bits_Mul64.calls a0 a1 t107 t108 _ A3.out).mono ?_); rintro e w' ⟨rfl, ⟨nd, rfl⟩⟩; refine ⟨_, rfl, ?_⟩))
 go_ret2
 exact ⟨by first | rfl | (simp; done) | (simp [*]; done), by repeat (first | exact Drawn0.refl _ | apply Drawn0.step)⟩

/-! ### slices_Repeat_Fix: function 55 -/
def rrow_ (v : Int) (k n : Nat) (rest : List Value) : List Value := List.replicate k (.int .i64 v) ++ (List.replicate (n - k) (.int .i64 0) ++ rest)
theorem rrow_len (v : Int) (k n : Nat) (rest : List Value) (h : k ≤ n) : (rrow_ v k n rest).length = n + rest.length := by simp [rrow_]; omega
theorem rrow_splice (v : Int) (k n m : Nat) (rest : List Value) (h : k + m ≤ n) : splice (rrow_ v k n rest) k (List.replicate m (.int .i64 v)) = rrow_ v (k + m) n rest := by
 unfold splice rrow_
 have e : (List.replicate k (Value.int .i64 v) ++ (List.replicate (n - k) (Value.int .i64 0) ++ rest)).drop (k + (List.replicate m (Value.int .i64 v)).length) = List.replicate (n - (k + m)) (Value.int .i64 0) ++ rest := by
  rw [List.length_replicate, List.drop_append, List.drop_of_length_le (by simp), List.length_replicate, List.nil_append, List.drop_append, List.drop_replicate, List.length_replicate, show k + m - k - (n - k) = 0 by omega, List.drop_zero]
  congr 2; omega
 rw [e, List.take_left' (by simp), ← List.replicate_append_replicate, List.append_assoc]
theorem rrow_get (v : Int) (k n : Nat) (rest : List Value) (j : Nat) (h : j < k) : (rrow_ v k n rest)[j]? = some (.int .i64 v) := by
 unfold rrow_
 rw [List.getElem?_append_left (by simpa using h), List.getElem?_replicate, if_pos h]
theorem row_open_ {e : Nat} {w : World} {base : Nat} {ok : Nat → Prop} {x : Value} {n : Nat} (h : Kd.R (Kd.int .i64) e w base ok x (List.replicate n 0)) (hn : 0 < n) :
  ∃ g cap rest, x = .slice (some ⟨g, 0, none⟩) n cap ∧ base ≤ g ∧ n ≤ cap ∧ cap = n + rest.length ∧ cap ≤ maxLen ∧ w.heap[g]? = some (.cells (rrow_ 0 0 n rest).toArray e (0, 0)) := by
 have ho := Kd.own_of_R h
 obtain ⟨h1, h2⟩ := ho
 rcases h2 with ⟨_, h3⟩ | ⟨g, cap, cur, hv, hb, hh, hnc, hcm, hcs, htake⟩
 ·simp at h3; omega
 ·have hl : (List.replicate n (0 : Int)).length = n := List.length_replicate ..
  rw [hl] at hv hnc htake
  rw [Nat.mul_one] at htake hcs
  refine ⟨g, cap, cur.toList.drop n, hv, hb, hnc, ?_, hcm, ?_⟩
  ·simp; omega
  ·have e : rrow_ 0 0 n (cur.toList.drop n) = cur.toList := by
    unfold rrow_
    have : List.replicate (n - 0) (Value.int .i64 0) = cur.toList.take n := by rw [htake]; unfold encs; simp
    rw [this, List.replicate_zero, List.nil_append, List.take_append_drop]
   rw [e]
   exact hh
theorem one_cells_ {w : World} {A : Option Addr} {v : Int} (h : Kd.C (Kd.int .i64) w A [v].length [v]) : ∃ ad, A = some ad ∧ ∀ j u, ([Value.int .i64 v] : List Value)[j]? = some u → w.cell? (ad.add j) = some u := by
 obtain ⟨h1, h2, h3⟩ := h
 obtain ⟨ad, e, hc⟩ := h3 (by simp)
 refine ⟨ad, e, fun j u hj => ?_⟩
 obtain ⟨c, hs, hk, hcell⟩ := hc 0 v rfl
 have hk' : c = [.int .i64 v] := hk
 subst hk'
 match j, hj with
 | 0, hj => exact hcell 0 u hj
theorem rrow_one (v : Int) (n : Nat) (rest : List Value) (h : 1 ≤ n) : splice (rrow_ 0 0 n rest) 0 [.int .i64 v] = rrow_ v 1 n rest := rrow_splice v 0 n 1 rest (by omega)
theorem row_shut_ {e : Nat} {w : World} {base g cap n : Nat} {v : Int} {rest : List Value} (hh : w.heap[g]? = some (.cells (rrow_ v n n rest).toArray e (0, 0))) (hb : base ≤ g) (hnc : n ≤ cap) (hcm : cap ≤ maxLen) (hcr : cap = n + rest.length) :
  Kd.R (Kd.int .i64) e w base (fun _ => True) (.slice (some ⟨g, 0, none⟩) n cap) (List.replicate n v) := by
 refine Kd.R_of_own ⟨by simp [encs], .inr ⟨g, cap, (rrow_ v n n rest).toArray, ?_, hb, hh, ?_, hcm, ?_, ?_⟩⟩ (fun _ _ => trivial)
 ·rw [List.length_replicate]
 ·rw [List.length_replicate]; exact hnc
 ·simp [rrow_len v n n rest (Nat.le_refl _)]; omega
 ·rw [List.length_replicate]
  unfold rrow_ encs
  simp
theorem rrow_cells_ {w : World} {g k n m e : Nat} {v : Int} {rest : List Value} (hh : w.heap[g]? = some (.cells (rrow_ v k n rest).toArray e (0, 0))) (h : m ≤ k) : ∀ j u, (List.replicate m (Value.int .i64 v))[j]? = some u → w.cell? ((⟨g, 0, none⟩ : Addr).add j) = some u := by
 intro j u hj
 have hm : j < m := by
  have := (List.getElem?_eq_some_iff.1 hj).1
  simpa using this
 rw [List.getElem?_replicate, if_pos hm] at hj
 rw [← hj]
 have := blk_cell hh j
 rw [show (⟨g, 0, none⟩ : Addr).add j = ⟨g, j, none⟩ by simp [Addr.add]; omega, this, List.getElem?_toArray]
 exact rrow_get v k n rest j (by omega)
theorem wrap_small_ {k m : Nat} (h : k + m ≤ 4096) : Value.int .i64 (IntKind.i64.wrap ((k : Int) + (m : Int))) = .int .i64 ((k + m : Nat) : Int) := by
 congr 1
 simp only [IntKind.wrap, IntKind.bits, IntKind.signed]
 simp
 omega
theorem info33s_ : (Try.prog.info? 33).map (·.size) = some 1 := by kernel_rfl
def slices_Repeat_Fix.f (l0 : List Int) (a1 : Int) : Option (List Int) := (bits_Mul.f 1 a1).bind fun p => if l0.length = 1 ∧ 1 ≤ a1 ∧ a1 ≤ 4096 ∧ p.1 = 0 ∧ p.2 = a1 then some (List.replicate a1.toNat (rd l0 0)) else none
set_option maxHeartbeats 4000000 in
set_option maxRecDepth 100000 in
theorem slices_Repeat_Fix.calls (A0 : Option Addr) (c0 : Nat) (l0 : List Int) (a1 : Int) (r : List Int) (w : World) (hr0 : Kd.C (Kd.int .i64) w A0 l0.length l0) (hc0 : l0.length ≤ c0) (h : slices_Repeat_Fix.f l0 a1 = some r) :
  Calls Try.prog 55 #[.slice A0 l0.length c0, .int .i64 a1] w fun e w' => ∃ v0_ : Value, e = .returned (v0_) ∧ Kd.R (Kd.int .i64) 33 w' w.heap.size (fun _ => True) v0_ r ∧ Below w.heap.size w w' := by
 unfold slices_Repeat_Fix.f at h
 replace h := Option.bind_eq_some_iff.mp h
 obtain ⟨⟨hi, lo⟩, hmul, h⟩ := h
 by_cases hc : l0.length = 1 ∧ 1 ≤ a1 ∧ a1 ≤ 4096 ∧ hi = 0 ∧ lo = a1
 case neg => rw [if_neg hc] at h; cases h
 rw [if_pos hc] at h
 obtain ⟨hl, h1, h2, rfl, rfl⟩ := hc
 obtain rfl := Option.some.inj h
 clear h
 have HM := Aside0.mk hmul
 have HR0 := Aside0.mk hr0
 obtain ⟨N, rfl⟩ := Int.eq_ofNat_of_zero_le (show 0 ≤ lo by omega)
 obtain ⟨v, rfl⟩ : ∃ v, l0 = [v] := List.length_eq_one_iff.mp hl
 have n1 : 1 ≤ N := by omega
 have n2 : N ≤ 4096 := by omega
 clear hmul hr0 hl h1 h2 hc0
 have HB := Aside0.mk (Below.refl w.heap.size w)
 go_enter Try.func55, Try.ntmps55
 have hgt : decide (9223372036854775807 < (N : Int)) = false := decide_eq_false (by omega)
 go_wp2_with (first | (go_at_call 62; (with_reducible refine (bits_Mul.calls 1 N 0 N _ HM.out).mono ?_); rintro e w' ⟨rfl, ⟨nd, rfl⟩⟩) | ((with_reducible refine gate_dst (N := 30) rfl ?_); refine Kd.R_make (Kd.int .i64) _ 33 rfl (N := 30) rfl 23 _ _ rfl (N : Int) rfl rfl Try.underlying23 (.int .i64 0) 8 info33 rfl (by decide) (by omega) 0 (ok := fun _ => True) (okp := fun _ => True) rfl (fun _ hk => hk) trivial (by omega) (by omega) (Below.refl _ _) (Nat.le_refl _) ?_; intro v1 w1 ho hb hg_ hnew_; clear hg_ hnew_; have n0_ := Aside0.mk (below_step (zw0_ HB) hb); obtain ⟨g, cap, rest, rfl, hgb, hnc, hcr, hcm, hh⟩ := row_open_ (n := N) ho (by omega); have HH := Aside0.mk hh; have GB := Aside0.mk (Nat.le_trans (below_size (zw0_ HB)) hgb); have HCR := Aside0.mk hcr; have HCM := Aside0.mk hcm; have HNC := Aside0.mk hnc; clear ho hb hh hgb HB hcr hcm hnc; have HB := n0_; clear n0_) | (refine gate_dst (N := 33) rfl ?_; refine wpList_copy_splice rfl (.tmp 31) (.tmp 32) 23 23 rfl 33 Try.underlying23 info33s_ (some ⟨g, 0, none⟩) A0 N cap 1 c0 rfl rfl g 0 (rrow_ 0 0 N rest) 33 HH.out [.int .i64 v] ?c1 ?c2 ?c3 ?c4 w.heap.size w HB.out GB.out ?_; (case c1 => show 1 = Nat.min 1 N; exact (Nat.min_eq_left (by omega)).symm); (case c2 => exact fun _ => ⟨rfl, one_cells_ (Kd.C_below HR0.out HB.out)⟩); (case c3 => rw [rrow_len _ _ _ _ (by omega)]; show 0 + 1 ≤ N + rest.length; omega); (case c4 => intro u hu; rw [List.mem_singleton.1 hu]; rfl); intro w2 hh2 hb2; have HH2 := Aside0.mk (hh2.out); have HB2 := Aside0.mk hb2; clear hh2 hb2; rw [rrow_one _ _ _ n1] at HH2; clear HH HB))
 go_loopg [8] (N - 1) (fun kq v8 w' => ∃ k : Nat, v8 = .int .i64 k ∧ Aside0 (1 ≤ k ∧ k ≤ N) ∧ Aside0 (kq = N - k) ∧ Aside0 (w'.heap[g]? = some (.cells (rrow_ v k N rest).toArray 33 (0, 0))) ∧ Aside0 (Below w.heap.size w w'))
 case atStart => exact ⟨1, rfl, ⟨by omega⟩, ⟨rfl⟩, HH2, HB2⟩
 case round =>
  obtain ⟨k, rfl, HK, HQ, HH3, HB3⟩ := hrel
  by_cases c : k < N
  case neg =>
   have kn : k = N := by have := HK.out; omega
   subst kn
   have hd : decide (k < k) = false := by simp
   clear c
   go_wp2
   go_ret
   exact ⟨_, rfl, row_shut_ HH3.out GB.out HNC.out HCM.out HCR.out, HB3.out⟩
  case pos =>
   have hd : decide (k < N) = true := by simp [c]
   have hkc : k ≤ cap := by have := HNC.out; omega
   have hk2 : k ≤ N := by omega
   have hck : (cap = k) = False := eq_false (by have := HNC.out; omega)
   have hp : 0 < min k (N - k) ∧ k + min k (N - k) ≤ N := by have := HK.out; omega
   have HP := Aside0.mk hp
   clear c hp
   go_wp2
   go_region_law (refine step_copy_splice rfl (.tmp 41) (.tmp 44) 23 23 rfl 33 Try.underlying23 info33s_ (some ⟨g, k, none⟩) (some ⟨g, 0, none⟩) (N - k) (cap - k) k cap ?d1 ?d2 g k (rrow_ v k N rest) 33 (by first | exact HH3.out | exact blk_drew HH3.out | exact blk_drewN HH3.out _) (List.replicate (min k (N - k)) (.int .i64 v)) ?c1 ?c2 ?c3 ?c4 w.heap.size w (by repeat (first | exact HB3.out | apply below_drew1 | apply pw_below_drewN)) GB.out ?_; (case d1 => first | (go_simp; done) | (go_simp; rfl)); (case d2 => first | (go_simp; done) | (go_simp; rfl)); (case c1 => exact List.length_replicate ..); (case c2 => exact fun _ => ⟨rfl, _, rfl, rrow_cells_ (by first | exact HH3.out | exact blk_drew HH3.out | exact blk_drewN HH3.out _) (Nat.min_le_left _ _)⟩); (case c3 => rw [rrow_len _ _ _ _ hk2, List.length_replicate]; have := HP.out; omega); (case c4 => intro u hu; rw [(List.mem_replicate.1 hu).2]; rfl); intro w4 hh4 hb4; have HH4 := Aside0.mk (hh4.out); have HB4 := Aside0.mk hb4; clear hh4 hb4; rw [rrow_splice _ _ _ _ _ HP.out.2] at HH4)
   go_wp2
   go_roundg (N - (k + min k (N - k)))
   case measure => have := HQ.out; have := HP.out; omega
   case rel => exact ⟨k + min k (N - k), wrap_small_ (by have := HP.out; omega), ⟨by have := HP.out; omega⟩, ⟨rfl⟩, HH4, HB4⟩

/-! ### tens_New: function 42 -/
def tens_New.f (k : Nat) (l0 : List Int) (a1 : Int) : Option (List Int × List Int × Int) := (shape_Good.f k l0).bind fun t110 => (if t110 = true then ((slices_Clone_int_int.f l0).bind fun t111 => ((shape_Size.f k l0).bind fun t117 => ((slices_Repeat_Fix.f (([a1] : List Int)) t117).bind fun t118 => (some (t111, t118, 0))))) else (some (([] : List Int), ([] : List Int), 1)))
theorem tens_New.mono : ∀ a0 a1 k, LeO (tens_New.f k a0 a1) (tens_New.f (k + 1) a0 a1) := by
 intro a0 a1 k
 unfold tens_New.f
 repeat' first
   | (with_reducible exact shape_Good.mono _ _)
   | (with_reducible exact shape_Size.mono _ _)
   | (with_reducible exact LeO.refl _)
   | (with_reducible exact LeO.none _)
   | (with_reducible refine LeO.ite ?_ ?_)
   | (with_reducible refine LeO.bind ?_ (fun _ => ?_))
   | exact shape_Good.mono _ _
   | exact shape_Size.mono _ _
   | exact LeO.none _
   | refine LeO.ite ?_ ?_
   | refine LeO.bind ?_ (fun _ => ?_)
set_option maxHeartbeats 8000000 in
set_option maxRecDepth 100000 in
theorem tens_New.calls (k : Nat) (A0 : Option Addr) (c0 : Nat) (l0 : List Int) (a1 : Int) (r1 : List Int) (r2 : List Int) (r3 : Int) (w : World) (hr0 : Kd.C (Kd.int .i64) w A0 l0.length l0) (hc0 : l0.length ≤ c0) (h : tens_New.f k l0 a1 = some (r1, r2, r3)) :
  Calls Try.prog 42 #[.slice A0 l0.length c0, .int .i64 a1] w fun e w' => ∃ v0_ v1_ : Value, e = .returned (.tuple #[.agg #[v0_, v1_], .int .i64 r3]) ∧ Kd.R (Kd.int .i64) 3 w' w.heap.size (fun _ => True) v0_ r1 ∧ Kd.R (Kd.int .i64) 33 w' w.heap.size (fun _ => True) v1_ r2 ∧ Below w.heap.size w w' := by
 have hu25 := Try.underlying25
 have HR0 := Aside0.mk hr0
 have HC0 := Aside0.mk hc0
 clear hr0 hc0
 have HB := Aside0.mk (Below.refl w.heap.size w)
 have H : ((shape_Good.f k l0).bind fun t110 => (if t110 = true then ((slices_Clone_int_int.f l0).bind fun t111 => ((shape_Size.f k l0).bind fun t117 => ((slices_Repeat_Fix.f (([a1] : List Int)) t117).bind fun t118 => (some (t111, t118, 0))))) else (some (([] : List Int), ([] : List Int), 1)))) = some (r1, r2, r3) := h
 clear h
 replace H := Option.bind_eq_some_iff.mp H
 obtain ⟨t110, A30, H⟩ := H
 (try dsimp only at H)
 have A3 := Aside0.mk A30
 clear A30
 by_cases c4 : t110 = true
 rotate_left
 ·replace c4 := Bool.eq_false_iff.mpr c4
  subst c4
  have H1 : (some (([] : List Int), ([] : List Int), 1)) = some (r1, r2, r3) := by rw [if_neg (show ¬ (false = true) by decide)] at H; exact H
  clear H
  have H := H1
  clear H1
  simp only [Option.some.injEq, Prod.mk.injEq] at H
  obtain ⟨rfl, rfl, rfl⟩ := H
  go_enter Try.func42, Try.ntmps42
  go_wp2_with (first | ((with_reducible refine gate_dst (N := 4) rfl ?_); refine box_event ?hg (N := 4) ?hd (cs := #[.slice none 0 0, .slice none 0 0]) (t := 25) ?hr ?_; (case hd => rfl); (case hg => rfl); (case hr => first | (go_simp; done) | (go_simp; rfl)); intro gb109 hg w17 hbox hb; have BK109 := Aside0.mk (hbox); have GW109 := Aside0.mk (zs_ hg (zw0_ HB)); have GE109 := Aside0.mk (zs_ hg (zw0_ HB)); replace HB := Aside0.mk (below_step (zw0_ HB) hb); clear hb hbox hg) | ((with_reducible refine gate_callee (f := 40) rfl ?_); refine zg_ (some 7) Try.func40 #[.slice A0 l0.length c0] (h := ?_); (with_reducible refine (shape_Good.calls k _ _ l0 false _ ?side1 ?side2 A3.out).mono ?_); (case side1 => exact zk_ (Kd.C_below HR0.out HB.out)); (case side2 => exact HC0.out); rintro e w' ⟨rfl, ⟨nd, rfl⟩⟩; refine ⟨_, rfl, ?_⟩; (try (rw [drewN_self w17]; generalize hq_ : World.drewN w17 _ = w17; have n0_ : Aside0 (w17.heap[gb109]? = some (.cells #[.slice none 0 0, .slice none 0 0] 25 (0, 0))) := ⟨by rw [← hq_]; exact (zb_ BK109)⟩; have n1_ : Aside0 (Below w.heap.size w w17) := ⟨by rw [← hq_]; exact (zw1_ HB GE109)⟩; clear BK109 HB hq_; have BK109 := n0_; have HB := n1_; clear n0_ n1_)); have hcz18_0 := zx_ (v := .slice none 0 0) BK109 0; have hcz18_1 := zx_ (v := .slice none 0 0) BK109 1; have hfz18_0 := blk_frozen BK109.out 0; have hfz18_1 := blk_frozen BK109.out 1))
  refine bodyPost_ret (results_ct rfl _ _ gb109 25 #[.slice none 0 0, .slice none 0 0] (0, 0) _ rfl (zo2_ BK109) Try.underlying25 rfl (by kernel_rfl)) rfl ?_
  exact ⟨_, _, z0_, z2_, z2_, zw1_ HB GE109⟩
 subst c4
 have H1 := H
 rw [if_pos rfl] at H1
 clear H
 have H := H1
 clear H1
 replace H := Option.bind_eq_some_iff.mp H
 obtain ⟨t111, A50, H⟩ := H
 (try dsimp only at H)
 have A5 := Aside0.mk A50
 clear A50
 obtain ⟨y114, hy114⟩ : ∃ y_ : List Int, y_ = (([a1] : List Int)) := ⟨_, rfl⟩
 replace H : ((shape_Size.f k l0).bind fun t117 => ((slices_Repeat_Fix.f y114 t117).bind fun t118 => (some (t111, t118, 0)))) = some (r1, r2, r3) := by first | (rw [hy114]; with_reducible exact H) | (have H2_ := (Option.bind_some _ _).symm.trans H; rw [hy114]; with_reducible exact H2_) | (have H2_ := (Option.bind_some _ _).symm.trans H; with_reducible exact H2_) | with_reducible exact H | (rw [hy114]; exact H) | exact H
 have Ny114 := Aside0.mk hy114
 clear hy114
 replace H := Option.bind_eq_some_iff.mp H
 obtain ⟨t117, A60, H⟩ := H
 replace H : ((slices_Repeat_Fix.f y114 t117).bind fun t118 => (some (t111, t118, 0))) = some (r1, r2, r3) := H
 have A6 := Aside0.mk A60
 clear A60
 replace H := Option.bind_eq_some_iff.mp H
 obtain ⟨t118, A70, H⟩ := H
 replace H : (some (t111, t118, 0)) = some (r1, r2, r3) := H
 have A7 := Aside0.mk A70
 clear A70
 simp only [Option.some.injEq, Prod.mk.injEq] at H
 obtain ⟨rfl, rfl, rfl⟩ := H
 go_enter Try.func42, Try.ntmps42
 go_wp2_with (first | ((with_reducible refine gate_dst (N := 4) rfl ?_); refine box_event ?hg (N := 4) ?hd (cs := #[.slice none 0 0, .slice none 0 0]) (t := 25) ?hr ?_; (case hd => rfl); (case hg => rfl); (case hr => first | (go_simp; done) | (go_simp; rfl)); intro gb109 hg w8 hbox hb; have BK109 := Aside0.mk (hbox); have GW109 := Aside0.mk (zs_ hg (zw0_ HB)); have GE109 := Aside0.mk (zs_ hg (zw0_ HB)); replace HB := Aside0.mk (below_step (zw0_ HB) hb); clear hb hbox hg) | ((with_reducible refine gate_callee (f := 40) rfl ?_); refine zg_ (some 7) Try.func40 #[.slice A0 l0.length c0] (h := ?_); (with_reducible refine (shape_Good.calls k _ _ l0 true _ ?side1 ?side2 A3.out).mono ?_); (case side1 => exact zk_ (Kd.C_below HR0.out HB.out)); (case side2 => exact HC0.out); rintro e w' ⟨rfl, ⟨nd, rfl⟩⟩; refine ⟨_, rfl, ?_⟩; (try (rw [drewN_self w8]; generalize hq_ : World.drewN w8 _ = w8; have n0_ : Aside0 (w8.heap[gb109]? = some (.cells #[.slice none 0 0, .slice none 0 0] 25 (0, 0))) := ⟨by rw [← hq_]; exact (zb_ BK109)⟩; have n1_ : Aside0 (Below w.heap.size w w8) := ⟨by rw [← hq_]; exact (zw1_ HB GE109)⟩; clear BK109 HB hq_; have BK109 := n0_; have HB := n1_; clear n0_ n1_))) | ((with_reducible refine gate_callee (f := 54) rfl ?_); refine zg_ (some 11) Try.func54 #[.slice A0 l0.length c0] (h := ?_); (with_reducible refine (slices_Clone_int_int.calls _ _ l0 t111 _ ?side1 ?side2 A5.out).mono ?_); (case side1 => exact zk_ (Kd.C_below HR0.out HB.out)); (case side2 => exact HC0.out); rintro e w9 ⟨v112, rfl, ho0, hb⟩; refine ⟨_, rfl, ?_⟩; have HO113 := Aside0.mk (Kd.R_lower ho0 (below_size (zw1_ HB GE109))); replace BK109 := za_ BK109 hb; replace HB := Aside0.mk (below_step (zw1_ HB GE109) hb); (try clear hb); (try clear ho0)) | ((with_reducible refine gate_dst (N := 13) rfl ?_); refine Kd.R_lit (Kd.int .i64) _ 33 ?hg (N := 13) ?hd (xs := ([a1] : List Int)) (inner := [.int .i64 a1]) (ok := fun _ => True) (okp := fun _ => True) ?hr ?hp (fun _ hk => hk) trivial (Below.refl _ _) (Nat.le_refl _) (by simp) ?_; (case hd => rfl); (case hg => rfl); (case hr => first | (go_simp; done) | (go_simp; rfl)); (case hp => exact (Reps.one (show Kd.M (Kd.int .i64) _ _ _ a1 [.int .i64 a1] from rfl) (Reps.none _ _))); intro v115 w10 ho11 hb hg_ hnew_; clear hg_ hnew_; (first | rw [← Ny114.out] at ho11 | (simp only [Int.reduceToNat] at ho11; rw [← Ny114.out] at ho11)); replace HO113 := zy_ HO113 hb; have HO116 := Aside0.mk (Kd.R_lower ho11 (below_size (zw1_ HB GE109))); replace BK109 := za_ BK109 hb; replace HB := Aside0.mk (below_step (zw1_ HB GE109) hb); clear hb ho11) | ((with_reducible refine gate_callee (f := 41) rfl ?_); refine zg_ (some 15) Try.func41 #[.slice A0 l0.length c0] (h := ?_); (with_reducible refine (shape_Size.calls k _ _ l0 t117 _ ?side1 ?side2 A6.out).mono ?_); (case side1 => exact zk_ (Kd.C_below HR0.out HB.out)); (case side2 => exact HC0.out); rintro e w' ⟨rfl, ⟨nd, rfl⟩⟩; refine ⟨_, rfl, ?_⟩; (try (rw [drewN_self w10]; generalize hq_ : World.drewN w10 _ = w10; have n0_ : Aside0 (Kd.R (Kd.int .i64) 3 w10 w.heap.size (fun _ => True) v112 t111) := ⟨by rw [← hq_]; exact (zr_ HO113.out)⟩; have n1_ : Aside0 (Kd.R (Kd.int .i64) 33 w10 w.heap.size (fun _ => True) v115 y114) := ⟨by rw [← hq_]; exact (zr_ HO116.out)⟩; have n2_ : Aside0 (w10.heap[gb109]? = some (.cells #[.slice none 0 0, .slice none 0 0] 25 (0, 0))) := ⟨by rw [← hq_]; exact (zb_ BK109)⟩; have n3_ : Aside0 (Below w.heap.size w w10) := ⟨by rw [← hq_]; exact (zw1_ HB GE109)⟩; clear HO113 HO116 BK109 HB hq_; have HO113 := n0_; have HO116 := n1_; have BK109 := n2_; have HB := n3_; clear n0_ n1_ n2_ n3_)); obtain ⟨Ao12, co12, eo12⟩ := Kd.R_slice HO116.out; subst eo12) | ((with_reducible refine gate_callee (f := 55) rfl ?_); refine zg_ (some 16) Try.func55 #[.slice Ao12 y114.length co12, .int .i64 t117] (h := ?_); (with_reducible refine (slices_Repeat_Fix.calls _ _ y114 t117 t118 _ ?side1 ?side2 A7.out).mono ?_); (case side1 => exact zk_ ((Kd.R_reads' HO116.out).2.2)); (case side2 => exact (Kd.R_reads' HO116.out).2.1); rintro e w13 ⟨v119, rfl, ho0, hb⟩; refine ⟨_, rfl, ?_⟩; replace HO113 := zy_ HO113 hb; have HO120 := Aside0.mk (Kd.R_lower (Kd.R_new' ho0 (Kd.R_lt (zr_ HO116.out))) (below_size (zw1_ HB GE109))); replace HO116 := ze_ HO116 ho0 hb; replace BK109 := za_ BK109 hb; replace HB := Aside0.mk (below_step (zw1_ HB GE109) hb); (try clear hb); (try clear ho0); obtain ⟨Ao14, co14, eo14⟩ := Kd.R_slice HO120.out; subst eo14; obtain ⟨Ao15, co15, eo15⟩ := Kd.R_slice HO113.out; subst eo15; have hcz16_0 := zx_ (v := .slice none 0 0) BK109 0; have hcz16_1 := zx_ (v := .slice none 0 0) BK109 1; have hfz16_0 := blk_frozen BK109.out 0; have hfz16_1 := blk_frozen BK109.out 1))
 refine bodyPost_ret (results_ct rfl _ _ gb109 25 #[.slice Ao15 t111.length co15, .slice Ao14 t118.length co14] (0, 0) _ rfl (zo2_ BK109) Try.underlying25 rfl (by kernel_rfl)) rfl ?_
 exact ⟨_, _, z0_, zr_ (Kd.R_mono (Kd.R_far (p := ⟨gb109, 1, none⟩) (Kd.R_far (p := ⟨gb109, 0, none⟩) (Kd.R_types HO113.out BK109.out (by decide)) (fun _ hk => hk.2) (.slice Ao15 t111.length co15)) (fun _ hk => hk.2) (.slice Ao14 t118.length co14)) (fun _ hk => trivial)), zr_ (Kd.R_mono (Kd.R_far (p := ⟨gb109, 1, none⟩) (Kd.R_far (p := ⟨gb109, 0, none⟩) (Kd.R_types HO120.out BK109.out (by decide)) (fun _ hk => hk.2) (.slice Ao15 t111.length co15)) (fun _ hk => hk.2) (.slice Ao14 t118.length co14)) (fun _ hk => trivial)), zw1_ HB GE109⟩

/-! ### conv_of: function 29 -/
def conv_of.f (k : Nat) (l0 : List Int) : Option (List Int × List Int × Int) := (tens_New.f k l0 0).bind fun bt122 => (if bt122.2.2 = 0 then (some (bt122.1, bt122.2.1, 0)) else (some (([] : List Int), ([] : List Int), 2)))
theorem conv_of.mono : ∀ a0 k, LeO (conv_of.f k a0) (conv_of.f (k + 1) a0) := by
 intro a0 k
 unfold conv_of.f
 repeat' first
   | (with_reducible exact tens_New.mono _ _ _)
   | (with_reducible exact LeO.refl _)
   | (with_reducible exact LeO.none _)
   | (with_reducible refine LeO.ite ?_ ?_)
   | (with_reducible refine LeO.bind ?_ (fun _ => ?_))
   | exact tens_New.mono _ _ _
   | exact LeO.none _
   | refine LeO.ite ?_ ?_
   | refine LeO.bind ?_ (fun _ => ?_)
set_option maxHeartbeats 8000000 in
set_option maxRecDepth 100000 in
theorem conv_of.calls (k : Nat) (A0 : Option Addr) (c0 : Nat) (l0 : List Int) (r1 : List Int) (r2 : List Int) (r3 : Int) (w : World) (hr0 : Kd.C (Kd.int .i64) w A0 l0.length l0) (hc0 : l0.length ≤ c0) (h : conv_of.f k l0 = some (r1, r2, r3)) :
  Calls Try.prog 29 #[.slice A0 l0.length c0] w fun e w' => ∃ v0_ v1_ : Value, e = .returned (.tuple #[.agg #[v0_, v1_], .int .i64 r3]) ∧ Kd.R (Kd.int .i64) 3 w' w.heap.size (fun _ => True) v0_ r1 ∧ Kd.R (Kd.int .i64) 33 w' w.heap.size (fun _ => True) v1_ r2 ∧ Below w.heap.size w w' := by
 have hu25 := Try.underlying25
 have HR0 := Aside0.mk hr0
 have HC0 := Aside0.mk hc0
 clear hr0 hc0
 have HB := Aside0.mk (Below.refl w.heap.size w)
 have H : ((tens_New.f k l0 0).bind fun bt122 => (if bt122.2.2 = 0 then (some (bt122.1, bt122.2.1, 0)) else (some (([] : List Int), ([] : List Int), 2)))) = some (r1, r2, r3) := h
 clear h
 replace H := Option.bind_eq_some_iff.mp H
 obtain ⟨⟨t122, t125, t128⟩, A20, H⟩ := H
 replace H : (if t128 = 0 then (some (t122, t125, 0)) else (some (([] : List Int), ([] : List Int), 2))) = some (r1, r2, r3) := H
 have A2 := Aside0.mk A20
 clear A20
 by_cases c3 : t128 = 0
 rotate_left
 ·rw [if_neg c3] at H
  have c3b0 : (t128 == 0) = false := beq_eq_false_iff_ne.mpr c3
  have c3b1 : (t128 != 0) = true := bne_iff_ne.mpr c3
  simp only [Option.some.injEq, Prod.mk.injEq] at H
  obtain ⟨rfl, rfl, rfl⟩ := H
  go_enter Try.func29, Try.ntmps29
  go_wp2_with (first | ((with_reducible refine gate_dst (N := 2) rfl ?_); refine box_event ?hg (N := 2) ?hd (cs := #[.slice none 0 0, .slice none 0 0]) (t := 25) ?hr ?_; (case hd => rfl); (case hg => rfl); (case hr => first | (go_simp; done) | (go_simp; rfl)); intro gb121 hg w12 hbox hb; have BK121 := Aside0.mk (hbox); have GW121 := Aside0.mk (zs_ hg (zw0_ HB)); have GE121 := Aside0.mk (zs_ hg (zw0_ HB)); replace HB := Aside0.mk (below_step (zw0_ HB) hb); clear hb hbox hg) | ((with_reducible refine gate_callee (f := 42) rfl ?_); refine zg_ (some 8) Try.func42 #[.slice A0 l0.length c0, .int .i64 0] (h := ?_); (with_reducible refine (tens_New.calls k _ _ l0 0 t122 t125 t128 _ ?side1 ?side2 A2.out).mono ?_); (case side1 => exact zk_ (Kd.C_below HR0.out HB.out)); (case side2 => exact HC0.out); rintro e w13 ⟨v123, v126, rfl, ho0, ho1, hb⟩; refine ⟨_, rfl, ?_⟩; have HO124 := Aside0.mk (Kd.R_lower ho0 (below_size (zw1_ HB GE121))); have HO127 := Aside0.mk (Kd.R_lower ho1 (below_size (zw1_ HB GE121))); replace BK121 := za_ BK121 hb; replace HB := Aside0.mk (below_step (zw1_ HB GE121) hb); (try clear hb); (try clear ho0); (try clear ho1)) | ((with_reducible refine gate_dst (N := 4) rfl ?_); refine box_event ?hg (N := 4) ?hd (cs := #[.slice none 0 0, .slice none 0 0]) (t := 25) ?hr ?_; (case hd => rfl); (case hg => rfl); (case hr => first | (go_simp; done) | (go_simp; rfl)); intro gb129 hg w14 hbox hb; replace HO124 := zy_ HO124 hb; replace HO127 := zy_ HO127 hb; have BK129 := Aside0.mk (hbox); have GW129 := Aside0.mk (zs_ hg (zw1_ HB GE121)); have GE129 := Aside0.mk (zs_ hg (zw1_ HB GE121)); replace HB := Aside0.mk (below_step (zw1_ HB GE121) hb); have NB121_129 := Aside0.mk (zn_ hg BK121); have NB129_121 := Aside0.mk (zm_ hg BK121); replace BK121 := za_ BK121 hb; clear hb hbox hg; obtain ⟨Ao15, co15, eo15⟩ := Kd.R_slice HO124.out; subst eo15; have hnb16 := NB129_121.out; have hnc16 := NB121_129.out; have hcz17_0 := zx_ (v := .slice none 0 0) BK129 0; have hcz17_1 := zx_ (v := .slice none 0 0) BK129 1; have hfz17_0 := blk_frozen BK129.out 0; have hfz17_1 := blk_frozen BK129.out 1; obtain ⟨Ao18, co18, eo18⟩ := Kd.R_slice HO127.out; subst eo18; have hcz19_0 := zx_ (v := .slice none 0 0) BK121 0; have hcz19_1 := zx_ (v := .slice none 0 0) BK121 1; have hfz19_0 := blk_frozen BK121.out 0; have hfz19_1 := blk_frozen BK121.out 1))
  refine bodyPost_ret (results_ct rfl _ _ gb121 25 #[.slice none 0 0, .slice none 0 0] (0, 0) _ rfl (by (with_reducible repeat (first | refine blk_drewN ?_ _ | refine blk_drew ?_ | refine blk_alloc ?_ _)); refine blk_put (cs := #[.slice none 0 0, .slice none 0 0]) ?_ 1 _ rfl; (with_reducible repeat (first | refine blk_drewN ?_ _ | refine blk_drew ?_ | refine blk_alloc ?_ _)); refine blk_put (cs := #[.slice none 0 0, .slice none 0 0]) ?_ 0 _ rfl; (with_reducible repeat (first | refine blk_drewN ?_ _ | refine blk_drew ?_ | refine blk_alloc ?_ _)); refine blk_far ?_ NB121_129.out _; (with_reducible repeat (first | refine blk_drewN ?_ _ | refine blk_drew ?_ | refine blk_alloc ?_ _)); refine blk_far ?_ NB121_129.out _; (with_reducible repeat (first | refine blk_drewN ?_ _ | refine blk_drew ?_ | refine blk_alloc ?_ _)); exact BK121.out) Try.underlying25 rfl (by kernel_rfl)) rfl ?_
  exact ⟨_, _, z0_, z2_, z2_, zw2_ HB GE121 GE129⟩
 rw [if_pos c3] at H
 have c3b0 : (t128 == 0) = true := beq_iff_eq.mpr c3
 have c3b1 : (t128 != 0) = false := bne_eq_false_iff_eq.mpr c3
 clear c3
 simp only [Option.some.injEq, Prod.mk.injEq] at H
 obtain ⟨rfl, rfl, rfl⟩ := H
 go_enter Try.func29, Try.ntmps29
 go_wp2_with (first | ((with_reducible refine gate_dst (N := 2) rfl ?_); refine box_event ?hg (N := 2) ?hd (cs := #[.slice none 0 0, .slice none 0 0]) (t := 25) ?hr ?_; (case hd => rfl); (case hg => rfl); (case hr => first | (go_simp; done) | (go_simp; rfl)); intro gb121 hg w4 hbox hb; have BK121 := Aside0.mk (hbox); have GW121 := Aside0.mk (zs_ hg (zw0_ HB)); have GE121 := Aside0.mk (zs_ hg (zw0_ HB)); replace HB := Aside0.mk (below_step (zw0_ HB) hb); clear hb hbox hg) | ((with_reducible refine gate_callee (f := 42) rfl ?_); refine zg_ (some 8) Try.func42 #[.slice A0 l0.length c0, .int .i64 0] (h := ?_); (with_reducible refine (tens_New.calls k _ _ l0 0 t122 t125 t128 _ ?side1 ?side2 A2.out).mono ?_); (case side1 => exact zk_ (Kd.C_below HR0.out HB.out)); (case side2 => exact HC0.out); rintro e w5 ⟨v123, v126, rfl, ho0, ho1, hb⟩; refine ⟨_, rfl, ?_⟩; have HO124 := Aside0.mk (Kd.R_lower ho0 (below_size (zw1_ HB GE121))); have HO127 := Aside0.mk (Kd.R_lower ho1 (below_size (zw1_ HB GE121))); replace BK121 := za_ BK121 hb; replace HB := Aside0.mk (below_step (zw1_ HB GE121) hb); (try clear hb); (try clear ho0); (try clear ho1)) | ((with_reducible refine gate_dst (N := 4) rfl ?_); refine box_event ?hg (N := 4) ?hd (cs := #[.slice none 0 0, .slice none 0 0]) (t := 25) ?hr ?_; (case hd => rfl); (case hg => rfl); (case hr => first | (go_simp; done) | (go_simp; rfl)); intro gb129 hg w6 hbox hb; replace HO124 := zy_ HO124 hb; replace HO127 := zy_ HO127 hb; have BK129 := Aside0.mk (hbox); have GW129 := Aside0.mk (zs_ hg (zw1_ HB GE121)); have GE129 := Aside0.mk (zs_ hg (zw1_ HB GE121)); replace HB := Aside0.mk (below_step (zw1_ HB GE121) hb); have NB121_129 := Aside0.mk (zn_ hg BK121); have NB129_121 := Aside0.mk (zm_ hg BK121); replace BK121 := za_ BK121 hb; clear hb hbox hg; obtain ⟨Ao7, co7, eo7⟩ := Kd.R_slice HO124.out; subst eo7; have hnb8 := NB129_121.out; have hnc8 := NB121_129.out; have hcz9_0 := zx_ (v := .slice none 0 0) BK129 0; have hcz9_1 := zx_ (v := .slice none 0 0) BK129 1; have hfz9_0 := blk_frozen BK129.out 0; have hfz9_1 := blk_frozen BK129.out 1; obtain ⟨Ao10, co10, eo10⟩ := Kd.R_slice HO127.out; subst eo10; have hcz11_0 := zx_ (v := .slice none 0 0) BK121 0; have hcz11_1 := zx_ (v := .slice none 0 0) BK121 1; have hfz11_0 := blk_frozen BK121.out 0; have hfz11_1 := blk_frozen BK121.out 1))
 refine bodyPost_ret (results_ct rfl _ _ gb121 25 #[.slice Ao7 t122.length co7, .slice Ao10 t125.length co10] (0, 0) _ rfl (by (with_reducible repeat (first | refine blk_drewN ?_ _ | refine blk_drew ?_ | refine blk_alloc ?_ _)); refine blk_put (cs := #[.slice Ao7 t122.length co7, .slice none 0 0]) ?_ 1 _ rfl; (with_reducible repeat (first | refine blk_drewN ?_ _ | refine blk_drew ?_ | refine blk_alloc ?_ _)); refine blk_put (cs := #[.slice none 0 0, .slice none 0 0]) ?_ 0 _ rfl; (with_reducible repeat (first | refine blk_drewN ?_ _ | refine blk_drew ?_ | refine blk_alloc ?_ _)); refine blk_far ?_ NB121_129.out _; (with_reducible repeat (first | refine blk_drewN ?_ _ | refine blk_drew ?_ | refine blk_alloc ?_ _)); refine blk_far ?_ NB121_129.out _; (with_reducible repeat (first | refine blk_drewN ?_ _ | refine blk_drew ?_ | refine blk_alloc ?_ _)); exact BK121.out) Try.underlying25 rfl (by kernel_rfl)) rfl ?_
 exact ⟨_, _, z0_, zr_ (Kd.R_mono (Kd.R_far (p := ⟨gb121, 1, none⟩) (Kd.R_far (p := ⟨gb121, 0, none⟩) (Kd.R_far (p := ⟨gb129, 1, none⟩) (Kd.R_far (p := ⟨gb129, 0, none⟩) (Kd.R_types (Kd.R_types HO124.out BK129.out (by decide)) BK121.out (by decide)) (fun _ hk => hk.1.2) (.slice Ao7 t122.length co7)) (fun _ hk => hk.1.2) (.slice Ao10 t125.length co10)) (fun _ hk => hk.2) (.slice Ao7 t122.length co7)) (fun _ hk => hk.2) (.slice Ao10 t125.length co10)) (fun _ hk => trivial)), zr_ (Kd.R_mono (Kd.R_far (p := ⟨gb121, 1, none⟩) (Kd.R_far (p := ⟨gb121, 0, none⟩) (Kd.R_far (p := ⟨gb129, 1, none⟩) (Kd.R_far (p := ⟨gb129, 0, none⟩) (Kd.R_types (Kd.R_types HO127.out BK129.out (by decide)) BK121.out (by decide)) (fun _ hk => hk.1.2) (.slice Ao7 t122.length co7)) (fun _ hk => hk.1.2) (.slice Ao10 t125.length co10)) (fun _ hk => hk.2) (.slice Ao7 t122.length co7)) (fun _ hk => hk.2) (.slice Ao10 t125.length co10)) (fun _ hk => trivial)), zw2_ HB GE121 GE129⟩

/-! ### wide_size: function 57 -/
def wide_size.f (a0 : Int) : Option (Int) := if a0 < 0 then (some (IntKind.u64.wrap (-(IntKind.u64.wrap (a0))))) else (some (IntKind.u64.wrap (a0)))
set_option maxHeartbeats 8000000 in
set_option maxRecDepth 100000 in
theorem wide_size.calls (a0 : Int) (r : Int) (w : World) (h : wide_size.f a0 = some r) :
  Calls Try.prog 57 #[.int .i64 a0] w fun e w' => e = .returned (.int .u64 r) ∧ Drawn0 w w' := by
 have H : (if a0 < 0 then (some (IntKind.u64.wrap (-(IntKind.u64.wrap (a0))))) else (some (IntKind.u64.wrap (a0)))) = some r := h
 clear h
 by_cases c2 : a0 < 0
 ·rw [if_pos c2] at H
  have c2b0 : decide (a0 < 0) = true := decide_eq_true c2
  clear c2
  obtain rfl := Option.some.inj H
  go_enter Try.func57, Try.ntmps57
  go_wp2
  go_ret
  exact ⟨by first | rfl | (simp; done) | (simp [*]; done), by repeat (first | exact Drawn0.refl _ | apply Drawn0.step)⟩
 rw [if_neg c2] at H
 have c2b0 : decide (a0 < 0) = false := decide_eq_false c2
 clear c2
 obtain rfl := Option.some.inj H
 go_enter Try.func57, Try.ntmps57
 go_wp2
 go_ret
 exact ⟨by first | rfl | (simp; done) | (simp [*]; done), by repeat (first | exact Drawn0.refl _ | apply Drawn0.step)⟩

/-- A call of a function without a body that the model answers itself. -/
def XCalls (P : Program) (f : FuncId) (args : Array Value) (w : World) (R : Ending → World → Prop) : Prop :=
 ∃ v, (callFunc f args).run P w = .ok (.value v) w ∧ R (.returned v) w
theorem XCalls.mono {P : Program} {f : FuncId} {args : Array Value} {w : World} {R R' : Ending → World → Prop} (h : XCalls P f args w R) (k : ∀ e w', R e w' → R' e w') : XCalls P f args w R' := by
 obtain ⟨v, h1, h2⟩ := h
 exact ⟨v, h1, k _ _ h2⟩
theorem goesX_ {P : Program} {ops : Array Oper} {Q : Exit → Act → World → Prop} {rest : List Oper} {oi : Oper} {a : Act} {w : World} (N : Option Tmp) (hd : oi.dst = N) (hg : oi.guard = none) {f : FuncId} {xs : Array Operand} {ts : Array TypeId} (args : Array Value)
  (hop : oi.op = .call { callee := .value (.func f), args := xs, argTypes := ts }) (hargs : xs.map a.eval = args)
  (h : XCalls P f args w fun e w' => ∃ v, e = .returned v ∧ wpList P ops Q rest (a.put N v) w') : wpList P ops Q (oi :: rest) a w := by
 obtain ⟨v, h1, v', h2, h3⟩ := h
 cases h2
 refine Kd.event_run hg ?_ (by rw [hd]; exact h3)
 unfold execOp
 simp [hop, resolve, Deferred.ofValue, invoke, Act.eval, hargs, h1]
/-! ### bits_Sub64: function 65 -/
def bits_Sub64.entry : Array Value → Sem Value := fun args => do
 let (x, y, b) ← Extern.MathBitsCarry.three "Sub64" args
 pure (Extern.MathBitsCarry.pair ((x + Extern.MathBitsCarry.m64 - y - b) % Extern.MathBitsCarry.m64) (if x < y + b then 1 else 0))
theorem bits_Sub64.run {P : Program} (x y c : Int) (hx : 0 ≤ x) (hy : 0 ≤ y) (hy1 : y ≤ 18446744073709551615) (hc0 : 0 ≤ c) (hc : c ≤ 1) (w : World) :
  (bits_Sub64.entry #[.int .u64 x, .int .u64 y, .int .u64 c]).run P w = .ok (.tuple #[.int .u64 ((x - y - c) % 18446744073709551616), .int .u64 (if x < y + c then 1 else 0)]) w := by
 have key : ∀ k : Nat, k ≤ 1 → (bits_Sub64.entry #[.int .u64 x, .int .u64 y, .int .u64 (k : Int)]).run P w =
   .ok (Extern.MathBitsCarry.pair ((x.toNat + Extern.MathBitsCarry.m64 - y.toNat - k) % Extern.MathBitsCarry.m64) (if x.toNat < y.toNat + k then 1 else 0)) w := by
  intro k hk
  have : k = 0 ∨ k = 1 := by omega
  rcases this with rfl | rfl <;> rfl
 obtain ⟨k, rfl⟩ := Int.eq_ofNat_of_zero_le hc0
 rw [key k (by omega)]
 obtain ⟨X, rfl⟩ := Int.eq_ofNat_of_zero_le hx
 obtain ⟨Y, rfl⟩ := Int.eq_ofNat_of_zero_le hy
 simp only [Extern.MathBitsCarry.pair, Extern.MathBitsCarry.m64, Int.toNat_natCast]
 have e1 : (((X + 2 ^ 64 - Y - k) % 2 ^ 64 : Nat) : Int) = ((X : Int) - Y - k) % 18446744073709551616 := by omega
 have e2 : (((if X < Y + k then 1 else 0 : Nat)) : Int) = if (X : Int) < Y + k then 1 else 0 := by split <;> split <;> omega
 rw [← e1, ← e2]; rfl
def bits_Sub64.f (a0 a1 a2 : Int) : Option (Int × Int) := if 0 ≤ a0 ∧ 0 ≤ a1 ∧ a1 ≤ 18446744073709551615 ∧ 0 ≤ a2 ∧ a2 ≤ 1 then some ((a0 - a1 - a2) % 18446744073709551616, if a0 < a1 + a2 then 1 else 0) else none
theorem bits_Sub64.calls (a0 a1 a2 r1 r2 : Int) (w : World) (h : bits_Sub64.f a0 a1 a2 = some (r1, r2)) :
  XCalls Try.prog 65 #[.int .u64 a0, .int .u64 a1, .int .u64 a2] w fun e w' => e = .returned (.tuple #[.int .u64 r1, .int .u64 r2]) ∧ Drawn0 w w' := by
 unfold bits_Sub64.f at h
 split at h
 ·rename_i hc
  simp only [Option.some.injEq, Prod.mk.injEq] at h
  obtain ⟨rfl, rfl⟩ := h
  refine ⟨_, ?_, rfl, Drawn0.refl _⟩
  rw [run_callFunc_extern (e := bits_Sub64.entry) Try.func65 rfl (by kernel_rfl) (by kernel_rfl) (by kernel_rfl), bits_Sub64.run a0 a1 a2 hc.1 hc.2.1 hc.2.2.1 hc.2.2.2.1 hc.2.2.2.2]
  rfl
 ·cases h

/-! ### wide_Sub: function 63 -/
def wide_Sub.f (a0_0 : Int) (a0_1 : Int) (a1_0 : Int) (a1_1 : Int) : Option (Int × Int) := (bits_Sub64.f a0_1 a1_1 0).bind fun bt133 => ((bits_Sub64.f (IntKind.u64.wrap (a0_0)) (IntKind.u64.wrap (a1_0)) bt133.2).bind fun bt135 => (some (wrap64 (bt135.1), bt133.1)))
set_option maxHeartbeats 8000000 in
set_option maxRecDepth 100000 in
theorem wide_Sub.calls (a0_0 : Int) (a0_1 : Int) (a1_0 : Int) (a1_1 : Int) (r1 : Int) (r2 : Int) (w : World) (h : wide_Sub.f a0_0 a0_1 a1_0 a1_1 = some (r1, r2)) :
  Calls Try.prog 63 #[.agg #[.int .i64 a0_0, .int .u64 a0_1], .agg #[.int .i64 a1_0, .int .u64 a1_1]] w fun e w' => e = .returned (.agg #[.int .i64 r1, .int .u64 r2]) ∧ Below w.heap.size w w' := by
 have hu52 := Try.underlying52
 have HB := Aside0.mk (Below.refl w.heap.size w)
 have H : ((bits_Sub64.f a0_1 a1_1 0).bind fun bt133 => ((bits_Sub64.f (IntKind.u64.wrap (a0_0)) (IntKind.u64.wrap (a1_0)) bt133.2).bind fun bt135 => (some (wrap64 (bt135.1), bt133.1)))) = some (r1, r2) := h
 clear h
 replace H := Option.bind_eq_some_iff.mp H
 obtain ⟨⟨t133, t134⟩, A30, H⟩ := H
 replace H : ((bits_Sub64.f (IntKind.u64.wrap (a0_0)) (IntKind.u64.wrap (a1_0)) t134).bind fun bt135 => (some (wrap64 (bt135.1), t133))) = some (r1, r2) := H
 have A3 := Aside0.mk A30
 clear A30
 replace H := Option.bind_eq_some_iff.mp H
 obtain ⟨⟨t135, t136⟩, A40, H⟩ := H
 replace H : (some (wrap64 (t135), t133)) = some (r1, r2) := H
 have A4 := Aside0.mk A40
 clear A40
 simp only [Option.some.injEq, Prod.mk.injEq] at H
 obtain ⟨rfl, rfl⟩ := H
 go_enter Try.func63, Try.ntmps63
 go_wp2_with (first | ((with_reducible refine gate_dst (N := 2) rfl ?_); refine box_event ?hg (N := 2) ?hd (cs := #[.int .i64 a0_0, .int .u64 a0_1]) (t := 52) ?hr ?_; (case hd => rfl); (case hg => rfl); (case hr => first | (go_simp; done) | (go_simp; rfl)); intro gb130 hg w5 hbox hb; have BK130 := Aside0.mk (hbox); have GW130 := Aside0.mk (zs_ hg (zw0_ HB)); have GE130 := Aside0.mk (zs_ hg (zw0_ HB)); replace HB := Aside0.mk (below_step (zw0_ HB) hb); clear hb hbox hg) | ((with_reducible refine gate_dst (N := 3) rfl ?_); refine box_event ?hg (N := 3) ?hd (cs := #[.int .i64 a1_0, .int .u64 a1_1]) (t := 52) ?hr ?_; (case hd => rfl); (case hg => rfl); (case hr => first | (go_simp; done) | (go_simp; rfl)); intro gb131 hg w6 hbox hb; have BK131 := Aside0.mk (hbox); have GW131 := Aside0.mk (zs_ hg (zw1_ HB GE130)); have GE131 := Aside0.mk (zs_ hg (zw1_ HB GE130)); replace HB := Aside0.mk (below_step (zw1_ HB GE130) hb); have NB130_131 := Aside0.mk (zn_ hg BK130); have NB131_130 := Aside0.mk (zm_ hg BK130); replace BK130 := za_ BK130 hb; clear hb hbox hg) | ((with_reducible refine gate_dst (N := 4) rfl ?_); refine box_event ?hg (N := 4) ?hd (cs := #[.int .i64 0, .int .u64 0]) (t := 52) ?hr ?_; (case hd => rfl); (case hg => rfl); (case hr => first | (go_simp; done) | (go_simp; rfl)); intro gb132 hg w7 hbox hb; have BK132 := Aside0.mk (hbox); have GW132 := Aside0.mk (zs_ hg (zw2_ HB GE130 GE131)); have GE132 := Aside0.mk (zs_ hg (zw2_ HB GE130 GE131)); replace HB := Aside0.mk (below_step (zw2_ HB GE130 GE131) hb); have NB130_132 := Aside0.mk (zn_ hg BK130); have NB132_130 := Aside0.mk (zm_ hg BK130); replace BK130 := za_ BK130 hb; have NB131_132 := Aside0.mk (zn_ hg BK131); have NB132_131 := Aside0.mk (zm_ hg BK131); replace BK131 := za_ BK131 hb; clear hb hbox hg; have hnb8 := NB130_131.out; have hnc8 := NB131_130.out; have hnb9 := NB130_132.out; have hnc9 := NB132_130.out; have hcz10_0 := zx_ (v := .int .i64 a0_0) BK130 0; have hcz10_1 := zx_ (v := .int .u64 a0_1) BK130 1; have hfz10_0 := blk_frozen BK130.out 0; have hfz10_1 := blk_frozen BK130.out 1; have hnb11 := NB131_132.out; have hnc11 := NB132_131.out; have hcz12_0 := zx_ (v := .int .i64 a1_0) BK131 0; have hcz12_1 := zx_ (v := .int .u64 a1_1) BK131 1; have hfz12_0 := blk_frozen BK131.out 0; have hfz12_1 := blk_frozen BK131.out 1) | ((with_reducible refine gate_callee (f := 65) rfl ?_); refine goesX_ (some 14) rfl rfl (f := 65) #[.int .u64 a0_1, .int .u64 a1_1, .int .u64 0] rfl (by (try simp only [List.map_toArray, List.map_cons, List.map_nil]); first | done | rfl | (simp only [List.length_drop, List.length_take]; rfl)) ?_; (with_reducible refine (bits_Sub64.calls a0_1 a1_1 0 t133 t134 _ A3.out).mono ?_); rintro e w' ⟨rfl, ⟨nd, rfl⟩⟩; refine ⟨_, rfl, ?_⟩; (try (rw [drewN_self w7]; generalize hq_ : World.drewN w7 _ = w7; have n0_ : Aside0 (w7.heap[gb130]? = some (.cells #[.int .i64 a0_0, .int .u64 a0_1] 52 (0, 0))) := ⟨by rw [← hq_]; exact (zb_ BK130)⟩; have n1_ : Aside0 (w7.heap[gb131]? = some (.cells #[.int .i64 a1_0, .int .u64 a1_1] 52 (0, 0))) := ⟨by rw [← hq_]; exact (zb_ BK131)⟩; have n2_ : Aside0 (w7.heap[gb132]? = some (.cells #[.int .i64 0, .int .u64 0] 52 (0, 0))) := ⟨by rw [← hq_]; exact (zb_ BK132)⟩; have n3_ : Aside0 (Below w.heap.size w w7) := ⟨by rw [← hq_]; exact (zw3_ HB GE130 GE131 GE132)⟩; clear BK130 BK131 BK132 HB hq_; have BK130 := n0_; have BK131 := n1_; have BK132 := n2_; have HB := n3_; clear n0_ n1_ n2_ n3_; (try (have hcz10_0 := zx_ (v := .int .i64 a0_0) BK130 0)); (try (have hcz10_1 := zx_ (v := .int .u64 a0_1) BK130 1)); (try (have hfz10_0 := blk_frozen BK130.out 0)); (try (have hfz10_1 := blk_frozen BK130.out 1)); (try (have hcz12_0 := zx_ (v := .int .i64 a1_0) BK131 0)); (try (have hcz12_1 := zx_ (v := .int .u64 a1_1) BK131 1)); (try (have hfz12_0 := blk_frozen BK131.out 0)); (try (have hfz12_1 := blk_frozen BK131.out 1))))) | ((with_reducible refine gate_callee (f := 65) rfl ?_); refine goesX_ (some 25) rfl rfl (f := 65) #[.int .u64 (IntKind.u64.wrap (a0_0)), .int .u64 (IntKind.u64.wrap (a1_0)), .int .u64 t134] rfl (by (try simp only [List.map_toArray, List.map_cons, List.map_nil]); first | done | rfl | (simp only [List.length_drop, List.length_take]; rfl)) ?_; (with_reducible refine (bits_Sub64.calls (IntKind.u64.wrap (a0_0)) (IntKind.u64.wrap (a1_0)) t134 t135 t136 _ A4.out).mono ?_); rintro e w' ⟨rfl, ⟨nd, rfl⟩⟩; refine ⟨_, rfl, ?_⟩; (try (rw [drewN_self w7]; generalize hq_ : World.drewN w7 _ = w7; have n0_ : Aside0 (w7.heap[gb130]? = some (.cells #[.int .i64 a0_0, .int .u64 a0_1] 52 (0, 0))) := ⟨by rw [← hq_]; exact (zb_ BK130)⟩; have n1_ : Aside0 (w7.heap[gb131]? = some (.cells #[.int .i64 a1_0, .int .u64 a1_1] 52 (0, 0))) := ⟨by rw [← hq_]; exact (zb_ BK131)⟩; have n2_ : Aside0 (w7.heap[gb132]? = some (.cells #[.int .i64 0, .int .u64 0] 52 (0, 0))) := ⟨by rw [← hq_]; exact (zb_ BK132)⟩; have n3_ : Aside0 (Below w.heap.size w w7) := ⟨by rw [← hq_]; exact (zw3_ HB GE130 GE131 GE132)⟩; clear BK130 BK131 BK132 HB hq_; have BK130 := n0_; have BK131 := n1_; have BK132 := n2_; have HB := n3_; clear n0_ n1_ n2_ n3_; (try (have hcz10_0 := zx_ (v := .int .i64 a0_0) BK130 0)); (try (have hcz10_1 := zx_ (v := .int .u64 a0_1) BK130 1)); (try (have hfz10_0 := blk_frozen BK130.out 0)); (try (have hfz10_1 := blk_frozen BK130.out 1)); (try (have hcz12_0 := zx_ (v := .int .i64 a1_0) BK131 0)); (try (have hcz12_1 := zx_ (v := .int .u64 a1_1) BK131 1)); (try (have hfz12_0 := blk_frozen BK131.out 0)); (try (have hfz12_1 := blk_frozen BK131.out 1)))); have hcz13_0 := zx_ (v := .int .i64 0) BK132 0; have hcz13_1 := zx_ (v := .int .u64 0) BK132 1; have hfz13_0 := blk_frozen BK132.out 0; have hfz13_1 := blk_frozen BK132.out 1))
 refine bodyPost_ret (results_cell_row rfl _ _ gb132 52 #[.int .i64 (wrap64 (t135)), .int .u64 t133] (0, 0) _ rfl (zo2_ BK132) Try.underlying52 rfl (by kernel_rfl)) rfl ?_
 exact ⟨z0_, zw3_ HB GE130 GE131 GE132⟩

/-! ### wide_Neg: function 58 -/
def wide_Neg.f (a0_0 : Int) (a0_1 : Int) : Option (Int × Int) := (wide_Sub.f 0 0 a0_0 a0_1).bind fun bt139 => (some (bt139.1, bt139.2))
set_option maxHeartbeats 8000000 in
set_option maxRecDepth 100000 in
theorem wide_Neg.calls (a0_0 : Int) (a0_1 : Int) (r1 : Int) (r2 : Int) (w : World) (h : wide_Neg.f a0_0 a0_1 = some (r1, r2)) :
  Calls Try.prog 58 #[.agg #[.int .i64 a0_0, .int .u64 a0_1]] w fun e w' => e = .returned (.agg #[.int .i64 r1, .int .u64 r2]) ∧ Below w.heap.size w w' := by
 have hu52 := Try.underlying52
 have HB := Aside0.mk (Below.refl w.heap.size w)
 have H : ((wide_Sub.f 0 0 a0_0 a0_1).bind fun bt139 => (some (bt139.1, bt139.2))) = some (r1, r2) := h
 clear h
 replace H := Option.bind_eq_some_iff.mp H
 obtain ⟨⟨t139, t140⟩, A20, H⟩ := H
 replace H : (some (t139, t140)) = some (r1, r2) := H
 have A2 := Aside0.mk A20
 clear A20
 simp only [Option.some.injEq, Prod.mk.injEq] at H
 obtain ⟨rfl, rfl⟩ := H
 go_enter Try.func58, Try.ntmps58
 go_wp2_with (first | ((with_reducible refine gate_dst (N := 1) rfl ?_); refine box_event ?hg (N := 1) ?hd (cs := #[.int .i64 a0_0, .int .u64 a0_1]) (t := 52) ?hr ?_; (case hd => rfl); (case hg => rfl); (case hr => first | (go_simp; done) | (go_simp; rfl)); intro gb137 hg w3 hbox hb; have BK137 := Aside0.mk (hbox); have GW137 := Aside0.mk (zs_ hg (zw0_ HB)); have GE137 := Aside0.mk (zs_ hg (zw0_ HB)); replace HB := Aside0.mk (below_step (zw0_ HB) hb); clear hb hbox hg) | ((with_reducible refine gate_dst (N := 2) rfl ?_); refine box_event ?hg (N := 2) ?hd (cs := #[.int .i64 0, .int .u64 0]) (t := 52) ?hr ?_; (case hd => rfl); (case hg => rfl); (case hr => first | (go_simp; done) | (go_simp; rfl)); intro gb138 hg w4 hbox hb; have BK138 := Aside0.mk (hbox); have GW138 := Aside0.mk (zs_ hg (zw1_ HB GE137)); have GE138 := Aside0.mk (zs_ hg (zw1_ HB GE137)); replace HB := Aside0.mk (below_step (zw1_ HB GE137) hb); have NB137_138 := Aside0.mk (zn_ hg BK137); have NB138_137 := Aside0.mk (zm_ hg BK137); replace BK137 := za_ BK137 hb; clear hb hbox hg; have hnb5 := NB137_138.out; have hnc5 := NB138_137.out; have hcz6_0 := zx_ (v := .int .i64 a0_0) BK137 0; have hcz6_1 := zx_ (v := .int .u64 a0_1) BK137 1; have hfz6_0 := blk_frozen BK137.out 0; have hfz6_1 := blk_frozen BK137.out 1) | ((with_reducible refine gate_callee (f := 63) rfl ?_); refine zg_ (some 5) Try.func63 #[.agg #[.int .i64 0, .int .u64 0], .agg #[.int .i64 a0_0, .int .u64 a0_1]] (h := ?_); (with_reducible refine (wide_Sub.calls 0 0 a0_0 a0_1 t139 t140 _ A2.out).mono ?_); rintro e w7 ⟨rfl, hb⟩; refine ⟨_, rfl, ?_⟩; replace BK137 := za_ BK137 hb; replace BK138 := za_ BK138 hb; replace HB := Aside0.mk (below_step (zw2_ HB GE137 GE138) hb); (try clear hb); have hcz8_0 := zx_ (v := .int .i64 0) BK138 0; have hcz8_1 := zx_ (v := .int .u64 0) BK138 1; have hfz8_0 := blk_frozen BK138.out 0; have hfz8_1 := blk_frozen BK138.out 1))
 refine bodyPost_ret (results_cell_row rfl _ _ gb138 52 #[.int .i64 t139, .int .u64 t140] (0, 0) _ rfl (zo2_ BK138) Try.underlying52 rfl (by kernel_rfl)) rfl ?_
 exact ⟨z0_, zw2_ HB GE137 GE138⟩

end Go.Proofs.Ytcipfhlcgnomaaa.PConvKnown
