/- The functions that the law WideProds reaches, as Lean functions, and that each call of the Go function does what its Lean function says, wherever that one answers. Written by a program of mine over the print of the kit; Lean checks it. -/
import Derived.Test.YtalghnbolnimiaaPWideProdsx0
import Derived.Test.YtalghnbolnimiaaPWideProdsx1
import Derived.Test.YtalghnbolnimiaaPWideProdsx2
import Derived.Test.YtalghnbolnimiaaPWideProdsx4
namespace Go.Proofs.Ytalghnbolnimiaa.PWideProds
open Go.RowKit Go.Proofs.YtalghnbolnimiaaW.PrintWords Go.Proofs.YtalghnbolnimiaaW.PrintLast Go.Proofs.YtalghnbolnimiaaW.PrintMore
attribute [local go_sem] max2_int min2_int max_two min_two max_three min_three max_four min_four   -- for this text's walks alone
set_option linter.unusedVariables false
set_option linter.unusedSimpArgs false

attribute [local go_sem high] eqA25
/-! ### carousellaw2_WideProds: function 3 -/
def carousellaw2_WideProds.f (k : Nat) (a0 : Int) (a1 : Int) : Option (Bool) := (carousellaw2_awake.f k).bind fun t164 => (if t164 = true then ((wide_Prod.f a0 a1).bind fun bt165 => ((carouselref1_Prod.f a0 a1).bind fun bt167 => (if (bt165.1 == bt167.1 && (bt165.2 == bt167.2)) = true then ((wide_Of.f a0).bind fun bt169 => ((carouselref1_From.f a0).bind fun bt171 => ((carouselref1_Wide.f bt171.1 bt171.2.1 bt171.2.2.1 bt171.2.2.2.1 bt171.2.2.2.2).bind fun bt176 => (if (bt169.1 == bt176.1 && (bt169.2 == bt176.2)) = true then ((wide_Prod.f a0 1).bind fun bt178 => ((wide_Of.f a0).bind fun bt180 => (if (bt178.1 == bt180.1 && (bt178.2 == bt180.2)) = true then ((wide_Prod.f a0 a1).bind fun bt182 => ((wide_Prod.f a1 a0).bind fun bt184 => (some (bt182.1 == bt184.1 && (bt182.2 == bt184.2))))) else (none)))) else (none))))) else (none)))) else (none))
theorem carousellaw2_WideProds.mono : ∀ a0 a1 k, LeO (carousellaw2_WideProds.f k a0 a1) (carousellaw2_WideProds.f (k + 1) a0 a1) := by
  intro a0 a1 k
  unfold carousellaw2_WideProds.f
  repeat' first
      | (with_reducible exact carousellaw2_awake.mono _)
      | (with_reducible exact LeO.refl _)
      | (with_reducible exact LeO.none _)
      | (with_reducible refine LeO.ite ?_ ?_)
      | (with_reducible refine LeO.bind ?_ (fun _ => ?_))
      | exact carousellaw2_awake.mono _
      | exact LeO.none _
      | refine LeO.ite ?_ ?_
      | refine LeO.bind ?_ (fun _ => ?_)
set_option maxHeartbeats 8000000 in
set_option maxRecDepth 100000 in
theorem carousellaw2_WideProds.calls (k : Nat) (a0 : Int) (a1 : Int) (r : Bool) (w : World) (h : carousellaw2_WideProds.f k a0 a1 = some r) :
    Calls Try.prog 3 #[.int .i64 a0, .int .i64 a1] w fun e w' => e = .returned (.bool r) ∧ Below w.heap.size w w' := by
  have HB := Aside0.mk (Below.refl w.heap.size w)
  have H : ((carousellaw2_awake.f k).bind fun t164 => (if t164 = true then ((wide_Prod.f a0 a1).bind fun bt165 => ((carouselref1_Prod.f a0 a1).bind fun bt167 => (if (bt165.1 == bt167.1 && (bt165.2 == bt167.2)) = true then ((wide_Of.f a0).bind fun bt169 => ((carouselref1_From.f a0).bind fun bt171 => ((carouselref1_Wide.f bt171.1 bt171.2.1 bt171.2.2.1 bt171.2.2.2.1 bt171.2.2.2.2).bind fun bt176 => (if (bt169.1 == bt176.1 && (bt169.2 == bt176.2)) = true then ((wide_Prod.f a0 1).bind fun bt178 => ((wide_Of.f a0).bind fun bt180 => (if (bt178.1 == bt180.1 && (bt178.2 == bt180.2)) = true then ((wide_Prod.f a0 a1).bind fun bt182 => ((wide_Prod.f a1 a0).bind fun bt184 => (some (bt182.1 == bt184.1 && (bt182.2 == bt184.2))))) else (none)))) else (none))))) else (none)))) else (none))) = some r := h
  clear h
  replace H := Option.bind_eq_some_iff.mp H
  obtain ⟨t164, A30, H⟩ := H
  replace H : (if t164 = true then ((wide_Prod.f a0 a1).bind fun bt165 => ((carouselref1_Prod.f a0 a1).bind fun bt167 => (if (bt165.1 == bt167.1 && (bt165.2 == bt167.2)) = true then ((wide_Of.f a0).bind fun bt169 => ((carouselref1_From.f a0).bind fun bt171 => ((carouselref1_Wide.f bt171.1 bt171.2.1 bt171.2.2.1 bt171.2.2.2.1 bt171.2.2.2.2).bind fun bt176 => (if (bt169.1 == bt176.1 && (bt169.2 == bt176.2)) = true then ((wide_Prod.f a0 1).bind fun bt178 => ((wide_Of.f a0).bind fun bt180 => (if (bt178.1 == bt180.1 && (bt178.2 == bt180.2)) = true then ((wide_Prod.f a0 a1).bind fun bt182 => ((wide_Prod.f a1 a0).bind fun bt184 => (some (bt182.1 == bt184.1 && (bt182.2 == bt184.2))))) else (none)))) else (none))))) else (none)))) else (none)) = some r := H
  have A3 := Aside0.mk A30
  clear A30
  by_cases c4 : t164 = true
  · subst c4
    have H1 : ((wide_Prod.f a0 a1).bind fun bt165 => ((carouselref1_Prod.f a0 a1).bind fun bt167 => (if (bt165.1 == bt167.1 && (bt165.2 == bt167.2)) = true then ((wide_Of.f a0).bind fun bt169 => ((carouselref1_From.f a0).bind fun bt171 => ((carouselref1_Wide.f bt171.1 bt171.2.1 bt171.2.2.1 bt171.2.2.2.1 bt171.2.2.2.2).bind fun bt176 => (if (bt169.1 == bt176.1 && (bt169.2 == bt176.2)) = true then ((wide_Prod.f a0 1).bind fun bt178 => ((wide_Of.f a0).bind fun bt180 => (if (bt178.1 == bt180.1 && (bt178.2 == bt180.2)) = true then ((wide_Prod.f a0 a1).bind fun bt182 => ((wide_Prod.f a1 a0).bind fun bt184 => (some (bt182.1 == bt184.1 && (bt182.2 == bt184.2))))) else (none)))) else (none))))) else (none)))) = some r := by rw [if_pos rfl] at H; exact H
    clear H
    have H := H1
    clear H1
    replace H := Option.bind_eq_some_iff.mp H
    obtain ⟨⟨t165, t166⟩, A50, H⟩ := H
    replace H : ((carouselref1_Prod.f a0 a1).bind fun bt167 => (if (t165 == bt167.1 && (t166 == bt167.2)) = true then ((wide_Of.f a0).bind fun bt169 => ((carouselref1_From.f a0).bind fun bt171 => ((carouselref1_Wide.f bt171.1 bt171.2.1 bt171.2.2.1 bt171.2.2.2.1 bt171.2.2.2.2).bind fun bt176 => (if (bt169.1 == bt176.1 && (bt169.2 == bt176.2)) = true then ((wide_Prod.f a0 1).bind fun bt178 => ((wide_Of.f a0).bind fun bt180 => (if (bt178.1 == bt180.1 && (bt178.2 == bt180.2)) = true then ((wide_Prod.f a0 a1).bind fun bt182 => ((wide_Prod.f a1 a0).bind fun bt184 => (some (bt182.1 == bt184.1 && (bt182.2 == bt184.2))))) else (none)))) else (none))))) else (none))) = some r := H
    have A5 := Aside0.mk A50
    clear A50
    replace H := Option.bind_eq_some_iff.mp H
    obtain ⟨⟨t167, t168⟩, A60, H⟩ := H
    replace H : (if (t165 == t167 && (t166 == t168)) = true then ((wide_Of.f a0).bind fun bt169 => ((carouselref1_From.f a0).bind fun bt171 => ((carouselref1_Wide.f bt171.1 bt171.2.1 bt171.2.2.1 bt171.2.2.2.1 bt171.2.2.2.2).bind fun bt176 => (if (bt169.1 == bt176.1 && (bt169.2 == bt176.2)) = true then ((wide_Prod.f a0 1).bind fun bt178 => ((wide_Of.f a0).bind fun bt180 => (if (bt178.1 == bt180.1 && (bt178.2 == bt180.2)) = true then ((wide_Prod.f a0 a1).bind fun bt182 => ((wide_Prod.f a1 a0).bind fun bt184 => (some (bt182.1 == bt184.1 && (bt182.2 == bt184.2))))) else (none)))) else (none))))) else (none)) = some r := H
    have A6 := Aside0.mk A60
    clear A60
    by_cases c7 : (t165 == t167 && (t166 == t168)) = true
    · rw [if_pos c7] at H
      have c7b0 : (t165 == t167 && (t166 == t168)) = true := c7
      (try (have c7b1 : decide (t165 = t167 && (t166 == t168)) = true := by simpa using c7))
      (try (have c7b2 : (t165 == t167 && (t166 == t168)) = true := by simpa using c7))
      clear c7
      replace H := Option.bind_eq_some_iff.mp H
      obtain ⟨⟨t169, t170⟩, A80, H⟩ := H
      replace H : ((carouselref1_From.f a0).bind fun bt171 => ((carouselref1_Wide.f bt171.1 bt171.2.1 bt171.2.2.1 bt171.2.2.2.1 bt171.2.2.2.2).bind fun bt176 => (if (t169 == bt176.1 && (t170 == bt176.2)) = true then ((wide_Prod.f a0 1).bind fun bt178 => ((wide_Of.f a0).bind fun bt180 => (if (bt178.1 == bt180.1 && (bt178.2 == bt180.2)) = true then ((wide_Prod.f a0 a1).bind fun bt182 => ((wide_Prod.f a1 a0).bind fun bt184 => (some (bt182.1 == bt184.1 && (bt182.2 == bt184.2))))) else (none)))) else (none)))) = some r := H
      have A8 := Aside0.mk A80
      clear A80
      replace H := Option.bind_eq_some_iff.mp H
      obtain ⟨⟨t171, t172, t173, t174, t175⟩, A90, H⟩ := H
      replace H : ((carouselref1_Wide.f t171 t172 t173 t174 t175).bind fun bt176 => (if (t169 == bt176.1 && (t170 == bt176.2)) = true then ((wide_Prod.f a0 1).bind fun bt178 => ((wide_Of.f a0).bind fun bt180 => (if (bt178.1 == bt180.1 && (bt178.2 == bt180.2)) = true then ((wide_Prod.f a0 a1).bind fun bt182 => ((wide_Prod.f a1 a0).bind fun bt184 => (some (bt182.1 == bt184.1 && (bt182.2 == bt184.2))))) else (none)))) else (none))) = some r := H
      have A9 := Aside0.mk A90
      clear A90
      replace H := Option.bind_eq_some_iff.mp H
      obtain ⟨⟨t176, t177⟩, A100, H⟩ := H
      replace H : (if (t169 == t176 && (t170 == t177)) = true then ((wide_Prod.f a0 1).bind fun bt178 => ((wide_Of.f a0).bind fun bt180 => (if (bt178.1 == bt180.1 && (bt178.2 == bt180.2)) = true then ((wide_Prod.f a0 a1).bind fun bt182 => ((wide_Prod.f a1 a0).bind fun bt184 => (some (bt182.1 == bt184.1 && (bt182.2 == bt184.2))))) else (none)))) else (none)) = some r := H
      have A10 := Aside0.mk A100
      clear A100
      by_cases c11 : (t169 == t176 && (t170 == t177)) = true
      · rw [if_pos c11] at H
        have c11b0 : (t169 == t176 && (t170 == t177)) = true := c11
        (try (have c11b1 : decide (t169 = t176 && (t170 == t177)) = true := by simpa using c11))
        (try (have c11b2 : (t169 == t176 && (t170 == t177)) = true := by simpa using c11))
        clear c11
        replace H := Option.bind_eq_some_iff.mp H
        obtain ⟨⟨t178, t179⟩, A120, H⟩ := H
        replace H : ((wide_Of.f a0).bind fun bt180 => (if (t178 == bt180.1 && (t179 == bt180.2)) = true then ((wide_Prod.f a0 a1).bind fun bt182 => ((wide_Prod.f a1 a0).bind fun bt184 => (some (bt182.1 == bt184.1 && (bt182.2 == bt184.2))))) else (none))) = some r := H
        have A12 := Aside0.mk A120
        clear A120
        replace H := Option.bind_eq_some_iff.mp H
        obtain ⟨⟨t180, t181⟩, A130, H⟩ := H
        replace H : (if (t178 == t180 && (t179 == t181)) = true then ((wide_Prod.f a0 a1).bind fun bt182 => ((wide_Prod.f a1 a0).bind fun bt184 => (some (bt182.1 == bt184.1 && (bt182.2 == bt184.2))))) else (none)) = some r := H
        have A13 := Aside0.mk A130
        clear A130
        by_cases c14 : (t178 == t180 && (t179 == t181)) = true
        · rw [if_pos c14] at H
          have c14b0 : (t178 == t180 && (t179 == t181)) = true := c14
          (try (have c14b1 : decide (t178 = t180 && (t179 == t181)) = true := by simpa using c14))
          (try (have c14b2 : (t178 == t180 && (t179 == t181)) = true := by simpa using c14))
          clear c14
          replace H := Option.bind_eq_some_iff.mp H
          obtain ⟨⟨t182, t183⟩, A150, H⟩ := H
          replace H : ((wide_Prod.f a1 a0).bind fun bt184 => (some (t182 == bt184.1 && (t183 == bt184.2)))) = some r := H
          have A15 := Aside0.mk A150
          clear A150
          replace H := Option.bind_eq_some_iff.mp H
          obtain ⟨⟨t184, t185⟩, A160, H⟩ := H
          replace H : (some (t182 == t184 && (t183 == t185))) = some r := H
          have A16 := Aside0.mk A160
          clear A160
          obtain rfl := Option.some.inj H
          go_enter Try.func3, Try.ntmps3
          go_wp2_with (first | ((with_reducible refine gate_callee (f := 11) rfl ?_); refine goesL_ (some 5) rfl rfl Try.func11 (by kernel_rfl) rfl #[] rfl (by (try simp only [List.map_toArray, List.map_cons, List.map_nil]); first | done | rfl | (simp only [List.length_drop, List.length_take]; rfl)) ?_; (with_reducible refine (carousellaw2_awake.calls k  true _ A3.out).mono ?_); rintro e w17 ⟨rfl, hb⟩; refine ⟨_, rfl, ?_⟩; have n0_ := Aside0.mk (below_step (by repeat (first | (with_reducible first | exact HB.out | apply below_alloc | apply pw_below_drewN | apply below_drew1) | exact HB.out)) hb); clear HB; have HB := n0_; clear n0_; (try clear hb); (try clear hb2); (try clear hk); (try clear hi)) | (go_at_call 12; (with_reducible refine (wide_Prod.calls a0 a1 t165 t166 _ A5.out).mono ?_); clear A5; rintro e w18 ⟨rfl, hb⟩; have n0_ := Aside0.mk (below_step (by repeat (first | (with_reducible first | exact HB.out | apply below_alloc | apply pw_below_drewN | apply below_drew1) | exact HB.out)) hb); clear HB; have HB := n0_; clear n0_; (try clear hb); (try clear hb2); (try clear hk); (try clear hi)) | (go_at_call 13; (with_reducible refine (carouselref1_Prod.calls a0 a1 t167 t168 _ A6.out).mono ?_); rintro e w19 ⟨rfl, hb⟩; have n0_ := Aside0.mk (below_step (by repeat (first | (with_reducible first | exact HB.out | apply below_alloc | apply pw_below_drewN | apply below_drew1) | exact HB.out)) hb); clear HB; have HB := n0_; clear n0_; (try clear hb); (try clear hb2); (try clear hk); (try clear hi)) | (go_at_call 14; (with_reducible refine (wide_Of.calls a0 t169 t170 _ A8.out).mono ?_); clear A8; rintro e w20 ⟨rfl, hb⟩; have n0_ := Aside0.mk (below_step (by repeat (first | (with_reducible first | exact HB.out | apply below_alloc | apply pw_below_drewN | apply below_drew1) | exact HB.out)) hb); clear HB; have HB := n0_; clear n0_; (try clear hb); (try clear hb2); (try clear hk); (try clear hi)) | (go_at_call 16; (with_reducible refine (carouselref1_From.calls a0 t171 t172 t173 t174 t175 _ A9.out).mono ?_); rintro e w21 ⟨rfl, hb⟩; have n0_ := Aside0.mk (below_step (by repeat (first | (with_reducible first | exact HB.out | apply below_alloc | apply pw_below_drewN | apply below_drew1) | exact HB.out)) hb); clear HB; have HB := n0_; clear n0_; (try clear hb); (try clear hb2); (try clear hk); (try clear hi)) | (go_at_call 15; (with_reducible refine (carouselref1_Wide.calls t171 t172 t173 t174 t175 t176 t177 _ A10.out).mono ?_); rintro e w22 ⟨rfl, hb⟩; have n0_ := Aside0.mk (below_step (by repeat (first | (with_reducible first | exact HB.out | apply below_alloc | apply pw_below_drewN | apply below_drew1) | exact HB.out)) hb); clear HB; have HB := n0_; clear n0_; (try clear hb); (try clear hb2); (try clear hk); (try clear hi)) | (go_at_call 12; (with_reducible refine (wide_Prod.calls a0 1 t178 t179 _ A12.out).mono ?_); rintro e w23 ⟨rfl, hb⟩; have n0_ := Aside0.mk (below_step (by repeat (first | (with_reducible first | exact HB.out | apply below_alloc | apply pw_below_drewN | apply below_drew1) | exact HB.out)) hb); clear HB; have HB := n0_; clear n0_; (try clear hb); (try clear hb2); (try clear hk); (try clear hi)) | (go_at_call 14; (with_reducible refine (wide_Of.calls a0 t180 t181 _ A13.out).mono ?_); clear A13; rintro e w24 ⟨rfl, hb⟩; have n0_ := Aside0.mk (below_step (by repeat (first | (with_reducible first | exact HB.out | apply below_alloc | apply pw_below_drewN | apply below_drew1) | exact HB.out)) hb); clear HB; have HB := n0_; clear n0_; (try clear hb); (try clear hb2); (try clear hk); (try clear hi)) | (go_at_call 12; (with_reducible refine (wide_Prod.calls a0 a1 t182 t183 _ A15.out).mono ?_); clear A15; rintro e w25 ⟨rfl, hb⟩; have n0_ := Aside0.mk (below_step (by repeat (first | (with_reducible first | exact HB.out | apply below_alloc | apply pw_below_drewN | apply below_drew1) | exact HB.out)) hb); clear HB; have HB := n0_; clear n0_; (try clear hb); (try clear hb2); (try clear hk); (try clear hi)) | (go_at_call 12; (with_reducible refine (wide_Prod.calls a1 a0 t184 t185 _ A16.out).mono ?_); rintro e w26 ⟨rfl, hb⟩; have n0_ := Aside0.mk (below_step (by repeat (first | (with_reducible first | exact HB.out | apply below_alloc | apply pw_below_drewN | apply below_drew1) | exact HB.out)) hb); clear HB; have HB := n0_; clear n0_; (try clear hb); (try clear hb2); (try clear hk); (try clear hi)))
          go_ret
          exact ⟨by first | rfl | (simp [errW_none, errW_some] <;> rfl) | (simp [*, errW_none, errW_some] <;> rfl), by repeat (first | (with_reducible first | exact HB.out | apply below_alloc | apply pw_below_drewN | apply below_drew1) | exact HB.out)⟩
        · rw [if_neg c14] at H
          exact absurd H (by simp)
      · rw [if_neg c11] at H
        exact absurd H (by simp)
    · rw [if_neg c7] at H
      exact absurd H (by simp)
  · replace c4 := Bool.eq_false_iff.mpr c4
    subst c4
    have H1 : (none) = some r := by rw [if_neg (show ¬ (false = true) by decide)] at H; exact H
    clear H
    have H := H1
    clear H1
    exact absurd H (by simp)

/-- THE ONE PURE STATEMENT of carousellaw2_WideProds: yours. -/
def carousellaw2_WideProds.Pure : Prop := ∀ (a0 : Int) (a1 : Int), (Lit.int .i64 a0).wf = true → (Lit.int .i64 a1).wf = true → ∃ k, carousellaw2_WideProds.f k a0 a1 = some true
theorem carousellaw2_WideProds.walk (P : carousellaw2_WideProds.Pure) (a0 : Int) (a1 : Int) (w : World) (w0 : (Lit.int .i64 a0).wf = true) (w1 : (Lit.int .i64 a1).wf = true) :
    Calls Try.prog 3 #[.int .i64 a0, .int .i64 a1] w fun e w' => e = .returned (.bool true) ∧ Below w.heap.size w w' := by
  obtain ⟨k, h⟩ := P a0 a1 w0 w1
  refine (carousellaw2_WideProds.calls k a0 a1 true w h).mono ?_
  rintro e w' ⟨rfl, hd⟩
  exact ⟨rfl, hd⟩

end Go.Proofs.Ytalghnbolnimiaa.PWideProds
