/- The functions that the law WideOrder reaches, as Lean functions, and that each call of the Go function does what its Lean function says, wherever that one answers. Written by a program of mine over the print of the kit; Lean checks it. -/
import Derived.Test.YtalghnbolnimiaaPWideOrderx0
import Derived.Test.YtalghnbolnimiaaPWideOrderx1
import Derived.Test.YtalghnbolnimiaaPWideOrderx2
import Derived.Test.YtalghnbolnimiaaPWideOrderx4
namespace Go.Proofs.Ytalghnbolnimiaa.PWideOrder
open Go.RowKit Go.Proofs.YtalghnbolnimiaaW.PrintWords Go.Proofs.YtalghnbolnimiaaW.PrintLast Go.Proofs.YtalghnbolnimiaaW.PrintMore
attribute [local go_sem] max2_int min2_int max_two min_two max_three min_three max_four min_four   -- for this text's walks alone
set_option linter.unusedVariables false
set_option linter.unusedSimpArgs false

attribute [local go_sem high] eqA25
/-! ### carousellaw2_WideOrder: function 4 -/
def carousellaw2_WideOrder.f (k : Nat) (a0_0 : Int) (a0_1 : Int) (a1_0 : Int) (a1_1 : Int) (a2_0 : Int) (a2_1 : Int) : Option (Bool) := (carousellaw2_awake.f k).bind fun t155 => (if t155 = true then ((wide_Add.f a0_0 a0_1 a1_0 a1_1).bind fun bt156 => ((wide_Add.f bt156.1 bt156.2 a2_0 a2_1).bind fun bt158 => ((wide_Add.f a1_0 a1_1 a2_0 a2_1).bind fun bt160 => ((wide_Add.f a0_0 a0_1 bt160.1 bt160.2).bind fun bt162 => (if (bt158.1 == bt162.1 && (bt158.2 == bt162.2)) = true then ((wide_Add.f a0_0 a0_1 a1_0 a1_1).bind fun bt164 => ((wide_Add.f a1_0 a1_1 a0_0 a0_1).bind fun bt166 => (if (bt164.1 == bt166.1 && (bt164.2 == bt166.2)) = true then ((wide_Neg.f a0_0 a0_1).bind fun bt168 => ((wide_Add.f a0_0 a0_1 bt168.1 bt168.2).bind fun bt170 => (if (bt170.1 == 0 && (bt170.2 == 0)) = true then ((wide_Sub.f a0_0 a0_1 a1_0 a1_1).bind fun bt172 => ((wide_Neg.f a1_0 a1_1).bind fun bt174 => ((wide_Add.f a0_0 a0_1 bt174.1 bt174.2).bind fun bt176 => (if (bt172.1 == bt176.1 && (bt172.2 == bt176.2)) = true then ((wide_Add.f a0_0 a0_1 a1_0 a1_1).bind fun bt178 => ((wide_Sub.f bt178.1 bt178.2 a1_0 a1_1).bind fun bt180 => (some (bt180.1 == a0_0 && (bt180.2 == a0_1))))) else (none))))) else (none)))) else (none)))) else (none)))))) else (none))
theorem carousellaw2_WideOrder.mono : ∀ a0 a1 a2 a3 a4 a5 k, LeO (carousellaw2_WideOrder.f k a0 a1 a2 a3 a4 a5) (carousellaw2_WideOrder.f (k + 1) a0 a1 a2 a3 a4 a5) := by
  intro a0 a1 a2 a3 a4 a5 k
  unfold carousellaw2_WideOrder.f
  repeat' first
      | (with_reducible exact carousellaw2_awake.mono _)
      | (with_reducible exact LeO.refl _)
      | (with_reducible exact LeO.none _)
      | (with_reducible refine LeO.ite ?_ ?_)
      | (with_reducible refine LeO.bind ?_ (fun _ => ?_))
      | exact carousellaw2_awake.mono _
      | exact LeO.none _
      | refine LeO.ite ?_ ?_
      | refine LeO.bind ?_ (fun _ => ?_)
def carousellaw2_WideOrder.T3 : Bool × List (List Nat × List Nat) := (true, [([], []), ([], []), ([0, 1], [0, 1]), ([], []), ([2, 3, 2], [2, 3]), ([], []), ([], []), ([], []), ([6, 7, 4], [6, 7]), ([5, 8, 8], [5, 8]), ([4, 9], [4, 9]), ([10, 9], [10]), ([11], [11]), ([11], [11]), ([12, 13, 11, 11], [11, 12, 13]), ([11], [11]), ([11], [11]), ([15, 16, 14, 11], [11, 15, 16]), ([14, 17, 11], [11, 14, 17]), ([11, 18], [11, 18]), ([19, 17], [19]), ([20], [20]), ([20], [20]), ([22, 20, 20], [20, 22]), ([21, 23, 23, 20], [20, 21, 23]), ([20], [20]), ([24, 25, 20], [20, 24, 25]), ([20, 26], [20, 26]), ([27, 24], [27]), ([28], [28]), ([28], [28]), ([29, 30, 28, 28], [28, 29, 30]), ([28], [28]), ([28], [28]), ([33, 31, 28], [28, 33]), ([32, 34, 34, 28], [28, 32, 34]), ([31, 35, 28], [28, 31, 35]), ([28, 36], [28, 36]), ([37, 35], [37]), ([38], [38]), ([38], [38]), ([39, 40, 38, 38], [38, 39, 40]), ([38], [38]), ([41, 42, 41, 38], [38, 41, 42]), ([38], [38]), ([43, 44, 38], [38, 43, 44]), ([38, 45], [38, 45]), ([46, 43, 0, 1, 2, 3, 4, 5, 6, 7, 8, 9, 10, 11, 12, 13, 14, 15, 16, 17, 18, 19, 20, 21, 22, 23, 24, 25, 26, 27, 28, 29, 30, 31, 32, 33, 34, 35, 36, 37, 38, 39, 40, 41, 42, 43, 44, 45, 46], [46])])
def carousellaw2_WideOrder.B3 : List Nat := [0, 0, 3, 0, 15, 0, 0, 0, 223, 511, 1023, 2047, 4095, 4095, 16383, 4095, 4095, 131071, 262143, 524287, 1048575, 2097151, 2097151, 6291455, 16777215, 2097151, 67108863, 134217727, 268435455, 536870911, 536870911, 2147483647, 536870911, 536870911, 12884901887, 34359738367, 68719476735, 137438953471, 274877906943, 549755813887, 549755813887, 2199023255551, 549755813887, 8796093022207, 549755813887, 35184372088831, 70368744177663, 140737488355327]
theorem carousellaw2_WideOrder.tab3 : rtab .any (opsOf Try.f4 3) = carousellaw2_WideOrder.T3 := by kernel_rfl
theorem carousellaw2_WideOrder.bits3 : waitsOk carousellaw2_WideOrder.T3.2 carousellaw2_WideOrder.B3 = true := by kernel_rfl
set_option maxHeartbeats 8000000 in
set_option maxRecDepth 100000 in
theorem carousellaw2_WideOrder.calls (k : Nat) (a0_0 : Int) (a0_1 : Int) (a1_0 : Int) (a1_1 : Int) (a2_0 : Int) (a2_1 : Int) (r : Bool) (w : World) (h : carousellaw2_WideOrder.f k a0_0 a0_1 a1_0 a1_1 a2_0 a2_1 = some r) :
    Calls Try.prog 4 #[.agg #[.int .i64 a0_0, .int .u64 a0_1], .agg #[.int .i64 a1_0, .int .u64 a1_1], .agg #[.int .i64 a2_0, .int .u64 a2_1]] w fun e w' => e = .returned (.bool r) ∧ Below w.heap.size w w' := by
  have hu25 := Try.underlying25
  have HB := Aside0.mk (Below.refl w.heap.size w)
  have H : ((carousellaw2_awake.f k).bind fun t155 => (if t155 = true then ((wide_Add.f a0_0 a0_1 a1_0 a1_1).bind fun bt156 => ((wide_Add.f bt156.1 bt156.2 a2_0 a2_1).bind fun bt158 => ((wide_Add.f a1_0 a1_1 a2_0 a2_1).bind fun bt160 => ((wide_Add.f a0_0 a0_1 bt160.1 bt160.2).bind fun bt162 => (if (bt158.1 == bt162.1 && (bt158.2 == bt162.2)) = true then ((wide_Add.f a0_0 a0_1 a1_0 a1_1).bind fun bt164 => ((wide_Add.f a1_0 a1_1 a0_0 a0_1).bind fun bt166 => (if (bt164.1 == bt166.1 && (bt164.2 == bt166.2)) = true then ((wide_Neg.f a0_0 a0_1).bind fun bt168 => ((wide_Add.f a0_0 a0_1 bt168.1 bt168.2).bind fun bt170 => (if (bt170.1 == 0 && (bt170.2 == 0)) = true then ((wide_Sub.f a0_0 a0_1 a1_0 a1_1).bind fun bt172 => ((wide_Neg.f a1_0 a1_1).bind fun bt174 => ((wide_Add.f a0_0 a0_1 bt174.1 bt174.2).bind fun bt176 => (if (bt172.1 == bt176.1 && (bt172.2 == bt176.2)) = true then ((wide_Add.f a0_0 a0_1 a1_0 a1_1).bind fun bt178 => ((wide_Sub.f bt178.1 bt178.2 a1_0 a1_1).bind fun bt180 => (some (bt180.1 == a0_0 && (bt180.2 == a0_1))))) else (none))))) else (none)))) else (none)))) else (none)))))) else (none))) = some r := h
  clear h
  replace H := Option.bind_eq_some_iff.mp H
  obtain ⟨t155, A40, H⟩ := H
  replace H : (if t155 = true then ((wide_Add.f a0_0 a0_1 a1_0 a1_1).bind fun bt156 => ((wide_Add.f bt156.1 bt156.2 a2_0 a2_1).bind fun bt158 => ((wide_Add.f a1_0 a1_1 a2_0 a2_1).bind fun bt160 => ((wide_Add.f a0_0 a0_1 bt160.1 bt160.2).bind fun bt162 => (if (bt158.1 == bt162.1 && (bt158.2 == bt162.2)) = true then ((wide_Add.f a0_0 a0_1 a1_0 a1_1).bind fun bt164 => ((wide_Add.f a1_0 a1_1 a0_0 a0_1).bind fun bt166 => (if (bt164.1 == bt166.1 && (bt164.2 == bt166.2)) = true then ((wide_Neg.f a0_0 a0_1).bind fun bt168 => ((wide_Add.f a0_0 a0_1 bt168.1 bt168.2).bind fun bt170 => (if (bt170.1 == 0 && (bt170.2 == 0)) = true then ((wide_Sub.f a0_0 a0_1 a1_0 a1_1).bind fun bt172 => ((wide_Neg.f a1_0 a1_1).bind fun bt174 => ((wide_Add.f a0_0 a0_1 bt174.1 bt174.2).bind fun bt176 => (if (bt172.1 == bt176.1 && (bt172.2 == bt176.2)) = true then ((wide_Add.f a0_0 a0_1 a1_0 a1_1).bind fun bt178 => ((wide_Sub.f bt178.1 bt178.2 a1_0 a1_1).bind fun bt180 => (some (bt180.1 == a0_0 && (bt180.2 == a0_1))))) else (none))))) else (none)))) else (none)))) else (none)))))) else (none)) = some r := H
  have A4 := Aside0.mk A40
  clear A40
  by_cases c5 : t155 = true
  · subst c5
    have H1 : ((wide_Add.f a0_0 a0_1 a1_0 a1_1).bind fun bt156 => ((wide_Add.f bt156.1 bt156.2 a2_0 a2_1).bind fun bt158 => ((wide_Add.f a1_0 a1_1 a2_0 a2_1).bind fun bt160 => ((wide_Add.f a0_0 a0_1 bt160.1 bt160.2).bind fun bt162 => (if (bt158.1 == bt162.1 && (bt158.2 == bt162.2)) = true then ((wide_Add.f a0_0 a0_1 a1_0 a1_1).bind fun bt164 => ((wide_Add.f a1_0 a1_1 a0_0 a0_1).bind fun bt166 => (if (bt164.1 == bt166.1 && (bt164.2 == bt166.2)) = true then ((wide_Neg.f a0_0 a0_1).bind fun bt168 => ((wide_Add.f a0_0 a0_1 bt168.1 bt168.2).bind fun bt170 => (if (bt170.1 == 0 && (bt170.2 == 0)) = true then ((wide_Sub.f a0_0 a0_1 a1_0 a1_1).bind fun bt172 => ((wide_Neg.f a1_0 a1_1).bind fun bt174 => ((wide_Add.f a0_0 a0_1 bt174.1 bt174.2).bind fun bt176 => (if (bt172.1 == bt176.1 && (bt172.2 == bt176.2)) = true then ((wide_Add.f a0_0 a0_1 a1_0 a1_1).bind fun bt178 => ((wide_Sub.f bt178.1 bt178.2 a1_0 a1_1).bind fun bt180 => (some (bt180.1 == a0_0 && (bt180.2 == a0_1))))) else (none))))) else (none)))) else (none)))) else (none)))))) = some r := by rw [if_pos rfl] at H; exact H
    clear H
    have H := H1
    clear H1
    replace H := Option.bind_eq_some_iff.mp H
    obtain ⟨⟨t156, t157⟩, A60, H⟩ := H
    replace H : ((wide_Add.f t156 t157 a2_0 a2_1).bind fun bt158 => ((wide_Add.f a1_0 a1_1 a2_0 a2_1).bind fun bt160 => ((wide_Add.f a0_0 a0_1 bt160.1 bt160.2).bind fun bt162 => (if (bt158.1 == bt162.1 && (bt158.2 == bt162.2)) = true then ((wide_Add.f a0_0 a0_1 a1_0 a1_1).bind fun bt164 => ((wide_Add.f a1_0 a1_1 a0_0 a0_1).bind fun bt166 => (if (bt164.1 == bt166.1 && (bt164.2 == bt166.2)) = true then ((wide_Neg.f a0_0 a0_1).bind fun bt168 => ((wide_Add.f a0_0 a0_1 bt168.1 bt168.2).bind fun bt170 => (if (bt170.1 == 0 && (bt170.2 == 0)) = true then ((wide_Sub.f a0_0 a0_1 a1_0 a1_1).bind fun bt172 => ((wide_Neg.f a1_0 a1_1).bind fun bt174 => ((wide_Add.f a0_0 a0_1 bt174.1 bt174.2).bind fun bt176 => (if (bt172.1 == bt176.1 && (bt172.2 == bt176.2)) = true then ((wide_Add.f a0_0 a0_1 a1_0 a1_1).bind fun bt178 => ((wide_Sub.f bt178.1 bt178.2 a1_0 a1_1).bind fun bt180 => (some (bt180.1 == a0_0 && (bt180.2 == a0_1))))) else (none))))) else (none)))) else (none)))) else (none))))) = some r := H
    have A6 := Aside0.mk A60
    clear A60
    replace H := Option.bind_eq_some_iff.mp H
    obtain ⟨⟨t158, t159⟩, A70, H⟩ := H
    replace H : ((wide_Add.f a1_0 a1_1 a2_0 a2_1).bind fun bt160 => ((wide_Add.f a0_0 a0_1 bt160.1 bt160.2).bind fun bt162 => (if (t158 == bt162.1 && (t159 == bt162.2)) = true then ((wide_Add.f a0_0 a0_1 a1_0 a1_1).bind fun bt164 => ((wide_Add.f a1_0 a1_1 a0_0 a0_1).bind fun bt166 => (if (bt164.1 == bt166.1 && (bt164.2 == bt166.2)) = true then ((wide_Neg.f a0_0 a0_1).bind fun bt168 => ((wide_Add.f a0_0 a0_1 bt168.1 bt168.2).bind fun bt170 => (if (bt170.1 == 0 && (bt170.2 == 0)) = true then ((wide_Sub.f a0_0 a0_1 a1_0 a1_1).bind fun bt172 => ((wide_Neg.f a1_0 a1_1).bind fun bt174 => ((wide_Add.f a0_0 a0_1 bt174.1 bt174.2).bind fun bt176 => (if (bt172.1 == bt176.1 && (bt172.2 == bt176.2)) = true then ((wide_Add.f a0_0 a0_1 a1_0 a1_1).bind fun bt178 => ((wide_Sub.f bt178.1 bt178.2 a1_0 a1_1).bind fun bt180 => (some (bt180.1 == a0_0 && (bt180.2 == a0_1))))) else (none))))) else (none)))) else (none)))) else (none)))) = some r := H
    have A7 := Aside0.mk A70
    clear A70
    replace H := Option.bind_eq_some_iff.mp H
    obtain ⟨⟨t160, t161⟩, A80, H⟩ := H
    replace H : ((wide_Add.f a0_0 a0_1 t160 t161).bind fun bt162 => (if (t158 == bt162.1 && (t159 == bt162.2)) = true then ((wide_Add.f a0_0 a0_1 a1_0 a1_1).bind fun bt164 => ((wide_Add.f a1_0 a1_1 a0_0 a0_1).bind fun bt166 => (if (bt164.1 == bt166.1 && (bt164.2 == bt166.2)) = true then ((wide_Neg.f a0_0 a0_1).bind fun bt168 => ((wide_Add.f a0_0 a0_1 bt168.1 bt168.2).bind fun bt170 => (if (bt170.1 == 0 && (bt170.2 == 0)) = true then ((wide_Sub.f a0_0 a0_1 a1_0 a1_1).bind fun bt172 => ((wide_Neg.f a1_0 a1_1).bind fun bt174 => ((wide_Add.f a0_0 a0_1 bt174.1 bt174.2).bind fun bt176 => (if (bt172.1 == bt176.1 && (bt172.2 == bt176.2)) = true then ((wide_Add.f a0_0 a0_1 a1_0 a1_1).bind fun bt178 => ((wide_Sub.f bt178.1 bt178.2 a1_0 a1_1).bind fun bt180 => (some (bt180.1 == a0_0 && (bt180.2 == a0_1))))) else (none))))) else (none)))) else (none)))) else (none))) = some r := H
    have A8 := Aside0.mk A80
    clear A80
    replace H := Option.bind_eq_some_iff.mp H
    obtain ⟨⟨t162, t163⟩, A90, H⟩ := H
    replace H : (if (t158 == t162 && (t159 == t163)) = true then ((wide_Add.f a0_0 a0_1 a1_0 a1_1).bind fun bt164 => ((wide_Add.f a1_0 a1_1 a0_0 a0_1).bind fun bt166 => (if (bt164.1 == bt166.1 && (bt164.2 == bt166.2)) = true then ((wide_Neg.f a0_0 a0_1).bind fun bt168 => ((wide_Add.f a0_0 a0_1 bt168.1 bt168.2).bind fun bt170 => (if (bt170.1 == 0 && (bt170.2 == 0)) = true then ((wide_Sub.f a0_0 a0_1 a1_0 a1_1).bind fun bt172 => ((wide_Neg.f a1_0 a1_1).bind fun bt174 => ((wide_Add.f a0_0 a0_1 bt174.1 bt174.2).bind fun bt176 => (if (bt172.1 == bt176.1 && (bt172.2 == bt176.2)) = true then ((wide_Add.f a0_0 a0_1 a1_0 a1_1).bind fun bt178 => ((wide_Sub.f bt178.1 bt178.2 a1_0 a1_1).bind fun bt180 => (some (bt180.1 == a0_0 && (bt180.2 == a0_1))))) else (none))))) else (none)))) else (none)))) else (none)) = some r := H
    have A9 := Aside0.mk A90
    clear A90
    by_cases c10 : (t158 == t162 && (t159 == t163)) = true
    · rw [if_pos c10] at H
      have c10b0 : (t158 == t162 && (t159 == t163)) = true := c10
      (try (have c10b1 : decide (t158 = t162 && (t159 == t163)) = true := by simpa using c10))
      (try (have c10b2 : (t158 == t162 && (t159 == t163)) = true := by simpa using c10))
      clear c10
      replace H := Option.bind_eq_some_iff.mp H
      obtain ⟨⟨t164, t165⟩, A110, H⟩ := H
      replace H : ((wide_Add.f a1_0 a1_1 a0_0 a0_1).bind fun bt166 => (if (t164 == bt166.1 && (t165 == bt166.2)) = true then ((wide_Neg.f a0_0 a0_1).bind fun bt168 => ((wide_Add.f a0_0 a0_1 bt168.1 bt168.2).bind fun bt170 => (if (bt170.1 == 0 && (bt170.2 == 0)) = true then ((wide_Sub.f a0_0 a0_1 a1_0 a1_1).bind fun bt172 => ((wide_Neg.f a1_0 a1_1).bind fun bt174 => ((wide_Add.f a0_0 a0_1 bt174.1 bt174.2).bind fun bt176 => (if (bt172.1 == bt176.1 && (bt172.2 == bt176.2)) = true then ((wide_Add.f a0_0 a0_1 a1_0 a1_1).bind fun bt178 => ((wide_Sub.f bt178.1 bt178.2 a1_0 a1_1).bind fun bt180 => (some (bt180.1 == a0_0 && (bt180.2 == a0_1))))) else (none))))) else (none)))) else (none))) = some r := H
      have A11 := Aside0.mk A110
      clear A110
      replace H := Option.bind_eq_some_iff.mp H
      obtain ⟨⟨t166, t167⟩, A120, H⟩ := H
      replace H : (if (t164 == t166 && (t165 == t167)) = true then ((wide_Neg.f a0_0 a0_1).bind fun bt168 => ((wide_Add.f a0_0 a0_1 bt168.1 bt168.2).bind fun bt170 => (if (bt170.1 == 0 && (bt170.2 == 0)) = true then ((wide_Sub.f a0_0 a0_1 a1_0 a1_1).bind fun bt172 => ((wide_Neg.f a1_0 a1_1).bind fun bt174 => ((wide_Add.f a0_0 a0_1 bt174.1 bt174.2).bind fun bt176 => (if (bt172.1 == bt176.1 && (bt172.2 == bt176.2)) = true then ((wide_Add.f a0_0 a0_1 a1_0 a1_1).bind fun bt178 => ((wide_Sub.f bt178.1 bt178.2 a1_0 a1_1).bind fun bt180 => (some (bt180.1 == a0_0 && (bt180.2 == a0_1))))) else (none))))) else (none)))) else (none)) = some r := H
      have A12 := Aside0.mk A120
      clear A120
      by_cases c13 : (t164 == t166 && (t165 == t167)) = true
      · rw [if_pos c13] at H
        have c13b0 : (t164 == t166 && (t165 == t167)) = true := c13
        (try (have c13b1 : decide (t164 = t166 && (t165 == t167)) = true := by simpa using c13))
        (try (have c13b2 : (t164 == t166 && (t165 == t167)) = true := by simpa using c13))
        clear c13
        replace H := Option.bind_eq_some_iff.mp H
        obtain ⟨⟨t168, t169⟩, A140, H⟩ := H
        replace H : ((wide_Add.f a0_0 a0_1 t168 t169).bind fun bt170 => (if (bt170.1 == 0 && (bt170.2 == 0)) = true then ((wide_Sub.f a0_0 a0_1 a1_0 a1_1).bind fun bt172 => ((wide_Neg.f a1_0 a1_1).bind fun bt174 => ((wide_Add.f a0_0 a0_1 bt174.1 bt174.2).bind fun bt176 => (if (bt172.1 == bt176.1 && (bt172.2 == bt176.2)) = true then ((wide_Add.f a0_0 a0_1 a1_0 a1_1).bind fun bt178 => ((wide_Sub.f bt178.1 bt178.2 a1_0 a1_1).bind fun bt180 => (some (bt180.1 == a0_0 && (bt180.2 == a0_1))))) else (none))))) else (none))) = some r := H
        have A14 := Aside0.mk A140
        clear A140
        replace H := Option.bind_eq_some_iff.mp H
        obtain ⟨⟨t170, t171⟩, A150, H⟩ := H
        replace H : (if (t170 == 0 && (t171 == 0)) = true then ((wide_Sub.f a0_0 a0_1 a1_0 a1_1).bind fun bt172 => ((wide_Neg.f a1_0 a1_1).bind fun bt174 => ((wide_Add.f a0_0 a0_1 bt174.1 bt174.2).bind fun bt176 => (if (bt172.1 == bt176.1 && (bt172.2 == bt176.2)) = true then ((wide_Add.f a0_0 a0_1 a1_0 a1_1).bind fun bt178 => ((wide_Sub.f bt178.1 bt178.2 a1_0 a1_1).bind fun bt180 => (some (bt180.1 == a0_0 && (bt180.2 == a0_1))))) else (none))))) else (none)) = some r := H
        have A15 := Aside0.mk A150
        clear A150
        by_cases c16 : (t170 == 0 && (t171 == 0)) = true
        · rw [if_pos c16] at H
          have c16b0 : (t170 == 0 && (t171 == 0)) = true := c16
          (try (have c16b1 : decide (t170 = 0 && (t171 == 0)) = true := by simpa using c16))
          (try (have c16b2 : (t170 == 0 && (t171 == 0)) = true := by simpa using c16))
          clear c16
          replace H := Option.bind_eq_some_iff.mp H
          obtain ⟨⟨t172, t173⟩, A170, H⟩ := H
          replace H : ((wide_Neg.f a1_0 a1_1).bind fun bt174 => ((wide_Add.f a0_0 a0_1 bt174.1 bt174.2).bind fun bt176 => (if (t172 == bt176.1 && (t173 == bt176.2)) = true then ((wide_Add.f a0_0 a0_1 a1_0 a1_1).bind fun bt178 => ((wide_Sub.f bt178.1 bt178.2 a1_0 a1_1).bind fun bt180 => (some (bt180.1 == a0_0 && (bt180.2 == a0_1))))) else (none)))) = some r := H
          have A17 := Aside0.mk A170
          clear A170
          replace H := Option.bind_eq_some_iff.mp H
          obtain ⟨⟨t174, t175⟩, A180, H⟩ := H
          replace H : ((wide_Add.f a0_0 a0_1 t174 t175).bind fun bt176 => (if (t172 == bt176.1 && (t173 == bt176.2)) = true then ((wide_Add.f a0_0 a0_1 a1_0 a1_1).bind fun bt178 => ((wide_Sub.f bt178.1 bt178.2 a1_0 a1_1).bind fun bt180 => (some (bt180.1 == a0_0 && (bt180.2 == a0_1))))) else (none))) = some r := H
          have A18 := Aside0.mk A180
          clear A180
          replace H := Option.bind_eq_some_iff.mp H
          obtain ⟨⟨t176, t177⟩, A190, H⟩ := H
          replace H : (if (t172 == t176 && (t173 == t177)) = true then ((wide_Add.f a0_0 a0_1 a1_0 a1_1).bind fun bt178 => ((wide_Sub.f bt178.1 bt178.2 a1_0 a1_1).bind fun bt180 => (some (bt180.1 == a0_0 && (bt180.2 == a0_1))))) else (none)) = some r := H
          have A19 := Aside0.mk A190
          clear A190
          by_cases c20 : (t172 == t176 && (t173 == t177)) = true
          · rw [if_pos c20] at H
            have c20b0 : (t172 == t176 && (t173 == t177)) = true := c20
            (try (have c20b1 : decide (t172 = t176 && (t173 == t177)) = true := by simpa using c20))
            (try (have c20b2 : (t172 == t176 && (t173 == t177)) = true := by simpa using c20))
            clear c20
            replace H := Option.bind_eq_some_iff.mp H
            obtain ⟨⟨t178, t179⟩, A210, H⟩ := H
            replace H : ((wide_Sub.f t178 t179 a1_0 a1_1).bind fun bt180 => (some (bt180.1 == a0_0 && (bt180.2 == a0_1)))) = some r := H
            have A21 := Aside0.mk A210
            clear A210
            replace H := Option.bind_eq_some_iff.mp H
            obtain ⟨⟨t180, t181⟩, A220, H⟩ := H
            replace H : (some (t180 == a0_0 && (t181 == a0_1))) = some r := H
            have A22 := Aside0.mk A220
            clear A220
            obtain rfl := Option.some.inj H
            go_enter Try.func4, Try.ntmps4
            try go_wp2_with (first | ((with_reducible refine gate_dst (N := 3) rfl ?_); refine box_event ?hg (N := 3) ?hd (cs := #[.int .i64 a0_0, .int .u64 a0_1]) (t := 25) ?hr ?_; (case hd => rfl); (case hg => rfl); (case hr => first | (go_simp; done) | (go_simp; rfl)); intro gb152 hg w23 hbox hb; have n0_ := Aside0.mk (below_step (by repeat (first | (with_reducible first | exact HB.out | apply below_alloc | apply pw_below_drewN | apply below_drew1) | exact HB.out)) hb); have n1_ := Aside0.mk (hbox); have n2_ := Aside0.mk ((by rw [hg]; exact (below_size (by repeat (first | (with_reducible first | exact HB.out | apply below_alloc | apply pw_below_drewN | apply below_drew1) | exact HB.out))) : w.heap.size ≤ gb152)); have n3_ := Aside0.mk ((by rw [hg]; exact (below_size (by repeat (first | (with_reducible first | exact HB.out | apply below_alloc | apply pw_below_drewN | apply below_drew1) | exact HB.out))) : w.heap.size ≤ gb152)); clear HB; have HB := n0_; have BK152 := n1_; have GW152 := n2_; have GE152 := n3_; clear n0_ n1_ n2_ n3_; clear hb hbox hg) | ((with_reducible refine gate_dst (N := 4) rfl ?_); refine box_event ?hg (N := 4) ?hd (cs := #[.int .i64 a1_0, .int .u64 a1_1]) (t := 25) ?hr ?_; (case hd => rfl); (case hg => rfl); (case hr => first | (go_simp; done) | (go_simp; rfl)); intro gb153 hg w24 hbox hb; have n0_ := Aside0.mk (blk_below (g := gb152) (o := .cells #[.int .i64 a0_0, .int .u64 a0_1] 25 (0, 0)) (by (with_reducible repeat (first | refine blk_drewN ?_ _ | refine blk_drew ?_ | refine blk_alloc ?_ _)); exact BK152.out) hb); have n1_ := Aside0.mk (below_step (by repeat (first | (with_reducible first | exact HB.out | apply below_alloc | apply pw_below_drewN | apply below_drew1 | refine below_set ?_ GE152.out) | exact HB.out)) hb); have n2_ := Aside0.mk (hbox); have n3_ := Aside0.mk ((by rw [hg]; exact (below_size (by repeat (first | (with_reducible first | exact HB.out | apply below_alloc | apply pw_below_drewN | apply below_drew1 | refine below_set ?_ GE152.out) | exact HB.out))) : w.heap.size ≤ gb153)); have n4_ := Aside0.mk ((by rw [hg]; exact (below_size (by repeat (first | (with_reducible first | exact HB.out | apply below_alloc | apply pw_below_drewN | apply below_drew1 | refine below_set ?_ GE152.out) | exact HB.out))) : w.heap.size ≤ gb153)); have n5_ := Aside0.mk ((by rw [hg]; exact Nat.ne_of_lt (blk_lt (g := gb152) (o := .cells #[.int .i64 a0_0, .int .u64 a0_1] 25 (0, 0)) (by (with_reducible repeat (first | refine blk_drewN ?_ _ | refine blk_drew ?_ | refine blk_alloc ?_ _)); exact BK152.out)) : gb152 ≠ gb153)); have n6_ := Aside0.mk ((by rw [hg]; exact Nat.ne_of_gt (blk_lt (g := gb152) (o := .cells #[.int .i64 a0_0, .int .u64 a0_1] 25 (0, 0)) (by (with_reducible repeat (first | refine blk_drewN ?_ _ | refine blk_drew ?_ | refine blk_alloc ?_ _)); exact BK152.out)) : gb153 ≠ gb152)); clear BK152; clear HB; have BK152 := n0_; have HB := n1_; have BK153 := n2_; have GW153 := n3_; have GE153 := n4_; have NB152_153 := n5_; have NB153_152 := n6_; clear n0_ n1_ n2_ n3_ n4_ n5_ n6_; clear hb hbox hg) | ((with_reducible refine gate_dst (N := 5) rfl ?_); refine box_event ?hg (N := 5) ?hd (cs := #[.int .i64 a2_0, .int .u64 a2_1]) (t := 25) ?hr ?_; (case hd => rfl); (case hg => rfl); (case hr => first | (go_simp; done) | (go_simp; rfl)); intro gb154 hg w25 hbox hb; have n0_ := Aside0.mk (blk_below (g := gb152) (o := .cells #[.int .i64 a0_0, .int .u64 a0_1] 25 (0, 0)) (by (with_reducible repeat (first | refine blk_drewN ?_ _ | refine blk_drew ?_ | refine blk_alloc ?_ _)); exact BK152.out) hb); have n1_ := Aside0.mk (blk_below (g := gb153) (o := .cells #[.int .i64 a1_0, .int .u64 a1_1] 25 (0, 0)) (by (with_reducible repeat (first | refine blk_drewN ?_ _ | refine blk_drew ?_ | refine blk_alloc ?_ _)); exact BK153.out) hb); have n2_ := Aside0.mk (below_step (by repeat (first | (with_reducible first | exact HB.out | apply below_alloc | apply pw_below_drewN | apply below_drew1 | refine below_set ?_ GE152.out | refine below_set ?_ GE153.out) | exact HB.out)) hb); have n3_ := Aside0.mk (hbox); have n4_ := Aside0.mk ((by rw [hg]; exact (below_size (by repeat (first | (with_reducible first | exact HB.out | apply below_alloc | apply pw_below_drewN | apply below_drew1 | refine below_set ?_ GE152.out | refine below_set ?_ GE153.out) | exact HB.out))) : w.heap.size ≤ gb154)); have n5_ := Aside0.mk ((by rw [hg]; exact (below_size (by repeat (first | (with_reducible first | exact HB.out | apply below_alloc | apply pw_below_drewN | apply below_drew1 | refine below_set ?_ GE152.out | refine below_set ?_ GE153.out) | exact HB.out))) : w.heap.size ≤ gb154)); have n6_ := Aside0.mk ((by rw [hg]; exact Nat.ne_of_lt (blk_lt (g := gb152) (o := .cells #[.int .i64 a0_0, .int .u64 a0_1] 25 (0, 0)) (by (with_reducible repeat (first | refine blk_drewN ?_ _ | refine blk_drew ?_ | refine blk_alloc ?_ _)); exact BK152.out)) : gb152 ≠ gb154)); have n7_ := Aside0.mk ((by rw [hg]; exact Nat.ne_of_gt (blk_lt (g := gb152) (o := .cells #[.int .i64 a0_0, .int .u64 a0_1] 25 (0, 0)) (by (with_reducible repeat (first | refine blk_drewN ?_ _ | refine blk_drew ?_ | refine blk_alloc ?_ _)); exact BK152.out)) : gb154 ≠ gb152)); have n8_ := Aside0.mk ((by rw [hg]; exact Nat.ne_of_lt (blk_lt (g := gb153) (o := .cells #[.int .i64 a1_0, .int .u64 a1_1] 25 (0, 0)) (by (with_reducible repeat (first | refine blk_drewN ?_ _ | refine blk_drew ?_ | refine blk_alloc ?_ _)); exact BK153.out)) : gb153 ≠ gb154)); have n9_ := Aside0.mk ((by rw [hg]; exact Nat.ne_of_gt (blk_lt (g := gb153) (o := .cells #[.int .i64 a1_0, .int .u64 a1_1] 25 (0, 0)) (by (with_reducible repeat (first | refine blk_drewN ?_ _ | refine blk_drew ?_ | refine blk_alloc ?_ _)); exact BK153.out)) : gb154 ≠ gb153)); clear BK152; clear BK153; clear HB; have BK152 := n0_; have BK153 := n1_; have HB := n2_; have BK154 := n3_; have GW154 := n4_; have GE154 := n5_; have NB152_154 := n6_; have NB154_152 := n7_; have NB153_154 := n8_; have NB154_153 := n9_; clear n0_ n1_ n2_ n3_ n4_ n5_ n6_ n7_ n8_ n9_; clear hb hbox hg) | ((with_reducible refine gate_callee (f := 11) rfl ?_); refine goesL_ (some 7) rfl rfl Try.func11 (by kernel_rfl) rfl #[] rfl (by (try simp only [List.map_toArray, List.map_cons, List.map_nil]); first | done | rfl | (simp only [List.length_drop, List.length_take]; rfl)) ?_; (with_reducible refine (carousellaw2_awake.calls k  true _ A4.out).mono ?_); rintro e w26 ⟨rfl, hb⟩; refine ⟨_, rfl, ?_⟩; have n0_ := Aside0.mk (blk_below (g := gb152) (o := .cells #[.int .i64 a0_0, .int .u64 a0_1] 25 (0, 0)) (by (with_reducible repeat (first | refine blk_drewN ?_ _ | refine blk_drew ?_ | refine blk_alloc ?_ _)); exact BK152.out) hb); have n1_ := Aside0.mk (blk_below (g := gb153) (o := .cells #[.int .i64 a1_0, .int .u64 a1_1] 25 (0, 0)) (by (with_reducible repeat (first | refine blk_drewN ?_ _ | refine blk_drew ?_ | refine blk_alloc ?_ _)); exact BK153.out) hb); have n2_ := Aside0.mk (blk_below (g := gb154) (o := .cells #[.int .i64 a2_0, .int .u64 a2_1] 25 (0, 0)) (by (with_reducible repeat (first | refine blk_drewN ?_ _ | refine blk_drew ?_ | refine blk_alloc ?_ _)); exact BK154.out) hb); have n3_ := Aside0.mk (below_step (by repeat (first | (with_reducible first | exact HB.out | apply below_alloc | apply pw_below_drewN | apply below_drew1 | refine below_set ?_ GE152.out | refine below_set ?_ GE153.out | refine below_set ?_ GE154.out) | exact HB.out)) hb); clear BK152; clear BK153; clear BK154; clear HB; have BK152 := n0_; have BK153 := n1_; have BK154 := n2_; have HB := n3_; clear n0_ n1_ n2_ n3_; (try clear hb); (try clear hb2); (try clear hk); (try clear hi)))
            have n0_ := Aside0.mk (blk_drew BK152.out)
            have n1_ := Aside0.mk (blk_drew BK153.out)
            have n2_ := Aside0.mk (blk_drew BK154.out)
            have n3_ := Aside0.mk (below_drew1 HB.out)
            clear BK152
            clear BK153
            clear BK154
            clear HB
            have BK152 := n0_
            have BK153 := n1_
            have BK154 := n2_
            have HB := n3_
            clear n0_ n1_ n2_ n3_
            refine start_ (n := 48) (S := fun w' => w'.cell? ⟨gb152, 0, none⟩ = some (.int .i64 a0_0) ∧ w'.cell? ⟨gb152, 1, none⟩ = some (.int .u64 a0_1) ∧ w'.cell? ⟨gb153, 0, none⟩ = some (.int .i64 a1_0) ∧ w'.cell? ⟨gb153, 1, none⟩ = some (.int .u64 a1_1) ∧ w'.cell? ⟨gb154, 0, none⟩ = some (.int .i64 a2_0) ∧ w'.cell? ⟨gb154, 1, none⟩ = some (.int .u64 a2_1)) (ds := []) #[false, false, false, false, false, false, false, false, false, false, false, false, false, false, false, false, false, false, false, false, false, false, false, false, false, false, false, false, false, false, false, false, false, false, false, false, false, false, false, false, false, false, false, false, false, false, false, false] (by kernel_rfl) rfl rfl ⟨(blk_cell BK152.out 0).trans rfl, (blk_cell BK152.out 1).trans rfl, (blk_cell BK153.out 0).trans rfl, (blk_cell BK153.out 1).trans rfl, (blk_cell BK154.out 0).trans rfl, (blk_cell BK154.out 1).trans rfl⟩ (fun hHeld => ?_); refine with_tabW carousellaw2_WideOrder.tab3 carousellaw2_WideOrder.bits3 (fun HT_ HW_ => ?_)
            generalize w26.drew = w27 at BK152 BK153 BK154 HB hHeld ⊢
            refine take_ (i := 0) (N := some 9) (v := ?_) (a' := ?_) #[true, false, false, false, false, false, false, false, false, false, false, false, false, false, false, false, false, false, false, false, false, false, false, false, false, false, false, false, false, false, false, false, false, false, false, false, false, false, false, false, false, false, false, false, false, false, false, false] rfl rfl (take_ofW HT_.out HW_.out (by kernel_rfl)) (fun _ _ _ h => h) (Or.inl ⟨by rfl, ?_⟩) hHeld ?_ ?_
            rotate_left
            · rintro w' ⟨s0, s1, s2, s3, s4, s5⟩
              go_simp
              with_reducible rfl
            rotate_left
            · simp only [Act.put, List.setIfInBounds_toArray, List.set_cons_zero, List.set_cons_succ, i64_w, i32_w]
              rfl
            refine take_ (i := 1) (N := some 10) (v := ?_) (a' := ?_) #[true, true, false, false, false, false, false, false, false, false, false, false, false, false, false, false, false, false, false, false, false, false, false, false, false, false, false, false, false, false, false, false, false, false, false, false, false, false, false, false, false, false, false, false, false, false, false, false] rfl rfl (take_ofW HT_.out HW_.out (by kernel_rfl)) (fun _ _ _ h => h) (Or.inl ⟨by rfl, ?_⟩) hHeld ?_ ?_
            rotate_left
            · rintro w' ⟨s0, s1, s2, s3, s4, s5⟩
              go_simp
              with_reducible rfl
            rotate_left
            · simp only [Act.put, List.setIfInBounds_toArray, List.set_cons_zero, List.set_cons_succ, i64_w, i32_w]
              rfl
            refine take_ (i := 3) (N := some 12) (v := ?_) (a' := ?_) #[true, true, false, true, false, false, false, false, false, false, false, false, false, false, false, false, false, false, false, false, false, false, false, false, false, false, false, false, false, false, false, false, false, false, false, false, false, false, false, false, false, false, false, false, false, false, false, false] rfl rfl (take_ofW HT_.out HW_.out (by kernel_rfl)) (fun _ _ _ h => h) (Or.inl ⟨by rfl, ?_⟩) hHeld ?_ ?_
            rotate_left
            · rintro w' ⟨s0, s1, s2, s3, s4, s5⟩
              go_simp
              with_reducible rfl
            rotate_left
            · simp only [Act.put, List.setIfInBounds_toArray, List.set_cons_zero, List.set_cons_succ, i64_w, i32_w]
              rfl
            refine take_ (i := 5) (N := some 14) (v := ?_) (a' := ?_) #[true, true, false, true, false, true, false, false, false, false, false, false, false, false, false, false, false, false, false, false, false, false, false, false, false, false, false, false, false, false, false, false, false, false, false, false, false, false, false, false, false, false, false, false, false, false, false, false] rfl rfl (take_ofW HT_.out HW_.out (by kernel_rfl)) (fun _ _ _ h => h) (Or.inl ⟨by rfl, ?_⟩) hHeld ?_ ?_
            rotate_left
            · rintro w' ⟨s0, s1, s2, s3, s4, s5⟩
              go_simp
              with_reducible rfl
            rotate_left
            · simp only [Act.put, List.setIfInBounds_toArray, List.set_cons_zero, List.set_cons_succ, i64_w, i32_w]
              rfl
            refine take_ (i := 6) (N := some 15) (v := ?_) (a' := ?_) #[true, true, false, true, false, true, true, false, false, false, false, false, false, false, false, false, false, false, false, false, false, false, false, false, false, false, false, false, false, false, false, false, false, false, false, false, false, false, false, false, false, false, false, false, false, false, false, false] rfl rfl (take_ofW HT_.out HW_.out (by kernel_rfl)) (fun _ _ _ h => h) (Or.inl ⟨by rfl, ?_⟩) hHeld ?_ ?_
            rotate_left
            · rintro w' ⟨s0, s1, s2, s3, s4, s5⟩
              go_simp
              with_reducible rfl
            rotate_left
            · simp only [Act.put, List.setIfInBounds_toArray, List.set_cons_zero, List.set_cons_succ, i64_w, i32_w]
              rfl
            refine take_ (i := 7) (N := some 16) (v := ?_) (a' := ?_) #[true, true, false, true, false, true, true, true, false, false, false, false, false, false, false, false, false, false, false, false, false, false, false, false, false, false, false, false, false, false, false, false, false, false, false, false, false, false, false, false, false, false, false, false, false, false, false, false] rfl rfl (take_ofW HT_.out HW_.out (by kernel_rfl)) (fun _ _ _ h => h) (Or.inl ⟨by rfl, ?_⟩) hHeld ?_ ?_
            rotate_left
            · rintro w' ⟨s0, s1, s2, s3, s4, s5⟩
              go_simp
              with_reducible rfl
            rotate_left
            · simp only [Act.put, List.setIfInBounds_toArray, List.set_cons_zero, List.set_cons_succ, i64_w, i32_w]
              rfl
            refine one_ (i := 2) (N := some 11) #[true, true, true, true, false, true, true, true, false, false, false, false, false, false, false, false, false, false, false, false, false, false, false, false, false, false, false, false, false, false, false, false, false, false, false, false, false, false, false, false, false, false, false, false, false, false, false, false] rfl rfl (one_of HT_.out (by kernel_rfl)) (by decide) (fun K hK => ?_)
            refine goes_ Try.func17 (by kernel_rfl) rfl #[.agg #[.int .i64 a0_0, .int .u64 a0_1], .agg #[.int .i64 a1_0, .int .u64 a1_1]] (by rfl) rfl rfl (by (try simp only [List.map_toArray, List.map_cons, List.map_nil]); first | done | rfl | (simp only [List.length_drop, List.length_take]; rfl)) ?_
            with_reducible refine (wide_Add.calls a0_0 a0_1 a1_0 a1_1 t156 t157 _ A6.out).mono ?_
            rintro e w28 ⟨rfl, hb⟩
            refine ⟨_, rfl, ?_⟩
            have n0_ := Aside0.mk (blk_below (g := gb152) (o := .cells #[.int .i64 a0_0, .int .u64 a0_1] 25 (0, 0)) (by (with_reducible repeat (first | refine blk_drewN ?_ _ | refine blk_drew ?_ | refine blk_alloc ?_ _)); exact BK152.out) hb)
            have n1_ := Aside0.mk (blk_below (g := gb153) (o := .cells #[.int .i64 a1_0, .int .u64 a1_1] 25 (0, 0)) (by (with_reducible repeat (first | refine blk_drewN ?_ _ | refine blk_drew ?_ | refine blk_alloc ?_ _)); exact BK153.out) hb)
            have n2_ := Aside0.mk (blk_below (g := gb154) (o := .cells #[.int .i64 a2_0, .int .u64 a2_1] 25 (0, 0)) (by (with_reducible repeat (first | refine blk_drewN ?_ _ | refine blk_drew ?_ | refine blk_alloc ?_ _)); exact BK154.out) hb)
            have n3_ := Aside0.mk (below_step (by repeat (first | (with_reducible first | exact HB.out | apply below_alloc | apply pw_below_drewN | apply below_drew1 | refine below_set ?_ GE152.out | refine below_set ?_ GE153.out | refine below_set ?_ GE154.out) | exact HB.out)) hb)
            clear BK152
            clear BK153
            clear BK154
            clear HB
            have BK152 := n0_
            have BK153 := n1_
            have BK154 := n2_
            have HB := n3_
            clear n0_ n1_ n2_ n3_
            (try clear hb)
            (try clear hb2)
            (try clear hk)
            (try clear hi)
            refine hK.out _ _ ⟨(blk_cell BK152.out 0).trans rfl, (blk_cell BK152.out 1).trans rfl, (blk_cell BK153.out 0).trans rfl, (blk_cell BK153.out 1).trans rfl, (blk_cell BK154.out 0).trans rfl, (blk_cell BK154.out 1).trans rfl⟩ (fun hHeld => ?_)
            clear hK K
            refine norm_ (a' := ?_) ?_ ?_
            rotate_left
            · show Act.put _ (some 11) _ = _
              simp only [Act.put, List.setIfInBounds_toArray, List.set_cons_zero, List.set_cons_succ, i64_w, i32_w]
              rfl
            refine one_ (i := 4) (N := some 13) #[true, true, true, true, true, true, true, true, false, false, false, false, false, false, false, false, false, false, false, false, false, false, false, false, false, false, false, false, false, false, false, false, false, false, false, false, false, false, false, false, false, false, false, false, false, false, false, false] rfl rfl (one_of HT_.out (by kernel_rfl)) (by decide) (fun K hK => ?_)
            refine goes_ Try.func17 (by kernel_rfl) rfl #[.agg #[.int .i64 t156, .int .u64 t157], .agg #[.int .i64 a2_0, .int .u64 a2_1]] (by rfl) rfl rfl (by (try simp only [List.map_toArray, List.map_cons, List.map_nil]); first | done | rfl | (simp only [List.length_drop, List.length_take]; rfl)) ?_
            with_reducible refine (wide_Add.calls t156 t157 a2_0 a2_1 t158 t159 _ A7.out).mono ?_
            rintro e w29 ⟨rfl, hb⟩
            refine ⟨_, rfl, ?_⟩
            have n0_ := Aside0.mk (blk_below (g := gb152) (o := .cells #[.int .i64 a0_0, .int .u64 a0_1] 25 (0, 0)) (by (with_reducible repeat (first | refine blk_drewN ?_ _ | refine blk_drew ?_ | refine blk_alloc ?_ _)); exact BK152.out) hb)
            have n1_ := Aside0.mk (blk_below (g := gb153) (o := .cells #[.int .i64 a1_0, .int .u64 a1_1] 25 (0, 0)) (by (with_reducible repeat (first | refine blk_drewN ?_ _ | refine blk_drew ?_ | refine blk_alloc ?_ _)); exact BK153.out) hb)
            have n2_ := Aside0.mk (blk_below (g := gb154) (o := .cells #[.int .i64 a2_0, .int .u64 a2_1] 25 (0, 0)) (by (with_reducible repeat (first | refine blk_drewN ?_ _ | refine blk_drew ?_ | refine blk_alloc ?_ _)); exact BK154.out) hb)
            have n3_ := Aside0.mk (below_step (by repeat (first | (with_reducible first | exact HB.out | apply below_alloc | apply pw_below_drewN | apply below_drew1 | refine below_set ?_ GE152.out | refine below_set ?_ GE153.out | refine below_set ?_ GE154.out) | exact HB.out)) hb)
            clear BK152
            clear BK153
            clear BK154
            clear HB
            have BK152 := n0_
            have BK153 := n1_
            have BK154 := n2_
            have HB := n3_
            clear n0_ n1_ n2_ n3_
            (try clear hb)
            (try clear hb2)
            (try clear hk)
            (try clear hi)
            refine hK.out _ _ ⟨(blk_cell BK152.out 0).trans rfl, (blk_cell BK152.out 1).trans rfl, (blk_cell BK153.out 0).trans rfl, (blk_cell BK153.out 1).trans rfl, (blk_cell BK154.out 0).trans rfl, (blk_cell BK154.out 1).trans rfl⟩ (fun hHeld => ?_)
            clear hK K
            refine norm_ (a' := ?_) ?_ ?_
            rotate_left
            · show Act.put _ (some 13) _ = _
              simp only [Act.put, List.setIfInBounds_toArray, List.set_cons_zero, List.set_cons_succ, i64_w, i32_w]
              rfl
            refine one_ (i := 8) (N := some 17) #[true, true, true, true, true, true, true, true, true, false, false, false, false, false, false, false, false, false, false, false, false, false, false, false, false, false, false, false, false, false, false, false, false, false, false, false, false, false, false, false, false, false, false, false, false, false, false, false] rfl rfl (one_of HT_.out (by kernel_rfl)) (by decide) (fun K hK => ?_)
            refine goes_ Try.func17 (by kernel_rfl) rfl #[.agg #[.int .i64 a1_0, .int .u64 a1_1], .agg #[.int .i64 a2_0, .int .u64 a2_1]] (by rfl) rfl rfl (by (try simp only [List.map_toArray, List.map_cons, List.map_nil]); first | done | rfl | (simp only [List.length_drop, List.length_take]; rfl)) ?_
            with_reducible refine (wide_Add.calls a1_0 a1_1 a2_0 a2_1 t160 t161 _ A8.out).mono ?_
            rintro e w30 ⟨rfl, hb⟩
            refine ⟨_, rfl, ?_⟩
            have n0_ := Aside0.mk (blk_below (g := gb152) (o := .cells #[.int .i64 a0_0, .int .u64 a0_1] 25 (0, 0)) (by (with_reducible repeat (first | refine blk_drewN ?_ _ | refine blk_drew ?_ | refine blk_alloc ?_ _)); exact BK152.out) hb)
            have n1_ := Aside0.mk (blk_below (g := gb153) (o := .cells #[.int .i64 a1_0, .int .u64 a1_1] 25 (0, 0)) (by (with_reducible repeat (first | refine blk_drewN ?_ _ | refine blk_drew ?_ | refine blk_alloc ?_ _)); exact BK153.out) hb)
            have n2_ := Aside0.mk (blk_below (g := gb154) (o := .cells #[.int .i64 a2_0, .int .u64 a2_1] 25 (0, 0)) (by (with_reducible repeat (first | refine blk_drewN ?_ _ | refine blk_drew ?_ | refine blk_alloc ?_ _)); exact BK154.out) hb)
            have n3_ := Aside0.mk (below_step (by repeat (first | (with_reducible first | exact HB.out | apply below_alloc | apply pw_below_drewN | apply below_drew1 | refine below_set ?_ GE152.out | refine below_set ?_ GE153.out | refine below_set ?_ GE154.out) | exact HB.out)) hb)
            clear BK152
            clear BK153
            clear BK154
            clear HB
            have BK152 := n0_
            have BK153 := n1_
            have BK154 := n2_
            have HB := n3_
            clear n0_ n1_ n2_ n3_
            (try clear hb)
            (try clear hb2)
            (try clear hk)
            (try clear hi)
            refine hK.out _ _ ⟨(blk_cell BK152.out 0).trans rfl, (blk_cell BK152.out 1).trans rfl, (blk_cell BK153.out 0).trans rfl, (blk_cell BK153.out 1).trans rfl, (blk_cell BK154.out 0).trans rfl, (blk_cell BK154.out 1).trans rfl⟩ (fun hHeld => ?_)
            clear hK K
            refine norm_ (a' := ?_) ?_ ?_
            rotate_left
            · show Act.put _ (some 17) _ = _
              simp only [Act.put, List.setIfInBounds_toArray, List.set_cons_zero, List.set_cons_succ, i64_w, i32_w]
              rfl
            refine one_ (i := 9) (N := some 18) #[true, true, true, true, true, true, true, true, true, true, false, false, false, false, false, false, false, false, false, false, false, false, false, false, false, false, false, false, false, false, false, false, false, false, false, false, false, false, false, false, false, false, false, false, false, false, false, false] rfl rfl (one_of HT_.out (by kernel_rfl)) (by decide) (fun K hK => ?_)
            refine goes_ Try.func17 (by kernel_rfl) rfl #[.agg #[.int .i64 a0_0, .int .u64 a0_1], .agg #[.int .i64 t160, .int .u64 t161]] (by rfl) rfl rfl (by (try simp only [List.map_toArray, List.map_cons, List.map_nil]); first | done | rfl | (simp only [List.length_drop, List.length_take]; rfl)) ?_
            with_reducible refine (wide_Add.calls a0_0 a0_1 t160 t161 t162 t163 _ A9.out).mono ?_
            rintro e w31 ⟨rfl, hb⟩
            refine ⟨_, rfl, ?_⟩
            have n0_ := Aside0.mk (blk_below (g := gb152) (o := .cells #[.int .i64 a0_0, .int .u64 a0_1] 25 (0, 0)) (by (with_reducible repeat (first | refine blk_drewN ?_ _ | refine blk_drew ?_ | refine blk_alloc ?_ _)); exact BK152.out) hb)
            have n1_ := Aside0.mk (blk_below (g := gb153) (o := .cells #[.int .i64 a1_0, .int .u64 a1_1] 25 (0, 0)) (by (with_reducible repeat (first | refine blk_drewN ?_ _ | refine blk_drew ?_ | refine blk_alloc ?_ _)); exact BK153.out) hb)
            have n2_ := Aside0.mk (blk_below (g := gb154) (o := .cells #[.int .i64 a2_0, .int .u64 a2_1] 25 (0, 0)) (by (with_reducible repeat (first | refine blk_drewN ?_ _ | refine blk_drew ?_ | refine blk_alloc ?_ _)); exact BK154.out) hb)
            have n3_ := Aside0.mk (below_step (by repeat (first | (with_reducible first | exact HB.out | apply below_alloc | apply pw_below_drewN | apply below_drew1 | refine below_set ?_ GE152.out | refine below_set ?_ GE153.out | refine below_set ?_ GE154.out) | exact HB.out)) hb)
            clear BK152
            clear BK153
            clear BK154
            clear HB
            have BK152 := n0_
            have BK153 := n1_
            have BK154 := n2_
            have HB := n3_
            clear n0_ n1_ n2_ n3_
            (try clear hb)
            (try clear hb2)
            (try clear hk)
            (try clear hi)
            refine hK.out _ _ ⟨(blk_cell BK152.out 0).trans rfl, (blk_cell BK152.out 1).trans rfl, (blk_cell BK153.out 0).trans rfl, (blk_cell BK153.out 1).trans rfl, (blk_cell BK154.out 0).trans rfl, (blk_cell BK154.out 1).trans rfl⟩ (fun hHeld => ?_)
            clear hK K
            refine norm_ (a' := ?_) ?_ ?_
            rotate_left
            · show Act.put _ (some 18) _ = _
              simp only [Act.put, List.setIfInBounds_toArray, List.set_cons_zero, List.set_cons_succ, i64_w, i32_w]
              rfl
            refine pure_ (i := 10) (N := some 19) (v := ?_) (a' := ?_) #[true, true, true, true, true, true, true, true, true, true, true, false, false, false, false, false, false, false, false, false, false, false, false, false, false, false, false, false, false, false, false, false, false, false, false, false, false, false, false, false, false, false, false, false, false, false, false, false] rfl rfl (any_of HT_.out (by kernel_rfl)) (fun _ _ _ h => h) (Or.inl ⟨by rfl, ?_⟩) ?_ ?_
            rotate_left
            · intro w'
              go_simp
              with_reducible rfl
            rotate_left
            · simp only [Act.put, List.setIfInBounds_toArray, List.set_cons_zero, List.set_cons_succ, i64_w, i32_w]
              rfl
            refine pure_ (i := 11) (N := some 20) (v := ?_) (a' := ?_) #[true, true, true, true, true, true, true, true, true, true, true, true, false, false, false, false, false, false, false, false, false, false, false, false, false, false, false, false, false, false, false, false, false, false, false, false, false, false, false, false, false, false, false, false, false, false, false, false] rfl rfl (any_of HT_.out (by kernel_rfl)) (fun _ _ _ h => h) (Or.inl ⟨by rfl, ?_⟩) ?_ ?_
            rotate_left
            · intro w'
              go_simp
              with_reducible rfl
            rotate_left
            · simp only [Act.put, List.setIfInBounds_toArray, List.set_cons_zero, List.set_cons_succ, i64_w, i32_w]
              rfl
            refine take_ (i := 12) (N := some 21) (v := ?_) (a' := ?_) #[true, true, true, true, true, true, true, true, true, true, true, true, true, false, false, false, false, false, false, false, false, false, false, false, false, false, false, false, false, false, false, false, false, false, false, false, false, false, false, false, false, false, false, false, false, false, false, false] rfl rfl (take_ofW HT_.out HW_.out (by kernel_rfl)) (fun _ _ _ h => h) (Or.inl ⟨by rfl, ?_⟩) hHeld ?_ ?_
            rotate_left
            · rintro w' ⟨s0, s1, s2, s3, s4, s5⟩
              go_simp
              with_reducible rfl
            rotate_left
            · simp only [Act.put, List.setIfInBounds_toArray, List.set_cons_zero, List.set_cons_succ, i64_w, i32_w]
              rfl
            refine take_ (i := 13) (N := some 22) (v := ?_) (a' := ?_) #[true, true, true, true, true, true, true, true, true, true, true, true, true, true, false, false, false, false, false, false, false, false, false, false, false, false, false, false, false, false, false, false, false, false, false, false, false, false, false, false, false, false, false, false, false, false, false, false] rfl rfl (take_ofW HT_.out HW_.out (by kernel_rfl)) (fun _ _ _ h => h) (Or.inl ⟨by rfl, ?_⟩) hHeld ?_ ?_
            rotate_left
            · rintro w' ⟨s0, s1, s2, s3, s4, s5⟩
              go_simp
              with_reducible rfl
            rotate_left
            · simp only [Act.put, List.setIfInBounds_toArray, List.set_cons_zero, List.set_cons_succ, i64_w, i32_w]
              rfl
            refine take_ (i := 15) (N := some 24) (v := ?_) (a' := ?_) #[true, true, true, true, true, true, true, true, true, true, true, true, true, true, false, true, false, false, false, false, false, false, false, false, false, false, false, false, false, false, false, false, false, false, false, false, false, false, false, false, false, false, false, false, false, false, false, false] rfl rfl (take_ofW HT_.out HW_.out (by kernel_rfl)) (fun _ _ _ h => h) (Or.inl ⟨by rfl, ?_⟩) hHeld ?_ ?_
            rotate_left
            · rintro w' ⟨s0, s1, s2, s3, s4, s5⟩
              go_simp
              with_reducible rfl
            rotate_left
            · simp only [Act.put, List.setIfInBounds_toArray, List.set_cons_zero, List.set_cons_succ, i64_w, i32_w]
              rfl
            refine take_ (i := 16) (N := some 25) (v := ?_) (a' := ?_) #[true, true, true, true, true, true, true, true, true, true, true, true, true, true, false, true, true, false, false, false, false, false, false, false, false, false, false, false, false, false, false, false, false, false, false, false, false, false, false, false, false, false, false, false, false, false, false, false] rfl rfl (take_ofW HT_.out HW_.out (by kernel_rfl)) (fun _ _ _ h => h) (Or.inl ⟨by rfl, ?_⟩) hHeld ?_ ?_
            rotate_left
            · rintro w' ⟨s0, s1, s2, s3, s4, s5⟩
              go_simp
              with_reducible rfl
            rotate_left
            · simp only [Act.put, List.setIfInBounds_toArray, List.set_cons_zero, List.set_cons_succ, i64_w, i32_w]
              rfl
            refine one_ (i := 14) (N := some 23) #[true, true, true, true, true, true, true, true, true, true, true, true, true, true, true, true, true, false, false, false, false, false, false, false, false, false, false, false, false, false, false, false, false, false, false, false, false, false, false, false, false, false, false, false, false, false, false, false] rfl rfl (one_of HT_.out (by kernel_rfl)) (by decide) (fun K hK => ?_)
            refine goes_ Try.func17 (by kernel_rfl) rfl #[.agg #[.int .i64 a0_0, .int .u64 a0_1], .agg #[.int .i64 a1_0, .int .u64 a1_1]] (by rfl) rfl rfl (by (try simp only [List.map_toArray, List.map_cons, List.map_nil]); first | done | rfl | (simp only [List.length_drop, List.length_take]; rfl)) ?_
            with_reducible refine (wide_Add.calls a0_0 a0_1 a1_0 a1_1 t164 t165 _ A11.out).mono ?_
            rintro e w32 ⟨rfl, hb⟩
            refine ⟨_, rfl, ?_⟩
            have n0_ := Aside0.mk (blk_below (g := gb152) (o := .cells #[.int .i64 a0_0, .int .u64 a0_1] 25 (0, 0)) (by (with_reducible repeat (first | refine blk_drewN ?_ _ | refine blk_drew ?_ | refine blk_alloc ?_ _)); exact BK152.out) hb)
            have n1_ := Aside0.mk (blk_below (g := gb153) (o := .cells #[.int .i64 a1_0, .int .u64 a1_1] 25 (0, 0)) (by (with_reducible repeat (first | refine blk_drewN ?_ _ | refine blk_drew ?_ | refine blk_alloc ?_ _)); exact BK153.out) hb)
            have n2_ := Aside0.mk (blk_below (g := gb154) (o := .cells #[.int .i64 a2_0, .int .u64 a2_1] 25 (0, 0)) (by (with_reducible repeat (first | refine blk_drewN ?_ _ | refine blk_drew ?_ | refine blk_alloc ?_ _)); exact BK154.out) hb)
            have n3_ := Aside0.mk (below_step (by repeat (first | (with_reducible first | exact HB.out | apply below_alloc | apply pw_below_drewN | apply below_drew1 | refine below_set ?_ GE152.out | refine below_set ?_ GE153.out | refine below_set ?_ GE154.out) | exact HB.out)) hb)
            clear BK152
            clear BK153
            clear BK154
            clear HB
            have BK152 := n0_
            have BK153 := n1_
            have BK154 := n2_
            have HB := n3_
            clear n0_ n1_ n2_ n3_
            (try clear hb)
            (try clear hb2)
            (try clear hk)
            (try clear hi)
            refine hK.out _ _ ⟨(blk_cell BK152.out 0).trans rfl, (blk_cell BK152.out 1).trans rfl, (blk_cell BK153.out 0).trans rfl, (blk_cell BK153.out 1).trans rfl, (blk_cell BK154.out 0).trans rfl, (blk_cell BK154.out 1).trans rfl⟩ (fun hHeld => ?_)
            clear hK K
            refine norm_ (a' := ?_) ?_ ?_
            rotate_left
            · show Act.put _ (some 23) _ = _
              simp only [Act.put, List.setIfInBounds_toArray, List.set_cons_zero, List.set_cons_succ, i64_w, i32_w]
              rfl
            refine one_ (i := 17) (N := some 26) #[true, true, true, true, true, true, true, true, true, true, true, true, true, true, true, true, true, true, false, false, false, false, false, false, false, false, false, false, false, false, false, false, false, false, false, false, false, false, false, false, false, false, false, false, false, false, false, false] rfl rfl (one_of HT_.out (by kernel_rfl)) (by decide) (fun K hK => ?_)
            refine goes_ Try.func17 (by kernel_rfl) rfl #[.agg #[.int .i64 a1_0, .int .u64 a1_1], .agg #[.int .i64 a0_0, .int .u64 a0_1]] (by rfl) rfl rfl (by (try simp only [List.map_toArray, List.map_cons, List.map_nil]); first | done | rfl | (simp only [List.length_drop, List.length_take]; rfl)) ?_
            with_reducible refine (wide_Add.calls a1_0 a1_1 a0_0 a0_1 t166 t167 _ A12.out).mono ?_
            rintro e w33 ⟨rfl, hb⟩
            refine ⟨_, rfl, ?_⟩
            have n0_ := Aside0.mk (blk_below (g := gb152) (o := .cells #[.int .i64 a0_0, .int .u64 a0_1] 25 (0, 0)) (by (with_reducible repeat (first | refine blk_drewN ?_ _ | refine blk_drew ?_ | refine blk_alloc ?_ _)); exact BK152.out) hb)
            have n1_ := Aside0.mk (blk_below (g := gb153) (o := .cells #[.int .i64 a1_0, .int .u64 a1_1] 25 (0, 0)) (by (with_reducible repeat (first | refine blk_drewN ?_ _ | refine blk_drew ?_ | refine blk_alloc ?_ _)); exact BK153.out) hb)
            have n2_ := Aside0.mk (blk_below (g := gb154) (o := .cells #[.int .i64 a2_0, .int .u64 a2_1] 25 (0, 0)) (by (with_reducible repeat (first | refine blk_drewN ?_ _ | refine blk_drew ?_ | refine blk_alloc ?_ _)); exact BK154.out) hb)
            have n3_ := Aside0.mk (below_step (by repeat (first | (with_reducible first | exact HB.out | apply below_alloc | apply pw_below_drewN | apply below_drew1 | refine below_set ?_ GE152.out | refine below_set ?_ GE153.out | refine below_set ?_ GE154.out) | exact HB.out)) hb)
            clear BK152
            clear BK153
            clear BK154
            clear HB
            have BK152 := n0_
            have BK153 := n1_
            have BK154 := n2_
            have HB := n3_
            clear n0_ n1_ n2_ n3_
            (try clear hb)
            (try clear hb2)
            (try clear hk)
            (try clear hi)
            refine hK.out _ _ ⟨(blk_cell BK152.out 0).trans rfl, (blk_cell BK152.out 1).trans rfl, (blk_cell BK153.out 0).trans rfl, (blk_cell BK153.out 1).trans rfl, (blk_cell BK154.out 0).trans rfl, (blk_cell BK154.out 1).trans rfl⟩ (fun hHeld => ?_)
            clear hK K
            refine norm_ (a' := ?_) ?_ ?_
            rotate_left
            · show Act.put _ (some 26) _ = _
              simp only [Act.put, List.setIfInBounds_toArray, List.set_cons_zero, List.set_cons_succ, i64_w, i32_w]
              rfl
            refine pure_ (i := 18) (N := some 27) (v := ?_) (a' := ?_) #[true, true, true, true, true, true, true, true, true, true, true, true, true, true, true, true, true, true, true, false, false, false, false, false, false, false, false, false, false, false, false, false, false, false, false, false, false, false, false, false, false, false, false, false, false, false, false, false] rfl rfl (any_of HT_.out (by kernel_rfl)) (fun _ _ _ h => h) (Or.inl ⟨by rfl, ?_⟩) ?_ ?_
            rotate_left
            · intro w'
              go_simp
              with_reducible rfl
            rotate_left
            · simp only [Act.put, List.setIfInBounds_toArray, List.set_cons_zero, List.set_cons_succ, i64_w, i32_w]
              rfl
            refine pure_ (i := 19) (N := some 28) (v := ?_) (a' := ?_) #[true, true, true, true, true, true, true, true, true, true, true, true, true, true, true, true, true, true, true, true, false, false, false, false, false, false, false, false, false, false, false, false, false, false, false, false, false, false, false, false, false, false, false, false, false, false, false, false] rfl rfl (any_of HT_.out (by kernel_rfl)) (fun _ _ _ h => h) (Or.inl ⟨by rfl, ?_⟩) ?_ ?_
            rotate_left
            · intro w'
              go_simp
              with_reducible rfl
            rotate_left
            · simp only [Act.put, List.setIfInBounds_toArray, List.set_cons_zero, List.set_cons_succ, i64_w, i32_w]
              rfl
            refine pure_ (i := 20) (N := some 29) (v := ?_) (a' := ?_) #[true, true, true, true, true, true, true, true, true, true, true, true, true, true, true, true, true, true, true, true, true, false, false, false, false, false, false, false, false, false, false, false, false, false, false, false, false, false, false, false, false, false, false, false, false, false, false, false] rfl rfl (any_of HT_.out (by kernel_rfl)) (fun _ _ _ h => h) (Or.inl ⟨by rfl, ?_⟩) ?_ ?_
            rotate_left
            · intro w'
              go_simp
              with_reducible rfl
            rotate_left
            · simp only [Act.put, List.setIfInBounds_toArray, List.set_cons_zero, List.set_cons_succ, i64_w, i32_w]
              rfl
            refine pure_ (i := 25) (N := some 34) (v := ?_) (a' := ?_) #[true, true, true, true, true, true, true, true, true, true, true, true, true, true, true, true, true, true, true, true, true, false, false, false, false, true, false, false, false, false, false, false, false, false, false, false, false, false, false, false, false, false, false, false, false, false, false, false] rfl rfl (any_of HT_.out (by kernel_rfl)) (fun _ _ _ h => h) (Or.inl ⟨by rfl, ?_⟩) ?_ ?_
            rotate_left
            · intro w'
              go_simp
              with_reducible rfl
            rotate_left
            · simp only [Act.put, List.setIfInBounds_toArray, List.set_cons_zero, List.set_cons_succ, i64_w, i32_w]
              rfl
            refine take_ (i := 21) (N := some 30) (v := ?_) (a' := ?_) #[true, true, true, true, true, true, true, true, true, true, true, true, true, true, true, true, true, true, true, true, true, true, false, false, false, true, false, false, false, false, false, false, false, false, false, false, false, false, false, false, false, false, false, false, false, false, false, false] rfl rfl (take_ofW HT_.out HW_.out (by kernel_rfl)) (fun _ _ _ h => h) (Or.inl ⟨by rfl, ?_⟩) hHeld ?_ ?_
            rotate_left
            · rintro w' ⟨s0, s1, s2, s3, s4, s5⟩
              go_simp
              with_reducible rfl
            rotate_left
            · simp only [Act.put, List.setIfInBounds_toArray, List.set_cons_zero, List.set_cons_succ, i64_w, i32_w]
              rfl
            refine take_ (i := 22) (N := some 31) (v := ?_) (a' := ?_) #[true, true, true, true, true, true, true, true, true, true, true, true, true, true, true, true, true, true, true, true, true, true, true, false, false, true, false, false, false, false, false, false, false, false, false, false, false, false, false, false, false, false, false, false, false, false, false, false] rfl rfl (take_ofW HT_.out HW_.out (by kernel_rfl)) (fun _ _ _ h => h) (Or.inl ⟨by rfl, ?_⟩) hHeld ?_ ?_
            rotate_left
            · rintro w' ⟨s0, s1, s2, s3, s4, s5⟩
              go_simp
              with_reducible rfl
            rotate_left
            · simp only [Act.put, List.setIfInBounds_toArray, List.set_cons_zero, List.set_cons_succ, i64_w, i32_w]
              rfl
            refine one_ (i := 23) (N := some 32) #[true, true, true, true, true, true, true, true, true, true, true, true, true, true, true, true, true, true, true, true, true, true, true, true, false, true, false, false, false, false, false, false, false, false, false, false, false, false, false, false, false, false, false, false, false, false, false, false] rfl rfl (one_of HT_.out (by kernel_rfl)) (by decide) (fun K hK => ?_)
            refine goes_ Try.func18 (by kernel_rfl) rfl #[.agg #[.int .i64 a0_0, .int .u64 a0_1]] (by rfl) rfl rfl (by (try simp only [List.map_toArray, List.map_cons, List.map_nil]); first | done | rfl | (simp only [List.length_drop, List.length_take]; rfl)) ?_
            with_reducible refine (wide_Neg.calls a0_0 a0_1 t168 t169 _ A14.out).mono ?_
            rintro e w34 ⟨rfl, hb⟩
            refine ⟨_, rfl, ?_⟩
            have n0_ := Aside0.mk (blk_below (g := gb152) (o := .cells #[.int .i64 a0_0, .int .u64 a0_1] 25 (0, 0)) (by (with_reducible repeat (first | refine blk_drewN ?_ _ | refine blk_drew ?_ | refine blk_alloc ?_ _)); exact BK152.out) hb)
            have n1_ := Aside0.mk (blk_below (g := gb153) (o := .cells #[.int .i64 a1_0, .int .u64 a1_1] 25 (0, 0)) (by (with_reducible repeat (first | refine blk_drewN ?_ _ | refine blk_drew ?_ | refine blk_alloc ?_ _)); exact BK153.out) hb)
            have n2_ := Aside0.mk (blk_below (g := gb154) (o := .cells #[.int .i64 a2_0, .int .u64 a2_1] 25 (0, 0)) (by (with_reducible repeat (first | refine blk_drewN ?_ _ | refine blk_drew ?_ | refine blk_alloc ?_ _)); exact BK154.out) hb)
            have n3_ := Aside0.mk (below_step (by repeat (first | (with_reducible first | exact HB.out | apply below_alloc | apply pw_below_drewN | apply below_drew1 | refine below_set ?_ GE152.out | refine below_set ?_ GE153.out | refine below_set ?_ GE154.out) | exact HB.out)) hb)
            clear BK152
            clear BK153
            clear BK154
            clear HB
            have BK152 := n0_
            have BK153 := n1_
            have BK154 := n2_
            have HB := n3_
            clear n0_ n1_ n2_ n3_
            (try clear hb)
            (try clear hb2)
            (try clear hk)
            (try clear hi)
            refine hK.out _ _ ⟨(blk_cell BK152.out 0).trans rfl, (blk_cell BK152.out 1).trans rfl, (blk_cell BK153.out 0).trans rfl, (blk_cell BK153.out 1).trans rfl, (blk_cell BK154.out 0).trans rfl, (blk_cell BK154.out 1).trans rfl⟩ (fun hHeld => ?_)
            clear hK K
            refine norm_ (a' := ?_) ?_ ?_
            rotate_left
            · show Act.put _ (some 32) _ = _
              simp only [Act.put, List.setIfInBounds_toArray, List.set_cons_zero, List.set_cons_succ, i64_w, i32_w]
              rfl
            refine one_ (i := 24) (N := some 33) #[true, true, true, true, true, true, true, true, true, true, true, true, true, true, true, true, true, true, true, true, true, true, true, true, true, true, false, false, false, false, false, false, false, false, false, false, false, false, false, false, false, false, false, false, false, false, false, false] rfl rfl (one_of HT_.out (by kernel_rfl)) (by decide) (fun K hK => ?_)
            refine goes_ Try.func17 (by kernel_rfl) rfl #[.agg #[.int .i64 a0_0, .int .u64 a0_1], .agg #[.int .i64 t168, .int .u64 t169]] (by rfl) rfl rfl (by (try simp only [List.map_toArray, List.map_cons, List.map_nil]); first | done | rfl | (simp only [List.length_drop, List.length_take]; rfl)) ?_
            with_reducible refine (wide_Add.calls a0_0 a0_1 t168 t169 t170 t171 _ A15.out).mono ?_
            rintro e w35 ⟨rfl, hb⟩
            refine ⟨_, rfl, ?_⟩
            have n0_ := Aside0.mk (blk_below (g := gb152) (o := .cells #[.int .i64 a0_0, .int .u64 a0_1] 25 (0, 0)) (by (with_reducible repeat (first | refine blk_drewN ?_ _ | refine blk_drew ?_ | refine blk_alloc ?_ _)); exact BK152.out) hb)
            have n1_ := Aside0.mk (blk_below (g := gb153) (o := .cells #[.int .i64 a1_0, .int .u64 a1_1] 25 (0, 0)) (by (with_reducible repeat (first | refine blk_drewN ?_ _ | refine blk_drew ?_ | refine blk_alloc ?_ _)); exact BK153.out) hb)
            have n2_ := Aside0.mk (blk_below (g := gb154) (o := .cells #[.int .i64 a2_0, .int .u64 a2_1] 25 (0, 0)) (by (with_reducible repeat (first | refine blk_drewN ?_ _ | refine blk_drew ?_ | refine blk_alloc ?_ _)); exact BK154.out) hb)
            have n3_ := Aside0.mk (below_step (by repeat (first | (with_reducible first | exact HB.out | apply below_alloc | apply pw_below_drewN | apply below_drew1 | refine below_set ?_ GE152.out | refine below_set ?_ GE153.out | refine below_set ?_ GE154.out) | exact HB.out)) hb)
            clear BK152
            clear BK153
            clear BK154
            clear HB
            have BK152 := n0_
            have BK153 := n1_
            have BK154 := n2_
            have HB := n3_
            clear n0_ n1_ n2_ n3_
            (try clear hb)
            (try clear hb2)
            (try clear hk)
            (try clear hi)
            refine hK.out _ _ ⟨(blk_cell BK152.out 0).trans rfl, (blk_cell BK152.out 1).trans rfl, (blk_cell BK153.out 0).trans rfl, (blk_cell BK153.out 1).trans rfl, (blk_cell BK154.out 0).trans rfl, (blk_cell BK154.out 1).trans rfl⟩ (fun hHeld => ?_)
            clear hK K
            refine norm_ (a' := ?_) ?_ ?_
            rotate_left
            · show Act.put _ (some 33) _ = _
              simp only [Act.put, List.setIfInBounds_toArray, List.set_cons_zero, List.set_cons_succ, i64_w, i32_w]
              rfl
            refine pure_ (i := 26) (N := some 35) (v := ?_) (a' := ?_) #[true, true, true, true, true, true, true, true, true, true, true, true, true, true, true, true, true, true, true, true, true, true, true, true, true, true, true, false, false, false, false, false, false, false, false, false, false, false, false, false, false, false, false, false, false, false, false, false] rfl rfl (any_of HT_.out (by kernel_rfl)) (fun _ _ _ h => h) (Or.inl ⟨by rfl, ?_⟩) ?_ ?_
            rotate_left
            · intro w'
              go_simp
              with_reducible rfl
            rotate_left
            · simp only [Act.put, List.setIfInBounds_toArray, List.set_cons_zero, List.set_cons_succ, i64_w, i32_w]
              rfl
            refine pure_ (i := 27) (N := some 36) (v := ?_) (a' := ?_) #[true, true, true, true, true, true, true, true, true, true, true, true, true, true, true, true, true, true, true, true, true, true, true, true, true, true, true, true, false, false, false, false, false, false, false, false, false, false, false, false, false, false, false, false, false, false, false, false] rfl rfl (any_of HT_.out (by kernel_rfl)) (fun _ _ _ h => h) (Or.inl ⟨by rfl, ?_⟩) ?_ ?_
            rotate_left
            · intro w'
              go_simp
              with_reducible rfl
            rotate_left
            · simp only [Act.put, List.setIfInBounds_toArray, List.set_cons_zero, List.set_cons_succ, i64_w, i32_w]
              rfl
            refine pure_ (i := 28) (N := some 37) (v := ?_) (a' := ?_) #[true, true, true, true, true, true, true, true, true, true, true, true, true, true, true, true, true, true, true, true, true, true, true, true, true, true, true, true, true, false, false, false, false, false, false, false, false, false, false, false, false, false, false, false, false, false, false, false] rfl rfl (any_of HT_.out (by kernel_rfl)) (fun _ _ _ h => h) (Or.inl ⟨by rfl, ?_⟩) ?_ ?_
            rotate_left
            · intro w'
              go_simp
              with_reducible rfl
            rotate_left
            · simp only [Act.put, List.setIfInBounds_toArray, List.set_cons_zero, List.set_cons_succ, i64_w, i32_w]
              rfl
            refine take_ (i := 29) (N := some 38) (v := ?_) (a' := ?_) #[true, true, true, true, true, true, true, true, true, true, true, true, true, true, true, true, true, true, true, true, true, true, true, true, true, true, true, true, true, true, false, false, false, false, false, false, false, false, false, false, false, false, false, false, false, false, false, false] rfl rfl (take_ofW HT_.out HW_.out (by kernel_rfl)) (fun _ _ _ h => h) (Or.inl ⟨by rfl, ?_⟩) hHeld ?_ ?_
            rotate_left
            · rintro w' ⟨s0, s1, s2, s3, s4, s5⟩
              go_simp
              with_reducible rfl
            rotate_left
            · simp only [Act.put, List.setIfInBounds_toArray, List.set_cons_zero, List.set_cons_succ, i64_w, i32_w]
              rfl
            refine take_ (i := 30) (N := some 39) (v := ?_) (a' := ?_) #[true, true, true, true, true, true, true, true, true, true, true, true, true, true, true, true, true, true, true, true, true, true, true, true, true, true, true, true, true, true, true, false, false, false, false, false, false, false, false, false, false, false, false, false, false, false, false, false] rfl rfl (take_ofW HT_.out HW_.out (by kernel_rfl)) (fun _ _ _ h => h) (Or.inl ⟨by rfl, ?_⟩) hHeld ?_ ?_
            rotate_left
            · rintro w' ⟨s0, s1, s2, s3, s4, s5⟩
              go_simp
              with_reducible rfl
            rotate_left
            · simp only [Act.put, List.setIfInBounds_toArray, List.set_cons_zero, List.set_cons_succ, i64_w, i32_w]
              rfl
            refine take_ (i := 32) (N := some 41) (v := ?_) (a' := ?_) #[true, true, true, true, true, true, true, true, true, true, true, true, true, true, true, true, true, true, true, true, true, true, true, true, true, true, true, true, true, true, true, false, true, false, false, false, false, false, false, false, false, false, false, false, false, false, false, false] rfl rfl (take_ofW HT_.out HW_.out (by kernel_rfl)) (fun _ _ _ h => h) (Or.inl ⟨by rfl, ?_⟩) hHeld ?_ ?_
            rotate_left
            · rintro w' ⟨s0, s1, s2, s3, s4, s5⟩
              go_simp
              with_reducible rfl
            rotate_left
            · simp only [Act.put, List.setIfInBounds_toArray, List.set_cons_zero, List.set_cons_succ, i64_w, i32_w]
              rfl
            refine take_ (i := 33) (N := some 42) (v := ?_) (a' := ?_) #[true, true, true, true, true, true, true, true, true, true, true, true, true, true, true, true, true, true, true, true, true, true, true, true, true, true, true, true, true, true, true, false, true, true, false, false, false, false, false, false, false, false, false, false, false, false, false, false] rfl rfl (take_ofW HT_.out HW_.out (by kernel_rfl)) (fun _ _ _ h => h) (Or.inl ⟨by rfl, ?_⟩) hHeld ?_ ?_
            rotate_left
            · rintro w' ⟨s0, s1, s2, s3, s4, s5⟩
              go_simp
              with_reducible rfl
            rotate_left
            · simp only [Act.put, List.setIfInBounds_toArray, List.set_cons_zero, List.set_cons_succ, i64_w, i32_w]
              rfl
            refine one_ (i := 31) (N := some 40) #[true, true, true, true, true, true, true, true, true, true, true, true, true, true, true, true, true, true, true, true, true, true, true, true, true, true, true, true, true, true, true, true, true, true, false, false, false, false, false, false, false, false, false, false, false, false, false, false] rfl rfl (one_of HT_.out (by kernel_rfl)) (by decide) (fun K hK => ?_)
            refine goes_ Try.func19 (by kernel_rfl) rfl #[.agg #[.int .i64 a0_0, .int .u64 a0_1], .agg #[.int .i64 a1_0, .int .u64 a1_1]] (by rfl) rfl rfl (by (try simp only [List.map_toArray, List.map_cons, List.map_nil]); first | done | rfl | (simp only [List.length_drop, List.length_take]; rfl)) ?_
            with_reducible refine (wide_Sub.calls a0_0 a0_1 a1_0 a1_1 t172 t173 _ A17.out).mono ?_
            rintro e w36 ⟨rfl, hb⟩
            refine ⟨_, rfl, ?_⟩
            have n0_ := Aside0.mk (blk_below (g := gb152) (o := .cells #[.int .i64 a0_0, .int .u64 a0_1] 25 (0, 0)) (by (with_reducible repeat (first | refine blk_drewN ?_ _ | refine blk_drew ?_ | refine blk_alloc ?_ _)); exact BK152.out) hb)
            have n1_ := Aside0.mk (blk_below (g := gb153) (o := .cells #[.int .i64 a1_0, .int .u64 a1_1] 25 (0, 0)) (by (with_reducible repeat (first | refine blk_drewN ?_ _ | refine blk_drew ?_ | refine blk_alloc ?_ _)); exact BK153.out) hb)
            have n2_ := Aside0.mk (blk_below (g := gb154) (o := .cells #[.int .i64 a2_0, .int .u64 a2_1] 25 (0, 0)) (by (with_reducible repeat (first | refine blk_drewN ?_ _ | refine blk_drew ?_ | refine blk_alloc ?_ _)); exact BK154.out) hb)
            have n3_ := Aside0.mk (below_step (by repeat (first | (with_reducible first | exact HB.out | apply below_alloc | apply pw_below_drewN | apply below_drew1 | refine below_set ?_ GE152.out | refine below_set ?_ GE153.out | refine below_set ?_ GE154.out) | exact HB.out)) hb)
            clear BK152
            clear BK153
            clear BK154
            clear HB
            have BK152 := n0_
            have BK153 := n1_
            have BK154 := n2_
            have HB := n3_
            clear n0_ n1_ n2_ n3_
            (try clear hb)
            (try clear hb2)
            (try clear hk)
            (try clear hi)
            refine hK.out _ _ ⟨(blk_cell BK152.out 0).trans rfl, (blk_cell BK152.out 1).trans rfl, (blk_cell BK153.out 0).trans rfl, (blk_cell BK153.out 1).trans rfl, (blk_cell BK154.out 0).trans rfl, (blk_cell BK154.out 1).trans rfl⟩ (fun hHeld => ?_)
            clear hK K
            refine norm_ (a' := ?_) ?_ ?_
            rotate_left
            · show Act.put _ (some 40) _ = _
              simp only [Act.put, List.setIfInBounds_toArray, List.set_cons_zero, List.set_cons_succ, i64_w, i32_w]
              rfl
            refine one_ (i := 34) (N := some 43) #[true, true, true, true, true, true, true, true, true, true, true, true, true, true, true, true, true, true, true, true, true, true, true, true, true, true, true, true, true, true, true, true, true, true, true, false, false, false, false, false, false, false, false, false, false, false, false, false] rfl rfl (one_of HT_.out (by kernel_rfl)) (by decide) (fun K hK => ?_)
            refine goes_ Try.func18 (by kernel_rfl) rfl #[.agg #[.int .i64 a1_0, .int .u64 a1_1]] (by rfl) rfl rfl (by (try simp only [List.map_toArray, List.map_cons, List.map_nil]); first | done | rfl | (simp only [List.length_drop, List.length_take]; rfl)) ?_
            with_reducible refine (wide_Neg.calls a1_0 a1_1 t174 t175 _ A18.out).mono ?_
            rintro e w37 ⟨rfl, hb⟩
            refine ⟨_, rfl, ?_⟩
            have n0_ := Aside0.mk (blk_below (g := gb152) (o := .cells #[.int .i64 a0_0, .int .u64 a0_1] 25 (0, 0)) (by (with_reducible repeat (first | refine blk_drewN ?_ _ | refine blk_drew ?_ | refine blk_alloc ?_ _)); exact BK152.out) hb)
            have n1_ := Aside0.mk (blk_below (g := gb153) (o := .cells #[.int .i64 a1_0, .int .u64 a1_1] 25 (0, 0)) (by (with_reducible repeat (first | refine blk_drewN ?_ _ | refine blk_drew ?_ | refine blk_alloc ?_ _)); exact BK153.out) hb)
            have n2_ := Aside0.mk (blk_below (g := gb154) (o := .cells #[.int .i64 a2_0, .int .u64 a2_1] 25 (0, 0)) (by (with_reducible repeat (first | refine blk_drewN ?_ _ | refine blk_drew ?_ | refine blk_alloc ?_ _)); exact BK154.out) hb)
            have n3_ := Aside0.mk (below_step (by repeat (first | (with_reducible first | exact HB.out | apply below_alloc | apply pw_below_drewN | apply below_drew1 | refine below_set ?_ GE152.out | refine below_set ?_ GE153.out | refine below_set ?_ GE154.out) | exact HB.out)) hb)
            clear BK152
            clear BK153
            clear BK154
            clear HB
            have BK152 := n0_
            have BK153 := n1_
            have BK154 := n2_
            have HB := n3_
            clear n0_ n1_ n2_ n3_
            (try clear hb)
            (try clear hb2)
            (try clear hk)
            (try clear hi)
            refine hK.out _ _ ⟨(blk_cell BK152.out 0).trans rfl, (blk_cell BK152.out 1).trans rfl, (blk_cell BK153.out 0).trans rfl, (blk_cell BK153.out 1).trans rfl, (blk_cell BK154.out 0).trans rfl, (blk_cell BK154.out 1).trans rfl⟩ (fun hHeld => ?_)
            clear hK K
            refine norm_ (a' := ?_) ?_ ?_
            rotate_left
            · show Act.put _ (some 43) _ = _
              simp only [Act.put, List.setIfInBounds_toArray, List.set_cons_zero, List.set_cons_succ, i64_w, i32_w]
              rfl
            refine one_ (i := 35) (N := some 44) #[true, true, true, true, true, true, true, true, true, true, true, true, true, true, true, true, true, true, true, true, true, true, true, true, true, true, true, true, true, true, true, true, true, true, true, true, false, false, false, false, false, false, false, false, false, false, false, false] rfl rfl (one_of HT_.out (by kernel_rfl)) (by decide) (fun K hK => ?_)
            refine goes_ Try.func17 (by kernel_rfl) rfl #[.agg #[.int .i64 a0_0, .int .u64 a0_1], .agg #[.int .i64 t174, .int .u64 t175]] (by rfl) rfl rfl (by (try simp only [List.map_toArray, List.map_cons, List.map_nil]); first | done | rfl | (simp only [List.length_drop, List.length_take]; rfl)) ?_
            with_reducible refine (wide_Add.calls a0_0 a0_1 t174 t175 t176 t177 _ A19.out).mono ?_
            rintro e w38 ⟨rfl, hb⟩
            refine ⟨_, rfl, ?_⟩
            have n0_ := Aside0.mk (blk_below (g := gb152) (o := .cells #[.int .i64 a0_0, .int .u64 a0_1] 25 (0, 0)) (by (with_reducible repeat (first | refine blk_drewN ?_ _ | refine blk_drew ?_ | refine blk_alloc ?_ _)); exact BK152.out) hb)
            have n1_ := Aside0.mk (blk_below (g := gb153) (o := .cells #[.int .i64 a1_0, .int .u64 a1_1] 25 (0, 0)) (by (with_reducible repeat (first | refine blk_drewN ?_ _ | refine blk_drew ?_ | refine blk_alloc ?_ _)); exact BK153.out) hb)
            have n2_ := Aside0.mk (blk_below (g := gb154) (o := .cells #[.int .i64 a2_0, .int .u64 a2_1] 25 (0, 0)) (by (with_reducible repeat (first | refine blk_drewN ?_ _ | refine blk_drew ?_ | refine blk_alloc ?_ _)); exact BK154.out) hb)
            have n3_ := Aside0.mk (below_step (by repeat (first | (with_reducible first | exact HB.out | apply below_alloc | apply pw_below_drewN | apply below_drew1 | refine below_set ?_ GE152.out | refine below_set ?_ GE153.out | refine below_set ?_ GE154.out) | exact HB.out)) hb)
            clear BK152
            clear BK153
            clear BK154
            clear HB
            have BK152 := n0_
            have BK153 := n1_
            have BK154 := n2_
            have HB := n3_
            clear n0_ n1_ n2_ n3_
            (try clear hb)
            (try clear hb2)
            (try clear hk)
            (try clear hi)
            refine hK.out _ _ ⟨(blk_cell BK152.out 0).trans rfl, (blk_cell BK152.out 1).trans rfl, (blk_cell BK153.out 0).trans rfl, (blk_cell BK153.out 1).trans rfl, (blk_cell BK154.out 0).trans rfl, (blk_cell BK154.out 1).trans rfl⟩ (fun hHeld => ?_)
            clear hK K
            refine norm_ (a' := ?_) ?_ ?_
            rotate_left
            · show Act.put _ (some 44) _ = _
              simp only [Act.put, List.setIfInBounds_toArray, List.set_cons_zero, List.set_cons_succ, i64_w, i32_w]
              rfl
            refine pure_ (i := 36) (N := some 45) (v := ?_) (a' := ?_) #[true, true, true, true, true, true, true, true, true, true, true, true, true, true, true, true, true, true, true, true, true, true, true, true, true, true, true, true, true, true, true, true, true, true, true, true, true, false, false, false, false, false, false, false, false, false, false, false] rfl rfl (any_of HT_.out (by kernel_rfl)) (fun _ _ _ h => h) (Or.inl ⟨by rfl, ?_⟩) ?_ ?_
            rotate_left
            · intro w'
              go_simp
              with_reducible rfl
            rotate_left
            · simp only [Act.put, List.setIfInBounds_toArray, List.set_cons_zero, List.set_cons_succ, i64_w, i32_w]
              rfl
            refine pure_ (i := 37) (N := some 46) (v := ?_) (a' := ?_) #[true, true, true, true, true, true, true, true, true, true, true, true, true, true, true, true, true, true, true, true, true, true, true, true, true, true, true, true, true, true, true, true, true, true, true, true, true, true, false, false, false, false, false, false, false, false, false, false] rfl rfl (any_of HT_.out (by kernel_rfl)) (fun _ _ _ h => h) (Or.inl ⟨by rfl, ?_⟩) ?_ ?_
            rotate_left
            · intro w'
              go_simp
              with_reducible rfl
            rotate_left
            · simp only [Act.put, List.setIfInBounds_toArray, List.set_cons_zero, List.set_cons_succ, i64_w, i32_w]
              rfl
            refine pure_ (i := 38) (N := some 47) (v := ?_) (a' := ?_) #[true, true, true, true, true, true, true, true, true, true, true, true, true, true, true, true, true, true, true, true, true, true, true, true, true, true, true, true, true, true, true, true, true, true, true, true, true, true, true, false, false, false, false, false, false, false, false, false] rfl rfl (any_of HT_.out (by kernel_rfl)) (fun _ _ _ h => h) (Or.inl ⟨by rfl, ?_⟩) ?_ ?_
            rotate_left
            · intro w'
              go_simp
              with_reducible rfl
            rotate_left
            · simp only [Act.put, List.setIfInBounds_toArray, List.set_cons_zero, List.set_cons_succ, i64_w, i32_w]
              rfl
            refine take_ (i := 39) (N := some 48) (v := ?_) (a' := ?_) #[true, true, true, true, true, true, true, true, true, true, true, true, true, true, true, true, true, true, true, true, true, true, true, true, true, true, true, true, true, true, true, true, true, true, true, true, true, true, true, true, false, false, false, false, false, false, false, false] rfl rfl (take_ofW HT_.out HW_.out (by kernel_rfl)) (fun _ _ _ h => h) (Or.inl ⟨by rfl, ?_⟩) hHeld ?_ ?_
            rotate_left
            · rintro w' ⟨s0, s1, s2, s3, s4, s5⟩
              go_simp
              with_reducible rfl
            rotate_left
            · simp only [Act.put, List.setIfInBounds_toArray, List.set_cons_zero, List.set_cons_succ, i64_w, i32_w]
              rfl
            refine take_ (i := 40) (N := some 49) (v := ?_) (a' := ?_) #[true, true, true, true, true, true, true, true, true, true, true, true, true, true, true, true, true, true, true, true, true, true, true, true, true, true, true, true, true, true, true, true, true, true, true, true, true, true, true, true, true, false, false, false, false, false, false, false] rfl rfl (take_ofW HT_.out HW_.out (by kernel_rfl)) (fun _ _ _ h => h) (Or.inl ⟨by rfl, ?_⟩) hHeld ?_ ?_
            rotate_left
            · rintro w' ⟨s0, s1, s2, s3, s4, s5⟩
              go_simp
              with_reducible rfl
            rotate_left
            · simp only [Act.put, List.setIfInBounds_toArray, List.set_cons_zero, List.set_cons_succ, i64_w, i32_w]
              rfl
            refine take_ (i := 42) (N := some 51) (v := ?_) (a' := ?_) #[true, true, true, true, true, true, true, true, true, true, true, true, true, true, true, true, true, true, true, true, true, true, true, true, true, true, true, true, true, true, true, true, true, true, true, true, true, true, true, true, true, false, true, false, false, false, false, false] rfl rfl (take_ofW HT_.out HW_.out (by kernel_rfl)) (fun _ _ _ h => h) (Or.inl ⟨by rfl, ?_⟩) hHeld ?_ ?_
            rotate_left
            · rintro w' ⟨s0, s1, s2, s3, s4, s5⟩
              go_simp
              with_reducible rfl
            rotate_left
            · simp only [Act.put, List.setIfInBounds_toArray, List.set_cons_zero, List.set_cons_succ, i64_w, i32_w]
              rfl
            refine take_ (i := 44) (N := some 53) (v := ?_) (a' := ?_) #[true, true, true, true, true, true, true, true, true, true, true, true, true, true, true, true, true, true, true, true, true, true, true, true, true, true, true, true, true, true, true, true, true, true, true, true, true, true, true, true, true, false, true, false, true, false, false, false] rfl rfl (take_ofW HT_.out HW_.out (by kernel_rfl)) (fun _ _ _ h => h) (Or.inl ⟨by rfl, ?_⟩) hHeld ?_ ?_
            rotate_left
            · rintro w' ⟨s0, s1, s2, s3, s4, s5⟩
              go_simp
              with_reducible rfl
            rotate_left
            · simp only [Act.put, List.setIfInBounds_toArray, List.set_cons_zero, List.set_cons_succ, i64_w, i32_w]
              rfl
            refine one_ (i := 41) (N := some 50) #[true, true, true, true, true, true, true, true, true, true, true, true, true, true, true, true, true, true, true, true, true, true, true, true, true, true, true, true, true, true, true, true, true, true, true, true, true, true, true, true, true, true, true, false, true, false, false, false] rfl rfl (one_of HT_.out (by kernel_rfl)) (by decide) (fun K hK => ?_)
            refine goes_ Try.func17 (by kernel_rfl) rfl #[.agg #[.int .i64 a0_0, .int .u64 a0_1], .agg #[.int .i64 a1_0, .int .u64 a1_1]] (by rfl) rfl rfl (by (try simp only [List.map_toArray, List.map_cons, List.map_nil]); first | done | rfl | (simp only [List.length_drop, List.length_take]; rfl)) ?_
            with_reducible refine (wide_Add.calls a0_0 a0_1 a1_0 a1_1 t178 t179 _ A21.out).mono ?_
            rintro e w39 ⟨rfl, hb⟩
            refine ⟨_, rfl, ?_⟩
            have n0_ := Aside0.mk (blk_below (g := gb152) (o := .cells #[.int .i64 a0_0, .int .u64 a0_1] 25 (0, 0)) (by (with_reducible repeat (first | refine blk_drewN ?_ _ | refine blk_drew ?_ | refine blk_alloc ?_ _)); exact BK152.out) hb)
            have n1_ := Aside0.mk (blk_below (g := gb153) (o := .cells #[.int .i64 a1_0, .int .u64 a1_1] 25 (0, 0)) (by (with_reducible repeat (first | refine blk_drewN ?_ _ | refine blk_drew ?_ | refine blk_alloc ?_ _)); exact BK153.out) hb)
            have n2_ := Aside0.mk (blk_below (g := gb154) (o := .cells #[.int .i64 a2_0, .int .u64 a2_1] 25 (0, 0)) (by (with_reducible repeat (first | refine blk_drewN ?_ _ | refine blk_drew ?_ | refine blk_alloc ?_ _)); exact BK154.out) hb)
            have n3_ := Aside0.mk (below_step (by repeat (first | (with_reducible first | exact HB.out | apply below_alloc | apply pw_below_drewN | apply below_drew1 | refine below_set ?_ GE152.out | refine below_set ?_ GE153.out | refine below_set ?_ GE154.out) | exact HB.out)) hb)
            clear BK152
            clear BK153
            clear BK154
            clear HB
            have BK152 := n0_
            have BK153 := n1_
            have BK154 := n2_
            have HB := n3_
            clear n0_ n1_ n2_ n3_
            (try clear hb)
            (try clear hb2)
            (try clear hk)
            (try clear hi)
            refine hK.out _ _ ⟨(blk_cell BK152.out 0).trans rfl, (blk_cell BK152.out 1).trans rfl, (blk_cell BK153.out 0).trans rfl, (blk_cell BK153.out 1).trans rfl, (blk_cell BK154.out 0).trans rfl, (blk_cell BK154.out 1).trans rfl⟩ (fun hHeld => ?_)
            clear hK K
            refine norm_ (a' := ?_) ?_ ?_
            rotate_left
            · show Act.put _ (some 50) _ = _
              simp only [Act.put, List.setIfInBounds_toArray, List.set_cons_zero, List.set_cons_succ, i64_w, i32_w]
              rfl
            refine one_ (i := 43) (N := some 52) #[true, true, true, true, true, true, true, true, true, true, true, true, true, true, true, true, true, true, true, true, true, true, true, true, true, true, true, true, true, true, true, true, true, true, true, true, true, true, true, true, true, true, true, true, true, false, false, false] rfl rfl (one_of HT_.out (by kernel_rfl)) (by decide) (fun K hK => ?_)
            refine goes_ Try.func19 (by kernel_rfl) rfl #[.agg #[.int .i64 t178, .int .u64 t179], .agg #[.int .i64 a1_0, .int .u64 a1_1]] (by rfl) rfl rfl (by (try simp only [List.map_toArray, List.map_cons, List.map_nil]); first | done | rfl | (simp only [List.length_drop, List.length_take]; rfl)) ?_
            with_reducible refine (wide_Sub.calls t178 t179 a1_0 a1_1 t180 t181 _ A22.out).mono ?_
            rintro e w40 ⟨rfl, hb⟩
            refine ⟨_, rfl, ?_⟩
            have n0_ := Aside0.mk (blk_below (g := gb152) (o := .cells #[.int .i64 a0_0, .int .u64 a0_1] 25 (0, 0)) (by (with_reducible repeat (first | refine blk_drewN ?_ _ | refine blk_drew ?_ | refine blk_alloc ?_ _)); exact BK152.out) hb)
            have n1_ := Aside0.mk (blk_below (g := gb153) (o := .cells #[.int .i64 a1_0, .int .u64 a1_1] 25 (0, 0)) (by (with_reducible repeat (first | refine blk_drewN ?_ _ | refine blk_drew ?_ | refine blk_alloc ?_ _)); exact BK153.out) hb)
            have n2_ := Aside0.mk (blk_below (g := gb154) (o := .cells #[.int .i64 a2_0, .int .u64 a2_1] 25 (0, 0)) (by (with_reducible repeat (first | refine blk_drewN ?_ _ | refine blk_drew ?_ | refine blk_alloc ?_ _)); exact BK154.out) hb)
            have n3_ := Aside0.mk (below_step (by repeat (first | (with_reducible first | exact HB.out | apply below_alloc | apply pw_below_drewN | apply below_drew1 | refine below_set ?_ GE152.out | refine below_set ?_ GE153.out | refine below_set ?_ GE154.out) | exact HB.out)) hb)
            clear BK152
            clear BK153
            clear BK154
            clear HB
            have BK152 := n0_
            have BK153 := n1_
            have BK154 := n2_
            have HB := n3_
            clear n0_ n1_ n2_ n3_
            (try clear hb)
            (try clear hb2)
            (try clear hk)
            (try clear hi)
            refine hK.out _ _ ⟨(blk_cell BK152.out 0).trans rfl, (blk_cell BK152.out 1).trans rfl, (blk_cell BK153.out 0).trans rfl, (blk_cell BK153.out 1).trans rfl, (blk_cell BK154.out 0).trans rfl, (blk_cell BK154.out 1).trans rfl⟩ (fun hHeld => ?_)
            clear hK K
            refine norm_ (a' := ?_) ?_ ?_
            rotate_left
            · show Act.put _ (some 52) _ = _
              simp only [Act.put, List.setIfInBounds_toArray, List.set_cons_zero, List.set_cons_succ, i64_w, i32_w]
              rfl
            refine pure_ (i := 45) (N := some 54) (v := ?_) (a' := ?_) #[true, true, true, true, true, true, true, true, true, true, true, true, true, true, true, true, true, true, true, true, true, true, true, true, true, true, true, true, true, true, true, true, true, true, true, true, true, true, true, true, true, true, true, true, true, true, false, false] rfl rfl (any_of HT_.out (by kernel_rfl)) (fun _ _ _ h => h) (Or.inl ⟨by rfl, ?_⟩) ?_ ?_
            rotate_left
            · intro w'
              go_simp
              with_reducible rfl
            rotate_left
            · simp only [Act.put, List.setIfInBounds_toArray, List.set_cons_zero, List.set_cons_succ, i64_w, i32_w]
              rfl
            refine pure_ (i := 46) (N := some 55) (v := ?_) (a' := ?_) #[true, true, true, true, true, true, true, true, true, true, true, true, true, true, true, true, true, true, true, true, true, true, true, true, true, true, true, true, true, true, true, true, true, true, true, true, true, true, true, true, true, true, true, true, true, true, true, false] rfl rfl (any_of HT_.out (by kernel_rfl)) (fun _ _ _ h => h) (Or.inl ⟨by rfl, ?_⟩) ?_ ?_
            rotate_left
            · intro w'
              go_simp
              with_reducible rfl
            rotate_left
            · simp only [Act.put, List.setIfInBounds_toArray, List.set_cons_zero, List.set_cons_succ, i64_w, i32_w]
              rfl
            refine pure_ (i := 47) (N := some 6) (v := ?_) (a' := ?_) #[true, true, true, true, true, true, true, true, true, true, true, true, true, true, true, true, true, true, true, true, true, true, true, true, true, true, true, true, true, true, true, true, true, true, true, true, true, true, true, true, true, true, true, true, true, true, true, true] rfl rfl (any_of HT_.out (by kernel_rfl)) (fun _ _ _ h => h) (Or.inl ⟨by rfl, ?_⟩) ?_ ?_
            rotate_left
            · intro w'
              go_simp
              with_reducible rfl
            rotate_left
            · simp only [Act.put, List.setIfInBounds_toArray, List.set_cons_zero, List.set_cons_succ, i64_w, i32_w]
              rfl
            refine done_ (done_of HT_.out (by kernel_rfl)) ?_
            try go_wp2
            go_ret
            exact ⟨by first | rfl | (simp [errW_none, errW_some] <;> rfl) | (simp [*, errW_none, errW_some] <;> rfl), by repeat (first | (with_reducible first | exact HB.out | apply below_alloc | apply pw_below_drewN | apply below_drew1 | refine below_set ?_ GE152.out | refine below_set ?_ GE153.out | refine below_set ?_ GE154.out) | exact HB.out)⟩
          · rw [if_neg c20] at H
            have c20b0 : (t172 == t176 && (t173 == t177)) = false := by simpa using c20
            (try (have c20b1 : decide (t172 = t176 && (t173 == t177)) = false := by simpa using c20))
            (try (have c20b2 : (t172 == t176 && (t173 == t177)) = false := by simpa using c20))
            (try (have c20b3 : ¬ (t172 = t176 && (t173 == t177)) := by simpa using c20))
            clear c20
            exact absurd H (by simp)
        · rw [if_neg c16] at H
          have c16b0 : (t170 == 0 && (t171 == 0)) = false := by simpa using c16
          (try (have c16b1 : decide (t170 = 0 && (t171 == 0)) = false := by simpa using c16))
          (try (have c16b2 : (t170 == 0 && (t171 == 0)) = false := by simpa using c16))
          (try (have c16b3 : ¬ (t170 = 0 && (t171 == 0)) := by simpa using c16))
          clear c16
          exact absurd H (by simp)
      · rw [if_neg c13] at H
        have c13b0 : (t164 == t166 && (t165 == t167)) = false := by simpa using c13
        (try (have c13b1 : decide (t164 = t166 && (t165 == t167)) = false := by simpa using c13))
        (try (have c13b2 : (t164 == t166 && (t165 == t167)) = false := by simpa using c13))
        (try (have c13b3 : ¬ (t164 = t166 && (t165 == t167)) := by simpa using c13))
        clear c13
        exact absurd H (by simp)
    · rw [if_neg c10] at H
      have c10b0 : (t158 == t162 && (t159 == t163)) = false := by simpa using c10
      (try (have c10b1 : decide (t158 = t162 && (t159 == t163)) = false := by simpa using c10))
      (try (have c10b2 : (t158 == t162 && (t159 == t163)) = false := by simpa using c10))
      (try (have c10b3 : ¬ (t158 = t162 && (t159 == t163)) := by simpa using c10))
      clear c10
      exact absurd H (by simp)
  · replace c5 := Bool.eq_false_iff.mpr c5
    subst c5
    have H1 : (none) = some r := by rw [if_neg (show ¬ (false = true) by decide)] at H; exact H
    clear H
    have H := H1
    clear H1
    exact absurd H (by simp)

/-- THE ONE PURE STATEMENT of carousellaw2_WideOrder. -/
def carousellaw2_WideOrder.Pure : Prop := ∀ (a0_0 : Int) (a0_1 : Int) (a1_0 : Int) (a1_1 : Int) (a2_0 : Int) (a2_1 : Int), (Lit.int .i64 a0_0).wf = true → (Lit.int .u64 a0_1).wf = true → (Lit.int .i64 a1_0).wf = true → (Lit.int .u64 a1_1).wf = true → (Lit.int .i64 a2_0).wf = true → (Lit.int .u64 a2_1).wf = true → ∃ k, carousellaw2_WideOrder.f k a0_0 a0_1 a1_0 a1_1 a2_0 a2_1 = some true

end Go.Proofs.Ytalghnbolnimiaa.PWideOrder
