/- The functions that the law FixSays reaches, as Lean functions, and that each call of the Go function does what its Lean function says, wherever that one answers. Written by a program of mine over the print of the kit; Lean checks it. -/
import Derived.Test.YtjiloachlemlcaaDoorPFixSaysx0
import Derived.Test.YtjiloachlemlcaaDoorPFixSaysx1
import Derived.Test.YtjiloachlemlcaaDoorPFixSaysx5
import Derived.Test.YtjiloachlemlcaaDoorPFixSaysx7
import Derived.Test.YtjiloachlemlcaaDoorPFixSaysx8
namespace Go.Proofs.YtjiloachlemlcaaDoor.PFixSays
open Go.RowKit Go.Proofs.YtjiloachlemlcaaDoorW.PrintWords Go.Proofs.YtjiloachlemlcaaDoorW.PrintLast Go.Proofs.YtjiloachlemlcaaDoorW.PrintMore
attribute [local go_sem] max2_int min2_int max_two min_two max_three min_three max_four min_four   -- for this text's walks alone
set_option linter.unusedVariables false
set_option linter.unusedSimpArgs false

/-! ### carouselref1_Digits: function 39 -/
def carouselref1_Digits.f : Nat → Int → Option (ByteArray)
 | 0, _ => none
 | k + 1, a0 => if a0 < 10 then (some (strOfNums (([(IntKind.u64.wrap (48 + a0)) % 256] : List Int)))) else ((carouselref1_Digits.f k (IntKind.u64.wrap (Int.tdiv a0 10))).bind fun t176 => ((some (([(IntKind.u64.wrap (48 + (Int.tmod a0 10))) % 256] : List Int) : List Int)).bind fun y177 => (if t176.size + (strOfNums y177).size ≤ 9223372036854775807 then (some (t176 ++ (strOfNums y177))) else (none))))
theorem carouselref1_Digits.mono_l : ∀ k, (∀ y0, LeO (carouselref1_Digits.f k y0) (carouselref1_Digits.f (k + 1) y0))
 | 0 => fun _ r h => by simp [carouselref1_Digits.f] at h
 | k + 1 => by
  have ih0 := carouselref1_Digits.mono_l k
  ·intro y0
   unfold carouselref1_Digits.f
   repeat' first
   | (with_reducible exact ih0 _)
   | (with_reducible exact LeO.refl _)
   | (with_reducible exact LeO.none _)
   | (with_reducible refine LeO.ite ?_ ?_)
   | (with_reducible refine LeO.bind ?_ (fun _ => ?_))
   | exact ih0 _
   | exact LeO.none _
   | refine LeO.ite ?_ ?_
   | refine LeO.bind ?_ (fun _ => ?_)
theorem carouselref1_Digits.mono : ∀ a0 k, LeO (carouselref1_Digits.f k a0) (carouselref1_Digits.f (k + 1) a0) := by
 intro a0 k
 have ih0 := carouselref1_Digits.mono_l k
 exact ih0 a0
def carouselref1_Digits.T3 : Bool × List (List Nat × List Nat) := (true, [([], []), ([0], [0]), ([1], [1]), ([], []), ([3], [3]), ([4], [4]), ([5], [5]), ([6], [6]), ([7], [7]), ([2, 8], [2, 8]), ([9, 2, 0, 1, 2, 3, 4, 5, 6, 7, 8, 9], [9])])
def carouselref1_Digits.B3 : List Nat := [0, 1, 3, 0, 8, 24, 56, 120, 248, 511, 1023]
theorem carouselref1_Digits.tab3 : rtab .any (opsOf Tryd.f39 3) = carouselref1_Digits.T3 := by kernel_rfl
theorem carouselref1_Digits.bits3 : waitsOk carouselref1_Digits.T3.2 carouselref1_Digits.B3 = true := by kernel_rfl
set_option maxHeartbeats 8000000 in
set_option maxRecDepth 100000 in
theorem carouselref1_Digits.calls (k : Nat) : ∀ (a0 : Int) (r : ByteArray) (w : World) (h : carouselref1_Digits.f k a0 = some r),
  Calls Tryd.prog 39 #[.int .u64 a0] w fun e w' => e = .returned (.string r) ∧ Below w.heap.size w w' := by
 induction k using Nat.strongRecOn with
 | _ k ih =>
 intro a0 r w h
 cases k with
 | zero => exact absurd h (by simp [carouselref1_Digits.f])
 | succ k =>
 simp only [carouselref1_Digits.f] at h
 have HB := Aside0.mk (Below.refl w.heap.size w)
 have H : (if a0 < 10 then (some (strOfNums (([(IntKind.u64.wrap (48 + a0)) % 256] : List Int)))) else ((carouselref1_Digits.f k (IntKind.u64.wrap (Int.tdiv a0 10))).bind fun t176 => ((some (([(IntKind.u64.wrap (48 + (Int.tmod a0 10))) % 256] : List Int) : List Int)).bind fun y177 => (if t176.size + (strOfNums y177).size ≤ 9223372036854775807 then (some (t176 ++ (strOfNums y177))) else (none))))) = some r := h
 clear h
 by_cases c2 : a0 < 10
 ·rw [if_pos c2] at H
  have c2b0 : decide (a0 < 10) = true := decide_eq_true c2
  clear c2
  obtain ⟨y173, hy173⟩ : ∃ y_ : List Int, y_ = (([(IntKind.u64.wrap (48 + a0)) % 256] : List Int)) := ⟨_, rfl⟩
  replace H : (some (strOfNums y173)) = some r := by first | (rw [hy173]; with_reducible exact H) | (have H2_ := (Option.bind_some _ _).symm.trans H; rw [hy173]; with_reducible exact H2_) | (have H2_ := (Option.bind_some _ _).symm.trans H; with_reducible exact H2_) | with_reducible exact H | (rw [hy173]; exact H) | exact H
  have Ny173 := Aside0.mk hy173
  clear hy173
  obtain rfl := Option.some.inj H
  go_enter Tryd.func39, Tryd.ntmps39
  go_wp2_with (first | ((with_reducible refine gate_dst (N := 8) rfl ?_); refine Kd.R_lit (Kd.int .u8) _ 5 ?hg (N := 8) ?hd (xs := ([(IntKind.u64.wrap (48 + a0)) % 256] : List Int)) (inner := [.int .u8 ((IntKind.u64.wrap (48 + a0)) % 256)]) (ok := fun _ => True) (okp := fun _ => True) ?hr ?hp (fun _ hk => hk) trivial (Below.refl _ _) (Nat.le_refl _) (by simp) ?_; (case hd => rfl); (case hg => rfl); (case hr => first | (go_simp; done) | (go_simp; rfl)); (case hp => exact (Reps.one (show Kd.M (Kd.int .u8) _ _ _ ((IntKind.u64.wrap (48 + a0)) % 256) [.int .u8 ((IntKind.u64.wrap (48 + a0)) % 256)] from rfl) (Reps.none _ _))); intro v174 w3 ho4 hb hg_ hnew_; clear hg_ hnew_; (first | rw [← Ny173.out] at ho4 | (simp only [Int.reduceToNat] at ho4; rw [← Ny173.out] at ho4)); have HO175 := Aside0.mk (Kd.R_lower ho4 (below_size (zw0_ HB))); replace HB := Aside0.mk (below_step (zw0_ HB) hb); clear hb ho4; have hcv5 := own_string (P := Tryd.prog) Tryd.underlying62 Tryd.underlying5 Tryd.underlying9 (Kd.own_of_R HO175.out)))
  go_ret
  exact ⟨z0_, zw0_ HB⟩
 rw [if_neg c2] at H
 have c2b0 : decide (a0 < 10) = false := decide_eq_false c2
 clear c2
 replace H := Option.bind_eq_some_iff.mp H
 obtain ⟨t176, A60, H⟩ := H
 (try dsimp only at H)
 have A6 := Aside0.mk A60
 clear A60
 obtain ⟨y177, hy177⟩ : ∃ y_ : List Int, y_ = (([(IntKind.u64.wrap (48 + (Int.tmod a0 10))) % 256] : List Int)) := ⟨_, rfl⟩
 replace H : (if t176.size + (strOfNums y177).size ≤ 9223372036854775807 then (some (t176 ++ (strOfNums y177))) else (none)) = some r := by first | (rw [hy177]; with_reducible exact H) | (have H2_ := (Option.bind_some _ _).symm.trans H; rw [hy177]; with_reducible exact H2_) | (have H2_ := (Option.bind_some _ _).symm.trans H; with_reducible exact H2_) | with_reducible exact H | (rw [hy177]; exact H) | exact H
 have Ny177 := Aside0.mk hy177
 clear hy177
 by_cases c7 : t176.size + (strOfNums y177).size ≤ 9223372036854775807
 rotate_left
 ·rw [if_neg c7] at H
  exact absurd H (by simp)
 rw [if_pos c7] at H
 have c7b0 := eq_true c7
 have c7b1 : decide (t176.size + (strOfNums y177).size ≤ 9223372036854775807) = true := decide_eq_true c7
 try have c7b2 : (9223372036854775807 < t176.size + (strOfNums y177).size) = False := eq_false (Nat.not_lt.2 c7)
 obtain rfl := Option.some.inj H
 go_enter Tryd.func39, Tryd.ntmps39
 try go_wp2
 replace HB := Aside0.mk (below_drew1 HB.out)
 refine start_ (n := 11) (S := fun w' => True) (ds := []) #[false, false, false, false, false, false, false, false, false, false, false] (by kernel_rfl) rfl rfl trivial (fun hHeld => ?_); refine with_tabW carouselref1_Digits.tab3 carouselref1_Digits.bits3 (fun HT_ HW_ => ?_)
 generalize w.drew = w8 at HB hHeld ⊢
 refine yp_ ?_ 0 10
 refine yp_ ?_ 1 11
 refine yp_ ?_ 3 13
 refine yp_ ?_ 4 14
 refine yp_ ?_ 5 15
 refine yp_ ?_ 6 16
 refine join_ (σ := Value) 2 #[true, true, true, true, true, true, true, true, true, false, false] (fun s_ => [(12, .string t176), (17, s_), (18, .string (strOfNums y177))]) (fun s_ w' => (Kd.R (Kd.int .u8) 5 w' w.heap.size (fun _ => True) s_ y177) ∧ (Below w.heap.size w w')) ?_ ?_
 rotate_left
 ·intro hCont
  refine two_ (i := 2) (j := 7) (Ni := some 12) (Nj := some 17) #[true, true, true, true, true, true, true, false, false, false, false] #[true, true, false, true, true, true, true, true, false, false, false] rfl rfl rfl rfl (two_of HT_.out (by kernel_rfl)) (by decide) (by decide) (fun K hK => ?_) (fun K hK => ?_)
  ·skip
   refine yg_ Tryd.func39 #[.int .u64 (IntKind.u64.wrap (Int.tdiv a0 10))] ?_
   with_reducible refine (ih k (by omega) (IntKind.u64.wrap (Int.tdiv a0 10)) t176 _ A6.out).mono ?_
   rintro e w9 ⟨rfl, hb⟩
   refine ⟨_, rfl, ?_⟩
   replace HB := Aside0.mk (below_step (zw0_ HB) hb)
   (try clear hb)
   (try clear hb2)
   (try clear hk)
   (try clear hi)
   refine hK.out _ _ trivial (fun hHeld => ?_)
   clear hK K
   refine zq_ (some 12) (h := ?_)
   refine yo_ 7 (some 17) (fun K hK => ?_)
   refine Kd.R_lit_step (Kd.int .u8) _ 5 ?hg (N := 17) ?hd (xs := ([(IntKind.u64.wrap (48 + (Int.tmod a0 10))) % 256] : List Int)) (inner := [.int .u8 ((IntKind.u64.wrap (48 + (Int.tmod a0 10))) % 256)]) (ok := fun _ => True) (okp := fun _ => True) ?hr ?hp (fun _ hk => hk) trivial (Below.refl _ _) (Nat.le_refl _) (by simp) ?_; (case hd => rfl); (case hg => rfl); (case hr => first | (go_simp; done) | (go_simp; rfl)); (case hp => exact (Reps.one (show Kd.M (Kd.int .u8) _ _ _ ((IntKind.u64.wrap (48 + (Int.tmod a0 10))) % 256) [.int .u8 ((IntKind.u64.wrap (48 + (Int.tmod a0 10))) % 256)] from rfl) (Reps.none _ _)))
   intro v178 w10 ho11 hb hg_ hnew_
   clear hg_ hnew_
   (first | rw [← Ny177.out] at ho11 | (simp only [Int.reduceToNat] at ho11; rw [← Ny177.out] at ho11))
   have HO179 := Aside0.mk (Kd.R_lower ho11 (below_size (zw0_ HB)))
   replace HB := Aside0.mk (below_step (zw0_ HB) hb)
   clear hb ho11
   refine hK.out _ _ trivial (fun hHeld => ?_)
   clear hK K
   refine zq_ (some 17) (h := ?_)
   refine yo_ 8 (some 18) (fun K hK => ?_)
   have hcv12 := own_string (P := Tryd.prog) Tryd.underlying62 Tryd.underlying5 Tryd.underlying9 (Kd.own_of_R HO179.out)
   refine value_ (w1 := ?_) (v := ?_) (by rfl) rfl ?_ ?_
   rotate_left 2
   ·go_simp
    constructor
    ·rfl
    rfl
   clear hcv12
   refine hK.out _ _ trivial (fun hHeld => ?_)
   clear hK K
   refine zq_ (some 18) (h := ?_)
   exact zj_ (hCont (v178) _ ⟨(zr_ HO179.out), (zw0_ HB)⟩)
  skip
  refine Kd.R_lit_step (Kd.int .u8) _ 5 ?hg (N := 17) ?hd (xs := ([(IntKind.u64.wrap (48 + (Int.tmod a0 10))) % 256] : List Int)) (inner := [.int .u8 ((IntKind.u64.wrap (48 + (Int.tmod a0 10))) % 256)]) (ok := fun _ => True) (okp := fun _ => True) ?hr ?hp (fun _ hk => hk) trivial (Below.refl _ _) (Nat.le_refl _) (by simp) ?_; (case hd => rfl); (case hg => rfl); (case hr => first | (go_simp; done) | (go_simp; rfl)); (case hp => exact (Reps.one (show Kd.M (Kd.int .u8) _ _ _ ((IntKind.u64.wrap (48 + (Int.tmod a0 10))) % 256) [.int .u8 ((IntKind.u64.wrap (48 + (Int.tmod a0 10))) % 256)] from rfl) (Reps.none _ _)))
  intro v178 w9 ho10 hb hg_ hnew_
  clear hg_ hnew_
  (first | rw [← Ny177.out] at ho10 | (simp only [Int.reduceToNat] at ho10; rw [← Ny177.out] at ho10))
  have HO179 := Aside0.mk (Kd.R_lower ho10 (below_size (zw0_ HB)))
  replace HB := Aside0.mk (below_step (zw0_ HB) hb)
  clear hb ho10
  refine hK.out _ _ trivial (fun hHeld => ?_)
  clear hK K
  refine zq_ (some 17) (h := ?_)
  refine two_ (i := 2) (j := 8) (Ni := some 12) (Nj := some 18) #[true, true, true, true, true, true, true, true, false, false, false] #[true, true, false, true, true, true, true, true, true, false, false] rfl rfl rfl rfl (two_of HT_.out (by kernel_rfl)) (by decide) (by decide) (fun K hK => ?_) (fun K hK => ?_)
  ·skip
   refine yg_ Tryd.func39 #[.int .u64 (IntKind.u64.wrap (Int.tdiv a0 10))] ?_
   with_reducible refine (ih k (by omega) (IntKind.u64.wrap (Int.tdiv a0 10)) t176 _ A6.out).mono ?_
   rintro e w11 ⟨rfl, hb⟩
   refine ⟨_, rfl, ?_⟩
   replace HO179 := zy_ HO179 hb
   replace HB := Aside0.mk (below_step (zw0_ HB) hb)
   (try clear hb)
   (try clear hb2)
   (try clear hk)
   (try clear hi)
   refine hK.out _ _ trivial (fun hHeld => ?_)
   clear hK K
   refine zq_ (some 12) (h := ?_)
   refine yo_ 8 (some 18) (fun K hK => ?_)
   have hcv12 := own_string (P := Tryd.prog) Tryd.underlying62 Tryd.underlying5 Tryd.underlying9 (Kd.own_of_R HO179.out)
   refine value_ (w1 := ?_) (v := ?_) (by rfl) rfl ?_ ?_
   rotate_left 2
   ·go_simp
    constructor
    ·rfl
    rfl
   clear hcv12
   refine hK.out _ _ trivial (fun hHeld => ?_)
   clear hK K
   refine zq_ (some 18) (h := ?_)
   exact zj_ (hCont (v178) _ ⟨(zr_ HO179.out), (zw0_ HB)⟩)
  skip
  have hcv11 := own_string (P := Tryd.prog) Tryd.underlying62 Tryd.underlying5 Tryd.underlying9 (Kd.own_of_R HO179.out)
  refine value_ (w1 := ?_) (v := ?_) (by rfl) rfl ?_ ?_
  rotate_left 2
  ·go_simp
   constructor
   ·rfl
   rfl
  clear hcv11
  refine hK.out _ _ trivial (fun hHeld => ?_)
  clear hK K
  refine zq_ (some 18) (h := ?_)
  refine yo_ 2 (some 12) (fun K hK => ?_)
  refine yg_ Tryd.func39 #[.int .u64 (IntKind.u64.wrap (Int.tdiv a0 10))] ?_
  with_reducible refine (ih k (by omega) (IntKind.u64.wrap (Int.tdiv a0 10)) t176 _ A6.out).mono ?_
  rintro e w12 ⟨rfl, hb⟩
  refine ⟨_, rfl, ?_⟩
  replace HO179 := zy_ HO179 hb
  replace HB := Aside0.mk (below_step (zw0_ HB) hb)
  (try clear hb)
  (try clear hb2)
  (try clear hk)
  (try clear hi)
  refine hK.out _ _ trivial (fun hHeld => ?_)
  clear hK K
  refine zq_ (some 12) (h := ?_)
  exact zj_ (hCont (v178) _ ⟨(zr_ HO179.out), (zw0_ HB)⟩)
 rintro v178 w13 ⟨h0_, h1_⟩
 (try dsimp only at h0_ h1_)
 clear HB
 have HO179 := Aside0.mk h0_
 have HB := Aside0.mk h1_
 clear h0_ h1_
 have hHeld := trivial
 refine zi_ (h := ?_)
 refine yp_ ?_ 9 19
 refine yp_ ?_ 10 2
 refine done_ (done_of HT_.out (by kernel_rfl)) ?_
 try go_wp2
 go_ret
 exact ⟨z0_, zw0_ HB⟩

/-- The words of a number of sign and size, out of its row. -/
theorem n41_fld (b : Value) (v0 v1 v2 v3 : Int) (w : World) : (Instr.field 41 (.agg #[b, .int .u64 v0, .int .u64 v1, .int .u64 v2, .int .u64 v3]) 1).run Tryd.prog w = .ok (.agg #[.int .u64 v0, .int .u64 v1, .int .u64 v2, .int .u64 v3]) w := by
 have hi : (Tryd.prog.info? 39).map (·.size) = some 4 := by kernel_rfl
 cases h : Tryd.prog.info? 39 with
 | none => rw [h] at hi; cases hi
 | some q =>
  rw [h] at hi
  have hs : q.size = 4 := by simpa using hi
  simp [Instr.field, run_underlying Tryd.underlying41, part, sizeOf, typeInfo, h, hs, isAgg, asAgg, run_underlying Tryd.underlying39, go_sem]
theorem n39_ix0 (v0 v1 v2 v3 : Int) (w : World) : (Instr.index 39 (.agg #[.int .u64 v0, .int .u64 v1, .int .u64 v2, .int .u64 v3]) (.int .i64 0)).run Tryd.prog w = .ok (.int .u64 v0) w := by
 have hi : (Tryd.prog.info? 38).map (·.size) = some 1 := by kernel_rfl
 cases h : Tryd.prog.info? 38 with
 | none => rw [h] at hi; cases hi
 | some q =>
  rw [h] at hi
  have hs : q.size = 1 := by simpa using hi
  simp [Instr.index, run_underlying Tryd.underlying39, asIntOf, part, sizeOf, typeInfo, h, hs, go_sem]
theorem n39_ix1 (v0 v1 v2 v3 : Int) (w : World) : (Instr.index 39 (.agg #[.int .u64 v0, .int .u64 v1, .int .u64 v2, .int .u64 v3]) (.int .i64 1)).run Tryd.prog w = .ok (.int .u64 v1) w := by
 have hi : (Tryd.prog.info? 38).map (·.size) = some 1 := by kernel_rfl
 cases h : Tryd.prog.info? 38 with
 | none => rw [h] at hi; cases hi
 | some q =>
  rw [h] at hi
  have hs : q.size = 1 := by simpa using hi
  simp [Instr.index, run_underlying Tryd.underlying39, asIntOf, part, sizeOf, typeInfo, h, hs, go_sem]

/-! ### carouselref1_Text: function 15 -/
mutual
def carouselref1_Text.j0 : Nat → Int → Int → Int → Option (ByteArray)
 | 0, _, _, _ => none
 | k + 1, x0, x4, x6 => (carouselref1_Digits.f k x6).bind fun t196 => (carouselref1_Text.l0 k x0 x4 t196)
def carouselref1_Text.l0 : Nat → Int → Int → ByteArray → Option (ByteArray)
 | 0, _, _, _ => none
 | k + 1, x0, x4, x7 => if (x7.size : Int) < 10 then (if 1 + x7.size ≤ 9223372036854775807 then (carouselref1_Text.l0 k x0 x4 ((⟨#[48]⟩ : ByteArray) ++ x7)) else (none)) else ((carouselref1_Digits.f k x4).bind fun t197 => (if t197.size + 1 ≤ 9223372036854775807 then (if (t197 ++ (⟨#[46]⟩ : ByteArray)).size + x7.size ≤ 9223372036854775807 then (if x0 < 0 then (if 1 + ((t197 ++ (⟨#[46]⟩ : ByteArray)) ++ x7).size ≤ 9223372036854775807 then (some ((⟨#[45]⟩ : ByteArray) ++ ((t197 ++ (⟨#[46]⟩ : ByteArray)) ++ x7))) else (none)) else (some ((t197 ++ (⟨#[46]⟩ : ByteArray)) ++ x7))) else (none)) else (none)))
end
def carouselref1_Text.f (k : Nat) (a0 : Int) : Option (ByteArray) := (carouselref1_size.f a0).bind fun t180 => ((carouselref1_Times.f (wrap64 (Go.bits .and .u64 t180 4294967295)) 10000000000).bind fun bt181 => ((carouselref1_Times.f (wrap64 (Go.bits .and .u64 t180 4294967295)) 10000000000).bind fun bt186 => ((carouselref1_Divided.f false bt181.2.1 bt186.2.2.1 0 0 4294967296).bind fun bt191 => (if bt191.2.1 = 10000000000 then (carouselref1_Text.j0 k a0 (IntKind.u64.wrap ((t180 / 4294967296) + 1)) 0) else (carouselref1_Text.j0 k a0 (t180 / 4294967296) bt191.2.1)))))
theorem carouselref1_Text.mono_l : ∀ k, (∀ y0 y1 y2, LeO (carouselref1_Text.j0 k y0 y1 y2) (carouselref1_Text.j0 (k + 1) y0 y1 y2)) ∧ (∀ y0 y1 y2, LeO (carouselref1_Text.l0 k y0 y1 y2) (carouselref1_Text.l0 (k + 1) y0 y1 y2))
 | 0 => ⟨fun _ _ _ r h => by simp [carouselref1_Text.j0] at h, fun _ _ _ r h => by simp [carouselref1_Text.l0] at h⟩
 | k + 1 => by
  obtain ⟨ih0, ih1⟩ := carouselref1_Text.mono_l k
  refine ⟨?_, ?_⟩
  ·intro y0 y1 y2
   unfold carouselref1_Text.j0
   repeat' first
   | (with_reducible exact ih0 _ _ _)
   | (with_reducible exact ih1 _ _ _)
   | (with_reducible exact carouselref1_Digits.mono _ _)
   | (with_reducible exact LeO.refl _)
   | (with_reducible exact LeO.none _)
   | (with_reducible refine LeO.ite ?_ ?_)
   | (with_reducible refine LeO.bind ?_ (fun _ => ?_))
   | exact ih0 _ _ _
   | exact ih1 _ _ _
   | exact carouselref1_Digits.mono _ _
   | exact LeO.none _
   | refine LeO.ite ?_ ?_
   | refine LeO.bind ?_ (fun _ => ?_)
  ·intro y0 y1 y2
   unfold carouselref1_Text.l0
   repeat' first
   | (with_reducible exact ih0 _ _ _)
   | (with_reducible exact ih1 _ _ _)
   | (with_reducible exact carouselref1_Digits.mono _ _)
   | (with_reducible exact LeO.refl _)
   | (with_reducible exact LeO.none _)
   | (with_reducible refine LeO.ite ?_ ?_)
   | (with_reducible refine LeO.bind ?_ (fun _ => ?_))
   | exact ih0 _ _ _
   | exact ih1 _ _ _
   | exact carouselref1_Digits.mono _ _
   | exact LeO.none _
   | refine LeO.ite ?_ ?_
   | refine LeO.bind ?_ (fun _ => ?_)
theorem carouselref1_Text.mono : ∀ a0 k, LeO (carouselref1_Text.f k a0) (carouselref1_Text.f (k + 1) a0) := by
 intro a0 k
 obtain ⟨ih0, ih1⟩ := carouselref1_Text.mono_l k
 unfold carouselref1_Text.f
 repeat' first
   | (with_reducible exact ih0 _ _ _)
   | (with_reducible exact ih1 _ _ _)
   | (with_reducible exact LeO.refl _)
   | (with_reducible exact LeO.none _)
   | (with_reducible refine LeO.ite ?_ ?_)
   | (with_reducible refine LeO.bind ?_ (fun _ => ?_))
   | exact ih0 _ _ _
   | exact ih1 _ _ _
   | exact LeO.none _
   | refine LeO.ite ?_ ?_
   | refine LeO.bind ?_ (fun _ => ?_)
set_option maxHeartbeats 8000000 in
set_option maxRecDepth 100000 in
theorem carouselref1_Text.calls (k : Nat) (a0 : Int) (r : ByteArray) (w : World) (h : carouselref1_Text.f k a0 = some r) :
  Calls Tryd.prog 15 #[.int .i64 a0] w fun e w' => e = .returned (.string r) ∧ Below w.heap.size w w' := by
 have hu39 := Tryd.underlying39
 have hu41 := Tryd.underlying41
 have HB := Aside0.mk (Below.refl w.heap.size w)
 have H : ((carouselref1_size.f a0).bind fun t180 => ((carouselref1_Times.f (wrap64 (Go.bits .and .u64 t180 4294967295)) 10000000000).bind fun bt181 => ((carouselref1_Times.f (wrap64 (Go.bits .and .u64 t180 4294967295)) 10000000000).bind fun bt186 => ((carouselref1_Divided.f false bt181.2.1 bt186.2.2.1 0 0 4294967296).bind fun bt191 => (if bt191.2.1 = 10000000000 then (carouselref1_Text.j0 k a0 (IntKind.u64.wrap ((t180 / 4294967296) + 1)) 0) else (carouselref1_Text.j0 k a0 (t180 / 4294967296) bt191.2.1)))))) = some r := h
 clear h
 replace H := Option.bind_eq_some_iff.mp H
 obtain ⟨t180, A20, H⟩ := H
 (try dsimp only at H)
 have A2 := Aside0.mk A20
 clear A20
 replace H := Option.bind_eq_some_iff.mp H
 obtain ⟨⟨t181, t182, t183, t184, t185⟩, A30, H⟩ := H
 (try dsimp only at H)
 have A3 := Aside0.mk A30
 clear A30
 replace H := Option.bind_eq_some_iff.mp H
 obtain ⟨⟨t186, t187, t188, t189, t190⟩, A40, H⟩ := H
 (try dsimp only at H)
 have A4 := Aside0.mk A40
 clear A40
 replace H := Option.bind_eq_some_iff.mp H
 obtain ⟨⟨t191, t192, t193, t194, t195⟩, A50, H⟩ := H
 (try dsimp only at H)
 have A5 := Aside0.mk A50
 clear A50
 have HC6 := Aside0.mk H
 clear H
 have hnf_ := n41_fld
 have hn0_ := n39_ix0
 have hn1_ := n39_ix1
 go_enter Tryd.func15, Tryd.ntmps15
 go_upto_if 30 with (first | ((with_reducible refine gate_callee (f := 36) rfl ?_); refine zg_ (some 9) Tryd.func36 #[.int .i64 a0] (h := ?_); (with_reducible refine (carouselref1_size.calls a0 t180 _ A2.out).mono ?_); rintro e w' ⟨rfl, ⟨nd, rfl⟩⟩; refine ⟨_, rfl, ?_⟩) | ((with_reducible refine gate_callee (f := 38) rfl ?_); refine zg_ (some 16) Tryd.func38 #[.int .i64 (wrap64 (Go.bits .and .u64 t180 4294967295)), .int .i64 10000000000] (h := ?_); (with_reducible refine (carouselref1_Times.calls (wrap64 (Go.bits .and .u64 t180 4294967295)) 10000000000 t181 t182 t183 t184 t185 _ A3.out).mono ?_); rintro e w7 ⟨rfl, hb⟩; refine ⟨_, rfl, ?_⟩; replace HB := Aside0.mk (below_step (zw0_ HB) hb); (try clear hb)) | ((with_reducible refine gate_callee (f := 38) rfl ?_); refine zg_ (some 21) Tryd.func38 #[.int .i64 (wrap64 (Go.bits .and .u64 t180 4294967295)), .int .i64 10000000000] (h := ?_); (with_reducible refine (carouselref1_Times.calls (wrap64 (Go.bits .and .u64 t180 4294967295)) 10000000000 t186 t187 t188 t189 t190 _ A4.out).mono ?_); rintro e w8 ⟨rfl, hb⟩; refine ⟨_, rfl, ?_⟩; replace HB := Aside0.mk (below_step (zw0_ HB) hb); (try clear hb)) | ((with_reducible refine gate_callee (f := 37) rfl ?_); refine zg_ (some 26) Tryd.func37 #[.agg #[.bool false, .int .u64 t182, .int .u64 t188, .int .u64 0, .int .u64 0], .int .i64 4294967296] (h := ?_); (with_reducible refine (carouselref1_Divided.calls false t182 t188 0 0 4294967296 t191 t192 t193 t194 t195 _ A5.out).mono ?_); rintro e w9 ⟨rfl, hb⟩; refine ⟨_, rfl, ?_⟩; replace HB := Aside0.mk (below_step (zw0_ HB) hb); (try clear hb)))
 (try simp only [Act.put, List.setIfInBounds_toArray, List.set_cons_zero, List.set_cons_succ])
 go_cut [4, 6] (fun v4 v6 wc => ∃ (kq : Nat) (x4_5 : Int) (x6_5 : Int), v4 = .int .u64 x4_5 ∧ v6 = .int .u64 x6_5 ∧ Aside0 (carouselref1_Text.j0 kq a0 x4_5 x6_5 = some r) ∧ Aside0 (kq ≤ k) ∧ Aside0 (Below w.heap.size w wc))
 case first =>
  have H := HC6.out
  clear HC6
  by_cases c10 : t192 = 10000000000
  rotate_left
  ·rw [if_neg c10] at H
   have c10b0 : (t192 == 10000000000) = false := beq_eq_false_iff_ne.mpr c10
   have c10b1 : (t192 != 10000000000) = true := bne_iff_ne.mpr c10
   (first | rw [c10b0] | (simp only [i64_w, i32_w]; rw [c10b0]) | skip)
   have H' := Aside0.mk H
   clear H
   go_wp2
   go_meet
   case rel => exact ⟨_, (t180 / 4294967296), (t192), z1_, z1_, H', ⟨by first | omega | exact Nat.le_refl _⟩, ⟨zw0_ HB⟩⟩
  rw [if_pos c10] at H
  have c10b0 : (t192 == 10000000000) = true := beq_iff_eq.mpr c10
  have c10b1 : (t192 != 10000000000) = false := bne_eq_false_iff_eq.mpr c10
  clear c10
  (first | rw [c10b0] | (simp only [i64_w, i32_w]; rw [c10b0]) | skip)
  have H' := Aside0.mk H
  clear H
  go_wp2
  go_meet
  case rel => exact ⟨_, (IntKind.u64.wrap ((t180 / 4294967296) + 1)), (0), z1_, z1_, H', ⟨by first | omega | exact Nat.le_refl _⟩, ⟨zw0_ HB⟩⟩
 case rest =>
  clear HC6
  try clear c1
  try clear p2
  try clear c3
  try clear p6
  try clear c10
  try clear c10b0
  try clear c10b1
  obtain ⟨kq, x4_5, x6_5, rfl, rfl, HA, HJ5, HB⟩ := hcut
  cases kq with
  | zero => exact absurd HA.out (by simp [carouselref1_Text.j0])
  | succ kj5 =>
   have H := HA.out
   clear HA
   simp only [carouselref1_Text.j0] at H
   replace H := Option.bind_eq_some_iff.mp H
   obtain ⟨t196, A110, H⟩ := H
   replace H : (carouselref1_Text.l0 kj5 a0 x4_5 t196) = some r := H
   have A11 := Aside0.mk A110
   clear A110
   have H' := Aside0.mk H
   clear H
   go_wp2_with (first | ((with_reducible refine gate_callee (f := 39) rfl ?_); refine zg_ (some 34) Tryd.func39 #[.int .u64 x6_5] (h := ?_); (with_reducible refine (carouselref1_Digits.calls kj5 x6_5 t196 _ A11.out).mono ?_); rintro e w12 ⟨rfl, hb⟩; refine ⟨_, rfl, ?_⟩; replace HB := Aside0.mk (below_step (zw0_ HB) hb); (try clear hb)))
   go_loopg [7] kj5 (fun kq v7 w' => ∃ (x7_2 : ByteArray), v7 = .string x7_2 ∧ Aside0 (carouselref1_Text.l0 kq a0 x4_5 x7_2 = some r) ∧ Aside0 (kq ≤ kj5) ∧ Aside0 (Below w.heap.size w w'))
   case atStart => exact ⟨(t196), z1_, H', ⟨Nat.le_refl _⟩, ⟨zw0_ HB⟩⟩
   case round =>
    clear H'
    try clear c1
    try clear p2
    try clear c3
    try clear p6
    try clear c10
    try clear c10b0
    try clear c10b1
    try clear p2
    try clear p6
    obtain ⟨x7_2, rfl, HA, HK2, HB⟩ := hrel
    cases gk with
    | zero => exact absurd HA.out (by simp [carouselref1_Text.l0])
    | succ k2 =>
     have H := HA.out
     clear HA
     simp only [carouselref1_Text.l0] at H
     by_cases c13 : (x7_2.size : Int) < 10
     ·rw [if_pos c13] at H
      have c13b0 : decide ((x7_2.size : Int) < 10) = true := decide_eq_true c13
      have c13b1 : decide (x7_2.size < 10) = true := decide_eq_true (by omega)
      clear c13
      by_cases c14 : 1 + x7_2.size ≤ 9223372036854775807
      rotate_left
      ·rw [if_neg c14] at H
       exact absurd H (by simp)
      rw [if_pos c14] at H
      have c14b0 := eq_true c14
      have c14b1 : decide (1 + x7_2.size ≤ 9223372036854775807) = true := decide_eq_true c14
      try have c14b2 : (9223372036854775807 < 1 + x7_2.size) = False := eq_false (Nat.not_lt.2 c14)
      have H' := Aside0.mk H
      clear H
      go_wp2
      go_roundg k2
      case measure => have := HJ5.out; have := HK2.out; omega
      case rel => exact ⟨((⟨#[48]⟩ : ByteArray) ++ x7_2), z1_, H', ⟨by have := HJ5.out; have := HK2.out; omega⟩, ⟨zw0_ HB⟩⟩
     rw [if_neg c13] at H
     have c13b0 : decide ((x7_2.size : Int) < 10) = false := decide_eq_false c13
     have c13b1 : decide (x7_2.size < 10) = false := decide_eq_false (by omega)
     clear c13
     replace H := Option.bind_eq_some_iff.mp H
     obtain ⟨t197, A150, H⟩ := H
     (try dsimp only at H)
     have A15 := Aside0.mk A150
     clear A150
     by_cases c16 : t197.size + 1 ≤ 9223372036854775807
     rotate_left
     ·rw [if_neg c16] at H
      exact absurd H (by simp)
     rw [if_pos c16] at H
     have c16b0 := eq_true c16
     have c16b1 : decide (t197.size + 1 ≤ 9223372036854775807) = true := decide_eq_true c16
     try have c16b2 : (9223372036854775807 < t197.size + 1) = False := eq_false (Nat.not_lt.2 c16)
     by_cases c17 : (t197 ++ (⟨#[46]⟩ : ByteArray)).size + x7_2.size ≤ 9223372036854775807
     rotate_left
     ·rw [if_neg c17] at H
      exact absurd H (by simp)
     rw [if_pos c17] at H
     have c17b0 := eq_true c17
     have c17b1 : decide ((t197 ++ (⟨#[46]⟩ : ByteArray)).size + x7_2.size ≤ 9223372036854775807) = true := decide_eq_true c17
     try have c17b2 : (9223372036854775807 < (t197 ++ (⟨#[46]⟩ : ByteArray)).size + x7_2.size) = False := eq_false (Nat.not_lt.2 c17)
     by_cases c18 : a0 < 0
     rotate_left
     ·rw [if_neg c18] at H
      have c18b0 : decide (a0 < 0) = false := decide_eq_false c18
      clear c18
      obtain rfl := Option.some.inj H
      go_wp2_with (first | ((with_reducible refine gate_callee (f := 39) rfl ?_); refine zg_ (some 41) Tryd.func39 #[.int .u64 x4_5] (h := ?_); (with_reducible refine (carouselref1_Digits.calls k2 x4_5 t197 _ A15.out).mono ?_); rintro e w21 ⟨rfl, hb⟩; refine ⟨_, rfl, ?_⟩; replace HB := Aside0.mk (below_step (zw0_ HB) hb); (try clear hb)))
      go_ret
      exact ⟨z0_, zw0_ HB⟩
     rw [if_pos c18] at H
     have c18b0 : decide (a0 < 0) = true := decide_eq_true c18
     clear c18
     by_cases c19 : 1 + ((t197 ++ (⟨#[46]⟩ : ByteArray)) ++ x7_2).size ≤ 9223372036854775807
     rotate_left
     ·rw [if_neg c19] at H
      exact absurd H (by simp)
     rw [if_pos c19] at H
     have c19b0 := eq_true c19
     have c19b1 : decide (1 + ((t197 ++ (⟨#[46]⟩ : ByteArray)) ++ x7_2).size ≤ 9223372036854775807) = true := decide_eq_true c19
     try have c19b2 : (9223372036854775807 < 1 + ((t197 ++ (⟨#[46]⟩ : ByteArray)) ++ x7_2).size) = False := eq_false (Nat.not_lt.2 c19)
     obtain rfl := Option.some.inj H
     have e_s3 : (9223372036854775807 < 1 + (t197.size + 1 + x7_2.size)) = False := eq_false (by have h_ := of_eq_true c19b0; have s1_ : (⟨#[46]⟩ : ByteArray).size = 1 := rfl; simp only [ByteArray.size_append, s1_] at h_; omega)
     go_wp2_with (first | ((with_reducible refine gate_callee (f := 39) rfl ?_); refine zg_ (some 41) Tryd.func39 #[.int .u64 x4_5] (h := ?_); (with_reducible refine (carouselref1_Digits.calls k2 x4_5 t197 _ A15.out).mono ?_); rintro e w20 ⟨rfl, hb⟩; refine ⟨_, rfl, ?_⟩; replace HB := Aside0.mk (below_step (zw0_ HB) hb); (try clear hb)))
     go_ret
     exact ⟨z0_, zw0_ HB⟩

/-! ### carousellaw1_FixSays: function 3 -/
def carousellaw1_FixSays.f (k : Nat) (a0 : Int) (a1 : Int) : Option (Bool) := (carousellaw1_awake.f k).bind fun t198 => (if t198 = true then ((fix_Of.f a0).bind fun t199 => ((carouselref1_Of.f k a0).bind fun t200 => (if t199 = t200 then ((fix_Text.f k a1).bind fun t201 => ((carouselref1_Text.f k a1).bind fun t202 => (some (t201.toList == t202.toList)))) else (none)))) else (none))
theorem carousellaw1_FixSays.mono : ∀ a0 a1 k, LeO (carousellaw1_FixSays.f k a0 a1) (carousellaw1_FixSays.f (k + 1) a0 a1) := by
 intro a0 a1 k
 unfold carousellaw1_FixSays.f
 repeat' first
   | (with_reducible exact carousellaw1_awake.mono _)
   | (with_reducible exact carouselref1_Of.mono _ _)
   | (with_reducible exact carouselref1_Text.mono _ _)
   | (with_reducible exact fix_Text.mono _ _)
   | (with_reducible exact LeO.refl _)
   | (with_reducible exact LeO.none _)
   | (with_reducible refine LeO.ite ?_ ?_)
   | (with_reducible refine LeO.bind ?_ (fun _ => ?_))
   | exact carousellaw1_awake.mono _
   | exact carouselref1_Of.mono _ _
   | exact carouselref1_Text.mono _ _
   | exact fix_Text.mono _ _
   | exact LeO.none _
   | refine LeO.ite ?_ ?_
   | refine LeO.bind ?_ (fun _ => ?_)
set_option maxHeartbeats 8000000 in
set_option maxRecDepth 100000 in
theorem carousellaw1_FixSays.calls (k : Nat) (a0 : Int) (a1 : Int) (r : Bool) (w : World) (h : carousellaw1_FixSays.f k a0 a1 = some r) (hp10 : P10_ w := by first | exact HP10.out | exact p10_below HP10.out (zw0_ HB)) :
  Calls Tryd.prog 3 #[.int .i64 a0, .int .i64 a1] w fun e w' => e = .returned (.bool r) ∧ Below w.heap.size w w' := by
 have HP10 := Aside0.mk hp10
 clear hp10
 have HB := Aside0.mk (Below.refl w.heap.size w)
 have H : ((carousellaw1_awake.f k).bind fun t198 => (if t198 = true then ((fix_Of.f a0).bind fun t199 => ((carouselref1_Of.f k a0).bind fun t200 => (if t199 = t200 then ((fix_Text.f k a1).bind fun t201 => ((carouselref1_Text.f k a1).bind fun t202 => (some (t201.toList == t202.toList)))) else (none)))) else (none))) = some r := h
 clear h
 replace H := Option.bind_eq_some_iff.mp H
 obtain ⟨t198, A30, H⟩ := H
 (try dsimp only at H)
 have A3 := Aside0.mk A30
 clear A30
 by_cases c4 : t198 = true
 rotate_left
 ·replace c4 := Bool.eq_false_iff.mpr c4
  subst c4
  have H1 : (none) = some r := by rw [if_neg (show ¬ (false = true) by decide)] at H; exact H
  clear H
  have H := H1
  clear H1
  exact absurd H (by simp)
 subst c4
 have H1 := H
 rw [if_pos rfl] at H1
 clear H
 have H := H1
 clear H1
 replace H := Option.bind_eq_some_iff.mp H
 obtain ⟨t199, A50, H⟩ := H
 (try dsimp only at H)
 have A5 := Aside0.mk A50
 clear A50
 replace H := Option.bind_eq_some_iff.mp H
 obtain ⟨t200, A60, H⟩ := H
 (try dsimp only at H)
 have A6 := Aside0.mk A60
 clear A60
 by_cases c7 : t199 = t200
 rotate_left
 ·rw [if_neg c7] at H
  exact absurd H (by simp)
 rw [if_pos c7] at H
 have c7b0 : (t199 == t200) = true := beq_iff_eq.mpr c7
 have c7b1 : (t199 != t200) = false := bne_eq_false_iff_eq.mpr c7
 clear c7
 replace H := Option.bind_eq_some_iff.mp H
 obtain ⟨t201, A80, H⟩ := H
 replace H : ((carouselref1_Text.f k a1).bind fun t202 => (some (t201.toList == t202.toList))) = some r := H
 have A8 := Aside0.mk A80
 clear A80
 replace H := Option.bind_eq_some_iff.mp H
 obtain ⟨t202, A90, H⟩ := H
 replace H : (some (t201.toList == t202.toList)) = some r := H
 have A9 := Aside0.mk A90
 clear A90
 obtain rfl := Option.some.inj H
 go_enter Tryd.func3, Tryd.ntmps3
 go_wp2_with (first | ((with_reducible refine gate_callee (f := 11) rfl ?_); refine zg_ (some 5) Tryd.func11 #[] (h := ?_); (with_reducible refine (carousellaw1_awake.calls k  true _ A3.out).mono ?_); rintro e w10 ⟨rfl, hb⟩; refine ⟨_, rfl, ?_⟩; replace HB := Aside0.mk (below_step (zw0_ HB) hb); (try clear hb)) | (go_at_call 12; (with_reducible refine (fix_Of.calls a0 t199 _ A5.out).mono ?_); rintro e w' ⟨rfl, ⟨nd, rfl⟩⟩) | (go_at_call 13; (with_reducible refine (carouselref1_Of.calls k a0 t200 _ A6.out).mono ?_); rintro e w11 ⟨rfl, hb⟩; replace HB := Aside0.mk (below_step (zw0_ HB) hb); (try clear hb)) | (go_at_call 14; (with_reducible refine (fix_Text.calls k a1 t201 _ A8.out).mono ?_); rintro e w12 ⟨rfl, hb⟩; replace HB := Aside0.mk (below_step (zw0_ HB) hb); (try clear hb)) | (go_at_call 15; (with_reducible refine (carouselref1_Text.calls k a1 t202 _ A9.out).mono ?_); rintro e w13 ⟨rfl, hb⟩; replace HB := Aside0.mk (below_step (zw0_ HB) hb); (try clear hb)))
 go_ret
 exact ⟨z0_, zw0_ HB⟩

/-- THE ONE PURE STATEMENT of carousellaw1_FixSays: yours. -/
def carousellaw1_FixSays.Pure : Prop := ∀ (a0 : Int) (a1 : Int), (Lit.int .i64 a0).wf = true → (Lit.int .i64 a1).wf = true → ∃ k, carousellaw1_FixSays.f k a0 a1 = some true
theorem carousellaw1_FixSays.walk (P : carousellaw1_FixSays.Pure) (a0 : Int) (a1 : Int) (w : World) (w0 : (Lit.int .i64 a0).wf = true) (w1 : (Lit.int .i64 a1).wf = true) (hp10 : P10_ w := by first | exact HP10.out | exact p10_below HP10.out (zw0_ HB)) :
  Calls Tryd.prog 3 #[.int .i64 a0, .int .i64 a1] w fun e w' => e = .returned (.bool true) ∧ Below w.heap.size w w' := by
 have HP10 := Aside0.mk hp10
 clear hp10
 obtain ⟨k, h⟩ := P a0 a1 w0 w1
 refine (carousellaw1_FixSays.calls k a0 a1 true w h).mono ?_
 rintro e w' ⟨rfl, hd⟩
 exact ⟨rfl, hd⟩

end Go.Proofs.YtjiloachlemlcaaDoor.PFixSays
