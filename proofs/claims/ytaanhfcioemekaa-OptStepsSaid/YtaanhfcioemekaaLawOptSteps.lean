/- The law OptSteps: for every input the call returns true, and each argument reads behind the call as it read before. No condition. -/
import Derived.Test.YtaanhfcioemekaaRows
import Derived.Test.YtaanhfcioemekaaPOptStepsx13
import Derived.Test.YtaanhfcioemekaaPureOptSteps
import Derived.WalkKit
import Derived.ProofKit
import Derived.OpenShut
import Derived.ShutString
import Derived.ChangeOld
import Derived.Below
import Derived.SizedLaws
import Derived.Lib.SmallJoins
import Derived.Deep.SlicePairs
import Derived.Test.YtaanhfcioemekaaVOptSteps0
namespace Go.Proofs.Ytaanhfcioemekaa.optSteps
open Go.ChangeShapes Go.WideShapes Go.ChangeAt Go.RowKit Go.Joins Go.Proofs.YtaanhfcioemekaaW.PrintWords Go.Proofs.YtaanhfcioemekaaW.PrintLast Go.Proofs.YtaanhfcioemekaaW.PrintMore
open Go.ChangeMaps (open_string shut_string)
set_option linter.unusedVariables false
set_option linter.unusedSimpArgs false
theorem own : ownKnob Try.prog.godebug = none := by kernel_rfl
theorem laidOut : laidOutB Try.prog = true := by kernel_rfl
def IsRow (k : IntKind) (w : World) (a : Option Addr) (len cap : Nat) (zs : List Int) : Prop :=
  (a = none ∧ len = 0 ∧ cap = 0 ∧ zs = []) ∨
  ∃ x, a = some x ∧ len ≤ cap ∧ cap ≤ maxLen ∧ zs.length = cap ∧ (∀ i, i < zs.length → w.cell? (x.add i) = some (.int k (zs.getD i 0))) ∧ ∀ n ∈ zs, (Lit.int k n).wf = true
open Go.Proofs.Ytaanhfcioemekaa.POptSteps
def num_ : Value → Int
  | .int _ z => z
  | _ => 0
def IsRow30 (W : World) (A : Option Addr) (n c : Nat) (l : List S30) : Prop :=
  n = l.length ∧ Kd.C k30 W A l.length l ∧ l.length ≤ maxLen ∧ (∀ x ∈ l, (Lit.int .i64 x.f0).wf = true ∧ (Lit.int .u64 x.f1).wf = true) ∧ l.length ≤ c
theorem rows_30 {W : World} {a : Addr} {len cap m : Nat} {V0 V1 : Nat → Value} (hl : len ≤ cap) (hm : cap ≤ maxLen) (hmm : m = cap)
    (he : ∀ i, i < m → W.cell? (a.add (i * 2)) = some (V0 i) ∧ W.cell? (a.add (i * 2 + 1)) = some (V1 i) ∧ (∃ z, V0 i = .int .i64 z ∧ (Lit.int .i64 z).wf = true) ∧ (∃ z, V1 i = .int .u64 z ∧ (Lit.int .u64 z).wf = true)) :
    IsRow30 W (some a) len cap ((List.range len).map fun i => (⟨num_ (V0 i), num_ (V1 i)⟩ : S30)) := by
  have hlen : ((List.range len).map fun i => (⟨num_ (V0 i), num_ (V1 i)⟩ : S30)).length = len := by simp
  have hM : maxLen = 9223372036854775807 := rfl
  refine ⟨hlen.symm, ⟨rfl, by omega, fun _ => ⟨a, rfl, fun j p hj => ?_⟩⟩, by omega, fun x hx => ?_, by omega⟩
  · have hj' : j < len := by
      have := (List.getElem?_eq_some_iff.1 hj).1
      simpa using this
    rw [List.getElem?_map, List.getElem?_range hj'] at hj
    simp only [Option.map_some, Option.some.injEq] at hj
    subst hj
    obtain ⟨h0, h1, ⟨z0, e0, _⟩, ⟨z1, e1, _⟩⟩ := he j (by omega)
    refine ⟨_, rfl, k30_mk W _, fun i u hu => ?_⟩
    match i, hu with
    | 0, hu =>
      simp only [List.getElem?_cons_zero, Option.some.injEq] at hu
      subst hu
      rw [e0] at h0 ⊢
      exact h0
    | 1, hu =>
      simp only [List.getElem?_cons_succ, List.getElem?_cons_zero, Option.some.injEq] at hu
      subst hu
      rw [e1] at h1 ⊢
      exact h1
  · obtain ⟨i, hi, rfl⟩ := List.mem_map.1 hx
    have hi' := List.mem_range.1 hi
    obtain ⟨_, _, ⟨z0, e0, w0⟩, ⟨z1, e1, w1⟩⟩ := he i (by omega)
    rw [e0, e1]
    exact ⟨w0, w1⟩
set_option maxRecDepth 100000 in
theorem lifted (os : Os) (started : os.Started) (H : Type) (enc : TypeId × Value → H) :
    ReturnsInHanded {} Try.checked os 4 .any (Rows.optStepsSpec.pre6 enc Try.prog Try.f4 Rows.optStepsRow.domain false) (Rows.optStepsSpec.post enc Try.prog Try.f4 false true false false) := by
  refine returnsInHanded_of_change_sized (C := Try.checked) own started (by kernel_rfl) Try.func4
    (ChangeSpec.witness6 (enc := enc) (C := Try.checked) false ⟨#[], #[.agg #[.slice none 0 0, .slice none 0 0], .slice none 0 0, .int .i64 0, .agg #[.int .i64 0, .int .i64 0, .int .i64 0]], []⟩ 8 (by kernel_rfl) (by kernel_rfl) (by kernel_rfl) (by kernel_rfl)) ?_
  intro W base args ds gs before hval0 hW hcnd hsz0 _
  have hval : ∀ (j : Nat) t v, Try.f4.params[j]? = some t → args[j]? = some v → Value.okWide Try.prog W .any base t v := hval0
  have hW' := hW
  obtain ⟨p, q, hA0, hV, rfl, hfz, hnd⟩ := hW
  have hA : DataW.TrodAll enc Try.prog W 0 (fun _ => true) true Try.f4.params.toList args.toList ds p := hA0
  rw [Try.params4] at hA hval
  obtain ⟨v0, vs0, d0, ds0, p0, q0, hargs, rfl, rfl, h0, r0⟩ := trodAll_cons hA
  obtain ⟨v1, vs1, d1, ds1, p1, q1, rfl, rfl, rfl, h1, r1⟩ := trodAll_cons r0
  obtain ⟨v2, vs2, d2, ds2, p2, q2, rfl, rfl, rfl, h2, r2⟩ := trodAll_cons r1
  obtain ⟨v3, vs3, d3, ds3, p3, q3, rfl, rfl, rfl, h3, r3⟩ := trodAll_cons r2
  obtain ⟨rfl, rfl, rfl⟩ := trodAll_nil r3
  obtain rfl : args = #[v0, v1, v2, v3] := by cases args; simp_all
  obtain ⟨rfl, rfl⟩ := trodVars_none hV
  have k0 := h0
  have lt0 : ∀ x ∈ p0, x.block < W.heap.size := by obtain ⟨m, hm⟩ := k0; exact DataW.trod_lt m _ _ _ hm
  obtain ⟨v0_0, v0_1, y0_0, y0_1, m0, rfl, _, _, hy0_0, hy0_1⟩ := open_agg2 Try.underlying25 (by kernel_rfl) (by kernel_rfl) (hval 0 25 v0 rfl rfl) h0
  obtain ⟨A0_0, n0_0, c0_0, e0_0, z0_0, w0_0⟩ : ∃ A n c, v0_0 = .slice A n c ∧ ∃ zs, IsRow .i64 W A n c zs := by
    rcases open_ints Try.underlying23 Try.underlying27 (by kernel_rfl) hy0_0 with ⟨hcs, _⟩ | ⟨x, l, c, zs, hcs, _, hl, hm, hz, _, hcell, hwz⟩
    · replace hcs : v0_0 = .slice none 0 0 := by simpa [Value.cells] using hcs
      exact ⟨none, 0, 0, hcs, [], .inl ⟨rfl, rfl, rfl, rfl⟩⟩
    · replace hcs : v0_0 = .slice (some x) l c := by simpa [Value.cells] using hcs
      exact ⟨_, _, _, hcs, zs, .inr ⟨_, rfl, hl, hm, by simpa using hz, hcell, hwz⟩⟩
  subst e0_0
  obtain ⟨l0_0, rfl, hr0_0, hm0_0, hw0_0, hc0_0⟩ := ReadsInt.ofRowC w0_0
  obtain ⟨A0_1, n0_1, c0_1, e0_1, z0_1, w0_1⟩ : ∃ A n c, v0_1 = .slice A n c ∧ ∃ zs, IsRow .i64 W A n c zs := by
    rcases open_ints Try.underlying23 Try.underlying27 (by kernel_rfl) hy0_1 with ⟨hcs, _⟩ | ⟨x, l, c, zs, hcs, _, hl, hm, hz, _, hcell, hwz⟩
    · replace hcs : v0_1 = .slice none 0 0 := by simpa [Value.cells] using hcs
      exact ⟨none, 0, 0, hcs, [], .inl ⟨rfl, rfl, rfl, rfl⟩⟩
    · replace hcs : v0_1 = .slice (some x) l c := by simpa [Value.cells] using hcs
      exact ⟨_, _, _, hcs, zs, .inr ⟨_, rfl, hl, hm, by simpa using hz, hcell, hwz⟩⟩
  subst e0_1
  obtain ⟨l0_1, rfl, hr0_1, hm0_1, hw0_1, hc0_1⟩ := ReadsInt.ofRowC w0_1
  have k1 := h1
  have lt1 : ∀ x ∈ p1, x.block < W.heap.size := by obtain ⟨m, hm⟩ := k1; exact DataW.trod_lt m _ _ _ hm
  obtain ⟨fuel1, hf1⟩ := h1
  obtain ⟨B1, m1, q1_, rfl⟩ := okWide_slice Try.underlying32 (hval 1 32 v1 rfl rfl)
  obtain ⟨A1, n1, c1, e1, l1, w1⟩ : ∃ A n c, Value.slice B1 m1 q1_ = .slice A n c ∧ ∃ l, IsRow30 W A n c l := by
    rcases Go.Deep.open_slice_pairs Try.underlying32 Try.underlying30 (by kernel_rfl) rfl rfl (by kernel_rfl) (by kernel_rfl) hf1 with ⟨hcs, _⟩ | ⟨x, l, c, m, n, V0, V1, D0, D1, P0, P1, hcs, _, hl, hm, hmm, _, he⟩
    · replace hcs : Value.slice B1 m1 q1_ = .slice none 0 0 := by simpa [Value.cells] using hcs
      exact ⟨none, 0, 0, hcs, [], rfl, ⟨rfl, by decide, fun h => absurd h (by decide)⟩, by decide, fun _ h => absurd h (by simp), Nat.le_refl _⟩
    · replace hcs : Value.slice B1 m1 q1_ = .slice (some x) l c := by simpa [Value.cells] using hcs
      refine ⟨_, _, _, hcs, _, rows_30 (V0 := V0) (V1 := V1) hl hm (by simpa using hmm) fun i hi => ?_⟩
      obtain ⟨g0, g1, t0, t1⟩ := he i hi
      obtain ⟨z0, e0, _, w0⟩ := DataW.trod_int Try.underlying2 t0
      obtain ⟨z1, e1, _, w1⟩ := DataW.trod_int Try.underlying28 t1
      simp at e0 e1
      exact ⟨g0, g1, ⟨z0, e0, w0⟩, ⟨z1, e1, w1⟩⟩
  injection e1 with e1_ e2_ e3_
  subst e1_ e2_ e3_
  obtain ⟨rfl, hr1, hm1, hw1, hc1⟩ := w1
  have k2 := h2
  have lt2 : ∀ x ∈ p2, x.block < W.heap.size := by obtain ⟨m, hm⟩ := k2; exact DataW.trod_lt m _ _ _ hm
  obtain ⟨a2, rfl, _, _, wf2⟩ := open_int Try.underlying2 (hval 2 2 v2 rfl rfl) h2
  have k3 := h3
  have lt3 : ∀ x ∈ p3, x.block < W.heap.size := by obtain ⟨m, hm⟩ := k3; exact DataW.trod_lt m _ _ _ hm
  obtain ⟨v3_0, v3_1, v3_2, y3_0, y3_1, y3_2, m3, rfl, _, _, hy3_0, hy3_1, hy3_2⟩ := open_agg3 Try.underlying37 (by kernel_rfl) (by kernel_rfl) (hval 3 37 v3 rfl rfl) h3
  obtain ⟨a3_0, e3_0, _, wf3_0⟩ := DataW.trod_int Try.underlying27 hy3_0
  simp at e3_0
  subst e3_0
  obtain ⟨a3_1, e3_1, _, wf3_1⟩ := DataW.trod_int Try.underlying27 hy3_1
  simp at e3_1
  subst e3_1
  obtain ⟨a3_2, e3_2, _, wf3_2⟩ := DataW.trod_int Try.underlying27 hy3_2
  simp at e3_2
  subst e3_2
  clear hA0 hval0 hsz0
  obtain ⟨k, h⟩ := Pure.OptSteps l0_0 l0_1 l1 a2 a3_0 a3_1 a3_2 hm0_0 hw0_0 hm0_1 hw0_1 hm1 hw1 wf2 wf3_0 wf3_1 wf3_2
  refine (POptSteps.carousellaw15_OptSteps.calls k _ _ l0_0 _ _ l0_1 _ _ l1 a2 a3_0 a3_1 a3_2 true W (Kd.C_of_reads (d := (0 : Int)) (h1 := fun _ => rfl) hr0_0) hc0_0 (Kd.C_of_reads (d := (0 : Int)) (h1 := fun _ => rfl) hr0_1) hc0_1 hr1 hc1 h).mono ?_
  rintro e W' ⟨rfl, hd⟩
  have bel : Below W.heap.size W W' := by first | exact hd | exact hd.below
  exact ⟨_, rfl, _, _, _, [], _, [], hW', trodAll_mk1 (shut_bool Try.underlying4 _), (trodAll_cons_mk (Below.trod laidOut (by kernel_rfl) (of_decide_eq_true (by kernel_rfl)) k0 bel lt0) (trodAll_cons_mk (Below.trod laidOut (by kernel_rfl) (of_decide_eq_true (by kernel_rfl)) k1 bel lt1) (trodAll_cons_mk (Below.trod laidOut (by kernel_rfl) (of_decide_eq_true (by kernel_rfl)) k2 bel lt2) (trodAll_cons_mk (Below.trod laidOut (by kernel_rfl) (of_decide_eq_true (by kernel_rfl)) k3 bel lt3) trodAll_mk0)))), rfl, bel.frame _, fun h => by cases h⟩
theorem over : Rows.optStepsRow.holds Try.pinned (OpenSpec.ofChange Rows.optStepsSpec) :=
  OpenClaim.holds_of_wide 4 Try.f4 rfl rfl rfl rfl rfl rfl rfl ⟨rfl, rfl, rfl, rfl, rfl⟩ rfl rfl rfl rfl rfl (by kernel_rfl) Try.func4 (by kernel_rfl)
    (of_decide_eq_true (by kernel_rfl)) (by unfold Func.isWrapper; first | (rw [if_pos (by decide +kernel)]; kernel_rfl) | (rw [if_neg (by decide +kernel)]; exact ⟨rfl, rfl⟩))
    (fun os started H enc _ => lifted os started H enc)
theorem proved : Rows.OptStepsSaid := over
#print axioms proved
end Go.Proofs.Ytaanhfcioemekaa.optSteps
namespace Go.Proofs.Ytaanhfcioemekaa
/-- The row, under a short name, for the claim. -/
theorem optSteps_holds : Rows.OptStepsSaid := optSteps.proved
end Go.Proofs.Ytaanhfcioemekaa
