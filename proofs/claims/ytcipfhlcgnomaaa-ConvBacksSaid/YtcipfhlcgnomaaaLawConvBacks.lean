/- The law ConvBacks: for every input the call returns true, and each argument reads behind the call as it read before. No condition. -/
import Derived.Test.YtcipfhlcgnomaaaRows
import Derived.Test.YtcipfhlcgnomaaaPConvBacksx15
import Derived.Test.YtcipfhlcgnomaaaPureConvBacks
import Derived.WalkKit
import Derived.ProofKit
import Derived.OpenShut
import Derived.ShutString
import Derived.ChangeOld
import Derived.Below
import Derived.SizedLaws
import Derived.Lib.SmallJoins
import Derived.Test.YtcipfhlcgnomaaaVConvBacks0
namespace Go.Proofs.Ytcipfhlcgnomaaa.convBacks
open Go.ChangeShapes Go.WideShapes Go.ChangeAt Go.RowKit Go.Joins Go.Proofs.YtcipfhlcgnomaaaW.PrintWords Go.Proofs.YtcipfhlcgnomaaaW.PrintLast Go.Proofs.YtcipfhlcgnomaaaW.PrintMore
open Go.ChangeMaps (open_string shut_string)
set_option linter.unusedVariables false
set_option linter.unusedSimpArgs false
theorem own : ownKnob Try.prog.godebug = none := by kernel_rfl
theorem laidOut : laidOutB Try.prog = true := by kernel_rfl
def IsRow (k : IntKind) (w : World) (a : Option Addr) (len cap : Nat) (zs : List Int) : Prop :=
  (a = none ∧ len = 0 ∧ cap = 0 ∧ zs = []) ∨
  ∃ x, a = some x ∧ len ≤ cap ∧ cap ≤ maxLen ∧ zs.length = cap ∧ (∀ i, i < zs.length → w.cell? (x.add i) = some (.int k (zs.getD i 0))) ∧ ∀ n ∈ zs, (Lit.int k n).wf = true
set_option maxRecDepth 100000 in
theorem lifted (os : Os) (started : os.Started) (H : Type) (enc : TypeId × Value → H) :
    ReturnsInHanded {} Try.checked os 9 .any (Rows.convBacksSpec.pre6 enc Try.prog Try.f9 Rows.convBacksRow.domain false) (Rows.convBacksSpec.post enc Try.prog Try.f9 false true false false) := by
  refine returnsInHanded_of_change_sized (C := Try.checked) own started (by kernel_rfl) Try.func9
    (ChangeSpec.witness6 (enc := enc) (C := Try.checked) false ⟨#[], #[.agg #[.slice none 0 0, .slice none 0 0], .agg #[.slice none 0 0, .slice none 0 0], .int .i64 0, .int .i64 0], []⟩ 8 (by kernel_rfl) (by kernel_rfl) (by kernel_rfl) (by kernel_rfl)) ?_
  intro W base args ds gs before hval0 hW hcnd hsz0 _
  have hval : ∀ (j : Nat) t v, Try.f9.params[j]? = some t → args[j]? = some v → Value.okWide Try.prog W .any base t v := hval0
  have hW' := hW
  obtain ⟨p, q, hA0, hV, rfl, hfz, hnd⟩ := hW
  have hA : DataW.TrodAll enc Try.prog W 0 (fun _ => true) true Try.f9.params.toList args.toList ds p := hA0
  rw [Try.params9] at hA hval
  obtain ⟨v0, vs0, d0, ds0, p0, q0, hargs, rfl, rfl, h0, r0⟩ := trodAll_cons hA
  obtain ⟨v1, vs1, d1, ds1, p1, q1, rfl, rfl, rfl, h1, r1⟩ := trodAll_cons r0
  obtain ⟨v2, vs2, d2, ds2, p2, q2, rfl, rfl, rfl, h2, r2⟩ := trodAll_cons r1
  obtain ⟨v3, vs3, d3, ds3, p3, q3, rfl, rfl, rfl, h3, r3⟩ := trodAll_cons r2
  obtain ⟨rfl, rfl, rfl⟩ := trodAll_nil r3
  obtain rfl : args = #[v0, v1, v2, v3] := by cases args; simp_all
  obtain ⟨rfl, rfl⟩ := trodVars_none hV
  have k0 := h0
  have lt0 : ∀ x ∈ p0, x.block < W.heap.size := by obtain ⟨m, hm⟩ := k0; exact DataW.trod_lt m _ _ _ hm
  obtain ⟨v0_0, v0_1, y0_0, y0_1, m0, rfl, _, _, hy0_0, hy0_1⟩ := open_agg2 Try.underlying25 (by kernel_rfl) (by kernel_rfl) (hval 0 25 v0 rfl rfl) h0
  obtain ⟨A0_0, n0_0, c0_0, e0_0, z0_0, w0_0⟩ : ∃ A n c, v0_0 = .slice A n c ∧ ∃ zs, IsRow .i64 W A n c zs := by
    rcases open_ints Try.underlying22 Try.underlying3 (by kernel_rfl) hy0_0 with ⟨hcs, _⟩ | ⟨x, l, c, zs, hcs, _, hl, hm, hz, _, hcell, hwz⟩
    · replace hcs : v0_0 = .slice none 0 0 := by simpa [Value.cells] using hcs
      exact ⟨none, 0, 0, hcs, [], .inl ⟨rfl, rfl, rfl, rfl⟩⟩
    · replace hcs : v0_0 = .slice (some x) l c := by simpa [Value.cells] using hcs
      exact ⟨_, _, _, hcs, zs, .inr ⟨_, rfl, hl, hm, by simpa using hz, hcell, hwz⟩⟩
  subst e0_0
  obtain ⟨l0_0, rfl, hr0_0, hm0_0, hw0_0, hc0_0⟩ := ReadsInt.ofRowC w0_0
  obtain ⟨A0_1, n0_1, c0_1, e0_1, z0_1, w0_1⟩ : ∃ A n c, v0_1 = .slice A n c ∧ ∃ zs, IsRow .i64 W A n c zs := by
    rcases open_ints Try.underlying23 Try.underlying33 (by kernel_rfl) hy0_1 with ⟨hcs, _⟩ | ⟨x, l, c, zs, hcs, _, hl, hm, hz, _, hcell, hwz⟩
    · replace hcs : v0_1 = .slice none 0 0 := by simpa [Value.cells] using hcs
      exact ⟨none, 0, 0, hcs, [], .inl ⟨rfl, rfl, rfl, rfl⟩⟩
    · replace hcs : v0_1 = .slice (some x) l c := by simpa [Value.cells] using hcs
      exact ⟨_, _, _, hcs, zs, .inr ⟨_, rfl, hl, hm, by simpa using hz, hcell, hwz⟩⟩
  subst e0_1
  obtain ⟨l0_1, rfl, hr0_1, hm0_1, hw0_1, hc0_1⟩ := ReadsInt.ofRowC w0_1
  have k1 := h1
  have lt1 : ∀ x ∈ p1, x.block < W.heap.size := by obtain ⟨m, hm⟩ := k1; exact DataW.trod_lt m _ _ _ hm
  obtain ⟨v1_0, v1_1, y1_0, y1_1, m1, rfl, _, _, hy1_0, hy1_1⟩ := open_agg2 Try.underlying25 (by kernel_rfl) (by kernel_rfl) (hval 1 25 v1 rfl rfl) h1
  obtain ⟨A1_0, n1_0, c1_0, e1_0, z1_0, w1_0⟩ : ∃ A n c, v1_0 = .slice A n c ∧ ∃ zs, IsRow .i64 W A n c zs := by
    rcases open_ints Try.underlying22 Try.underlying3 (by kernel_rfl) hy1_0 with ⟨hcs, _⟩ | ⟨x, l, c, zs, hcs, _, hl, hm, hz, _, hcell, hwz⟩
    · replace hcs : v1_0 = .slice none 0 0 := by simpa [Value.cells] using hcs
      exact ⟨none, 0, 0, hcs, [], .inl ⟨rfl, rfl, rfl, rfl⟩⟩
    · replace hcs : v1_0 = .slice (some x) l c := by simpa [Value.cells] using hcs
      exact ⟨_, _, _, hcs, zs, .inr ⟨_, rfl, hl, hm, by simpa using hz, hcell, hwz⟩⟩
  subst e1_0
  obtain ⟨l1_0, rfl, hr1_0, hm1_0, hw1_0, hc1_0⟩ := ReadsInt.ofRowC w1_0
  obtain ⟨A1_1, n1_1, c1_1, e1_1, z1_1, w1_1⟩ : ∃ A n c, v1_1 = .slice A n c ∧ ∃ zs, IsRow .i64 W A n c zs := by
    rcases open_ints Try.underlying23 Try.underlying33 (by kernel_rfl) hy1_1 with ⟨hcs, _⟩ | ⟨x, l, c, zs, hcs, _, hl, hm, hz, _, hcell, hwz⟩
    · replace hcs : v1_1 = .slice none 0 0 := by simpa [Value.cells] using hcs
      exact ⟨none, 0, 0, hcs, [], .inl ⟨rfl, rfl, rfl, rfl⟩⟩
    · replace hcs : v1_1 = .slice (some x) l c := by simpa [Value.cells] using hcs
      exact ⟨_, _, _, hcs, zs, .inr ⟨_, rfl, hl, hm, by simpa using hz, hcell, hwz⟩⟩
  subst e1_1
  obtain ⟨l1_1, rfl, hr1_1, hm1_1, hw1_1, hc1_1⟩ := ReadsInt.ofRowC w1_1
  have k2 := h2
  have lt2 : ∀ x ∈ p2, x.block < W.heap.size := by obtain ⟨m, hm⟩ := k2; exact DataW.trod_lt m _ _ _ hm
  obtain ⟨a2, rfl, _, _, wf2⟩ := open_int Try.underlying3 (hval 2 3 v2 rfl rfl) h2
  have k3 := h3
  have lt3 : ∀ x ∈ p3, x.block < W.heap.size := by obtain ⟨m, hm⟩ := k3; exact DataW.trod_lt m _ _ _ hm
  obtain ⟨a3, rfl, _, _, wf3⟩ := open_int Try.underlying3 (hval 3 3 v3 rfl rfl) h3
  clear hA0 hval0 hsz0
  obtain ⟨k, h⟩ := Pure.ConvBacks l0_0 l0_1 l1_0 l1_1 a2 a3 hm0_0 hw0_0 hm0_1 hw0_1 hm1_0 hw1_0 hm1_1 hw1_1 wf2 wf3
  refine (PConvBacks.carousellaw8_ConvBacks.calls k _ _ l0_0 _ _ l0_1 _ _ l1_0 _ _ l1_1 a2 a3 true W (Kd.C_of_reads (d := (0 : Int)) (h1 := fun _ => rfl) hr0_0) hc0_0 (Kd.C_of_reads (d := (0 : Int)) (h1 := fun _ => rfl) hr0_1) hc0_1 (Kd.C_of_reads (d := (0 : Int)) (h1 := fun _ => rfl) hr1_0) hc1_0 (Kd.C_of_reads (d := (0 : Int)) (h1 := fun _ => rfl) hr1_1) hc1_1 h).mono ?_
  rintro e W' ⟨rfl, hd⟩
  have bel : Below W.heap.size W W' := by first | exact hd | exact hd.below
  exact ⟨_, rfl, _, _, _, [], _, [], hW', trodAll_mk1 (shut_bool Try.underlying4 _), (trodAll_cons_mk (Below.trod laidOut (by kernel_rfl) (of_decide_eq_true (by kernel_rfl)) k0 bel lt0) (trodAll_cons_mk (Below.trod laidOut (by kernel_rfl) (of_decide_eq_true (by kernel_rfl)) k1 bel lt1) (trodAll_cons_mk (Below.trod laidOut (by kernel_rfl) (of_decide_eq_true (by kernel_rfl)) k2 bel lt2) (trodAll_cons_mk (Below.trod laidOut (by kernel_rfl) (of_decide_eq_true (by kernel_rfl)) k3 bel lt3) trodAll_mk0)))), rfl, bel.frame _, fun h => by cases h⟩
theorem over : Rows.convBacksRow.holds Try.pinned (OpenSpec.ofChange Rows.convBacksSpec) :=
  OpenClaim.holds_of_wide 9 Try.f9 rfl rfl rfl rfl rfl rfl rfl ⟨rfl, rfl, rfl, rfl, rfl⟩ rfl rfl rfl rfl rfl (by kernel_rfl) Try.func9 (by kernel_rfl)
    (of_decide_eq_true (by kernel_rfl)) (by unfold Func.isWrapper; first | (rw [if_pos (by decide +kernel)]; kernel_rfl) | (rw [if_neg (by decide +kernel)]; exact ⟨rfl, rfl⟩))
    (fun os started H enc _ => lifted os started H enc)
theorem proved : Rows.ConvBacksSaid := over
#print axioms proved
end Go.Proofs.Ytcipfhlcgnomaaa.convBacks
namespace Go.Proofs.Ytcipfhlcgnomaaa
/-- The row, under a short name, for the claim. -/
theorem convBacks_holds : Rows.ConvBacksSaid := convBacks.proved
end Go.Proofs.Ytcipfhlcgnomaaa
