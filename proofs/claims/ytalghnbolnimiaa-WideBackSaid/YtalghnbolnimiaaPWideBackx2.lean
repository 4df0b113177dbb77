/- The functions that the law WideBack reaches, as Lean functions, and that each call of the Go function does what its Lean function says, wherever that one answers. Written by a program of mine over the print of the kit; Lean checks it. -/
import Derived.Test.YtalghnbolnimiaaPWideBackx0
namespace Go.Proofs.Ytalghnbolnimiaa.PWideBack
open Go.RowKit Go.Proofs.YtalghnbolnimiaaW.PrintWords Go.Proofs.YtalghnbolnimiaaW.PrintLast Go.Proofs.YtalghnbolnimiaaW.PrintMore
attribute [local go_sem] max2_int min2_int max_two min_two max_three min_three max_four min_four   -- for this text's walks alone
set_option linter.unusedVariables false
set_option linter.unusedSimpArgs false

/-- A call of a function without a body that the model answers itself. -/
def XCalls (P : Program) (f : FuncId) (args : Array Value) (w : World) (R : Ending → World → Prop) : Prop :=
 ∃ v, (callFunc f args).run P w = .ok (.value v) w ∧ R (.returned v) w
theorem XCalls.mono {P : Program} {f : FuncId} {args : Array Value} {w : World} {R R' : Ending → World → Prop} (h : XCalls P f args w R) (k : ∀ e w', R e w' → R' e w') : XCalls P f args w R' := by
 obtain ⟨v, h1, h2⟩ := h
 exact ⟨v, h1, k _ _ h2⟩
theorem goesX_ {P : Program} {ops : Array Oper} {Q : Exit → Act → World → Prop} {rest : List Oper} {oi : Oper} {a : Act} {w : World} (N : Option Tmp) (hd : oi.dst = N) (hg : oi.guard = none) {f : FuncId} {xs : Array Operand} {ts : Array TypeId} (args : Array Value)
  (hop : oi.op = .call { callee := .value (.func f), args := xs, argTypes := ts }) (hargs : xs.map a.eval = args)
  (h : XCalls P f args w fun e w' => ∃ v, e = .returned v ∧ wpList P ops Q rest (a.put N v) w') : wpList P ops Q (oi :: rest) a w := by
 obtain ⟨v, h1, v', h2, h3⟩ := h
 cases h2
 refine Kd.event_run hg ?_ (by rw [hd]; exact h3)
 unfold execOp
 simp [hop, resolve, Deferred.ofValue, invoke, Act.eval, hargs, h1]
/-! ### bits_Sub64: function 41 -/
def bits_Sub64.entry : Array Value → Sem Value := fun args => do
 let (x, y, b) ← Extern.MathBitsCarry.three "Sub64" args
 pure (Extern.MathBitsCarry.pair ((x + Extern.MathBitsCarry.m64 - y - b) % Extern.MathBitsCarry.m64) (if x < y + b then 1 else 0))
theorem bits_Sub64.run {P : Program} (x y c : Int) (hx : 0 ≤ x) (hy : 0 ≤ y) (hy1 : y ≤ 18446744073709551615) (hc0 : 0 ≤ c) (hc : c ≤ 1) (w : World) :
  (bits_Sub64.entry #[.int .u64 x, .int .u64 y, .int .u64 c]).run P w = .ok (.tuple #[.int .u64 ((x - y - c) % 18446744073709551616), .int .u64 (if x < y + c then 1 else 0)]) w := by
 have key : ∀ k : Nat, k ≤ 1 → (bits_Sub64.entry #[.int .u64 x, .int .u64 y, .int .u64 (k : Int)]).run P w =
   .ok (Extern.MathBitsCarry.pair ((x.toNat + Extern.MathBitsCarry.m64 - y.toNat - k) % Extern.MathBitsCarry.m64) (if x.toNat < y.toNat + k then 1 else 0)) w := by
  intro k hk
  have : k = 0 ∨ k = 1 := by omega
  rcases this with rfl | rfl <;> rfl
 obtain ⟨k, rfl⟩ := Int.eq_ofNat_of_zero_le hc0
 rw [key k (by omega)]
 obtain ⟨X, rfl⟩ := Int.eq_ofNat_of_zero_le hx
 obtain ⟨Y, rfl⟩ := Int.eq_ofNat_of_zero_le hy
 simp only [Extern.MathBitsCarry.pair, Extern.MathBitsCarry.m64, Int.toNat_natCast]
 have e1 : (((X + 2 ^ 64 - Y - k) % 2 ^ 64 : Nat) : Int) = ((X : Int) - Y - k) % 18446744073709551616 := by omega
 have e2 : (((if X < Y + k then 1 else 0 : Nat)) : Int) = if (X : Int) < Y + k then 1 else 0 := by split <;> split <;> omega
 rw [← e1, ← e2]; rfl
def bits_Sub64.f (a0 a1 a2 : Int) : Option (Int × Int) := if 0 ≤ a0 ∧ 0 ≤ a1 ∧ a1 ≤ 18446744073709551615 ∧ 0 ≤ a2 ∧ a2 ≤ 1 then some ((a0 - a1 - a2) % 18446744073709551616, if a0 < a1 + a2 then 1 else 0) else none
theorem bits_Sub64.calls (a0 a1 a2 r1 r2 : Int) (w : World) (h : bits_Sub64.f a0 a1 a2 = some (r1, r2)) :
  XCalls Try.prog 41 #[.int .u64 a0, .int .u64 a1, .int .u64 a2] w fun e w' => e = .returned (.tuple #[.int .u64 r1, .int .u64 r2]) ∧ Drawn0 w w' := by
 unfold bits_Sub64.f at h
 split at h
 ·rename_i hc
  simp only [Option.some.injEq, Prod.mk.injEq] at h
  obtain ⟨rfl, rfl⟩ := h
  refine ⟨_, ?_, rfl, Drawn0.refl _⟩
  rw [run_callFunc_extern (e := bits_Sub64.entry) Try.func41 rfl (by kernel_rfl) (by kernel_rfl) (by kernel_rfl), bits_Sub64.run a0 a1 a2 hc.1 hc.2.1 hc.2.2.1 hc.2.2.2.1 hc.2.2.2.2]
  rfl
 ·cases h

/-! ### wide_Sub: function 19 -/
def wide_Sub.f (a0_0 : Int) (a0_1 : Int) (a1_0 : Int) (a1_1 : Int) : Option (Int × Int) := (bits_Sub64.f a0_1 a1_1 0).bind fun bt104 => ((bits_Sub64.f (IntKind.u64.wrap (a0_0)) (IntKind.u64.wrap (a1_0)) bt104.2).bind fun bt106 => (some (wrap64 (bt106.1), bt104.1)))
set_option maxHeartbeats 8000000 in
set_option maxRecDepth 100000 in
theorem wide_Sub.calls (a0_0 : Int) (a0_1 : Int) (a1_0 : Int) (a1_1 : Int) (r1 : Int) (r2 : Int) (w : World) (h : wide_Sub.f a0_0 a0_1 a1_0 a1_1 = some (r1, r2)) :
  Calls Try.prog 19 #[.agg #[.int .i64 a0_0, .int .u64 a0_1], .agg #[.int .i64 a1_0, .int .u64 a1_1]] w fun e w' => e = .returned (.agg #[.int .i64 r1, .int .u64 r2]) ∧ Below w.heap.size w w' := by
 have hu25 := Try.underlying25
 have HB := Aside0.mk (Below.refl w.heap.size w)
 have H : ((bits_Sub64.f a0_1 a1_1 0).bind fun bt104 => ((bits_Sub64.f (IntKind.u64.wrap (a0_0)) (IntKind.u64.wrap (a1_0)) bt104.2).bind fun bt106 => (some (wrap64 (bt106.1), bt104.1)))) = some (r1, r2) := h
 clear h
 replace H := Option.bind_eq_some_iff.mp H
 obtain ⟨⟨t104, t105⟩, A30, H⟩ := H
 replace H : ((bits_Sub64.f (IntKind.u64.wrap (a0_0)) (IntKind.u64.wrap (a1_0)) t105).bind fun bt106 => (some (wrap64 (bt106.1), t104))) = some (r1, r2) := H
 have A3 := Aside0.mk A30
 clear A30
 replace H := Option.bind_eq_some_iff.mp H
 obtain ⟨⟨t106, t107⟩, A40, H⟩ := H
 replace H : (some (wrap64 (t106), t104)) = some (r1, r2) := H
 have A4 := Aside0.mk A40
 clear A40
 simp only [Option.some.injEq, Prod.mk.injEq] at H
 obtain ⟨rfl, rfl⟩ := H
 go_enter Try.func19, Try.ntmps19
 go_wp2_with (first | ((with_reducible refine gate_dst (N := 2) rfl ?_); refine box_event ?hg (N := 2) ?hd (cs := #[.int .i64 a0_0, .int .u64 a0_1]) (t := 25) ?hr ?_; (case hd => rfl); (case hg => rfl); (case hr => first | (go_simp; done) | (go_simp; rfl)); intro gb101 hg w5 hbox hb; have BK101 := Aside0.mk (hbox); have GW101 := Aside0.mk (zs_ hg (zw0_ HB)); have GE101 := Aside0.mk (zs_ hg (zw0_ HB)); replace HB := Aside0.mk (below_step (zw0_ HB) hb); clear hb hbox hg) | ((with_reducible refine gate_dst (N := 3) rfl ?_); refine box_event ?hg (N := 3) ?hd (cs := #[.int .i64 a1_0, .int .u64 a1_1]) (t := 25) ?hr ?_; (case hd => rfl); (case hg => rfl); (case hr => first | (go_simp; done) | (go_simp; rfl)); intro gb102 hg w6 hbox hb; have BK102 := Aside0.mk (hbox); have GW102 := Aside0.mk (zs_ hg (zw1_ HB GE101)); have GE102 := Aside0.mk (zs_ hg (zw1_ HB GE101)); replace HB := Aside0.mk (below_step (zw1_ HB GE101) hb); have NB101_102 := Aside0.mk (zn_ hg BK101); have NB102_101 := Aside0.mk (zm_ hg BK101); replace BK101 := za_ BK101 hb; clear hb hbox hg) | ((with_reducible refine gate_dst (N := 4) rfl ?_); refine box_event ?hg (N := 4) ?hd (cs := #[.int .i64 0, .int .u64 0]) (t := 25) ?hr ?_; (case hd => rfl); (case hg => rfl); (case hr => first | (go_simp; done) | (go_simp; rfl)); intro gb103 hg w7 hbox hb; have BK103 := Aside0.mk (hbox); have GW103 := Aside0.mk (zs_ hg (zw2_ HB GE101 GE102)); have GE103 := Aside0.mk (zs_ hg (zw2_ HB GE101 GE102)); replace HB := Aside0.mk (below_step (zw2_ HB GE101 GE102) hb); have NB101_103 := Aside0.mk (zn_ hg BK101); have NB103_101 := Aside0.mk (zm_ hg BK101); replace BK101 := za_ BK101 hb; have NB102_103 := Aside0.mk (zn_ hg BK102); have NB103_102 := Aside0.mk (zm_ hg BK102); replace BK102 := za_ BK102 hb; clear hb hbox hg; have hnb8 := NB101_102.out; have hnc8 := NB102_101.out; have hnb9 := NB101_103.out; have hnc9 := NB103_101.out; have hcz10_0 := zx_ (v := .int .i64 a0_0) BK101 0; have hcz10_1 := zx_ (v := .int .u64 a0_1) BK101 1; have hfz10_0 := blk_frozen BK101.out 0; have hfz10_1 := blk_frozen BK101.out 1; have hnb11 := NB102_103.out; have hnc11 := NB103_102.out; have hcz12_0 := zx_ (v := .int .i64 a1_0) BK102 0; have hcz12_1 := zx_ (v := .int .u64 a1_1) BK102 1; have hfz12_0 := blk_frozen BK102.out 0; have hfz12_1 := blk_frozen BK102.out 1) | ((with_reducible refine gate_callee (f := 41) rfl ?_); refine goesX_ (some 14) rfl rfl (f := 41) #[.int .u64 a0_1, .int .u64 a1_1, .int .u64 0] rfl (by (try simp only [List.map_toArray, List.map_cons, List.map_nil]); first | done | rfl | (simp only [List.length_drop, List.length_take]; rfl)) ?_; (with_reducible refine (bits_Sub64.calls a0_1 a1_1 0 t104 t105 _ A3.out).mono ?_); rintro e w' ⟨rfl, ⟨nd, rfl⟩⟩; refine ⟨_, rfl, ?_⟩; (try (rw [drewN_self w7]; generalize hq_ : World.drewN w7 _ = w7; have n0_ : Aside0 (w7.heap[gb101]? = some (.cells #[.int .i64 a0_0, .int .u64 a0_1] 25 (0, 0))) := ⟨by rw [← hq_]; exact (zb_ BK101)⟩; have n1_ : Aside0 (w7.heap[gb102]? = some (.cells #[.int .i64 a1_0, .int .u64 a1_1] 25 (0, 0))) := ⟨by rw [← hq_]; exact (zb_ BK102)⟩; have n2_ : Aside0 (w7.heap[gb103]? = some (.cells #[.int .i64 0, .int .u64 0] 25 (0, 0))) := ⟨by rw [← hq_]; exact (zb_ BK103)⟩; have n3_ : Aside0 (Below w.heap.size w w7) := ⟨by rw [← hq_]; exact (zw3_ HB GE101 GE102 GE103)⟩; clear BK101 BK102 BK103 HB hq_; have BK101 := n0_; have BK102 := n1_; have BK103 := n2_; have HB := n3_; clear n0_ n1_ n2_ n3_; (try (have hcz10_0 := zx_ (v := .int .i64 a0_0) BK101 0)); (try (have hcz10_1 := zx_ (v := .int .u64 a0_1) BK101 1)); (try (have hfz10_0 := blk_frozen BK101.out 0)); (try (have hfz10_1 := blk_frozen BK101.out 1)); (try (have hcz12_0 := zx_ (v := .int .i64 a1_0) BK102 0)); (try (have hcz12_1 := zx_ (v := .int .u64 a1_1) BK102 1)); (try (have hfz12_0 := blk_frozen BK102.out 0)); (try (have hfz12_1 := blk_frozen BK102.out 1))))) | ((with_reducible refine gate_callee (f := 41) rfl ?_); refine goesX_ (some 25) rfl rfl (f := 41) #[.int .u64 (IntKind.u64.wrap (a0_0)), .int .u64 (IntKind.u64.wrap (a1_0)), .int .u64 t105] rfl (by (try simp only [List.map_toArray, List.map_cons, List.map_nil]); first | done | rfl | (simp only [List.length_drop, List.length_take]; rfl)) ?_; (with_reducible refine (bits_Sub64.calls (IntKind.u64.wrap (a0_0)) (IntKind.u64.wrap (a1_0)) t105 t106 t107 _ A4.out).mono ?_); rintro e w' ⟨rfl, ⟨nd, rfl⟩⟩; refine ⟨_, rfl, ?_⟩; (try (rw [drewN_self w7]; generalize hq_ : World.drewN w7 _ = w7; have n0_ : Aside0 (w7.heap[gb101]? = some (.cells #[.int .i64 a0_0, .int .u64 a0_1] 25 (0, 0))) := ⟨by rw [← hq_]; exact (zb_ BK101)⟩; have n1_ : Aside0 (w7.heap[gb102]? = some (.cells #[.int .i64 a1_0, .int .u64 a1_1] 25 (0, 0))) := ⟨by rw [← hq_]; exact (zb_ BK102)⟩; have n2_ : Aside0 (w7.heap[gb103]? = some (.cells #[.int .i64 0, .int .u64 0] 25 (0, 0))) := ⟨by rw [← hq_]; exact (zb_ BK103)⟩; have n3_ : Aside0 (Below w.heap.size w w7) := ⟨by rw [← hq_]; exact (zw3_ HB GE101 GE102 GE103)⟩; clear BK101 BK102 BK103 HB hq_; have BK101 := n0_; have BK102 := n1_; have BK103 := n2_; have HB := n3_; clear n0_ n1_ n2_ n3_; (try (have hcz10_0 := zx_ (v := .int .i64 a0_0) BK101 0)); (try (have hcz10_1 := zx_ (v := .int .u64 a0_1) BK101 1)); (try (have hfz10_0 := blk_frozen BK101.out 0)); (try (have hfz10_1 := blk_frozen BK101.out 1)); (try (have hcz12_0 := zx_ (v := .int .i64 a1_0) BK102 0)); (try (have hcz12_1 := zx_ (v := .int .u64 a1_1) BK102 1)); (try (have hfz12_0 := blk_frozen BK102.out 0)); (try (have hfz12_1 := blk_frozen BK102.out 1)))); have hcz13_0 := zx_ (v := .int .i64 0) BK103 0; have hcz13_1 := zx_ (v := .int .u64 0) BK103 1; have hfz13_0 := blk_frozen BK103.out 0; have hfz13_1 := blk_frozen BK103.out 1))
 refine bodyPost_ret (results_cell_row rfl _ _ gb103 25 #[.int .i64 (wrap64 (t106)), .int .u64 t104] (0, 0) _ rfl (zo2_ BK103) Try.underlying25 rfl (by kernel_rfl)) rfl ?_
 exact ⟨z0_, zw3_ HB GE101 GE102 GE103⟩

/-! ### wide_Neg: function 18 -/
def wide_Neg.f (a0_0 : Int) (a0_1 : Int) : Option (Int × Int) := (wide_Sub.f 0 0 a0_0 a0_1).bind fun bt110 => (some (bt110.1, bt110.2))
set_option maxHeartbeats 8000000 in
set_option maxRecDepth 100000 in
theorem wide_Neg.calls (a0_0 : Int) (a0_1 : Int) (r1 : Int) (r2 : Int) (w : World) (h : wide_Neg.f a0_0 a0_1 = some (r1, r2)) :
  Calls Try.prog 18 #[.agg #[.int .i64 a0_0, .int .u64 a0_1]] w fun e w' => e = .returned (.agg #[.int .i64 r1, .int .u64 r2]) ∧ Below w.heap.size w w' := by
 have hu25 := Try.underlying25
 have HB := Aside0.mk (Below.refl w.heap.size w)
 have H : ((wide_Sub.f 0 0 a0_0 a0_1).bind fun bt110 => (some (bt110.1, bt110.2))) = some (r1, r2) := h
 clear h
 replace H := Option.bind_eq_some_iff.mp H
 obtain ⟨⟨t110, t111⟩, A20, H⟩ := H
 replace H : (some (t110, t111)) = some (r1, r2) := H
 have A2 := Aside0.mk A20
 clear A20
 simp only [Option.some.injEq, Prod.mk.injEq] at H
 obtain ⟨rfl, rfl⟩ := H
 go_enter Try.func18, Try.ntmps18
 go_wp2_with (first | ((with_reducible refine gate_dst (N := 1) rfl ?_); refine box_event ?hg (N := 1) ?hd (cs := #[.int .i64 a0_0, .int .u64 a0_1]) (t := 25) ?hr ?_; (case hd => rfl); (case hg => rfl); (case hr => first | (go_simp; done) | (go_simp; rfl)); intro gb108 hg w3 hbox hb; have BK108 := Aside0.mk (hbox); have GW108 := Aside0.mk (zs_ hg (zw0_ HB)); have GE108 := Aside0.mk (zs_ hg (zw0_ HB)); replace HB := Aside0.mk (below_step (zw0_ HB) hb); clear hb hbox hg) | ((with_reducible refine gate_dst (N := 2) rfl ?_); refine box_event ?hg (N := 2) ?hd (cs := #[.int .i64 0, .int .u64 0]) (t := 25) ?hr ?_; (case hd => rfl); (case hg => rfl); (case hr => first | (go_simp; done) | (go_simp; rfl)); intro gb109 hg w4 hbox hb; have BK109 := Aside0.mk (hbox); have GW109 := Aside0.mk (zs_ hg (zw1_ HB GE108)); have GE109 := Aside0.mk (zs_ hg (zw1_ HB GE108)); replace HB := Aside0.mk (below_step (zw1_ HB GE108) hb); have NB108_109 := Aside0.mk (zn_ hg BK108); have NB109_108 := Aside0.mk (zm_ hg BK108); replace BK108 := za_ BK108 hb; clear hb hbox hg; have hnb5 := NB108_109.out; have hnc5 := NB109_108.out; have hcz6_0 := zx_ (v := .int .i64 a0_0) BK108 0; have hcz6_1 := zx_ (v := .int .u64 a0_1) BK108 1; have hfz6_0 := blk_frozen BK108.out 0; have hfz6_1 := blk_frozen BK108.out 1) | ((with_reducible refine gate_callee (f := 19) rfl ?_); refine zg_ (some 5) Try.func19 #[.agg #[.int .i64 0, .int .u64 0], .agg #[.int .i64 a0_0, .int .u64 a0_1]] (h := ?_); (with_reducible refine (wide_Sub.calls 0 0 a0_0 a0_1 t110 t111 _ A2.out).mono ?_); rintro e w7 ⟨rfl, hb⟩; refine ⟨_, rfl, ?_⟩; replace BK108 := za_ BK108 hb; replace BK109 := za_ BK109 hb; replace HB := Aside0.mk (below_step (zw2_ HB GE108 GE109) hb); (try clear hb); have hcz8_0 := zx_ (v := .int .i64 0) BK109 0; have hcz8_1 := zx_ (v := .int .u64 0) BK109 1; have hfz8_0 := blk_frozen BK109.out 0; have hfz8_1 := blk_frozen BK109.out 1))
 refine bodyPost_ret (results_cell_row rfl _ _ gb109 25 #[.int .i64 t110, .int .u64 t111] (0, 0) _ rfl (zo2_ BK109) Try.underlying25 rfl (by kernel_rfl)) rfl ?_
 exact ⟨z0_, zw2_ HB GE108 GE109⟩

/-! ### bits_Mul64: function 36 -/
def bits_Mul64.f (a0 : Int) (a1 : Int) : Option (Int × Int) := some (IntKind.u64.wrap ((IntKind.u64.wrap ((IntKind.u64.wrap ((a0 / 4294967296) * (a1 / 4294967296))) + ((IntKind.u64.wrap ((IntKind.u64.wrap ((a0 / 4294967296) * (Go.bits .and .u64 a1 4294967295))) + ((IntKind.u64.wrap ((Go.bits .and .u64 a0 4294967295) * (Go.bits .and .u64 a1 4294967295))) / 4294967296))) / 4294967296))) + ((IntKind.u64.wrap ((Go.bits .and .u64 (IntKind.u64.wrap ((IntKind.u64.wrap ((a0 / 4294967296) * (Go.bits .and .u64 a1 4294967295))) + ((IntKind.u64.wrap ((Go.bits .and .u64 a0 4294967295) * (Go.bits .and .u64 a1 4294967295))) / 4294967296))) 4294967295) + (IntKind.u64.wrap ((Go.bits .and .u64 a0 4294967295) * (a1 / 4294967296))))) / 4294967296)), IntKind.u64.wrap (a0 * a1))
set_option maxHeartbeats 8000000 in
set_option maxRecDepth 100000 in
theorem bits_Mul64.calls (a0 : Int) (a1 : Int) (r1 : Int) (r2 : Int) (w : World) (h : bits_Mul64.f a0 a1 = some (r1, r2)) :
  Calls Try.prog 36 #[.int .u64 a0, .int .u64 a1] w fun e w' => e = .returned (.tuple #[.int .u64 r1, .int .u64 r2]) ∧ Drawn0 w w' := by
 have H : (some (IntKind.u64.wrap ((IntKind.u64.wrap ((IntKind.u64.wrap ((a0 / 4294967296) * (a1 / 4294967296))) + ((IntKind.u64.wrap ((IntKind.u64.wrap ((a0 / 4294967296) * (Go.bits .and .u64 a1 4294967295))) + ((IntKind.u64.wrap ((Go.bits .and .u64 a0 4294967295) * (Go.bits .and .u64 a1 4294967295))) / 4294967296))) / 4294967296))) + ((IntKind.u64.wrap ((Go.bits .and .u64 (IntKind.u64.wrap ((IntKind.u64.wrap ((a0 / 4294967296) * (Go.bits .and .u64 a1 4294967295))) + ((IntKind.u64.wrap ((Go.bits .and .u64 a0 4294967295) * (Go.bits .and .u64 a1 4294967295))) / 4294967296))) 4294967295) + (IntKind.u64.wrap ((Go.bits .and .u64 a0 4294967295) * (a1 / 4294967296))))) / 4294967296)), IntKind.u64.wrap (a0 * a1))) = some (r1, r2) := h
 clear h
 simp only [Option.some.injEq, Prod.mk.injEq] at H
 obtain ⟨rfl, rfl⟩ := H
 go_enter Try.func36, Try.ntmps36
 go_wp2
 go_ret2
 exact ⟨by first | rfl | (simp; done) | (simp [*]; done), by repeat (first | exact Drawn0.refl _ | apply Drawn0.step)⟩

/-! ### wide_size: function 37 -/
def wide_size.f (a0 : Int) : Option (Int) := if a0 < 0 then (some (IntKind.u64.wrap (-(IntKind.u64.wrap (a0))))) else (some (IntKind.u64.wrap (a0)))
set_option maxHeartbeats 8000000 in
set_option maxRecDepth 100000 in
theorem wide_size.calls (a0 : Int) (r : Int) (w : World) (h : wide_size.f a0 = some r) :
  Calls Try.prog 37 #[.int .i64 a0] w fun e w' => e = .returned (.int .u64 r) ∧ Drawn0 w w' := by
 have H : (if a0 < 0 then (some (IntKind.u64.wrap (-(IntKind.u64.wrap (a0))))) else (some (IntKind.u64.wrap (a0)))) = some r := h
 clear h
 by_cases c2 : a0 < 0
 ·rw [if_pos c2] at H
  have c2b0 : decide (a0 < 0) = true := decide_eq_true c2
  clear c2
  obtain rfl := Option.some.inj H
  go_enter Try.func37, Try.ntmps37
  go_wp2
  go_ret
  exact ⟨by first | rfl | (simp; done) | (simp [*]; done), by repeat (first | exact Drawn0.refl _ | apply Drawn0.step)⟩
 rw [if_neg c2] at H
 have c2b0 : decide (a0 < 0) = false := decide_eq_false c2
 clear c2
 obtain rfl := Option.some.inj H
 go_enter Try.func37, Try.ntmps37
 go_wp2
 go_ret
 exact ⟨by first | rfl | (simp; done) | (simp [*]; done), by repeat (first | exact Drawn0.refl _ | apply Drawn0.step)⟩

/-! ### wide_Prod: function 12 -/
def wide_Prod.f (a0 : Int) (a1 : Int) : Option (Int × Int) := (wide_size.f a0).bind fun t113 => ((wide_size.f a1).bind fun t114 => ((bits_Mul64.f t113 t114).bind fun bt115 => (if ((decide (a0 < 0)) != (decide (a1 < 0))) = true then ((wide_Neg.f (wrap64 (bt115.1)) bt115.2).bind fun bt118 => (some (bt118.1, bt118.2))) else (some (wrap64 (bt115.1), bt115.2)))))
set_option maxHeartbeats 8000000 in
set_option maxRecDepth 100000 in
theorem wide_Prod.calls (a0 : Int) (a1 : Int) (r1 : Int) (r2 : Int) (w : World) (h : wide_Prod.f a0 a1 = some (r1, r2)) :
  Calls Try.prog 12 #[.int .i64 a0, .int .i64 a1] w fun e w' => e = .returned (.agg #[.int .i64 r1, .int .u64 r2]) ∧ Below w.heap.size w w' := by
 have hu25 := Try.underlying25
 have HB := Aside0.mk (Below.refl w.heap.size w)
 have H : ((wide_size.f a0).bind fun t113 => ((wide_size.f a1).bind fun t114 => ((bits_Mul64.f t113 t114).bind fun bt115 => (if ((decide (a0 < 0)) != (decide (a1 < 0))) = true then ((wide_Neg.f (wrap64 (bt115.1)) bt115.2).bind fun bt118 => (some (bt118.1, bt118.2))) else (some (wrap64 (bt115.1), bt115.2)))))) = some (r1, r2) := h
 clear h
 replace H := Option.bind_eq_some_iff.mp H
 obtain ⟨t113, A30, H⟩ := H
 (try dsimp only at H)
 have A3 := Aside0.mk A30
 clear A30
 replace H := Option.bind_eq_some_iff.mp H
 obtain ⟨t114, A40, H⟩ := H
 (try dsimp only at H)
 have A4 := Aside0.mk A40
 clear A40
 replace H := Option.bind_eq_some_iff.mp H
 obtain ⟨⟨t115, t116⟩, A50, H⟩ := H
 (try dsimp only at H)
 have A5 := Aside0.mk A50
 clear A50
 by_cases c6 : ((decide (a0 < 0)) != (decide (a1 < 0))) = true
 rotate_left
 ·rw [if_neg c6] at H
  have c6b0 : ((decide (a0 < 0)) != (decide (a1 < 0))) = false := by simpa using c6
  (try (have c6b1 : decide ((decide (a0 < 0)) = (decide (a1 < 0))) = true := by simpa using c6))
  (try (have c6b2 : ((decide (a0 < 0)) == (decide (a1 < 0))) = true := by simpa using c6))
  clear c6
  simp only [Option.some.injEq, Prod.mk.injEq] at H
  obtain ⟨rfl, rfl⟩ := H
  go_enter Try.func12, Try.ntmps12
  go_wp2_with (first | ((with_reducible refine gate_dst (N := 4) rfl ?_); refine box_event ?hg (N := 4) ?hd (cs := #[.int .i64 0, .int .u64 0]) (t := 25) ?hr ?_; (case hd => rfl); (case hg => rfl); (case hr => first | (go_simp; done) | (go_simp; rfl)); intro gb112 hg w14 hbox hb; have BK112 := Aside0.mk (hbox); have GW112 := Aside0.mk (zs_ hg (zw0_ HB)); have GE112 := Aside0.mk (zs_ hg (zw0_ HB)); replace HB := Aside0.mk (below_step (zw0_ HB) hb); clear hb hbox hg) | ((with_reducible refine gate_callee (f := 37) rfl ?_); refine zg_ (some 10) Try.func37 #[.int .i64 a0] (h := ?_); (with_reducible refine (wide_size.calls a0 t113 _ A3.out).mono ?_); rintro e w' ⟨rfl, ⟨nd, rfl⟩⟩; refine ⟨_, rfl, ?_⟩; (try (rw [drewN_self w14]; generalize hq_ : World.drewN w14 _ = w14; have n0_ : Aside0 (w14.heap[gb112]? = some (.cells #[.int .i64 0, .int .u64 0] 25 (0, 0))) := ⟨by rw [← hq_]; exact (zb_ BK112)⟩; have n1_ : Aside0 (Below w.heap.size w w14) := ⟨by rw [← hq_]; exact (zw1_ HB GE112)⟩; clear BK112 HB hq_; have BK112 := n0_; have HB := n1_; clear n0_ n1_))) | ((with_reducible refine gate_callee (f := 37) rfl ?_); refine zg_ (some 12) Try.func37 #[.int .i64 a1] (h := ?_); (with_reducible refine (wide_size.calls a1 t114 _ A4.out).mono ?_); rintro e w' ⟨rfl, ⟨nd, rfl⟩⟩; refine ⟨_, rfl, ?_⟩; (try (rw [drewN_self w14]; generalize hq_ : World.drewN w14 _ = w14; have n0_ : Aside0 (w14.heap[gb112]? = some (.cells #[.int .i64 0, .int .u64 0] 25 (0, 0))) := ⟨by rw [← hq_]; exact (zb_ BK112)⟩; have n1_ : Aside0 (Below w.heap.size w w14) := ⟨by rw [← hq_]; exact (zw1_ HB GE112)⟩; clear BK112 HB hq_; have BK112 := n0_; have HB := n1_; clear n0_ n1_))) | ((with_reducible refine gate_callee (f := 36) rfl ?_); refine zg_ (some 13) Try.func36 #[.int .u64 t113, .int .u64 t114] (h := ?_); (with_reducible refine (bits_Mul64.calls t113 t114 t115 t116 _ A5.out).mono ?_); rintro e w' ⟨rfl, ⟨nd, rfl⟩⟩; refine ⟨_, rfl, ?_⟩; (try (rw [drewN_self w14]; generalize hq_ : World.drewN w14 _ = w14; have n0_ : Aside0 (w14.heap[gb112]? = some (.cells #[.int .i64 0, .int .u64 0] 25 (0, 0))) := ⟨by rw [← hq_]; exact (zb_ BK112)⟩; have n1_ : Aside0 (Below w.heap.size w w14) := ⟨by rw [← hq_]; exact (zw1_ HB GE112)⟩; clear BK112 HB hq_; have BK112 := n0_; have HB := n1_; clear n0_ n1_))) | ((with_reducible refine gate_dst (N := 7) rfl ?_); refine box_event ?hg (N := 7) ?hd (cs := #[.int .i64 0, .int .u64 0]) (t := 25) ?hr ?_; (case hd => rfl); (case hg => rfl); (case hr => first | (go_simp; done) | (go_simp; rfl)); intro gb117 hg w15 hbox hb; have BK117 := Aside0.mk (hbox); have GW117 := Aside0.mk (zs_ hg (zw1_ HB GE112)); have GE117 := Aside0.mk (zs_ hg (zw1_ HB GE112)); replace HB := Aside0.mk (below_step (zw1_ HB GE112) hb); have NB112_117 := Aside0.mk (zn_ hg BK112); have NB117_112 := Aside0.mk (zm_ hg BK112); replace BK112 := za_ BK112 hb; clear hb hbox hg; have hnb16 := NB117_112.out; have hnc16 := NB112_117.out; have hcz17_0 := zx_ (v := .int .i64 0) BK117 0; have hcz17_1 := zx_ (v := .int .u64 0) BK117 1; have hfz17_0 := blk_frozen BK117.out 0; have hfz17_1 := blk_frozen BK117.out 1; have hcz18_0 := zx_ (v := .int .i64 0) BK112 0; have hcz18_1 := zx_ (v := .int .u64 0) BK112 1; have hfz18_0 := blk_frozen BK112.out 0; have hfz18_1 := blk_frozen BK112.out 1))
  refine bodyPost_ret (results_cell_row rfl _ _ gb112 25 #[.int .i64 (wrap64 (t115)), .int .u64 t116] (0, 0) _ rfl (by (with_reducible repeat (first | refine blk_drewN ?_ _ | refine blk_drew ?_ | refine blk_alloc ?_ _)); refine blk_put (cs := #[.int .i64 (wrap64 (t115)), .int .u64 0]) ?_ 1 _ rfl; (with_reducible repeat (first | refine blk_drewN ?_ _ | refine blk_drew ?_ | refine blk_alloc ?_ _)); refine blk_put (cs := #[.int .i64 0, .int .u64 0]) ?_ 0 _ rfl; (with_reducible repeat (first | refine blk_drewN ?_ _ | refine blk_drew ?_ | refine blk_alloc ?_ _)); refine blk_far ?_ NB112_117.out _; (with_reducible repeat (first | refine blk_drewN ?_ _ | refine blk_drew ?_ | refine blk_alloc ?_ _)); refine blk_far ?_ NB112_117.out _; (with_reducible repeat (first | refine blk_drewN ?_ _ | refine blk_drew ?_ | refine blk_alloc ?_ _)); exact BK112.out) Try.underlying25 rfl (by kernel_rfl)) rfl ?_
  exact ⟨z0_, zw2_ HB GE112 GE117⟩
 rw [if_pos c6] at H
 have c6b0 : ((decide (a0 < 0)) != (decide (a1 < 0))) = true := c6
 (try (have c6b1 : decide ((decide (a0 < 0)) = (decide (a1 < 0))) = false := by simpa using c6))
 (try (have c6b2 : ((decide (a0 < 0)) == (decide (a1 < 0))) = false := by simpa using c6))
 (try (have c6b3 : ¬ ((decide (a0 < 0)) = (decide (a1 < 0))) := by simpa using c6))
 clear c6
 replace H := Option.bind_eq_some_iff.mp H
 obtain ⟨⟨t118, t119⟩, A70, H⟩ := H
 replace H : (some (t118, t119)) = some (r1, r2) := H
 have A7 := Aside0.mk A70
 clear A70
 simp only [Option.some.injEq, Prod.mk.injEq] at H
 obtain ⟨rfl, rfl⟩ := H
 go_enter Try.func12, Try.ntmps12
 go_wp2_with (first | ((with_reducible refine gate_dst (N := 4) rfl ?_); refine box_event ?hg (N := 4) ?hd (cs := #[.int .i64 0, .int .u64 0]) (t := 25) ?hr ?_; (case hd => rfl); (case hg => rfl); (case hr => first | (go_simp; done) | (go_simp; rfl)); intro gb112 hg w8 hbox hb; have BK112 := Aside0.mk (hbox); have GW112 := Aside0.mk (zs_ hg (zw0_ HB)); have GE112 := Aside0.mk (zs_ hg (zw0_ HB)); replace HB := Aside0.mk (below_step (zw0_ HB) hb); clear hb hbox hg) | ((with_reducible refine gate_callee (f := 37) rfl ?_); refine zg_ (some 10) Try.func37 #[.int .i64 a0] (h := ?_); (with_reducible refine (wide_size.calls a0 t113 _ A3.out).mono ?_); rintro e w' ⟨rfl, ⟨nd, rfl⟩⟩; refine ⟨_, rfl, ?_⟩; (try (rw [drewN_self w8]; generalize hq_ : World.drewN w8 _ = w8; have n0_ : Aside0 (w8.heap[gb112]? = some (.cells #[.int .i64 0, .int .u64 0] 25 (0, 0))) := ⟨by rw [← hq_]; exact (zb_ BK112)⟩; have n1_ : Aside0 (Below w.heap.size w w8) := ⟨by rw [← hq_]; exact (zw1_ HB GE112)⟩; clear BK112 HB hq_; have BK112 := n0_; have HB := n1_; clear n0_ n1_))) | ((with_reducible refine gate_callee (f := 37) rfl ?_); refine zg_ (some 12) Try.func37 #[.int .i64 a1] (h := ?_); (with_reducible refine (wide_size.calls a1 t114 _ A4.out).mono ?_); rintro e w' ⟨rfl, ⟨nd, rfl⟩⟩; refine ⟨_, rfl, ?_⟩; (try (rw [drewN_self w8]; generalize hq_ : World.drewN w8 _ = w8; have n0_ : Aside0 (w8.heap[gb112]? = some (.cells #[.int .i64 0, .int .u64 0] 25 (0, 0))) := ⟨by rw [← hq_]; exact (zb_ BK112)⟩; have n1_ : Aside0 (Below w.heap.size w w8) := ⟨by rw [← hq_]; exact (zw1_ HB GE112)⟩; clear BK112 HB hq_; have BK112 := n0_; have HB := n1_; clear n0_ n1_))) | ((with_reducible refine gate_callee (f := 36) rfl ?_); refine zg_ (some 13) Try.func36 #[.int .u64 t113, .int .u64 t114] (h := ?_); (with_reducible refine (bits_Mul64.calls t113 t114 t115 t116 _ A5.out).mono ?_); rintro e w' ⟨rfl, ⟨nd, rfl⟩⟩; refine ⟨_, rfl, ?_⟩; (try (rw [drewN_self w8]; generalize hq_ : World.drewN w8 _ = w8; have n0_ : Aside0 (w8.heap[gb112]? = some (.cells #[.int .i64 0, .int .u64 0] 25 (0, 0))) := ⟨by rw [← hq_]; exact (zb_ BK112)⟩; have n1_ : Aside0 (Below w.heap.size w w8) := ⟨by rw [← hq_]; exact (zw1_ HB GE112)⟩; clear BK112 HB hq_; have BK112 := n0_; have HB := n1_; clear n0_ n1_))) | ((with_reducible refine gate_dst (N := 7) rfl ?_); refine box_event ?hg (N := 7) ?hd (cs := #[.int .i64 0, .int .u64 0]) (t := 25) ?hr ?_; (case hd => rfl); (case hg => rfl); (case hr => first | (go_simp; done) | (go_simp; rfl)); intro gb117 hg w9 hbox hb; have BK117 := Aside0.mk (hbox); have GW117 := Aside0.mk (zs_ hg (zw1_ HB GE112)); have GE117 := Aside0.mk (zs_ hg (zw1_ HB GE112)); replace HB := Aside0.mk (below_step (zw1_ HB GE112) hb); have NB112_117 := Aside0.mk (zn_ hg BK112); have NB117_112 := Aside0.mk (zm_ hg BK112); replace BK112 := za_ BK112 hb; clear hb hbox hg; have hnb10 := NB117_112.out; have hnc10 := NB112_117.out; have hcz11_0 := zx_ (v := .int .i64 0) BK117 0; have hcz11_1 := zx_ (v := .int .u64 0) BK117 1; have hfz11_0 := blk_frozen BK117.out 0; have hfz11_1 := blk_frozen BK117.out 1) | ((with_reducible refine gate_callee (f := 18) rfl ?_); refine zg_ (some 26) Try.func18 #[.agg #[.int .i64 (wrap64 (t115)), .int .u64 t116]] (h := ?_); (with_reducible refine (wide_Neg.calls (wrap64 (t115)) t116 t118 t119 _ A7.out).mono ?_); rintro e w12 ⟨rfl, hb⟩; refine ⟨_, rfl, ?_⟩; replace BK112 := Aside0.mk (blk_below (g := gb112) (o := .cells #[.int .i64 0, .int .u64 0] 25 (0, 0)) (zv1_ BK112 NB112_117) hb); replace BK117 := Aside0.mk (blk_below (g := gb117) (o := .cells #[.int .i64 (wrap64 (t115)), .int .u64 t116] 25 (0, 0)) (zo2_ BK117) hb); replace HB := Aside0.mk (below_step (zw2_ HB GE112 GE117) hb); (try clear hb); have hcz13_0 := zx_ (v := .int .i64 0) BK112 0; have hcz13_1 := zx_ (v := .int .u64 0) BK112 1; have hfz13_0 := blk_frozen BK112.out 0; have hfz13_1 := blk_frozen BK112.out 1))
 refine bodyPost_ret (results_cell_row rfl _ _ gb112 25 #[.int .i64 t118, .int .u64 t119] (0, 0) _ rfl (zo2_ BK112) Try.underlying25 rfl (by kernel_rfl)) rfl ?_
 exact ⟨z0_, zw2_ HB GE112 GE117⟩

/-! ### wide_Of: function 14 -/
def wide_Of.f (a0 : Int) : Option (Int × Int) := some (a0 / 9223372036854775808, IntKind.u64.wrap (a0))
set_option maxHeartbeats 8000000 in
set_option maxRecDepth 100000 in
theorem wide_Of.calls (a0 : Int) (r1 : Int) (r2 : Int) (w : World) (h : wide_Of.f a0 = some (r1, r2)) :
  Calls Try.prog 14 #[.int .i64 a0] w fun e w' => e = .returned (.agg #[.int .i64 r1, .int .u64 r2]) ∧ Below w.heap.size w w' := by
 have hu25 := Try.underlying25
 have HB := Aside0.mk (Below.refl w.heap.size w)
 have H : (some (a0 / 9223372036854775808, IntKind.u64.wrap (a0))) = some (r1, r2) := h
 clear h
 simp only [Option.some.injEq, Prod.mk.injEq] at H
 obtain ⟨rfl, rfl⟩ := H
 go_enter Try.func14, Try.ntmps14
 go_wp2_with (first | ((with_reducible refine gate_dst (N := 2) rfl ?_); refine box_event ?hg (N := 2) ?hd (cs := #[.int .i64 0, .int .u64 0]) (t := 25) ?hr ?_; (case hd => rfl); (case hg => rfl); (case hr => first | (go_simp; done) | (go_simp; rfl)); intro gb120 hg w2 hbox hb; have BK120 := Aside0.mk (hbox); have GW120 := Aside0.mk (zs_ hg (zw0_ HB)); have GE120 := Aside0.mk (zs_ hg (zw0_ HB)); replace HB := Aside0.mk (below_step (zw0_ HB) hb); clear hb hbox hg; have hcz3_0 := zx_ (v := .int .i64 0) BK120 0; have hcz3_1 := zx_ (v := .int .u64 0) BK120 1; have hfz3_0 := blk_frozen BK120.out 0; have hfz3_1 := blk_frozen BK120.out 1))
 refine bodyPost_ret (results_cell_row rfl _ _ gb120 25 #[.int .i64 (a0 / 9223372036854775808), .int .u64 (IntKind.u64.wrap (a0))] (0, 0) _ rfl (zo2_ BK120) Try.underlying25 rfl (by kernel_rfl)) rfl ?_
 exact ⟨z0_, zw1_ HB GE120⟩

/-! ### bits_Add64: function 40 -/
def bits_Add64.f (a0 a1 a2 : Int) : Option (Int × Int) := if 0 ≤ a0 ∧ 0 ≤ a1 ∧ 0 ≤ a2 ∧ a2 ≤ 1 then some ((a0 + a1 + a2) % 18446744073709551616, (a0 + a1 + a2) / 18446744073709551616) else none
theorem bits_Add64.calls (a0 a1 a2 r1 r2 : Int) (w : World) (h : bits_Add64.f a0 a1 a2 = some (r1, r2)) :
  XCalls Try.prog 40 #[.int .u64 a0, .int .u64 a1, .int .u64 a2] w fun e w' => e = .returned (.tuple #[.int .u64 r1, .int .u64 r2]) ∧ Drawn0 w w' := by
 unfold bits_Add64.f at h
 split at h
 ·rename_i hc
  simp only [Option.some.injEq, Prod.mk.injEq] at h
  obtain ⟨rfl, rfl⟩ := h
  refine ⟨_, ?_, rfl, Drawn0.refl _⟩
  rw [run_callFunc_extern (e := add64Entry) Try.func40 rfl (by kernel_rfl) (by kernel_rfl) (by kernel_rfl), run_add64 a0 a1 a2 hc.1 hc.2.1 hc.2.2.1 hc.2.2.2]
  rfl
 ·cases h

/-! ### wide_Add: function 17 -/
def wide_Add.f (a0_0 : Int) (a0_1 : Int) (a1_0 : Int) (a1_1 : Int) : Option (Int × Int) := (bits_Add64.f a0_1 a1_1 0).bind fun bt124 => ((bits_Add64.f (IntKind.u64.wrap (a0_0)) (IntKind.u64.wrap (a1_0)) bt124.2).bind fun bt126 => (some (wrap64 (bt126.1), bt124.1)))
set_option maxHeartbeats 8000000 in
set_option maxRecDepth 100000 in
theorem wide_Add.calls (a0_0 : Int) (a0_1 : Int) (a1_0 : Int) (a1_1 : Int) (r1 : Int) (r2 : Int) (w : World) (h : wide_Add.f a0_0 a0_1 a1_0 a1_1 = some (r1, r2)) :
  Calls Try.prog 17 #[.agg #[.int .i64 a0_0, .int .u64 a0_1], .agg #[.int .i64 a1_0, .int .u64 a1_1]] w fun e w' => e = .returned (.agg #[.int .i64 r1, .int .u64 r2]) ∧ Below w.heap.size w w' := by
 have hu25 := Try.underlying25
 have HB := Aside0.mk (Below.refl w.heap.size w)
 have H : ((bits_Add64.f a0_1 a1_1 0).bind fun bt124 => ((bits_Add64.f (IntKind.u64.wrap (a0_0)) (IntKind.u64.wrap (a1_0)) bt124.2).bind fun bt126 => (some (wrap64 (bt126.1), bt124.1)))) = some (r1, r2) := h
 clear h
 replace H := Option.bind_eq_some_iff.mp H
 obtain ⟨⟨t124, t125⟩, A30, H⟩ := H
 replace H : ((bits_Add64.f (IntKind.u64.wrap (a0_0)) (IntKind.u64.wrap (a1_0)) t125).bind fun bt126 => (some (wrap64 (bt126.1), t124))) = some (r1, r2) := H
 have A3 := Aside0.mk A30
 clear A30
 replace H := Option.bind_eq_some_iff.mp H
 obtain ⟨⟨t126, t127⟩, A40, H⟩ := H
 replace H : (some (wrap64 (t126), t124)) = some (r1, r2) := H
 have A4 := Aside0.mk A40
 clear A40
 simp only [Option.some.injEq, Prod.mk.injEq] at H
 obtain ⟨rfl, rfl⟩ := H
 go_enter Try.func17, Try.ntmps17
 go_wp2_with (first | ((with_reducible refine gate_dst (N := 2) rfl ?_); refine box_event ?hg (N := 2) ?hd (cs := #[.int .i64 a0_0, .int .u64 a0_1]) (t := 25) ?hr ?_; (case hd => rfl); (case hg => rfl); (case hr => first | (go_simp; done) | (go_simp; rfl)); intro gb121 hg w5 hbox hb; have BK121 := Aside0.mk (hbox); have GW121 := Aside0.mk (zs_ hg (zw0_ HB)); have GE121 := Aside0.mk (zs_ hg (zw0_ HB)); replace HB := Aside0.mk (below_step (zw0_ HB) hb); clear hb hbox hg) | ((with_reducible refine gate_dst (N := 3) rfl ?_); refine box_event ?hg (N := 3) ?hd (cs := #[.int .i64 a1_0, .int .u64 a1_1]) (t := 25) ?hr ?_; (case hd => rfl); (case hg => rfl); (case hr => first | (go_simp; done) | (go_simp; rfl)); intro gb122 hg w6 hbox hb; have BK122 := Aside0.mk (hbox); have GW122 := Aside0.mk (zs_ hg (zw1_ HB GE121)); have GE122 := Aside0.mk (zs_ hg (zw1_ HB GE121)); replace HB := Aside0.mk (below_step (zw1_ HB GE121) hb); have NB121_122 := Aside0.mk (zn_ hg BK121); have NB122_121 := Aside0.mk (zm_ hg BK121); replace BK121 := za_ BK121 hb; clear hb hbox hg) | ((with_reducible refine gate_dst (N := 4) rfl ?_); refine box_event ?hg (N := 4) ?hd (cs := #[.int .i64 0, .int .u64 0]) (t := 25) ?hr ?_; (case hd => rfl); (case hg => rfl); (case hr => first | (go_simp; done) | (go_simp; rfl)); intro gb123 hg w7 hbox hb; have BK123 := Aside0.mk (hbox); have GW123 := Aside0.mk (zs_ hg (zw2_ HB GE121 GE122)); have GE123 := Aside0.mk (zs_ hg (zw2_ HB GE121 GE122)); replace HB := Aside0.mk (below_step (zw2_ HB GE121 GE122) hb); have NB121_123 := Aside0.mk (zn_ hg BK121); have NB123_121 := Aside0.mk (zm_ hg BK121); replace BK121 := za_ BK121 hb; have NB122_123 := Aside0.mk (zn_ hg BK122); have NB123_122 := Aside0.mk (zm_ hg BK122); replace BK122 := za_ BK122 hb; clear hb hbox hg; have hnb8 := NB121_122.out; have hnc8 := NB122_121.out; have hnb9 := NB121_123.out; have hnc9 := NB123_121.out; have hcz10_0 := zx_ (v := .int .i64 a0_0) BK121 0; have hcz10_1 := zx_ (v := .int .u64 a0_1) BK121 1; have hfz10_0 := blk_frozen BK121.out 0; have hfz10_1 := blk_frozen BK121.out 1; have hnb11 := NB122_123.out; have hnc11 := NB123_122.out; have hcz12_0 := zx_ (v := .int .i64 a1_0) BK122 0; have hcz12_1 := zx_ (v := .int .u64 a1_1) BK122 1; have hfz12_0 := blk_frozen BK122.out 0; have hfz12_1 := blk_frozen BK122.out 1) | ((with_reducible refine gate_callee (f := 40) rfl ?_); refine goesX_ (some 14) rfl rfl (f := 40) #[.int .u64 a0_1, .int .u64 a1_1, .int .u64 0] rfl (by (try simp only [List.map_toArray, List.map_cons, List.map_nil]); first | done | rfl | (simp only [List.length_drop, List.length_take]; rfl)) ?_; (with_reducible refine (bits_Add64.calls a0_1 a1_1 0 t124 t125 _ A3.out).mono ?_); rintro e w' ⟨rfl, ⟨nd, rfl⟩⟩; refine ⟨_, rfl, ?_⟩; (try (rw [drewN_self w7]; generalize hq_ : World.drewN w7 _ = w7; have n0_ : Aside0 (w7.heap[gb121]? = some (.cells #[.int .i64 a0_0, .int .u64 a0_1] 25 (0, 0))) := ⟨by rw [← hq_]; exact (zb_ BK121)⟩; have n1_ : Aside0 (w7.heap[gb122]? = some (.cells #[.int .i64 a1_0, .int .u64 a1_1] 25 (0, 0))) := ⟨by rw [← hq_]; exact (zb_ BK122)⟩; have n2_ : Aside0 (w7.heap[gb123]? = some (.cells #[.int .i64 0, .int .u64 0] 25 (0, 0))) := ⟨by rw [← hq_]; exact (zb_ BK123)⟩; have n3_ : Aside0 (Below w.heap.size w w7) := ⟨by rw [← hq_]; exact (zw3_ HB GE121 GE122 GE123)⟩; clear BK121 BK122 BK123 HB hq_; have BK121 := n0_; have BK122 := n1_; have BK123 := n2_; have HB := n3_; clear n0_ n1_ n2_ n3_; (try (have hcz10_0 := zx_ (v := .int .i64 a0_0) BK121 0)); (try (have hcz10_1 := zx_ (v := .int .u64 a0_1) BK121 1)); (try (have hfz10_0 := blk_frozen BK121.out 0)); (try (have hfz10_1 := blk_frozen BK121.out 1)); (try (have hcz12_0 := zx_ (v := .int .i64 a1_0) BK122 0)); (try (have hcz12_1 := zx_ (v := .int .u64 a1_1) BK122 1)); (try (have hfz12_0 := blk_frozen BK122.out 0)); (try (have hfz12_1 := blk_frozen BK122.out 1))))) | ((with_reducible refine gate_callee (f := 40) rfl ?_); refine goesX_ (some 25) rfl rfl (f := 40) #[.int .u64 (IntKind.u64.wrap (a0_0)), .int .u64 (IntKind.u64.wrap (a1_0)), .int .u64 t125] rfl (by (try simp only [List.map_toArray, List.map_cons, List.map_nil]); first | done | rfl | (simp only [List.length_drop, List.length_take]; rfl)) ?_; (with_reducible refine (bits_Add64.calls (IntKind.u64.wrap (a0_0)) (IntKind.u64.wrap (a1_0)) t125 t126 t127 _ A4.out).mono ?_); rintro e w' ⟨rfl, ⟨nd, rfl⟩⟩; refine ⟨_, rfl, ?_⟩; (try (rw [drewN_self w7]; generalize hq_ : World.drewN w7 _ = w7; have n0_ : Aside0 (w7.heap[gb121]? = some (.cells #[.int .i64 a0_0, .int .u64 a0_1] 25 (0, 0))) := ⟨by rw [← hq_]; exact (zb_ BK121)⟩; have n1_ : Aside0 (w7.heap[gb122]? = some (.cells #[.int .i64 a1_0, .int .u64 a1_1] 25 (0, 0))) := ⟨by rw [← hq_]; exact (zb_ BK122)⟩; have n2_ : Aside0 (w7.heap[gb123]? = some (.cells #[.int .i64 0, .int .u64 0] 25 (0, 0))) := ⟨by rw [← hq_]; exact (zb_ BK123)⟩; have n3_ : Aside0 (Below w.heap.size w w7) := ⟨by rw [← hq_]; exact (zw3_ HB GE121 GE122 GE123)⟩; clear BK121 BK122 BK123 HB hq_; have BK121 := n0_; have BK122 := n1_; have BK123 := n2_; have HB := n3_; clear n0_ n1_ n2_ n3_; (try (have hcz10_0 := zx_ (v := .int .i64 a0_0) BK121 0)); (try (have hcz10_1 := zx_ (v := .int .u64 a0_1) BK121 1)); (try (have hfz10_0 := blk_frozen BK121.out 0)); (try (have hfz10_1 := blk_frozen BK121.out 1)); (try (have hcz12_0 := zx_ (v := .int .i64 a1_0) BK122 0)); (try (have hcz12_1 := zx_ (v := .int .u64 a1_1) BK122 1)); (try (have hfz12_0 := blk_frozen BK122.out 0)); (try (have hfz12_1 := blk_frozen BK122.out 1)))); have hcz13_0 := zx_ (v := .int .i64 0) BK123 0; have hcz13_1 := zx_ (v := .int .u64 0) BK123 1; have hfz13_0 := blk_frozen BK123.out 0; have hfz13_1 := blk_frozen BK123.out 1))
 refine bodyPost_ret (results_cell_row rfl _ _ gb123 25 #[.int .i64 (wrap64 (t126)), .int .u64 t124] (0, 0) _ rfl (zo2_ BK123) Try.underlying25 rfl (by kernel_rfl)) rfl ?_
 exact ⟨z0_, zw3_ HB GE121 GE122 GE123⟩

end Go.Proofs.Ytalghnbolnimiaa.PWideBack
