/- The functions that the law ActSlopes reaches, as Lean functions, and that each call of the Go function does what its Lean function says, wherever that one answers. Written by a program of mine over the print of the kit; Lean checks it. -/
import Derived.Test.YtdamllanlligbaaPActSlopesx0
import Derived.Test.YtdamllanlligbaaPActSlopesx3
import Derived.Test.YtdamllanlligbaaPActSlopesx4
namespace Go.Proofs.Ytdamllanlligbaa.PActSlopes
open Go.RowKit Go.Proofs.YtdamllanlligbaaW.PrintWords Go.Proofs.YtdamllanlligbaaW.PrintLast Go.Proofs.YtdamllanlligbaaW.PrintMore
attribute [local go_sem] max2_int min2_int max_two min_two max_three min_three max_four min_four   -- for this text's walks alone
set_option linter.unusedVariables false
set_option linter.unusedSimpArgs false

/-! ### carouselref1_size: function 56 -/
def carouselref1_size.f (a0 : Int) : Option (Int) := if a0 < 0 then (some (IntKind.u64.wrap ((IntKind.u64.wrap (wrap64 (-(wrap64 (a0 + 1))))) + 1))) else (some (IntKind.u64.wrap (a0)))
set_option maxHeartbeats 8000000 in
set_option maxRecDepth 100000 in
theorem carouselref1_size.calls (a0 : Int) (r : Int) (w : World) (h : carouselref1_size.f a0 = some r) :
    Calls Try.prog 56 #[.int .i64 a0] w fun e w' => e = .returned (.int .u64 r) ∧ Drawn0 w w' := by
  have H : (if a0 < 0 then (some (IntKind.u64.wrap ((IntKind.u64.wrap (wrap64 (-(wrap64 (a0 + 1))))) + 1))) else (some (IntKind.u64.wrap (a0)))) = some r := h
  clear h
  by_cases c2 : a0 < 0
  · rw [if_pos c2] at H
    have c2b0 : decide (a0 < 0) = true := decide_eq_true c2
    clear c2
    obtain rfl := Option.some.inj H
    go_enter Try.func56, Try.ntmps56
    go_wp2
    go_ret
    exact ⟨by first | rfl | (simp; done) | (simp [*]; done), by repeat (first | exact Drawn0.refl _ | apply Drawn0.step)⟩
  · rw [if_neg c2] at H
    have c2b0 : decide (a0 < 0) = false := decide_eq_false c2
    clear c2
    obtain rfl := Option.some.inj H
    go_enter Try.func56, Try.ntmps56
    go_wp2
    go_ret
    exact ⟨by first | rfl | (simp; done) | (simp [*]; done), by repeat (first | exact Drawn0.refl _ | apply Drawn0.step)⟩

/-! ### carouselref1_Times: function 35 -/
theorem tm_start_ (w : World) (o1 : Obj) (n : Nat) (cs : Array Value) (t : TypeId) (w4 : World) (hb : Below (((w.alloc o1).drewN n).alloc (.cells cs t)).heap.size (((w.alloc o1).drewN n).alloc (.cells cs t)) w4) :
    w4.heap[w.heap.size + 1]? = some (.cells cs t (0, 0)) ∧ w4.heap[w.heap.size]? = some o1 ∧ Below w.heap.size w w4 := by
  have s1 : ((w.alloc o1).drewN n).heap.size = w.heap.size + 1 := by simp only [World.alloc, World.drewN, Array.size_push]
  have b1 := blk_new ((w.alloc o1).drewN n) (.cells cs t (0, 0))
  rw [s1] at b1
  have b0 : (((w.alloc o1).drewN n).alloc (.cells cs t (0, 0))).heap[w.heap.size]? = some o1 := blk_alloc (blk_drewN (blk_new w o1) n) _
  have h1 : Below w.heap.size w ((w.alloc o1).drewN n) := by
    have h := (Below.refl w.heap.size w).alloc (Nat.le_refl _) o1
    exact ⟨h.os, h.tape, h.output, h.size, h.block⟩
  have h2 := h1.alloc (by rw [s1]; omega) (.cells cs t (0, 0))
  exact ⟨blk_below b1 hb, blk_below b0 hb, h2.trans (hb.mono h2.size)⟩
theorem tm_step_ (w w4 : World) (g : Nat) (o1 : Obj) (t : TypeId) (c0 c1 c2 c3 v0 v1 v2 v3 : Value) (hg : g = w.heap.size + 1) (b1 : w4.heap[g]? = some (.cells #[c0, c1, c2, c3] t (0, 0))) (b0 : w4.heap[w.heap.size]? = some o1) (hb : Below w.heap.size w w4) (w5 : World)
    (e : ((((w4.setCell ⟨g, 0, none⟩ v0).setCell ⟨g, 1, none⟩ v1).setCell ⟨g, 2, none⟩ v2).setCell ⟨g, 3, none⟩ v3) = w5) :
    w5.heap[g]? = some (.cells #[v0, v1, v2, v3] t (0, 0)) ∧ w5.heap[w.heap.size]? = some o1 ∧ Below w.heap.size w w5 := by
  subst e
  have hp : ∀ i, w.heap.size ≤ (⟨g, i, none⟩ : Addr).block := fun i => by show w.heap.size ≤ g; omega
  refine ⟨?_, ?_, (((hb.setCell (hp 0) _).setCell (hp 1) _).setCell (hp 2) _).setCell (hp 3) _⟩
  · exact blk_put (cs := #[v0, v1, v2, c3]) (blk_put (cs := #[v0, v1, c2, c3]) (blk_put (cs := #[v0, c1, c2, c3]) (blk_put (cs := #[c0, c1, c2, c3]) b1 0 _ rfl) 1 _ rfl) 2 _ rfl) 3 _ rfl
  · have q : ∀ i, w.heap.size ≠ (⟨g, i, none⟩ : Addr).block := fun i => by show w.heap.size ≠ g; omega
    rw [Below.heap_setCell _ _ _ _ (q 3), Below.heap_setCell _ _ _ _ (q 2), Below.heap_setCell _ _ _ _ (q 1), Below.heap_setCell _ _ _ _ (q 0)]
    exact b0
theorem tm_call_ (w w5 w6 : World) (g : Nat) (o1 o2 : Obj) (b1 : w5.heap[g]? = some o2) (b0 : w5.heap[w.heap.size]? = some o1) (hb : Below w.heap.size w w5) (h : Below w5.heap.size w5 w6) :
    w6.heap[g]? = some o2 ∧ w6.heap[w.heap.size]? = some o1 ∧ Below w.heap.size w w6 := ⟨blk_below b1 h, blk_below b0 h, hb.trans (h.mono hb.size)⟩
theorem tm_end_ (w w7 : World) (t : TypeId) (z0 z1 z2 z3 z4 v0 v1 v2 v3 v4 : Value) (b0 : w7.heap[w.heap.size]? = some (.cells #[z0, z1, z2, z3, z4] t (0, 0))) (hb : Below w.heap.size w w7) :
    (((((w7.setCell ⟨w.heap.size, 0, none⟩ v0).setCell ⟨w.heap.size, 1, none⟩ v1).setCell ⟨w.heap.size, 2, none⟩ v2).setCell ⟨w.heap.size, 3, none⟩ v3).setCell ⟨w.heap.size, 4, none⟩ v4).heap[w.heap.size]? = some (.cells #[v0, v1, v2, v3, v4] t (0, 0)) ∧
    Below w.heap.size w (((((w7.setCell ⟨w.heap.size, 0, none⟩ v0).setCell ⟨w.heap.size, 1, none⟩ v1).setCell ⟨w.heap.size, 2, none⟩ v2).setCell ⟨w.heap.size, 3, none⟩ v3).setCell ⟨w.heap.size, 4, none⟩ v4) := by
  have hp : ∀ i, w.heap.size ≤ (⟨w.heap.size, i, none⟩ : Addr).block := fun i => Nat.le_refl _
  exact ⟨blk_put (cs := #[v0, v1, v2, v3, z4]) (blk_put (cs := #[v0, v1, v2, z3, z4]) (blk_put (cs := #[v0, v1, z2, z3, z4]) (blk_put (cs := #[v0, z1, z2, z3, z4]) (blk_put (cs := #[z0, z1, z2, z3, z4]) b0 0 _ rfl) 1 _ rfl) 2 _ rfl) 3 _ rfl) 4 _ rfl,
    ((((hb.setCell (hp 0) _).setCell (hp 1) _).setCell (hp 2) _).setCell (hp 3) _).setCell (hp 4) _⟩
theorem carouselref1_Times.ix0 (v0 v1 : Int) (w : World) : (Instr.index 70 (.agg #[.int .u64 v0, .int .u64 v1]) (.int .i64 0)).run Try.prog w = .ok (.int .u64 v0) w := by
  have hi : (Try.prog.info? 48).map (·.size) = some 1 := by kernel_rfl
  cases h : Try.prog.info? 48 with
  | none => rw [h] at hi; cases hi
  | some q =>
    rw [h] at hi
    have hs : q.size = 1 := by simpa using hi
    simp [Instr.index, run_underlying Try.underlying70, asIntOf, part, sizeOf, typeInfo, h, hs, go_sem]
theorem carouselref1_Times.ix1 (v0 v1 : Int) (w : World) : (Instr.index 70 (.agg #[.int .u64 v0, .int .u64 v1]) (.int .i64 1)).run Try.prog w = .ok (.int .u64 v1) w := by
  have hi : (Try.prog.info? 48).map (·.size) = some 1 := by kernel_rfl
  cases h : Try.prog.info? 48 with
  | none => rw [h] at hi; cases hi
  | some q =>
    rw [h] at hi
    have hs : q.size = 1 := by simpa using hi
    simp [Instr.index, run_underlying Try.underlying70, asIntOf, part, sizeOf, typeInfo, h, hs, go_sem]
def carouselref1_Times.f (a0 : Int) (a1 : Int) : Option (Bool × Int × Int × Int × Int) := (carouselref1_size.f a0).bind fun x => ((carouselref1_size.f a1).bind fun y => ((carouselref1_plus.f (IntKind.u64.wrap (Go.bits .and .u64 x 4294967295 * Go.bits .and .u64 y 4294967295)) (IntKind.u64.wrap (x / 4294967296 * (y / 4294967296))) 0 0 (IntKind.u64.wrap (IntKind.u64.wrap (Go.bits .and .u64 x 4294967295 * (y / 4294967296)) * 4294967296)) (IntKind.u64.wrap (Go.bits .and .u64 x 4294967295 * (y / 4294967296)) / 4294967296) 0 0).bind fun p => ((carouselref1_plus.f p.1 p.2.1 p.2.2.1 p.2.2.2 (IntKind.u64.wrap (IntKind.u64.wrap (x / 4294967296 * Go.bits .and .u64 y 4294967295) * 4294967296)) (IntKind.u64.wrap (x / 4294967296 * Go.bits .and .u64 y 4294967295) / 4294967296) 0 0).bind fun q => (some ((decide (a0 < 0)) != (decide (a1 < 0)), q.1, q.2.1, q.2.2.1, q.2.2.2)))))
set_option maxHeartbeats 8000000 in
set_option maxRecDepth 100000 in
theorem carouselref1_Times.calls (a0 : Int) (a1 : Int) (r1 : Bool) (r2 : Int) (r3 : Int) (r4 : Int) (r5 : Int) (w : World) (h : carouselref1_Times.f a0 a1 = some (r1, r2, r3, r4, r5)) :
    Calls Try.prog 35 #[.int .i64 a0, .int .i64 a1] w fun e w' => e = .returned (.agg #[.bool r1, .int .u64 r2, .int .u64 r3, .int .u64 r4, .int .u64 r5]) ∧ Below w.heap.size w w' := by
  unfold carouselref1_Times.f at h
  obtain ⟨x, hx, h⟩ := Option.bind_eq_some_iff.mp h
  obtain ⟨y, hy, h⟩ := Option.bind_eq_some_iff.mp h
  obtain ⟨⟨p0, p1, p2, p3⟩, hp, h⟩ := Option.bind_eq_some_iff.mp h
  obtain ⟨⟨q0, q1, q2, q3⟩, hq, h⟩ := Option.bind_eq_some_iff.mp h
  simp only [Option.some.injEq, Prod.mk.injEq] at h
  obtain ⟨rfl, rfl, rfl, rfl, rfl⟩ := h
  have sa := fun w => carouselref1_size.calls a0 x w hx
  have sb := fun w => carouselref1_size.calls a1 y w hy
  have s1 := fun w => carouselref1_plus.calls _ _ _ _ _ _ _ _ p0 p1 p2 p3 w hp
  have s2 := fun w => carouselref1_plus.calls _ _ _ _ _ _ _ _ q0 q1 q2 q3 w hq
  clear hx hy hp hq
  have hu49 := Try.underlying49
  have hu51 := Try.underlying51
  have hu70 := Try.underlying70
  have hix0 := carouselref1_Times.ix0
  have hix1 := carouselref1_Times.ix1
  have SA := Aside0.mk sa
  have SB := Aside0.mk sb
  have S1 := Aside0.mk s1
  have S2 := Aside0.mk s2
  clear sa sb s1 s2
  go_enter Try.func35, Try.ntmps35
  go_wp2_with (first | ((with_reducible refine gate_dst (N := 15) rfl ?_); refine goesL_ (some 15) rfl rfl Try.func56 (by kernel_rfl) rfl #[.int .i64 a0] rfl (by (try simp only [List.map_toArray, List.map_cons, List.map_nil]); first | done | rfl) ?_; (with_reducible refine (SA.out _).mono ?_); rintro e w' ⟨rfl, ⟨nd, rfl⟩⟩; refine ⟨_, rfl, ?_⟩) | ((with_reducible refine gate_dst (N := 17) rfl ?_); refine goesL_ (some 17) rfl rfl Try.func56 (by kernel_rfl) rfl #[.int .i64 a1] rfl (by (try simp only [List.map_toArray, List.map_cons, List.map_nil]); first | done | rfl) ?_; (with_reducible refine (SB.out _).mono ?_); rintro e w' ⟨rfl, ⟨nd, rfl⟩⟩; refine ⟨_, rfl, ?_⟩))
  refine wp_loop_rounds 3 ?_
  rw [rounds_succ]
  go_wp2_with (((with_reducible refine gate_dst (N := 49) rfl ?_); refine goesL_ (some 49) rfl rfl Try.func55 (by kernel_rfl) rfl #[.agg #[.int .u64 (IntKind.u64.wrap (Go.bits .and .u64 x 4294967295 * Go.bits .and .u64 y 4294967295)), .int .u64 (IntKind.u64.wrap (x / 4294967296 * (y / 4294967296))), .int .u64 0, .int .u64 0], .agg #[.int .u64 (IntKind.u64.wrap (IntKind.u64.wrap (Go.bits .and .u64 x 4294967295 * (y / 4294967296)) * 4294967296)), .int .u64 (IntKind.u64.wrap (Go.bits .and .u64 x 4294967295 * (y / 4294967296)) / 4294967296), .int .u64 0, .int .u64 0]] rfl (by (try simp only [List.map_toArray, List.map_cons, List.map_nil]); first | done | rfl) ?_; (with_reducible refine (S1.out _).mono ?_); rintro e w4 ⟨rfl, hb⟩; refine ⟨_, rfl, ?_⟩; have F4 := Aside0.mk (tm_start_ w _ _ _ _ w4 hb); clear hb; have hc4_0 : w4.cell? ⟨w.heap.size + 1, 0, none⟩ = some (.int .u64 (IntKind.u64.wrap (Go.bits .and .u64 x 4294967295 * Go.bits .and .u64 y 4294967295))) := (blk_cell F4.out.1 0).trans rfl; have hf4_0 := blk_frozen F4.out.1 0; have hc4_1 : w4.cell? ⟨w.heap.size + 1, 1, none⟩ = some (.int .u64 (IntKind.u64.wrap (x / 4294967296 * (y / 4294967296)))) := (blk_cell F4.out.1 1).trans rfl; have hf4_1 := blk_frozen F4.out.1 1; have hc4_2 : w4.cell? ⟨w.heap.size + 1, 2, none⟩ = some (.int .u64 0) := (blk_cell F4.out.1 2).trans rfl; have hf4_2 := blk_frozen F4.out.1 2; have hc4_3 : w4.cell? ⟨w.heap.size + 1, 3, none⟩ = some (.int .u64 0) := (blk_cell F4.out.1 3).trans rfl; have hf4_3 := blk_frozen F4.out.1 3))
  generalize hW : ((((w4.setCell ⟨w.heap.size + 1, 0, none⟩ (.int .u64 p0)).setCell ⟨w.heap.size + 1, 1, none⟩ (.int .u64 p1)).setCell ⟨w.heap.size + 1, 2, none⟩ (.int .u64 p2)).setCell ⟨w.heap.size + 1, 3, none⟩ (.int .u64 p3)) = w5
  have F5 := Aside0.mk (tm_step_ w w4 (w.heap.size + 1) _ _ _ _ _ _ _ _ _ _ rfl F4.out.1 F4.out.2.1 F4.out.2.2 w5 hW)
  clear hW hc4_0 hc4_1 hc4_2 hc4_3 hf4_0 hf4_1 hf4_2 hf4_3
  have hc5_0 : w5.cell? ⟨w.heap.size + 1, 0, none⟩ = some (.int .u64 p0) := (blk_cell F5.out.1 0).trans rfl
  have hf5_0 := blk_frozen F5.out.1 0
  have hc5_1 : w5.cell? ⟨w.heap.size + 1, 1, none⟩ = some (.int .u64 p1) := (blk_cell F5.out.1 1).trans rfl
  have hf5_1 := blk_frozen F5.out.1 1
  have hc5_2 : w5.cell? ⟨w.heap.size + 1, 2, none⟩ = some (.int .u64 p2) := (blk_cell F5.out.1 2).trans rfl
  have hf5_2 := blk_frozen F5.out.1 2
  have hc5_3 : w5.cell? ⟨w.heap.size + 1, 3, none⟩ = some (.int .u64 p3) := (blk_cell F5.out.1 3).trans rfl
  have hf5_3 := blk_frozen F5.out.1 3
  rw [rounds_succ]
  go_wp2_with (((with_reducible refine gate_dst (N := 49) rfl ?_); refine goesL_ (some 49) rfl rfl Try.func55 (by kernel_rfl) rfl #[.agg #[.int .u64 p0, .int .u64 p1, .int .u64 p2, .int .u64 p3], .agg #[.int .u64 (IntKind.u64.wrap (IntKind.u64.wrap (x / 4294967296 * Go.bits .and .u64 y 4294967295) * 4294967296)), .int .u64 (IntKind.u64.wrap (x / 4294967296 * Go.bits .and .u64 y 4294967295) / 4294967296), .int .u64 0, .int .u64 0]] rfl (by (try simp only [List.map_toArray, List.map_cons, List.map_nil]); first | done | rfl) ?_; (with_reducible refine (S2.out _).mono ?_); rintro e w6 ⟨rfl, hb⟩; refine ⟨_, rfl, ?_⟩; have F6 := Aside0.mk (tm_call_ w w5 w6 (w.heap.size + 1) _ _ F5.out.1 F5.out.2.1 F5.out.2.2 hb); clear hb; have hc6_0 : w6.cell? ⟨w.heap.size + 1, 0, none⟩ = some (.int .u64 p0) := (blk_cell F6.out.1 0).trans rfl; have hf6_0 := blk_frozen F6.out.1 0; have hc6_1 : w6.cell? ⟨w.heap.size + 1, 1, none⟩ = some (.int .u64 p1) := (blk_cell F6.out.1 1).trans rfl; have hf6_1 := blk_frozen F6.out.1 1; have hc6_2 : w6.cell? ⟨w.heap.size + 1, 2, none⟩ = some (.int .u64 p2) := (blk_cell F6.out.1 2).trans rfl; have hf6_2 := blk_frozen F6.out.1 2; have hc6_3 : w6.cell? ⟨w.heap.size + 1, 3, none⟩ = some (.int .u64 p3) := (blk_cell F6.out.1 3).trans rfl; have hf6_3 := blk_frozen F6.out.1 3))
  generalize hW : ((((w6.setCell ⟨w.heap.size + 1, 0, none⟩ (.int .u64 q0)).setCell ⟨w.heap.size + 1, 1, none⟩ (.int .u64 q1)).setCell ⟨w.heap.size + 1, 2, none⟩ (.int .u64 q2)).setCell ⟨w.heap.size + 1, 3, none⟩ (.int .u64 q3)) = w7
  have F7 := Aside0.mk (tm_step_ w w6 (w.heap.size + 1) _ _ _ _ _ _ _ _ _ _ rfl F6.out.1 F6.out.2.1 F6.out.2.2 w7 hW)
  clear hW
  have hc7_0 : w7.cell? ⟨w.heap.size + 1, 0, none⟩ = some (.int .u64 q0) := (blk_cell F7.out.1 0).trans rfl
  have hf7_0 := blk_frozen F7.out.1 0
  have hc7_1 : w7.cell? ⟨w.heap.size + 1, 1, none⟩ = some (.int .u64 q1) := (blk_cell F7.out.1 1).trans rfl
  have hf7_1 := blk_frozen F7.out.1 1
  have hc7_2 : w7.cell? ⟨w.heap.size + 1, 2, none⟩ = some (.int .u64 q2) := (blk_cell F7.out.1 2).trans rfl
  have hf7_2 := blk_frozen F7.out.1 2
  have hc7_3 : w7.cell? ⟨w.heap.size + 1, 3, none⟩ = some (.int .u64 q3) := (blk_cell F7.out.1 3).trans rfl
  have hf7_3 := blk_frozen F7.out.1 3
  have hr_0 : w7.cell? ⟨w.heap.size, 0, none⟩ = some (.bool false) := (blk_cell F7.out.2.1 0).trans rfl
  have hq_0 := blk_frozen F7.out.2.1 0
  have hr_1 : w7.cell? ⟨w.heap.size, 1, none⟩ = some (.int .u64 0) := (blk_cell F7.out.2.1 1).trans rfl
  have hq_1 := blk_frozen F7.out.2.1 1
  have hr_2 : w7.cell? ⟨w.heap.size, 2, none⟩ = some (.int .u64 0) := (blk_cell F7.out.2.1 2).trans rfl
  have hq_2 := blk_frozen F7.out.2.1 2
  have hr_3 : w7.cell? ⟨w.heap.size, 3, none⟩ = some (.int .u64 0) := (blk_cell F7.out.2.1 3).trans rfl
  have hq_3 := blk_frozen F7.out.2.1 3
  have hr_4 : w7.cell? ⟨w.heap.size, 4, none⟩ = some (.int .u64 0) := (blk_cell F7.out.2.1 4).trans rfl
  have hq_4 := blk_frozen F7.out.2.1 4
  rw [rounds_succ]
  go_wp2
  have E := tm_end_ w w7 51 _ _ _ _ _ (.bool (!(decide (a0 < 0) == decide (a1 < 0)))) (.int .u64 q0) (.int .u64 q1) (.int .u64 q2) (.int .u64 q3) F7.out.2.1 F7.out.2.2
  exact bodyPost_ret (results_cell_row rfl _ _ w.heap.size 51 #[.bool (!(decide (a0 < 0) == decide (a1 < 0))), .int .u64 q0, .int .u64 q1, .int .u64 q2, .int .u64 q3] (0, 0) _ rfl E.1 hu51 rfl (by kernel_rfl)) rfl ⟨rfl, E.2⟩

/-! ### carouselref1_Mul: function 15 -/
def carouselref1_Mul.f (k : Nat) (a0 : Int) (a1 : Int) : Option (Int) := (carouselref1_Times.f a0 a1).bind fun bt132 => ((carouselref1_Halved.f bt132.1 bt132.2.1 bt132.2.2.1 bt132.2.2.2.1 bt132.2.2.2.2 32).bind fun bt137 => ((carouselref1_Held.f k bt137.1 bt137.2.1 bt137.2.2.1 bt137.2.2.2.1 bt137.2.2.2.2).bind fun t142 => (some t142)))
theorem carouselref1_Mul.mono : ∀ a0 a1 k, LeO (carouselref1_Mul.f k a0 a1) (carouselref1_Mul.f (k + 1) a0 a1) := by
  intro a0 a1 k
  unfold carouselref1_Mul.f
  repeat' first
      | (with_reducible exact carouselref1_Held.mono _ _ _ _ _ _)
      | (with_reducible exact LeO.refl _)
      | (with_reducible exact LeO.none _)
      | (with_reducible refine LeO.ite ?_ ?_)
      | (with_reducible refine LeO.bind ?_ (fun _ => ?_))
      | exact carouselref1_Held.mono _ _ _ _ _ _
      | exact LeO.none _
      | refine LeO.ite ?_ ?_
      | refine LeO.bind ?_ (fun _ => ?_)
set_option maxHeartbeats 8000000 in
set_option maxRecDepth 100000 in
theorem carouselref1_Mul.calls (k : Nat) (a0 : Int) (a1 : Int) (r : Int) (w : World) (h : carouselref1_Mul.f k a0 a1 = some r) :
    Calls Try.prog 15 #[.int .i64 a0, .int .i64 a1] w fun e w' => e = .returned (.int .i64 r) ∧ Below w.heap.size w w' := by
  have HB := Aside0.mk (Below.refl w.heap.size w)
  have H : ((carouselref1_Times.f a0 a1).bind fun bt132 => ((carouselref1_Halved.f bt132.1 bt132.2.1 bt132.2.2.1 bt132.2.2.2.1 bt132.2.2.2.2 32).bind fun bt137 => ((carouselref1_Held.f k bt137.1 bt137.2.1 bt137.2.2.1 bt137.2.2.2.1 bt137.2.2.2.2).bind fun t142 => (some t142)))) = some r := h
  clear h
  replace H := Option.bind_eq_some_iff.mp H
  obtain ⟨⟨t132, t133, t134, t135, t136⟩, A30, H⟩ := H
  replace H : ((carouselref1_Halved.f t132 t133 t134 t135 t136 32).bind fun bt137 => ((carouselref1_Held.f k bt137.1 bt137.2.1 bt137.2.2.1 bt137.2.2.2.1 bt137.2.2.2.2).bind fun t142 => (some t142))) = some r := H
  have A3 := Aside0.mk A30
  clear A30
  replace H := Option.bind_eq_some_iff.mp H
  obtain ⟨⟨t137, t138, t139, t140, t141⟩, A40, H⟩ := H
  replace H : ((carouselref1_Held.f k t137 t138 t139 t140 t141).bind fun t142 => (some t142)) = some r := H
  have A4 := Aside0.mk A40
  clear A40
  replace H := Option.bind_eq_some_iff.mp H
  obtain ⟨t142, A50, H⟩ := H
  replace H : (some t142) = some r := H
  have A5 := Aside0.mk A50
  clear A50
  obtain rfl := Option.some.inj H
  go_enter Try.func15, Try.ntmps15
  go_wp2_with (first | ((with_reducible refine gate_callee (f := 35) rfl ?_); refine goesL_ (some 7) rfl rfl Try.func35 (by kernel_rfl) rfl #[.int .i64 a0, .int .i64 a1] rfl (by (try simp only [List.map_toArray, List.map_cons, List.map_nil]); first | done | rfl | (simp only [List.length_drop, List.length_take]; rfl)) ?_; (with_reducible refine (carouselref1_Times.calls a0 a1 t132 t133 t134 t135 t136 _ A3.out).mono ?_); rintro e w6 ⟨rfl, hb⟩; refine ⟨_, rfl, ?_⟩; have n0_ := Aside0.mk (below_step (by repeat (first | (with_reducible first | exact HB.out | apply below_alloc | apply pw_below_drewN | apply below_drew1) | exact HB.out)) hb); clear HB; have HB := n0_; clear n0_; (try clear hb); (try clear hb2); (try clear hk); (try clear hi)) | ((with_reducible refine gate_callee (f := 34) rfl ?_); refine goesL_ (some 8) rfl rfl Try.func34 (by kernel_rfl) rfl #[.agg #[.bool t132, .int .u64 t133, .int .u64 t134, .int .u64 t135, .int .u64 t136], .int .i64 32] rfl (by (try simp only [List.map_toArray, List.map_cons, List.map_nil]); first | done | rfl | (simp only [List.length_drop, List.length_take]; rfl)) ?_; (with_reducible refine (carouselref1_Halved.calls t132 t133 t134 t135 t136 32 t137 t138 t139 t140 t141 _ A4.out).mono ?_); rintro e w7 ⟨rfl, hb⟩; refine ⟨_, rfl, ?_⟩; have n0_ := Aside0.mk (below_step (by repeat (first | (with_reducible first | exact HB.out | apply below_alloc | apply pw_below_drewN | apply below_drew1) | exact HB.out)) hb); clear HB; have HB := n0_; clear n0_; (try clear hb); (try clear hb2); (try clear hk); (try clear hi)) | ((with_reducible refine gate_callee (f := 33) rfl ?_); refine goesL_ (some 9) rfl rfl Try.func33 (by kernel_rfl) rfl #[.agg #[.bool t137, .int .u64 t138, .int .u64 t139, .int .u64 t140, .int .u64 t141]] rfl (by (try simp only [List.map_toArray, List.map_cons, List.map_nil]); first | done | rfl | (simp only [List.length_drop, List.length_take]; rfl)) ?_; (with_reducible refine (carouselref1_Held.calls k t137 t138 t139 t140 t141 t142 _ A5.out).mono ?_); rintro e w8 ⟨rfl, hb⟩; refine ⟨_, rfl, ?_⟩; have n0_ := Aside0.mk (below_step (by repeat (first | (with_reducible first | exact HB.out | apply below_alloc | apply pw_below_drewN | apply below_drew1) | exact HB.out)) hb); clear HB; have HB := n0_; clear n0_; (try clear hb); (try clear hb2); (try clear hk); (try clear hi)))
  go_ret
  exact ⟨by first | rfl | (simp [errW_none, errW_some] <;> rfl) | (simp [*, errW_none, errW_some] <;> rfl), by repeat (first | (with_reducible first | exact HB.out | apply below_alloc | apply pw_below_drewN | apply below_drew1) | exact HB.out)⟩

/-! ### carousellaw9_ActSlopes: function 5 -/
def carousellaw9_ActSlopes.j0 : Nat → Int → Int → Int → Bool → Option (Bool)
  | 0, _, _, _, _ => none
  | k + 1, x0, x1, x2, x39 => if x39 = true then (some true) else ((act_Of.f k x0 x1).bind fun bt144 => ((act_Of.f k x0 x2).bind fun bt146 => ((act_Slope.f k x0 x1).bind fun bt148 => ((act_Slope.f k x0 x2).bind fun bt150 => (if bt148.1 = bt150.1 then (if x1 < 0 then (if x2 > 0 then (if x0 = 3 then (if x1 ≤ (-4294967296) then (if x2 ≥ 4294967296 then (some true) else ((carouselref1_Mul.f k (wrap64 (x2 - x1)) bt148.1).bind fun t152 => (some ((wrap64 (bt146.1 - bt144.1)) == t152)))) else ((carouselref1_Mul.f k (wrap64 (x2 - x1)) bt148.1).bind fun t153 => (some ((wrap64 (bt146.1 - bt144.1)) == t153)))) else (some true)) else (if x1 ≤ (-4294967296) then (if x2 ≥ 4294967296 then (some true) else ((carouselref1_Mul.f k (wrap64 (x2 - x1)) bt148.1).bind fun t154 => (some ((wrap64 (bt146.1 - bt144.1)) == t154)))) else ((carouselref1_Mul.f k (wrap64 (x2 - x1)) bt148.1).bind fun t155 => (some ((wrap64 (bt146.1 - bt144.1)) == t155))))) else (if x1 ≤ (-4294967296) then (if x2 ≥ 4294967296 then (some true) else ((carouselref1_Mul.f k (wrap64 (x2 - x1)) bt148.1).bind fun t156 => (some ((wrap64 (bt146.1 - bt144.1)) == t156)))) else ((carouselref1_Mul.f k (wrap64 (x2 - x1)) bt148.1).bind fun t157 => (some ((wrap64 (bt146.1 - bt144.1)) == t157))))) else (some true))))))
def carousellaw9_ActSlopes.f (k : Nat) (a0 : Int) (a1 : Int) (a2 : Int) : Option (Bool) := (carousellaw9_awake.f k).bind fun t143 => (if t143 = true then (if a0 = 1 then (if a1 ≥ a2 then (carousellaw9_ActSlopes.j0 k a0 a1 a2 true) else (if a1 < (-1152921504606846976) then (carousellaw9_ActSlopes.j0 k a0 a1 a2 true) else (carousellaw9_ActSlopes.j0 k a0 a1 a2 (decide (a2 > 1152921504606846976))))) else (if a0 = 3 then (if a1 ≥ a2 then (carousellaw9_ActSlopes.j0 k a0 a1 a2 true) else (if a1 < (-1152921504606846976) then (carousellaw9_ActSlopes.j0 k a0 a1 a2 true) else (carousellaw9_ActSlopes.j0 k a0 a1 a2 (decide (a2 > 1152921504606846976))))) else (if a0 = 4 then (if a1 ≥ a2 then (carousellaw9_ActSlopes.j0 k a0 a1 a2 true) else (if a1 < (-1152921504606846976) then (carousellaw9_ActSlopes.j0 k a0 a1 a2 true) else (carousellaw9_ActSlopes.j0 k a0 a1 a2 (decide (a2 > 1152921504606846976))))) else (carousellaw9_ActSlopes.j0 k a0 a1 a2 true)))) else (none))
theorem carousellaw9_ActSlopes.mono_l : ∀ k, (∀ y0 y1 y2 y3, LeO (carousellaw9_ActSlopes.j0 k y0 y1 y2 y3) (carousellaw9_ActSlopes.j0 (k + 1) y0 y1 y2 y3))
  | 0 => fun _ _ _ _ r h => by simp [carousellaw9_ActSlopes.j0] at h
  | k + 1 => by
    have ih0 := carousellaw9_ActSlopes.mono_l k
    · intro y0 y1 y2 y3
      unfold carousellaw9_ActSlopes.j0
      repeat' first
      | (with_reducible exact ih0 _ _ _ _)
      | (with_reducible exact act_Of.mono _ _ _)
      | (with_reducible exact act_Slope.mono _ _ _)
      | (with_reducible exact carousellaw9_awake.mono _)
      | (with_reducible exact carouselref1_Mul.mono _ _ _)
      | (with_reducible exact LeO.refl _)
      | (with_reducible exact LeO.none _)
      | (with_reducible refine LeO.ite ?_ ?_)
      | (with_reducible refine LeO.bind ?_ (fun _ => ?_))
      | exact ih0 _ _ _ _
      | exact act_Of.mono _ _ _
      | exact act_Slope.mono _ _ _
      | exact carousellaw9_awake.mono _
      | exact carouselref1_Mul.mono _ _ _
      | exact LeO.none _
      | refine LeO.ite ?_ ?_
      | refine LeO.bind ?_ (fun _ => ?_)
theorem carousellaw9_ActSlopes.mono : ∀ a0 a1 a2 k, LeO (carousellaw9_ActSlopes.f k a0 a1 a2) (carousellaw9_ActSlopes.f (k + 1) a0 a1 a2) := by
  intro a0 a1 a2 k
  have ih0 := carousellaw9_ActSlopes.mono_l k
  unfold carousellaw9_ActSlopes.f
  repeat' first
      | (with_reducible exact ih0 _ _ _ _)
      | (with_reducible exact act_Of.mono _ _ _)
      | (with_reducible exact act_Slope.mono _ _ _)
      | (with_reducible exact carousellaw9_awake.mono _)
      | (with_reducible exact carouselref1_Mul.mono _ _ _)
      | (with_reducible exact LeO.refl _)
      | (with_reducible exact LeO.none _)
      | (with_reducible refine LeO.ite ?_ ?_)
      | (with_reducible refine LeO.bind ?_ (fun _ => ?_))
      | exact ih0 _ _ _ _
      | exact act_Of.mono _ _ _
      | exact act_Slope.mono _ _ _
      | exact carousellaw9_awake.mono _
      | exact carouselref1_Mul.mono _ _ _
      | exact LeO.none _
      | refine LeO.ite ?_ ?_
      | refine LeO.bind ?_ (fun _ => ?_)
set_option maxHeartbeats 8000000 in
set_option maxRecDepth 100000 in
theorem carousellaw9_ActSlopes.calls (k : Nat) (a0 : Int) (a1 : Int) (a2 : Int) (r : Bool) (w : World) (h : carousellaw9_ActSlopes.f k a0 a1 a2 = some r) :
    Calls Try.prog 5 #[.int .i64 a0, .int .i64 a1, .int .i64 a2] w fun e w' => e = .returned (.bool r) ∧ Below w.heap.size w w' := by
  have HB := Aside0.mk (Below.refl w.heap.size w)
  have H : ((carousellaw9_awake.f k).bind fun t143 => (if t143 = true then (if a0 = 1 then (if a1 ≥ a2 then (carousellaw9_ActSlopes.j0 k a0 a1 a2 true) else (if a1 < (-1152921504606846976) then (carousellaw9_ActSlopes.j0 k a0 a1 a2 true) else (carousellaw9_ActSlopes.j0 k a0 a1 a2 (decide (a2 > 1152921504606846976))))) else (if a0 = 3 then (if a1 ≥ a2 then (carousellaw9_ActSlopes.j0 k a0 a1 a2 true) else (if a1 < (-1152921504606846976) then (carousellaw9_ActSlopes.j0 k a0 a1 a2 true) else (carousellaw9_ActSlopes.j0 k a0 a1 a2 (decide (a2 > 1152921504606846976))))) else (if a0 = 4 then (if a1 ≥ a2 then (carousellaw9_ActSlopes.j0 k a0 a1 a2 true) else (if a1 < (-1152921504606846976) then (carousellaw9_ActSlopes.j0 k a0 a1 a2 true) else (carousellaw9_ActSlopes.j0 k a0 a1 a2 (decide (a2 > 1152921504606846976))))) else (carousellaw9_ActSlopes.j0 k a0 a1 a2 true)))) else (none))) = some r := h
  clear h
  replace H := Option.bind_eq_some_iff.mp H
  obtain ⟨t143, A40, H⟩ := H
  replace H : (if t143 = true then (if a0 = 1 then (if a1 ≥ a2 then (carousellaw9_ActSlopes.j0 k a0 a1 a2 true) else (if a1 < (-1152921504606846976) then (carousellaw9_ActSlopes.j0 k a0 a1 a2 true) else (carousellaw9_ActSlopes.j0 k a0 a1 a2 (decide (a2 > 1152921504606846976))))) else (if a0 = 3 then (if a1 ≥ a2 then (carousellaw9_ActSlopes.j0 k a0 a1 a2 true) else (if a1 < (-1152921504606846976) then (carousellaw9_ActSlopes.j0 k a0 a1 a2 true) else (carousellaw9_ActSlopes.j0 k a0 a1 a2 (decide (a2 > 1152921504606846976))))) else (if a0 = 4 then (if a1 ≥ a2 then (carousellaw9_ActSlopes.j0 k a0 a1 a2 true) else (if a1 < (-1152921504606846976) then (carousellaw9_ActSlopes.j0 k a0 a1 a2 true) else (carousellaw9_ActSlopes.j0 k a0 a1 a2 (decide (a2 > 1152921504606846976))))) else (carousellaw9_ActSlopes.j0 k a0 a1 a2 true)))) else (none)) = some r := H
  have A4 := Aside0.mk A40
  clear A40
  by_cases c5 : t143 = true
  · subst c5
    have H1 : (if a0 = 1 then (if a1 ≥ a2 then (carousellaw9_ActSlopes.j0 k a0 a1 a2 true) else (if a1 < (-1152921504606846976) then (carousellaw9_ActSlopes.j0 k a0 a1 a2 true) else (carousellaw9_ActSlopes.j0 k a0 a1 a2 (decide (a2 > 1152921504606846976))))) else (if a0 = 3 then (if a1 ≥ a2 then (carousellaw9_ActSlopes.j0 k a0 a1 a2 true) else (if a1 < (-1152921504606846976) then (carousellaw9_ActSlopes.j0 k a0 a1 a2 true) else (carousellaw9_ActSlopes.j0 k a0 a1 a2 (decide (a2 > 1152921504606846976))))) else (if a0 = 4 then (if a1 ≥ a2 then (carousellaw9_ActSlopes.j0 k a0 a1 a2 true) else (if a1 < (-1152921504606846976) then (carousellaw9_ActSlopes.j0 k a0 a1 a2 true) else (carousellaw9_ActSlopes.j0 k a0 a1 a2 (decide (a2 > 1152921504606846976))))) else (carousellaw9_ActSlopes.j0 k a0 a1 a2 true)))) = some r := by rw [if_pos rfl] at H; exact H
    clear H
    have H := H1
    clear H1
    have HC6 := Aside0.mk H
    clear H
    go_enter Try.func5, Try.ntmps5
    go_upto_region 3 with (first | ((with_reducible refine gate_callee (f := 10) rfl ?_); refine goesL_ (some 15) rfl rfl Try.func10 (by kernel_rfl) rfl #[] rfl (by (try simp only [List.map_toArray, List.map_cons, List.map_nil]); first | done | rfl | (simp only [List.length_drop, List.length_take]; rfl)) ?_; (with_reducible refine (carousellaw9_awake.calls k  true _ A4.out).mono ?_); rintro e w7 ⟨rfl, hb⟩; refine ⟨_, rfl, ?_⟩; have n0_ := Aside0.mk (below_step (by repeat (first | (with_reducible first | exact HB.out | apply below_alloc | apply pw_below_drewN | apply below_drew1) | exact HB.out)) hb); clear HB; have HB := n0_; clear n0_; (try clear hb); (try clear hb2); (try clear hk); (try clear hi)))
    (try simp only [Act.put, List.setIfInBounds_toArray, List.set_cons_zero, List.set_cons_succ])
    go_cut [39] (fun v39 wc => ∃ (kq : Nat) (x39_5 : Bool), v39 = .bool x39_5 ∧ Aside0 (carousellaw9_ActSlopes.j0 kq a0 a1 a2 x39_5 = some r) ∧ Aside0 (kq ≤ k) ∧ Aside0 (Below w.heap.size w wc))
    case first =>
      have H := HC6.out
      clear HC6
      by_cases c8 : a0 = 1
      · rw [if_pos c8] at H
        have c8b0 : (a0 == 1) = true := beq_iff_eq.mpr c8
        have c8b1 : (a0 != 1) = false := bne_eq_false_iff_eq.mpr c8
        clear c8
        (first | rw [c8b0] | (simp only [i64_w, i32_w]; rw [c8b0]) | skip)
        by_cases c9 : a1 ≥ a2
        · rw [if_pos c9] at H
          have c9b0 : decide (a2 ≤ a1) = true := decide_eq_true c9
          clear c9
          have H' := Aside0.mk H
          clear H
          go_wp2
          go_meet
          case rel => exact ⟨_, (true), (by first | rfl | (simp; done) | (simp [*]; done)), H', ⟨by first | omega | exact Nat.le_refl _⟩, ⟨by repeat (first | (with_reducible first | exact HB.out | apply below_alloc | apply pw_below_drewN | apply below_drew1) | exact HB.out)⟩⟩
        · rw [if_neg c9] at H
          have c9b0 : decide (a2 ≤ a1) = false := decide_eq_false c9
          clear c9
          by_cases c10 : a1 < (-1152921504606846976)
          · rw [if_pos c10] at H
            have c10b0 : decide (a1 < (-1152921504606846976)) = true := decide_eq_true c10
            clear c10
            have H' := Aside0.mk H
            clear H
            go_wp2
            go_meet
            case rel => exact ⟨_, (true), (by first | rfl | (simp; done) | (simp [*]; done)), H', ⟨by first | omega | exact Nat.le_refl _⟩, ⟨by repeat (first | (with_reducible first | exact HB.out | apply below_alloc | apply pw_below_drewN | apply below_drew1) | exact HB.out)⟩⟩
          · rw [if_neg c10] at H
            have c10b0 : decide (a1 < (-1152921504606846976)) = false := decide_eq_false c10
            clear c10
            have H' := Aside0.mk H
            clear H
            go_wp2
            go_meet
            case rel => exact ⟨_, (decide (a2 > 1152921504606846976)), (by first | rfl | (simp; done) | (simp [*]; done)), H', ⟨by first | omega | exact Nat.le_refl _⟩, ⟨by repeat (first | (with_reducible first | exact HB.out | apply below_alloc | apply pw_below_drewN | apply below_drew1) | exact HB.out)⟩⟩
      · rw [if_neg c8] at H
        have c8b0 : (a0 == 1) = false := beq_eq_false_iff_ne.mpr c8
        have c8b1 : (a0 != 1) = true := bne_iff_ne.mpr c8
        (first | rw [c8b0] | (simp only [i64_w, i32_w]; rw [c8b0]) | skip)
        by_cases c11 : a0 = 3
        · rw [if_pos c11] at H
          have c11b0 : (a0 == 3) = true := beq_iff_eq.mpr c11
          have c11b1 : (a0 != 3) = false := bne_eq_false_iff_eq.mpr c11
          clear c11
          by_cases c12 : a1 ≥ a2
          · rw [if_pos c12] at H
            have c12b0 : decide (a2 ≤ a1) = true := decide_eq_true c12
            clear c12
            have H' := Aside0.mk H
            clear H
            go_wp2
            go_meet
            case rel => exact ⟨_, (true), (by first | rfl | (simp; done) | (simp [*]; done)), H', ⟨by first | omega | exact Nat.le_refl _⟩, ⟨by repeat (first | (with_reducible first | exact HB.out | apply below_alloc | apply pw_below_drewN | apply below_drew1) | exact HB.out)⟩⟩
          · rw [if_neg c12] at H
            have c12b0 : decide (a2 ≤ a1) = false := decide_eq_false c12
            clear c12
            by_cases c13 : a1 < (-1152921504606846976)
            · rw [if_pos c13] at H
              have c13b0 : decide (a1 < (-1152921504606846976)) = true := decide_eq_true c13
              clear c13
              have H' := Aside0.mk H
              clear H
              go_wp2
              go_meet
              case rel => exact ⟨_, (true), (by first | rfl | (simp; done) | (simp [*]; done)), H', ⟨by first | omega | exact Nat.le_refl _⟩, ⟨by repeat (first | (with_reducible first | exact HB.out | apply below_alloc | apply pw_below_drewN | apply below_drew1) | exact HB.out)⟩⟩
            · rw [if_neg c13] at H
              have c13b0 : decide (a1 < (-1152921504606846976)) = false := decide_eq_false c13
              clear c13
              have H' := Aside0.mk H
              clear H
              go_wp2
              go_meet
              case rel => exact ⟨_, (decide (a2 > 1152921504606846976)), (by first | rfl | (simp; done) | (simp [*]; done)), H', ⟨by first | omega | exact Nat.le_refl _⟩, ⟨by repeat (first | (with_reducible first | exact HB.out | apply below_alloc | apply pw_below_drewN | apply below_drew1) | exact HB.out)⟩⟩
        · rw [if_neg c11] at H
          have c11b0 : (a0 == 3) = false := beq_eq_false_iff_ne.mpr c11
          have c11b1 : (a0 != 3) = true := bne_iff_ne.mpr c11
          by_cases c14 : a0 = 4
          · rw [if_pos c14] at H
            have c14b0 : (a0 == 4) = true := beq_iff_eq.mpr c14
            have c14b1 : (a0 != 4) = false := bne_eq_false_iff_eq.mpr c14
            clear c14
            by_cases c15 : a1 ≥ a2
            · rw [if_pos c15] at H
              have c15b0 : decide (a2 ≤ a1) = true := decide_eq_true c15
              clear c15
              have H' := Aside0.mk H
              clear H
              go_wp2
              go_meet
              case rel => exact ⟨_, (true), (by first | rfl | (simp; done) | (simp [*]; done)), H', ⟨by first | omega | exact Nat.le_refl _⟩, ⟨by repeat (first | (with_reducible first | exact HB.out | apply below_alloc | apply pw_below_drewN | apply below_drew1) | exact HB.out)⟩⟩
            · rw [if_neg c15] at H
              have c15b0 : decide (a2 ≤ a1) = false := decide_eq_false c15
              clear c15
              by_cases c16 : a1 < (-1152921504606846976)
              · rw [if_pos c16] at H
                have c16b0 : decide (a1 < (-1152921504606846976)) = true := decide_eq_true c16
                clear c16
                have H' := Aside0.mk H
                clear H
                go_wp2
                go_meet
                case rel => exact ⟨_, (true), (by first | rfl | (simp; done) | (simp [*]; done)), H', ⟨by first | omega | exact Nat.le_refl _⟩, ⟨by repeat (first | (with_reducible first | exact HB.out | apply below_alloc | apply pw_below_drewN | apply below_drew1) | exact HB.out)⟩⟩
              · rw [if_neg c16] at H
                have c16b0 : decide (a1 < (-1152921504606846976)) = false := decide_eq_false c16
                clear c16
                have H' := Aside0.mk H
                clear H
                go_wp2
                go_meet
                case rel => exact ⟨_, (decide (a2 > 1152921504606846976)), (by first | rfl | (simp; done) | (simp [*]; done)), H', ⟨by first | omega | exact Nat.le_refl _⟩, ⟨by repeat (first | (with_reducible first | exact HB.out | apply below_alloc | apply pw_below_drewN | apply below_drew1) | exact HB.out)⟩⟩
          · rw [if_neg c14] at H
            have c14b0 : (a0 == 4) = false := beq_eq_false_iff_ne.mpr c14
            have c14b1 : (a0 != 4) = true := bne_iff_ne.mpr c14
            have H' := Aside0.mk H
            clear H
            go_wp2
            go_meet
            case rel => exact ⟨_, (true), (by first | rfl | (simp; done) | (simp [*]; done)), H', ⟨by first | omega | exact Nat.le_refl _⟩, ⟨by repeat (first | (with_reducible first | exact HB.out | apply below_alloc | apply pw_below_drewN | apply below_drew1) | exact HB.out)⟩⟩
    case rest =>
      clear HC6
      try clear c1
      try clear p2
      try clear c5
      try clear c8
      try clear c8b0
      try clear c8b1
      try clear c9
      try clear c9b0
      try clear c10
      try clear c10b0
      try clear c11
      try clear c11b0
      try clear c11b1
      try clear c12
      try clear c12b0
      try clear c13
      try clear c13b0
      try clear c14
      try clear c14b0
      try clear c14b1
      try clear c15
      try clear c15b0
      try clear c16
      try clear c16b0
      obtain ⟨kq, x39_5, rfl, HA, HJ5, HB⟩ := hcut
      cases kq with
      | zero => exact absurd HA.out (by simp [carousellaw9_ActSlopes.j0])
      | succ kj5 =>
        have H := HA.out
        clear HA
        simp only [carousellaw9_ActSlopes.j0] at H
        by_cases c17 : x39_5 = true
        · subst c17
          have H1 : (some true) = some r := by rw [if_pos rfl] at H; exact H
          clear H
          have H := H1
          clear H1
          obtain rfl := Option.some.inj H
          go_wp2
          go_ret
          exact ⟨by first | rfl | (simp [errW_none, errW_some] <;> rfl) | (simp [*, errW_none, errW_some] <;> rfl), by repeat (first | (with_reducible first | exact HB.out | apply below_alloc | apply pw_below_drewN | apply below_drew1) | exact HB.out)⟩
        · replace c17 := Bool.eq_false_iff.mpr c17
          subst c17
          have H1 : ((act_Of.f kj5 a0 a1).bind fun bt144 => ((act_Of.f kj5 a0 a2).bind fun bt146 => ((act_Slope.f kj5 a0 a1).bind fun bt148 => ((act_Slope.f kj5 a0 a2).bind fun bt150 => (if bt148.1 = bt150.1 then (if a1 < 0 then (if a2 > 0 then (if a0 = 3 then (if a1 ≤ (-4294967296) then (if a2 ≥ 4294967296 then (some true) else ((carouselref1_Mul.f kj5 (wrap64 (a2 - a1)) bt148.1).bind fun t152 => (some ((wrap64 (bt146.1 - bt144.1)) == t152)))) else ((carouselref1_Mul.f kj5 (wrap64 (a2 - a1)) bt148.1).bind fun t153 => (some ((wrap64 (bt146.1 - bt144.1)) == t153)))) else (some true)) else (if a1 ≤ (-4294967296) then (if a2 ≥ 4294967296 then (some true) else ((carouselref1_Mul.f kj5 (wrap64 (a2 - a1)) bt148.1).bind fun t154 => (some ((wrap64 (bt146.1 - bt144.1)) == t154)))) else ((carouselref1_Mul.f kj5 (wrap64 (a2 - a1)) bt148.1).bind fun t155 => (some ((wrap64 (bt146.1 - bt144.1)) == t155))))) else (if a1 ≤ (-4294967296) then (if a2 ≥ 4294967296 then (some true) else ((carouselref1_Mul.f kj5 (wrap64 (a2 - a1)) bt148.1).bind fun t156 => (some ((wrap64 (bt146.1 - bt144.1)) == t156)))) else ((carouselref1_Mul.f kj5 (wrap64 (a2 - a1)) bt148.1).bind fun t157 => (some ((wrap64 (bt146.1 - bt144.1)) == t157))))) else (some true)))))) = some r := by rw [if_neg (show ¬ (false = true) by decide)] at H; exact H
          clear H
          have H := H1
          clear H1
          replace H := Option.bind_eq_some_iff.mp H
          obtain ⟨⟨t144, t145⟩, A180, H⟩ := H
          replace H : ((act_Of.f kj5 a0 a2).bind fun bt146 => ((act_Slope.f kj5 a0 a1).bind fun bt148 => ((act_Slope.f kj5 a0 a2).bind fun bt150 => (if bt148.1 = bt150.1 then (if a1 < 0 then (if a2 > 0 then (if a0 = 3 then (if a1 ≤ (-4294967296) then (if a2 ≥ 4294967296 then (some true) else ((carouselref1_Mul.f kj5 (wrap64 (a2 - a1)) bt148.1).bind fun t152 => (some ((wrap64 (bt146.1 - t144)) == t152)))) else ((carouselref1_Mul.f kj5 (wrap64 (a2 - a1)) bt148.1).bind fun t153 => (some ((wrap64 (bt146.1 - t144)) == t153)))) else (some true)) else (if a1 ≤ (-4294967296) then (if a2 ≥ 4294967296 then (some true) else ((carouselref1_Mul.f kj5 (wrap64 (a2 - a1)) bt148.1).bind fun t154 => (some ((wrap64 (bt146.1 - t144)) == t154)))) else ((carouselref1_Mul.f kj5 (wrap64 (a2 - a1)) bt148.1).bind fun t155 => (some ((wrap64 (bt146.1 - t144)) == t155))))) else (if a1 ≤ (-4294967296) then (if a2 ≥ 4294967296 then (some true) else ((carouselref1_Mul.f kj5 (wrap64 (a2 - a1)) bt148.1).bind fun t156 => (some ((wrap64 (bt146.1 - t144)) == t156)))) else ((carouselref1_Mul.f kj5 (wrap64 (a2 - a1)) bt148.1).bind fun t157 => (some ((wrap64 (bt146.1 - t144)) == t157))))) else (some true))))) = some r := H
          have A18 := Aside0.mk A180
          clear A180
          replace H := Option.bind_eq_some_iff.mp H
          obtain ⟨⟨t146, t147⟩, A190, H⟩ := H
          replace H : ((act_Slope.f kj5 a0 a1).bind fun bt148 => ((act_Slope.f kj5 a0 a2).bind fun bt150 => (if bt148.1 = bt150.1 then (if a1 < 0 then (if a2 > 0 then (if a0 = 3 then (if a1 ≤ (-4294967296) then (if a2 ≥ 4294967296 then (some true) else ((carouselref1_Mul.f kj5 (wrap64 (a2 - a1)) bt148.1).bind fun t152 => (some ((wrap64 (t146 - t144)) == t152)))) else ((carouselref1_Mul.f kj5 (wrap64 (a2 - a1)) bt148.1).bind fun t153 => (some ((wrap64 (t146 - t144)) == t153)))) else (some true)) else (if a1 ≤ (-4294967296) then (if a2 ≥ 4294967296 then (some true) else ((carouselref1_Mul.f kj5 (wrap64 (a2 - a1)) bt148.1).bind fun t154 => (some ((wrap64 (t146 - t144)) == t154)))) else ((carouselref1_Mul.f kj5 (wrap64 (a2 - a1)) bt148.1).bind fun t155 => (some ((wrap64 (t146 - t144)) == t155))))) else (if a1 ≤ (-4294967296) then (if a2 ≥ 4294967296 then (some true) else ((carouselref1_Mul.f kj5 (wrap64 (a2 - a1)) bt148.1).bind fun t156 => (some ((wrap64 (t146 - t144)) == t156)))) else ((carouselref1_Mul.f kj5 (wrap64 (a2 - a1)) bt148.1).bind fun t157 => (some ((wrap64 (t146 - t144)) == t157))))) else (some true)))) = some r := H
          have A19 := Aside0.mk A190
          clear A190
          replace H := Option.bind_eq_some_iff.mp H
          obtain ⟨⟨t148, t149⟩, A200, H⟩ := H
          replace H : ((act_Slope.f kj5 a0 a2).bind fun bt150 => (if t148 = bt150.1 then (if a1 < 0 then (if a2 > 0 then (if a0 = 3 then (if a1 ≤ (-4294967296) then (if a2 ≥ 4294967296 then (some true) else ((carouselref1_Mul.f kj5 (wrap64 (a2 - a1)) t148).bind fun t152 => (some ((wrap64 (t146 - t144)) == t152)))) else ((carouselref1_Mul.f kj5 (wrap64 (a2 - a1)) t148).bind fun t153 => (some ((wrap64 (t146 - t144)) == t153)))) else (some true)) else (if a1 ≤ (-4294967296) then (if a2 ≥ 4294967296 then (some true) else ((carouselref1_Mul.f kj5 (wrap64 (a2 - a1)) t148).bind fun t154 => (some ((wrap64 (t146 - t144)) == t154)))) else ((carouselref1_Mul.f kj5 (wrap64 (a2 - a1)) t148).bind fun t155 => (some ((wrap64 (t146 - t144)) == t155))))) else (if a1 ≤ (-4294967296) then (if a2 ≥ 4294967296 then (some true) else ((carouselref1_Mul.f kj5 (wrap64 (a2 - a1)) t148).bind fun t156 => (some ((wrap64 (t146 - t144)) == t156)))) else ((carouselref1_Mul.f kj5 (wrap64 (a2 - a1)) t148).bind fun t157 => (some ((wrap64 (t146 - t144)) == t157))))) else (some true))) = some r := H
          have A20 := Aside0.mk A200
          clear A200
          replace H := Option.bind_eq_some_iff.mp H
          obtain ⟨⟨t150, t151⟩, A210, H⟩ := H
          replace H : (if t148 = t150 then (if a1 < 0 then (if a2 > 0 then (if a0 = 3 then (if a1 ≤ (-4294967296) then (if a2 ≥ 4294967296 then (some true) else ((carouselref1_Mul.f kj5 (wrap64 (a2 - a1)) t148).bind fun t152 => (some ((wrap64 (t146 - t144)) == t152)))) else ((carouselref1_Mul.f kj5 (wrap64 (a2 - a1)) t148).bind fun t153 => (some ((wrap64 (t146 - t144)) == t153)))) else (some true)) else (if a1 ≤ (-4294967296) then (if a2 ≥ 4294967296 then (some true) else ((carouselref1_Mul.f kj5 (wrap64 (a2 - a1)) t148).bind fun t154 => (some ((wrap64 (t146 - t144)) == t154)))) else ((carouselref1_Mul.f kj5 (wrap64 (a2 - a1)) t148).bind fun t155 => (some ((wrap64 (t146 - t144)) == t155))))) else (if a1 ≤ (-4294967296) then (if a2 ≥ 4294967296 then (some true) else ((carouselref1_Mul.f kj5 (wrap64 (a2 - a1)) t148).bind fun t156 => (some ((wrap64 (t146 - t144)) == t156)))) else ((carouselref1_Mul.f kj5 (wrap64 (a2 - a1)) t148).bind fun t157 => (some ((wrap64 (t146 - t144)) == t157))))) else (some true)) = some r := H
          have A21 := Aside0.mk A210
          clear A210
          by_cases c22 : t148 = t150
          · rw [if_pos c22] at H
            have c22b0 : (t148 == t150) = true := beq_iff_eq.mpr c22
            have c22b1 : (t148 != t150) = false := bne_eq_false_iff_eq.mpr c22
            clear c22
            by_cases c23 : a1 < 0
            · rw [if_pos c23] at H
              have c23b0 : decide (a1 < 0) = true := decide_eq_true c23
              clear c23
              by_cases c24 : a2 > 0
              · rw [if_pos c24] at H
                have c24b0 : decide (0 < a2) = true := decide_eq_true c24
                clear c24
                by_cases c25 : a0 = 3
                · rw [if_pos c25] at H
                  have c25b0 : (a0 == 3) = true := beq_iff_eq.mpr c25
                  have c25b1 : (a0 != 3) = false := bne_eq_false_iff_eq.mpr c25
                  clear c25
                  by_cases c26 : a1 ≤ (-4294967296)
                  · rw [if_pos c26] at H
                    have c26b0 : decide (a1 ≤ (-4294967296)) = true := decide_eq_true c26
                    clear c26
                    by_cases c27 : a2 ≥ 4294967296
                    · rw [if_pos c27] at H
                      have c27b0 : decide (4294967296 ≤ a2) = true := decide_eq_true c27
                      clear c27
                      obtain rfl := Option.some.inj H
                      go_wp2_with (first | ((with_reducible refine gate_callee (f := 11) rfl ?_); refine goesL_ (some 43) rfl rfl Try.func11 (by kernel_rfl) rfl #[.int .i64 a0, .int .i64 a1] rfl (by (try simp only [List.map_toArray, List.map_cons, List.map_nil]); first | done | rfl | (simp only [List.length_drop, List.length_take]; rfl)) ?_; (with_reducible refine (act_Of.calls kj5 a0 a1 t144 t145 _ A18.out).mono ?_); rintro e w28 ⟨rfl, hb⟩; refine ⟨_, rfl, ?_⟩; have n0_ := Aside0.mk (below_step (by repeat (first | (with_reducible first | exact HB.out | apply below_alloc | apply pw_below_drewN | apply below_drew1) | exact HB.out)) hb); clear HB; have HB := n0_; clear n0_; (try clear hb); (try clear hb2); (try clear hk); (try clear hi)) | ((with_reducible refine gate_callee (f := 11) rfl ?_); refine goesL_ (some 49) rfl rfl Try.func11 (by kernel_rfl) rfl #[.int .i64 a0, .int .i64 a2] rfl (by (try simp only [List.map_toArray, List.map_cons, List.map_nil]); first | done | rfl | (simp only [List.length_drop, List.length_take]; rfl)) ?_; (with_reducible refine (act_Of.calls kj5 a0 a2 t146 t147 _ A19.out).mono ?_); rintro e w29 ⟨rfl, hb⟩; refine ⟨_, rfl, ?_⟩; have n0_ := Aside0.mk (below_step (by repeat (first | (with_reducible first | exact HB.out | apply below_alloc | apply pw_below_drewN | apply below_drew1) | exact HB.out)) hb); clear HB; have HB := n0_; clear n0_; (try clear hb); (try clear hb2); (try clear hk); (try clear hi)) | ((with_reducible refine gate_callee (f := 12) rfl ?_); refine goesL_ (some 55) rfl rfl Try.func12 (by kernel_rfl) rfl #[.int .i64 a0, .int .i64 a1] rfl (by (try simp only [List.map_toArray, List.map_cons, List.map_nil]); first | done | rfl | (simp only [List.length_drop, List.length_take]; rfl)) ?_; (with_reducible refine (act_Slope.calls kj5 a0 a1 t148 t149 _ A20.out).mono ?_); rintro e w' ⟨rfl, ⟨nd, rfl⟩⟩; refine ⟨_, rfl, ?_⟩) | ((with_reducible refine gate_callee (f := 12) rfl ?_); refine goesL_ (some 61) rfl rfl Try.func12 (by kernel_rfl) rfl #[.int .i64 a0, .int .i64 a2] rfl (by (try simp only [List.map_toArray, List.map_cons, List.map_nil]); first | done | rfl | (simp only [List.length_drop, List.length_take]; rfl)) ?_; (with_reducible refine (act_Slope.calls kj5 a0 a2 t150 t151 _ A21.out).mono ?_); rintro e w' ⟨rfl, ⟨nd, rfl⟩⟩; refine ⟨_, rfl, ?_⟩))
                      go_ret
                      exact ⟨by first | rfl | (simp [errW_none, errW_some] <;> rfl) | (simp [*, errW_none, errW_some] <;> rfl), by repeat (first | (with_reducible first | exact HB.out | apply below_alloc | apply pw_below_drewN | apply below_drew1) | exact HB.out)⟩
                    · rw [if_neg c27] at H
                      have c27b0 : decide (4294967296 ≤ a2) = false := decide_eq_false c27
                      clear c27
                      replace H := Option.bind_eq_some_iff.mp H
                      obtain ⟨t152, A300, H⟩ := H
                      replace H : (some ((wrap64 (t146 - t144)) == t152)) = some r := H
                      have A30 := Aside0.mk A300
                      clear A300
                      obtain rfl := Option.some.inj H
                      go_wp2_with (first | ((with_reducible refine gate_callee (f := 11) rfl ?_); refine goesL_ (some 43) rfl rfl Try.func11 (by kernel_rfl) rfl #[.int .i64 a0, .int .i64 a1] rfl (by (try simp only [List.map_toArray, List.map_cons, List.map_nil]); first | done | rfl | (simp only [List.length_drop, List.length_take]; rfl)) ?_; (with_reducible refine (act_Of.calls kj5 a0 a1 t144 t145 _ A18.out).mono ?_); rintro e w31 ⟨rfl, hb⟩; refine ⟨_, rfl, ?_⟩; have n0_ := Aside0.mk (below_step (by repeat (first | (with_reducible first | exact HB.out | apply below_alloc | apply pw_below_drewN | apply below_drew1) | exact HB.out)) hb); clear HB; have HB := n0_; clear n0_; (try clear hb); (try clear hb2); (try clear hk); (try clear hi)) | ((with_reducible refine gate_callee (f := 11) rfl ?_); refine goesL_ (some 49) rfl rfl Try.func11 (by kernel_rfl) rfl #[.int .i64 a0, .int .i64 a2] rfl (by (try simp only [List.map_toArray, List.map_cons, List.map_nil]); first | done | rfl | (simp only [List.length_drop, List.length_take]; rfl)) ?_; (with_reducible refine (act_Of.calls kj5 a0 a2 t146 t147 _ A19.out).mono ?_); rintro e w32 ⟨rfl, hb⟩; refine ⟨_, rfl, ?_⟩; have n0_ := Aside0.mk (below_step (by repeat (first | (with_reducible first | exact HB.out | apply below_alloc | apply pw_below_drewN | apply below_drew1) | exact HB.out)) hb); clear HB; have HB := n0_; clear n0_; (try clear hb); (try clear hb2); (try clear hk); (try clear hi)) | ((with_reducible refine gate_callee (f := 12) rfl ?_); refine goesL_ (some 55) rfl rfl Try.func12 (by kernel_rfl) rfl #[.int .i64 a0, .int .i64 a1] rfl (by (try simp only [List.map_toArray, List.map_cons, List.map_nil]); first | done | rfl | (simp only [List.length_drop, List.length_take]; rfl)) ?_; (with_reducible refine (act_Slope.calls kj5 a0 a1 t148 t149 _ A20.out).mono ?_); rintro e w' ⟨rfl, ⟨nd, rfl⟩⟩; refine ⟨_, rfl, ?_⟩) | ((with_reducible refine gate_callee (f := 12) rfl ?_); refine goesL_ (some 61) rfl rfl Try.func12 (by kernel_rfl) rfl #[.int .i64 a0, .int .i64 a2] rfl (by (try simp only [List.map_toArray, List.map_cons, List.map_nil]); first | done | rfl | (simp only [List.length_drop, List.length_take]; rfl)) ?_; (with_reducible refine (act_Slope.calls kj5 a0 a2 t150 t151 _ A21.out).mono ?_); rintro e w' ⟨rfl, ⟨nd, rfl⟩⟩; refine ⟨_, rfl, ?_⟩) | ((with_reducible refine gate_callee (f := 15) rfl ?_); refine goesL_ (some 94) rfl rfl Try.func15 (by kernel_rfl) rfl #[.int .i64 (wrap64 (a2 - a1)), .int .i64 t148] rfl (by (try simp only [List.map_toArray, List.map_cons, List.map_nil]); first | done | rfl | (simp only [List.length_drop, List.length_take]; rfl)) ?_; (with_reducible refine (carouselref1_Mul.calls kj5 (wrap64 (a2 - a1)) t148 t152 _ A30.out).mono ?_); rintro e w33 ⟨rfl, hb⟩; refine ⟨_, rfl, ?_⟩; have n0_ := Aside0.mk (below_step (by repeat (first | (with_reducible first | exact HB.out | apply below_alloc | apply pw_below_drewN | apply below_drew1) | exact HB.out)) hb); clear HB; have HB := n0_; clear n0_; (try clear hb); (try clear hb2); (try clear hk); (try clear hi)))
                      go_ret
                      exact ⟨by first | rfl | (simp [errW_none, errW_some] <;> rfl) | (simp [*, errW_none, errW_some] <;> rfl), by repeat (first | (with_reducible first | exact HB.out | apply below_alloc | apply pw_below_drewN | apply below_drew1) | exact HB.out)⟩
                  · rw [if_neg c26] at H
                    have c26b0 : decide (a1 ≤ (-4294967296)) = false := decide_eq_false c26
                    clear c26
                    replace H := Option.bind_eq_some_iff.mp H
                    obtain ⟨t153, A340, H⟩ := H
                    replace H : (some ((wrap64 (t146 - t144)) == t153)) = some r := H
                    have A34 := Aside0.mk A340
                    clear A340
                    obtain rfl := Option.some.inj H
                    go_wp2_with (first | ((with_reducible refine gate_callee (f := 11) rfl ?_); refine goesL_ (some 43) rfl rfl Try.func11 (by kernel_rfl) rfl #[.int .i64 a0, .int .i64 a1] rfl (by (try simp only [List.map_toArray, List.map_cons, List.map_nil]); first | done | rfl | (simp only [List.length_drop, List.length_take]; rfl)) ?_; (with_reducible refine (act_Of.calls kj5 a0 a1 t144 t145 _ A18.out).mono ?_); rintro e w35 ⟨rfl, hb⟩; refine ⟨_, rfl, ?_⟩; have n0_ := Aside0.mk (below_step (by repeat (first | (with_reducible first | exact HB.out | apply below_alloc | apply pw_below_drewN | apply below_drew1) | exact HB.out)) hb); clear HB; have HB := n0_; clear n0_; (try clear hb); (try clear hb2); (try clear hk); (try clear hi)) | ((with_reducible refine gate_callee (f := 11) rfl ?_); refine goesL_ (some 49) rfl rfl Try.func11 (by kernel_rfl) rfl #[.int .i64 a0, .int .i64 a2] rfl (by (try simp only [List.map_toArray, List.map_cons, List.map_nil]); first | done | rfl | (simp only [List.length_drop, List.length_take]; rfl)) ?_; (with_reducible refine (act_Of.calls kj5 a0 a2 t146 t147 _ A19.out).mono ?_); rintro e w36 ⟨rfl, hb⟩; refine ⟨_, rfl, ?_⟩; have n0_ := Aside0.mk (below_step (by repeat (first | (with_reducible first | exact HB.out | apply below_alloc | apply pw_below_drewN | apply below_drew1) | exact HB.out)) hb); clear HB; have HB := n0_; clear n0_; (try clear hb); (try clear hb2); (try clear hk); (try clear hi)) | ((with_reducible refine gate_callee (f := 12) rfl ?_); refine goesL_ (some 55) rfl rfl Try.func12 (by kernel_rfl) rfl #[.int .i64 a0, .int .i64 a1] rfl (by (try simp only [List.map_toArray, List.map_cons, List.map_nil]); first | done | rfl | (simp only [List.length_drop, List.length_take]; rfl)) ?_; (with_reducible refine (act_Slope.calls kj5 a0 a1 t148 t149 _ A20.out).mono ?_); rintro e w' ⟨rfl, ⟨nd, rfl⟩⟩; refine ⟨_, rfl, ?_⟩) | ((with_reducible refine gate_callee (f := 12) rfl ?_); refine goesL_ (some 61) rfl rfl Try.func12 (by kernel_rfl) rfl #[.int .i64 a0, .int .i64 a2] rfl (by (try simp only [List.map_toArray, List.map_cons, List.map_nil]); first | done | rfl | (simp only [List.length_drop, List.length_take]; rfl)) ?_; (with_reducible refine (act_Slope.calls kj5 a0 a2 t150 t151 _ A21.out).mono ?_); rintro e w' ⟨rfl, ⟨nd, rfl⟩⟩; refine ⟨_, rfl, ?_⟩) | ((with_reducible refine gate_callee (f := 15) rfl ?_); refine goesL_ (some 94) rfl rfl Try.func15 (by kernel_rfl) rfl #[.int .i64 (wrap64 (a2 - a1)), .int .i64 t148] rfl (by (try simp only [List.map_toArray, List.map_cons, List.map_nil]); first | done | rfl | (simp only [List.length_drop, List.length_take]; rfl)) ?_; (with_reducible refine (carouselref1_Mul.calls kj5 (wrap64 (a2 - a1)) t148 t153 _ A34.out).mono ?_); rintro e w37 ⟨rfl, hb⟩; refine ⟨_, rfl, ?_⟩; have n0_ := Aside0.mk (below_step (by repeat (first | (with_reducible first | exact HB.out | apply below_alloc | apply pw_below_drewN | apply below_drew1) | exact HB.out)) hb); clear HB; have HB := n0_; clear n0_; (try clear hb); (try clear hb2); (try clear hk); (try clear hi)))
                    go_ret
                    exact ⟨by first | rfl | (simp [errW_none, errW_some] <;> rfl) | (simp [*, errW_none, errW_some] <;> rfl), by repeat (first | (with_reducible first | exact HB.out | apply below_alloc | apply pw_below_drewN | apply below_drew1) | exact HB.out)⟩
                · rw [if_neg c25] at H
                  have c25b0 : (a0 == 3) = false := beq_eq_false_iff_ne.mpr c25
                  have c25b1 : (a0 != 3) = true := bne_iff_ne.mpr c25
                  obtain rfl := Option.some.inj H
                  go_wp2_with (first | ((with_reducible refine gate_callee (f := 11) rfl ?_); refine goesL_ (some 43) rfl rfl Try.func11 (by kernel_rfl) rfl #[.int .i64 a0, .int .i64 a1] rfl (by (try simp only [List.map_toArray, List.map_cons, List.map_nil]); first | done | rfl | (simp only [List.length_drop, List.length_take]; rfl)) ?_; (with_reducible refine (act_Of.calls kj5 a0 a1 t144 t145 _ A18.out).mono ?_); rintro e w38 ⟨rfl, hb⟩; refine ⟨_, rfl, ?_⟩; have n0_ := Aside0.mk (below_step (by repeat (first | (with_reducible first | exact HB.out | apply below_alloc | apply pw_below_drewN | apply below_drew1) | exact HB.out)) hb); clear HB; have HB := n0_; clear n0_; (try clear hb); (try clear hb2); (try clear hk); (try clear hi)) | ((with_reducible refine gate_callee (f := 11) rfl ?_); refine goesL_ (some 49) rfl rfl Try.func11 (by kernel_rfl) rfl #[.int .i64 a0, .int .i64 a2] rfl (by (try simp only [List.map_toArray, List.map_cons, List.map_nil]); first | done | rfl | (simp only [List.length_drop, List.length_take]; rfl)) ?_; (with_reducible refine (act_Of.calls kj5 a0 a2 t146 t147 _ A19.out).mono ?_); rintro e w39 ⟨rfl, hb⟩; refine ⟨_, rfl, ?_⟩; have n0_ := Aside0.mk (below_step (by repeat (first | (with_reducible first | exact HB.out | apply below_alloc | apply pw_below_drewN | apply below_drew1) | exact HB.out)) hb); clear HB; have HB := n0_; clear n0_; (try clear hb); (try clear hb2); (try clear hk); (try clear hi)) | ((with_reducible refine gate_callee (f := 12) rfl ?_); refine goesL_ (some 55) rfl rfl Try.func12 (by kernel_rfl) rfl #[.int .i64 a0, .int .i64 a1] rfl (by (try simp only [List.map_toArray, List.map_cons, List.map_nil]); first | done | rfl | (simp only [List.length_drop, List.length_take]; rfl)) ?_; (with_reducible refine (act_Slope.calls kj5 a0 a1 t148 t149 _ A20.out).mono ?_); rintro e w' ⟨rfl, ⟨nd, rfl⟩⟩; refine ⟨_, rfl, ?_⟩) | ((with_reducible refine gate_callee (f := 12) rfl ?_); refine goesL_ (some 61) rfl rfl Try.func12 (by kernel_rfl) rfl #[.int .i64 a0, .int .i64 a2] rfl (by (try simp only [List.map_toArray, List.map_cons, List.map_nil]); first | done | rfl | (simp only [List.length_drop, List.length_take]; rfl)) ?_; (with_reducible refine (act_Slope.calls kj5 a0 a2 t150 t151 _ A21.out).mono ?_); rintro e w' ⟨rfl, ⟨nd, rfl⟩⟩; refine ⟨_, rfl, ?_⟩))
                  go_ret
                  exact ⟨by first | rfl | (simp [errW_none, errW_some] <;> rfl) | (simp [*, errW_none, errW_some] <;> rfl), by repeat (first | (with_reducible first | exact HB.out | apply below_alloc | apply pw_below_drewN | apply below_drew1) | exact HB.out)⟩
              · rw [if_neg c24] at H
                have c24b0 : decide (0 < a2) = false := decide_eq_false c24
                clear c24
                by_cases c40 : a1 ≤ (-4294967296)
                · rw [if_pos c40] at H
                  have c40b0 : decide (a1 ≤ (-4294967296)) = true := decide_eq_true c40
                  clear c40
                  by_cases c41 : a2 ≥ 4294967296
                  · rw [if_pos c41] at H
                    have c41b0 : decide (4294967296 ≤ a2) = true := decide_eq_true c41
                    clear c41
                    obtain rfl := Option.some.inj H
                    go_wp2_with (first | ((with_reducible refine gate_callee (f := 11) rfl ?_); refine goesL_ (some 43) rfl rfl Try.func11 (by kernel_rfl) rfl #[.int .i64 a0, .int .i64 a1] rfl (by (try simp only [List.map_toArray, List.map_cons, List.map_nil]); first | done | rfl | (simp only [List.length_drop, List.length_take]; rfl)) ?_; (with_reducible refine (act_Of.calls kj5 a0 a1 t144 t145 _ A18.out).mono ?_); rintro e w42 ⟨rfl, hb⟩; refine ⟨_, rfl, ?_⟩; have n0_ := Aside0.mk (below_step (by repeat (first | (with_reducible first | exact HB.out | apply below_alloc | apply pw_below_drewN | apply below_drew1) | exact HB.out)) hb); clear HB; have HB := n0_; clear n0_; (try clear hb); (try clear hb2); (try clear hk); (try clear hi)) | ((with_reducible refine gate_callee (f := 11) rfl ?_); refine goesL_ (some 49) rfl rfl Try.func11 (by kernel_rfl) rfl #[.int .i64 a0, .int .i64 a2] rfl (by (try simp only [List.map_toArray, List.map_cons, List.map_nil]); first | done | rfl | (simp only [List.length_drop, List.length_take]; rfl)) ?_; (with_reducible refine (act_Of.calls kj5 a0 a2 t146 t147 _ A19.out).mono ?_); rintro e w43 ⟨rfl, hb⟩; refine ⟨_, rfl, ?_⟩; have n0_ := Aside0.mk (below_step (by repeat (first | (with_reducible first | exact HB.out | apply below_alloc | apply pw_below_drewN | apply below_drew1) | exact HB.out)) hb); clear HB; have HB := n0_; clear n0_; (try clear hb); (try clear hb2); (try clear hk); (try clear hi)) | ((with_reducible refine gate_callee (f := 12) rfl ?_); refine goesL_ (some 55) rfl rfl Try.func12 (by kernel_rfl) rfl #[.int .i64 a0, .int .i64 a1] rfl (by (try simp only [List.map_toArray, List.map_cons, List.map_nil]); first | done | rfl | (simp only [List.length_drop, List.length_take]; rfl)) ?_; (with_reducible refine (act_Slope.calls kj5 a0 a1 t148 t149 _ A20.out).mono ?_); rintro e w' ⟨rfl, ⟨nd, rfl⟩⟩; refine ⟨_, rfl, ?_⟩) | ((with_reducible refine gate_callee (f := 12) rfl ?_); refine goesL_ (some 61) rfl rfl Try.func12 (by kernel_rfl) rfl #[.int .i64 a0, .int .i64 a2] rfl (by (try simp only [List.map_toArray, List.map_cons, List.map_nil]); first | done | rfl | (simp only [List.length_drop, List.length_take]; rfl)) ?_; (with_reducible refine (act_Slope.calls kj5 a0 a2 t150 t151 _ A21.out).mono ?_); rintro e w' ⟨rfl, ⟨nd, rfl⟩⟩; refine ⟨_, rfl, ?_⟩))
                    go_ret
                    exact ⟨by first | rfl | (simp [errW_none, errW_some] <;> rfl) | (simp [*, errW_none, errW_some] <;> rfl), by repeat (first | (with_reducible first | exact HB.out | apply below_alloc | apply pw_below_drewN | apply below_drew1) | exact HB.out)⟩
                  · rw [if_neg c41] at H
                    have c41b0 : decide (4294967296 ≤ a2) = false := decide_eq_false c41
                    clear c41
                    replace H := Option.bind_eq_some_iff.mp H
                    obtain ⟨t154, A440, H⟩ := H
                    replace H : (some ((wrap64 (t146 - t144)) == t154)) = some r := H
                    have A44 := Aside0.mk A440
                    clear A440
                    obtain rfl := Option.some.inj H
                    go_wp2_with (first | ((with_reducible refine gate_callee (f := 11) rfl ?_); refine goesL_ (some 43) rfl rfl Try.func11 (by kernel_rfl) rfl #[.int .i64 a0, .int .i64 a1] rfl (by (try simp only [List.map_toArray, List.map_cons, List.map_nil]); first | done | rfl | (simp only [List.length_drop, List.length_take]; rfl)) ?_; (with_reducible refine (act_Of.calls kj5 a0 a1 t144 t145 _ A18.out).mono ?_); rintro e w45 ⟨rfl, hb⟩; refine ⟨_, rfl, ?_⟩; have n0_ := Aside0.mk (below_step (by repeat (first | (with_reducible first | exact HB.out | apply below_alloc | apply pw_below_drewN | apply below_drew1) | exact HB.out)) hb); clear HB; have HB := n0_; clear n0_; (try clear hb); (try clear hb2); (try clear hk); (try clear hi)) | ((with_reducible refine gate_callee (f := 11) rfl ?_); refine goesL_ (some 49) rfl rfl Try.func11 (by kernel_rfl) rfl #[.int .i64 a0, .int .i64 a2] rfl (by (try simp only [List.map_toArray, List.map_cons, List.map_nil]); first | done | rfl | (simp only [List.length_drop, List.length_take]; rfl)) ?_; (with_reducible refine (act_Of.calls kj5 a0 a2 t146 t147 _ A19.out).mono ?_); rintro e w46 ⟨rfl, hb⟩; refine ⟨_, rfl, ?_⟩; have n0_ := Aside0.mk (below_step (by repeat (first | (with_reducible first | exact HB.out | apply below_alloc | apply pw_below_drewN | apply below_drew1) | exact HB.out)) hb); clear HB; have HB := n0_; clear n0_; (try clear hb); (try clear hb2); (try clear hk); (try clear hi)) | ((with_reducible refine gate_callee (f := 12) rfl ?_); refine goesL_ (some 55) rfl rfl Try.func12 (by kernel_rfl) rfl #[.int .i64 a0, .int .i64 a1] rfl (by (try simp only [List.map_toArray, List.map_cons, List.map_nil]); first | done | rfl | (simp only [List.length_drop, List.length_take]; rfl)) ?_; (with_reducible refine (act_Slope.calls kj5 a0 a1 t148 t149 _ A20.out).mono ?_); rintro e w' ⟨rfl, ⟨nd, rfl⟩⟩; refine ⟨_, rfl, ?_⟩) | ((with_reducible refine gate_callee (f := 12) rfl ?_); refine goesL_ (some 61) rfl rfl Try.func12 (by kernel_rfl) rfl #[.int .i64 a0, .int .i64 a2] rfl (by (try simp only [List.map_toArray, List.map_cons, List.map_nil]); first | done | rfl | (simp only [List.length_drop, List.length_take]; rfl)) ?_; (with_reducible refine (act_Slope.calls kj5 a0 a2 t150 t151 _ A21.out).mono ?_); rintro e w' ⟨rfl, ⟨nd, rfl⟩⟩; refine ⟨_, rfl, ?_⟩) | ((with_reducible refine gate_callee (f := 15) rfl ?_); refine goesL_ (some 94) rfl rfl Try.func15 (by kernel_rfl) rfl #[.int .i64 (wrap64 (a2 - a1)), .int .i64 t148] rfl (by (try simp only [List.map_toArray, List.map_cons, List.map_nil]); first | done | rfl | (simp only [List.length_drop, List.length_take]; rfl)) ?_; (with_reducible refine (carouselref1_Mul.calls kj5 (wrap64 (a2 - a1)) t148 t154 _ A44.out).mono ?_); rintro e w47 ⟨rfl, hb⟩; refine ⟨_, rfl, ?_⟩; have n0_ := Aside0.mk (below_step (by repeat (first | (with_reducible first | exact HB.out | apply below_alloc | apply pw_below_drewN | apply below_drew1) | exact HB.out)) hb); clear HB; have HB := n0_; clear n0_; (try clear hb); (try clear hb2); (try clear hk); (try clear hi)))
                    go_ret
                    exact ⟨by first | rfl | (simp [errW_none, errW_some] <;> rfl) | (simp [*, errW_none, errW_some] <;> rfl), by repeat (first | (with_reducible first | exact HB.out | apply below_alloc | apply pw_below_drewN | apply below_drew1) | exact HB.out)⟩
                · rw [if_neg c40] at H
                  have c40b0 : decide (a1 ≤ (-4294967296)) = false := decide_eq_false c40
                  clear c40
                  replace H := Option.bind_eq_some_iff.mp H
                  obtain ⟨t155, A480, H⟩ := H
                  replace H : (some ((wrap64 (t146 - t144)) == t155)) = some r := H
                  have A48 := Aside0.mk A480
                  clear A480
                  obtain rfl := Option.some.inj H
                  go_wp2_with (first | ((with_reducible refine gate_callee (f := 11) rfl ?_); refine goesL_ (some 43) rfl rfl Try.func11 (by kernel_rfl) rfl #[.int .i64 a0, .int .i64 a1] rfl (by (try simp only [List.map_toArray, List.map_cons, List.map_nil]); first | done | rfl | (simp only [List.length_drop, List.length_take]; rfl)) ?_; (with_reducible refine (act_Of.calls kj5 a0 a1 t144 t145 _ A18.out).mono ?_); rintro e w49 ⟨rfl, hb⟩; refine ⟨_, rfl, ?_⟩; have n0_ := Aside0.mk (below_step (by repeat (first | (with_reducible first | exact HB.out | apply below_alloc | apply pw_below_drewN | apply below_drew1) | exact HB.out)) hb); clear HB; have HB := n0_; clear n0_; (try clear hb); (try clear hb2); (try clear hk); (try clear hi)) | ((with_reducible refine gate_callee (f := 11) rfl ?_); refine goesL_ (some 49) rfl rfl Try.func11 (by kernel_rfl) rfl #[.int .i64 a0, .int .i64 a2] rfl (by (try simp only [List.map_toArray, List.map_cons, List.map_nil]); first | done | rfl | (simp only [List.length_drop, List.length_take]; rfl)) ?_; (with_reducible refine (act_Of.calls kj5 a0 a2 t146 t147 _ A19.out).mono ?_); rintro e w50 ⟨rfl, hb⟩; refine ⟨_, rfl, ?_⟩; have n0_ := Aside0.mk (below_step (by repeat (first | (with_reducible first | exact HB.out | apply below_alloc | apply pw_below_drewN | apply below_drew1) | exact HB.out)) hb); clear HB; have HB := n0_; clear n0_; (try clear hb); (try clear hb2); (try clear hk); (try clear hi)) | ((with_reducible refine gate_callee (f := 12) rfl ?_); refine goesL_ (some 55) rfl rfl Try.func12 (by kernel_rfl) rfl #[.int .i64 a0, .int .i64 a1] rfl (by (try simp only [List.map_toArray, List.map_cons, List.map_nil]); first | done | rfl | (simp only [List.length_drop, List.length_take]; rfl)) ?_; (with_reducible refine (act_Slope.calls kj5 a0 a1 t148 t149 _ A20.out).mono ?_); rintro e w' ⟨rfl, ⟨nd, rfl⟩⟩; refine ⟨_, rfl, ?_⟩) | ((with_reducible refine gate_callee (f := 12) rfl ?_); refine goesL_ (some 61) rfl rfl Try.func12 (by kernel_rfl) rfl #[.int .i64 a0, .int .i64 a2] rfl (by (try simp only [List.map_toArray, List.map_cons, List.map_nil]); first | done | rfl | (simp only [List.length_drop, List.length_take]; rfl)) ?_; (with_reducible refine (act_Slope.calls kj5 a0 a2 t150 t151 _ A21.out).mono ?_); rintro e w' ⟨rfl, ⟨nd, rfl⟩⟩; refine ⟨_, rfl, ?_⟩) | ((with_reducible refine gate_callee (f := 15) rfl ?_); refine goesL_ (some 94) rfl rfl Try.func15 (by kernel_rfl) rfl #[.int .i64 (wrap64 (a2 - a1)), .int .i64 t148] rfl (by (try simp only [List.map_toArray, List.map_cons, List.map_nil]); first | done | rfl | (simp only [List.length_drop, List.length_take]; rfl)) ?_; (with_reducible refine (carouselref1_Mul.calls kj5 (wrap64 (a2 - a1)) t148 t155 _ A48.out).mono ?_); rintro e w51 ⟨rfl, hb⟩; refine ⟨_, rfl, ?_⟩; have n0_ := Aside0.mk (below_step (by repeat (first | (with_reducible first | exact HB.out | apply below_alloc | apply pw_below_drewN | apply below_drew1) | exact HB.out)) hb); clear HB; have HB := n0_; clear n0_; (try clear hb); (try clear hb2); (try clear hk); (try clear hi)))
                  go_ret
                  exact ⟨by first | rfl | (simp [errW_none, errW_some] <;> rfl) | (simp [*, errW_none, errW_some] <;> rfl), by repeat (first | (with_reducible first | exact HB.out | apply below_alloc | apply pw_below_drewN | apply below_drew1) | exact HB.out)⟩
            · rw [if_neg c23] at H
              have c23b0 : decide (a1 < 0) = false := decide_eq_false c23
              clear c23
              by_cases c52 : a1 ≤ (-4294967296)
              · rw [if_pos c52] at H
                have c52b0 : decide (a1 ≤ (-4294967296)) = true := decide_eq_true c52
                clear c52
                by_cases c53 : a2 ≥ 4294967296
                · rw [if_pos c53] at H
                  have c53b0 : decide (4294967296 ≤ a2) = true := decide_eq_true c53
                  clear c53
                  obtain rfl := Option.some.inj H
                  go_wp2_with (first | ((with_reducible refine gate_callee (f := 11) rfl ?_); refine goesL_ (some 43) rfl rfl Try.func11 (by kernel_rfl) rfl #[.int .i64 a0, .int .i64 a1] rfl (by (try simp only [List.map_toArray, List.map_cons, List.map_nil]); first | done | rfl | (simp only [List.length_drop, List.length_take]; rfl)) ?_; (with_reducible refine (act_Of.calls kj5 a0 a1 t144 t145 _ A18.out).mono ?_); rintro e w54 ⟨rfl, hb⟩; refine ⟨_, rfl, ?_⟩; have n0_ := Aside0.mk (below_step (by repeat (first | (with_reducible first | exact HB.out | apply below_alloc | apply pw_below_drewN | apply below_drew1) | exact HB.out)) hb); clear HB; have HB := n0_; clear n0_; (try clear hb); (try clear hb2); (try clear hk); (try clear hi)) | ((with_reducible refine gate_callee (f := 11) rfl ?_); refine goesL_ (some 49) rfl rfl Try.func11 (by kernel_rfl) rfl #[.int .i64 a0, .int .i64 a2] rfl (by (try simp only [List.map_toArray, List.map_cons, List.map_nil]); first | done | rfl | (simp only [List.length_drop, List.length_take]; rfl)) ?_; (with_reducible refine (act_Of.calls kj5 a0 a2 t146 t147 _ A19.out).mono ?_); rintro e w55 ⟨rfl, hb⟩; refine ⟨_, rfl, ?_⟩; have n0_ := Aside0.mk (below_step (by repeat (first | (with_reducible first | exact HB.out | apply below_alloc | apply pw_below_drewN | apply below_drew1) | exact HB.out)) hb); clear HB; have HB := n0_; clear n0_; (try clear hb); (try clear hb2); (try clear hk); (try clear hi)) | ((with_reducible refine gate_callee (f := 12) rfl ?_); refine goesL_ (some 55) rfl rfl Try.func12 (by kernel_rfl) rfl #[.int .i64 a0, .int .i64 a1] rfl (by (try simp only [List.map_toArray, List.map_cons, List.map_nil]); first | done | rfl | (simp only [List.length_drop, List.length_take]; rfl)) ?_; (with_reducible refine (act_Slope.calls kj5 a0 a1 t148 t149 _ A20.out).mono ?_); rintro e w' ⟨rfl, ⟨nd, rfl⟩⟩; refine ⟨_, rfl, ?_⟩) | ((with_reducible refine gate_callee (f := 12) rfl ?_); refine goesL_ (some 61) rfl rfl Try.func12 (by kernel_rfl) rfl #[.int .i64 a0, .int .i64 a2] rfl (by (try simp only [List.map_toArray, List.map_cons, List.map_nil]); first | done | rfl | (simp only [List.length_drop, List.length_take]; rfl)) ?_; (with_reducible refine (act_Slope.calls kj5 a0 a2 t150 t151 _ A21.out).mono ?_); rintro e w' ⟨rfl, ⟨nd, rfl⟩⟩; refine ⟨_, rfl, ?_⟩))
                  go_ret
                  exact ⟨by first | rfl | (simp [errW_none, errW_some] <;> rfl) | (simp [*, errW_none, errW_some] <;> rfl), by repeat (first | (with_reducible first | exact HB.out | apply below_alloc | apply pw_below_drewN | apply below_drew1) | exact HB.out)⟩
                · rw [if_neg c53] at H
                  have c53b0 : decide (4294967296 ≤ a2) = false := decide_eq_false c53
                  clear c53
                  replace H := Option.bind_eq_some_iff.mp H
                  obtain ⟨t156, A560, H⟩ := H
                  replace H : (some ((wrap64 (t146 - t144)) == t156)) = some r := H
                  have A56 := Aside0.mk A560
                  clear A560
                  obtain rfl := Option.some.inj H
                  go_wp2_with (first | ((with_reducible refine gate_callee (f := 11) rfl ?_); refine goesL_ (some 43) rfl rfl Try.func11 (by kernel_rfl) rfl #[.int .i64 a0, .int .i64 a1] rfl (by (try simp only [List.map_toArray, List.map_cons, List.map_nil]); first | done | rfl | (simp only [List.length_drop, List.length_take]; rfl)) ?_; (with_reducible refine (act_Of.calls kj5 a0 a1 t144 t145 _ A18.out).mono ?_); rintro e w57 ⟨rfl, hb⟩; refine ⟨_, rfl, ?_⟩; have n0_ := Aside0.mk (below_step (by repeat (first | (with_reducible first | exact HB.out | apply below_alloc | apply pw_below_drewN | apply below_drew1) | exact HB.out)) hb); clear HB; have HB := n0_; clear n0_; (try clear hb); (try clear hb2); (try clear hk); (try clear hi)) | ((with_reducible refine gate_callee (f := 11) rfl ?_); refine goesL_ (some 49) rfl rfl Try.func11 (by kernel_rfl) rfl #[.int .i64 a0, .int .i64 a2] rfl (by (try simp only [List.map_toArray, List.map_cons, List.map_nil]); first | done | rfl | (simp only [List.length_drop, List.length_take]; rfl)) ?_; (with_reducible refine (act_Of.calls kj5 a0 a2 t146 t147 _ A19.out).mono ?_); rintro e w58 ⟨rfl, hb⟩; refine ⟨_, rfl, ?_⟩; have n0_ := Aside0.mk (below_step (by repeat (first | (with_reducible first | exact HB.out | apply below_alloc | apply pw_below_drewN | apply below_drew1) | exact HB.out)) hb); clear HB; have HB := n0_; clear n0_; (try clear hb); (try clear hb2); (try clear hk); (try clear hi)) | ((with_reducible refine gate_callee (f := 12) rfl ?_); refine goesL_ (some 55) rfl rfl Try.func12 (by kernel_rfl) rfl #[.int .i64 a0, .int .i64 a1] rfl (by (try simp only [List.map_toArray, List.map_cons, List.map_nil]); first | done | rfl | (simp only [List.length_drop, List.length_take]; rfl)) ?_; (with_reducible refine (act_Slope.calls kj5 a0 a1 t148 t149 _ A20.out).mono ?_); rintro e w' ⟨rfl, ⟨nd, rfl⟩⟩; refine ⟨_, rfl, ?_⟩) | ((with_reducible refine gate_callee (f := 12) rfl ?_); refine goesL_ (some 61) rfl rfl Try.func12 (by kernel_rfl) rfl #[.int .i64 a0, .int .i64 a2] rfl (by (try simp only [List.map_toArray, List.map_cons, List.map_nil]); first | done | rfl | (simp only [List.length_drop, List.length_take]; rfl)) ?_; (with_reducible refine (act_Slope.calls kj5 a0 a2 t150 t151 _ A21.out).mono ?_); rintro e w' ⟨rfl, ⟨nd, rfl⟩⟩; refine ⟨_, rfl, ?_⟩) | ((with_reducible refine gate_callee (f := 15) rfl ?_); refine goesL_ (some 94) rfl rfl Try.func15 (by kernel_rfl) rfl #[.int .i64 (wrap64 (a2 - a1)), .int .i64 t148] rfl (by (try simp only [List.map_toArray, List.map_cons, List.map_nil]); first | done | rfl | (simp only [List.length_drop, List.length_take]; rfl)) ?_; (with_reducible refine (carouselref1_Mul.calls kj5 (wrap64 (a2 - a1)) t148 t156 _ A56.out).mono ?_); rintro e w59 ⟨rfl, hb⟩; refine ⟨_, rfl, ?_⟩; have n0_ := Aside0.mk (below_step (by repeat (first | (with_reducible first | exact HB.out | apply below_alloc | apply pw_below_drewN | apply below_drew1) | exact HB.out)) hb); clear HB; have HB := n0_; clear n0_; (try clear hb); (try clear hb2); (try clear hk); (try clear hi)))
                  go_ret
                  exact ⟨by first | rfl | (simp [errW_none, errW_some] <;> rfl) | (simp [*, errW_none, errW_some] <;> rfl), by repeat (first | (with_reducible first | exact HB.out | apply below_alloc | apply pw_below_drewN | apply below_drew1) | exact HB.out)⟩
              · rw [if_neg c52] at H
                have c52b0 : decide (a1 ≤ (-4294967296)) = false := decide_eq_false c52
                clear c52
                replace H := Option.bind_eq_some_iff.mp H
                obtain ⟨t157, A600, H⟩ := H
                replace H : (some ((wrap64 (t146 - t144)) == t157)) = some r := H
                have A60 := Aside0.mk A600
                clear A600
                obtain rfl := Option.some.inj H
                go_wp2_with (first | ((with_reducible refine gate_callee (f := 11) rfl ?_); refine goesL_ (some 43) rfl rfl Try.func11 (by kernel_rfl) rfl #[.int .i64 a0, .int .i64 a1] rfl (by (try simp only [List.map_toArray, List.map_cons, List.map_nil]); first | done | rfl | (simp only [List.length_drop, List.length_take]; rfl)) ?_; (with_reducible refine (act_Of.calls kj5 a0 a1 t144 t145 _ A18.out).mono ?_); rintro e w61 ⟨rfl, hb⟩; refine ⟨_, rfl, ?_⟩; have n0_ := Aside0.mk (below_step (by repeat (first | (with_reducible first | exact HB.out | apply below_alloc | apply pw_below_drewN | apply below_drew1) | exact HB.out)) hb); clear HB; have HB := n0_; clear n0_; (try clear hb); (try clear hb2); (try clear hk); (try clear hi)) | ((with_reducible refine gate_callee (f := 11) rfl ?_); refine goesL_ (some 49) rfl rfl Try.func11 (by kernel_rfl) rfl #[.int .i64 a0, .int .i64 a2] rfl (by (try simp only [List.map_toArray, List.map_cons, List.map_nil]); first | done | rfl | (simp only [List.length_drop, List.length_take]; rfl)) ?_; (with_reducible refine (act_Of.calls kj5 a0 a2 t146 t147 _ A19.out).mono ?_); rintro e w62 ⟨rfl, hb⟩; refine ⟨_, rfl, ?_⟩; have n0_ := Aside0.mk (below_step (by repeat (first | (with_reducible first | exact HB.out | apply below_alloc | apply pw_below_drewN | apply below_drew1) | exact HB.out)) hb); clear HB; have HB := n0_; clear n0_; (try clear hb); (try clear hb2); (try clear hk); (try clear hi)) | ((with_reducible refine gate_callee (f := 12) rfl ?_); refine goesL_ (some 55) rfl rfl Try.func12 (by kernel_rfl) rfl #[.int .i64 a0, .int .i64 a1] rfl (by (try simp only [List.map_toArray, List.map_cons, List.map_nil]); first | done | rfl | (simp only [List.length_drop, List.length_take]; rfl)) ?_; (with_reducible refine (act_Slope.calls kj5 a0 a1 t148 t149 _ A20.out).mono ?_); rintro e w' ⟨rfl, ⟨nd, rfl⟩⟩; refine ⟨_, rfl, ?_⟩) | ((with_reducible refine gate_callee (f := 12) rfl ?_); refine goesL_ (some 61) rfl rfl Try.func12 (by kernel_rfl) rfl #[.int .i64 a0, .int .i64 a2] rfl (by (try simp only [List.map_toArray, List.map_cons, List.map_nil]); first | done | rfl | (simp only [List.length_drop, List.length_take]; rfl)) ?_; (with_reducible refine (act_Slope.calls kj5 a0 a2 t150 t151 _ A21.out).mono ?_); rintro e w' ⟨rfl, ⟨nd, rfl⟩⟩; refine ⟨_, rfl, ?_⟩) | ((with_reducible refine gate_callee (f := 15) rfl ?_); refine goesL_ (some 94) rfl rfl Try.func15 (by kernel_rfl) rfl #[.int .i64 (wrap64 (a2 - a1)), .int .i64 t148] rfl (by (try simp only [List.map_toArray, List.map_cons, List.map_nil]); first | done | rfl | (simp only [List.length_drop, List.length_take]; rfl)) ?_; (with_reducible refine (carouselref1_Mul.calls kj5 (wrap64 (a2 - a1)) t148 t157 _ A60.out).mono ?_); rintro e w63 ⟨rfl, hb⟩; refine ⟨_, rfl, ?_⟩; have n0_ := Aside0.mk (below_step (by repeat (first | (with_reducible first | exact HB.out | apply below_alloc | apply pw_below_drewN | apply below_drew1) | exact HB.out)) hb); clear HB; have HB := n0_; clear n0_; (try clear hb); (try clear hb2); (try clear hk); (try clear hi)))
                go_ret
                exact ⟨by first | rfl | (simp [errW_none, errW_some] <;> rfl) | (simp [*, errW_none, errW_some] <;> rfl), by repeat (first | (with_reducible first | exact HB.out | apply below_alloc | apply pw_below_drewN | apply below_drew1) | exact HB.out)⟩
          · rw [if_neg c22] at H
            have c22b0 : (t148 == t150) = false := beq_eq_false_iff_ne.mpr c22
            have c22b1 : (t148 != t150) = true := bne_iff_ne.mpr c22
            obtain rfl := Option.some.inj H
            go_wp2_with (first | ((with_reducible refine gate_callee (f := 11) rfl ?_); refine goesL_ (some 43) rfl rfl Try.func11 (by kernel_rfl) rfl #[.int .i64 a0, .int .i64 a1] rfl (by (try simp only [List.map_toArray, List.map_cons, List.map_nil]); first | done | rfl | (simp only [List.length_drop, List.length_take]; rfl)) ?_; (with_reducible refine (act_Of.calls kj5 a0 a1 t144 t145 _ A18.out).mono ?_); rintro e w64 ⟨rfl, hb⟩; refine ⟨_, rfl, ?_⟩; have n0_ := Aside0.mk (below_step (by repeat (first | (with_reducible first | exact HB.out | apply below_alloc | apply pw_below_drewN | apply below_drew1) | exact HB.out)) hb); clear HB; have HB := n0_; clear n0_; (try clear hb); (try clear hb2); (try clear hk); (try clear hi)) | ((with_reducible refine gate_callee (f := 11) rfl ?_); refine goesL_ (some 49) rfl rfl Try.func11 (by kernel_rfl) rfl #[.int .i64 a0, .int .i64 a2] rfl (by (try simp only [List.map_toArray, List.map_cons, List.map_nil]); first | done | rfl | (simp only [List.length_drop, List.length_take]; rfl)) ?_; (with_reducible refine (act_Of.calls kj5 a0 a2 t146 t147 _ A19.out).mono ?_); rintro e w65 ⟨rfl, hb⟩; refine ⟨_, rfl, ?_⟩; have n0_ := Aside0.mk (below_step (by repeat (first | (with_reducible first | exact HB.out | apply below_alloc | apply pw_below_drewN | apply below_drew1) | exact HB.out)) hb); clear HB; have HB := n0_; clear n0_; (try clear hb); (try clear hb2); (try clear hk); (try clear hi)) | ((with_reducible refine gate_callee (f := 12) rfl ?_); refine goesL_ (some 55) rfl rfl Try.func12 (by kernel_rfl) rfl #[.int .i64 a0, .int .i64 a1] rfl (by (try simp only [List.map_toArray, List.map_cons, List.map_nil]); first | done | rfl | (simp only [List.length_drop, List.length_take]; rfl)) ?_; (with_reducible refine (act_Slope.calls kj5 a0 a1 t148 t149 _ A20.out).mono ?_); rintro e w' ⟨rfl, ⟨nd, rfl⟩⟩; refine ⟨_, rfl, ?_⟩) | ((with_reducible refine gate_callee (f := 12) rfl ?_); refine goesL_ (some 61) rfl rfl Try.func12 (by kernel_rfl) rfl #[.int .i64 a0, .int .i64 a2] rfl (by (try simp only [List.map_toArray, List.map_cons, List.map_nil]); first | done | rfl | (simp only [List.length_drop, List.length_take]; rfl)) ?_; (with_reducible refine (act_Slope.calls kj5 a0 a2 t150 t151 _ A21.out).mono ?_); rintro e w' ⟨rfl, ⟨nd, rfl⟩⟩; refine ⟨_, rfl, ?_⟩))
            go_ret
            exact ⟨by first | rfl | (simp [errW_none, errW_some] <;> rfl) | (simp [*, errW_none, errW_some] <;> rfl), by repeat (first | (with_reducible first | exact HB.out | apply below_alloc | apply pw_below_drewN | apply below_drew1) | exact HB.out)⟩
  · replace c5 := Bool.eq_false_iff.mpr c5
    subst c5
    have H1 : (none) = some r := by rw [if_neg (show ¬ (false = true) by decide)] at H; exact H
    clear H
    have H := H1
    clear H1
    exact absurd H (by simp)

/-- THE ONE PURE STATEMENT of carousellaw9_ActSlopes: yours. -/
def carousellaw9_ActSlopes.Pure : Prop := ∀ (a0 : Int) (a1 : Int) (a2 : Int), (Lit.int .i64 a0).wf = true → (Lit.int .i64 a1).wf = true → (Lit.int .i64 a2).wf = true → ∃ k, carousellaw9_ActSlopes.f k a0 a1 a2 = some true
theorem carousellaw9_ActSlopes.walk (P : carousellaw9_ActSlopes.Pure) (a0 : Int) (a1 : Int) (a2 : Int) (w : World) (w0 : (Lit.int .i64 a0).wf = true) (w1 : (Lit.int .i64 a1).wf = true) (w2 : (Lit.int .i64 a2).wf = true) :
    Calls Try.prog 5 #[.int .i64 a0, .int .i64 a1, .int .i64 a2] w fun e w' => e = .returned (.bool true) ∧ Below w.heap.size w w' := by
  obtain ⟨k, h⟩ := P a0 a1 a2 w0 w1 w2
  refine (carousellaw9_ActSlopes.calls k a0 a1 a2 true w h).mono ?_
  rintro e w' ⟨rfl, hd⟩
  exact ⟨rfl, hd⟩

end Go.Proofs.Ytdamllanlligbaa.PActSlopes
