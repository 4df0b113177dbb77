/- Texts of the proof of TopNames, part 1: the walks through the program and what they lean on, pruned to what is used. Plain theorems and definitions. -/
import Derived.Test.YtmddclifcgcpcaaGreatDoorTN0
import Derived.Test.YtmddclifcgcpcaaGreatDoorProg
import Derived.Below
import Derived.Deep.Draws
import Derived.Deep.AppendLies
import Derived.Maps.AppendAt
import Derived.OwnWalk
import Derived.Laws.BytesArg
import Derived.Laws.MakeOwn
import Derived.Laws.OwnMore
import Derived.Deep.OwnRows
import Derived.Tactics
import Derived.Lib.ConvBytes
import Derived.Laws.Slices
import Derived.WalkKit
import Derived.KernelRfl
import Derived.RowKit3
import Derived.Deep.LoopGhost
import Derived.Deep.QuietTactic
import Derived.BigQuiet
import Derived.WideLaws
import Derived.Deep.DeepCutAuto
import Derived.Deep.CutBlock
import Derived.Deep.RegionHeld3
import Derived.Laws.Rows
import Derived.Lib.AppendStr
import Derived.ArgAppend
import Derived.Laws.IdiomCopy
import Derived.OrdersHeld
import Derived.Laws.BitsLemmas
import Derived.RowKit
import Derived.Lib.SliceRun
import Derived.LoopN
import Derived.Outline
import Derived.WalkMore
import Derived.Laws.CopyOwn
import Derived.Deep.RegionLaw
set_option linter.unusedVariables false
set_option linter.unusedSimpArgs false
set_option maxHeartbeats 8000000
set_option maxRecDepth 100000
namespace Go.Proofs.YtmddclifcgcpcaaGreatDoorW.PrintMore
open Go.RowKit Go.Proofs.YtmddclifcgcpcaaGreatDoorW.PrintWords Go.Proofs.YtmddclifcgcpcaaGreatDoorW.PrintLast
theorem zb_ {w w' : World} {g : Nat} {o : Obj} (h : Aside0 (w.heap[g]? = some o)) (t : w.heap[g]? = some o → w'.heap[g]? = some o := by intro h_; (with_reducible repeat (first | refine blk_drewN ?_ _ | refine blk_drew ?_ | refine blk_alloc ?_ _)); exact h_) : w'.heap[g]? = some o := t h.out
theorem zr_ {α : Type} {d : Kd α} {e b : Nat} {w w' : World} {ok : Nat → Prop} {v : Value} {xs : List α} (h : Kd.R d e w b ok v xs) (t : Kd.R d e w b ok v xs → Kd.R d e w' b ok v xs := by intro h_; (with_reducible repeat (first | apply Kd.R_alloc | apply Kd.R_drewN | apply Kd.R_drew)); exact h_) : Kd.R d e w' b ok v xs := t h
theorem zk_ {α : Type} {d : Kd α} {w w' : World} {A : Option Addr} {n : Nat} {xs : List α} (h : Kd.C d w A n xs) (t : Kd.C d w A n xs → Kd.C d w' A n xs := by intro h_; repeat (first | exact h_ | (with_reducible refine Kd.C_alloc ?_ _) | (with_reducible refine Kd.C_drewN ?_ _) | (with_reducible refine Kd.C_drew ?_))) : Kd.C d w' A n xs := t h
theorem za_ {w w1 w2 : World} {g : Nat} {o : Obj} (h : Aside0 (w.heap[g]? = some o)) (hb : Below w1.heap.size w1 w2) (t : w.heap[g]? = some o → w1.heap[g]? = some o := by intro h_; (with_reducible repeat (first | refine blk_drewN ?_ _ | refine blk_drew ?_ | refine blk_alloc ?_ _)); exact h_) : Aside0 (w2.heap[g]? = some o) := ⟨blk_below (t h.out) hb⟩
theorem zy_ {α : Type} {d : Kd α} {e b : Nat} {w w1 w2 : World} {ok : Nat → Prop} {v : Value} {xs : List α} (h : Aside0 (Kd.R d e w b ok v xs)) (hb : Below w1.heap.size w1 w2) (t : Kd.R d e w b ok v xs → Kd.R d e w1 b ok v xs := by intro h_; (with_reducible repeat (first | apply Kd.R_alloc | apply Kd.R_drewN | apply Kd.R_drew)); exact h_) : Aside0 (Kd.R d e w2 b ok v xs) := ⟨Kd.R_below (t h.out) hb⟩
theorem ze_ {α β : Type} {d : Kd α} {d' : Kd β} {e b e' : Nat} {w w1 w2 : World} {ok ok' : Nat → Prop} {v u : Value} {xs : List α} {ys : List β} (h : Aside0 (Kd.R d e w b ok v xs)) (ho : Kd.R d' e' w2 w1.heap.size ok' u ys) (hb : Below w1.heap.size w1 w2) (t : Kd.R d e w b ok v xs → Kd.R d e w1 b ok v xs := by intro h_; (with_reducible repeat (first | apply Kd.R_alloc | apply Kd.R_drewN | apply Kd.R_drew)); exact h_) : Aside0 (Kd.R d e w2 b (fun k => ok k ∧ some k ≠ u.ownBlock) v xs) := ⟨Kd.R_elder' (t h.out) (Kd.R_base ho) hb⟩
theorem zf_ {α : Type} {d : Kd α} {e b : Nat} {w : World} {ok : Nat → Prop} {v : Value} {xs : List α} {g t : Nat} {cs : Array Value} (h : Aside0 (Kd.R d e w b ok v xs)) (hb : Aside0 (w.heap[g]? = some (.cells cs t (0, 0)))) (x y : Value) (ht : ∀ q, q ∈ e :: d.E → q ≠ t := by decide) : Kd.R d e ((w.setCell ⟨g, 0, none⟩ x).setCell ⟨g, 1, none⟩ y) b ok v xs :=
  Kd.R_mono (Kd.R_far (p := ⟨g, 1, none⟩) (Kd.R_far (p := ⟨g, 0, none⟩) (Kd.R_types h.out hb.out ht) (fun _ hk => hk.2) x) (fun _ hk => hk.2) y) (fun _ h_ => h_.1)
theorem zv1_ {w w' : World} {g t g0 : Nat} {cs : Array Value} (h : Aside0 (w.heap[g]? = some (.cells cs t (0, 0)))) (n0 : Aside0 (g ≠ g0)) (k : w.heap[g]? = some (.cells cs t (0, 0)) → g ≠ g0 → w'.heap[g]? = some (.cells cs t (0, 0)) := by intro h_ n0_; repeat (first | (with_reducible exact h_) | (with_reducible first | refine blk_drewN ?_ _ | refine blk_drew ?_ | refine blk_alloc ?_ _) | refine blk_far ?_ n0_ _)) : w'.heap[g]? = some (.cells cs t (0, 0)) := k h.out n0.out
theorem zo1_ {w w1 w2 : World} {g t i1 : Nat} {u1 : Value} {cs cs' : Array Value} (h : Aside0 (w.heap[g]? = some (.cells cs t (0, 0)))) (k1 : (w1.setCell ⟨g, i1, none⟩ u1).heap[g]? = some (.cells (cs.setIfInBounds i1 u1) t (0, 0)) → w2.heap[g]? = some (.cells (cs.setIfInBounds i1 u1) t (0, 0)) := by intro h_; (with_reducible repeat (first | refine blk_drewN ?_ _ | refine blk_drew ?_ | refine blk_alloc ?_ _)); exact h_) (k0 : w.heap[g]? = some (.cells cs t (0, 0)) → w1.heap[g]? = some (.cells cs t (0, 0)) := by intro h_; (with_reducible repeat (first | refine blk_drewN ?_ _ | refine blk_drew ?_ | refine blk_alloc ?_ _)); exact h_) (e : (cs.setIfInBounds i1 u1) = cs' := by rfl) : w2.heap[g]? = some (.cells cs' t (0, 0)) := e ▸ (k1 (blk_set (k0 h.out) i1 u1))
theorem zo2_ {w w1 w2 w3 : World} {g t i1 i2 : Nat} {u1 u2 : Value} {cs cs' : Array Value} (h : Aside0 (w.heap[g]? = some (.cells cs t (0, 0)))) (k2 : (w2.setCell ⟨g, i2, none⟩ u2).heap[g]? = some (.cells ((cs.setIfInBounds i1 u1).setIfInBounds i2 u2) t (0, 0)) → w3.heap[g]? = some (.cells ((cs.setIfInBounds i1 u1).setIfInBounds i2 u2) t (0, 0)) := by intro h_; (with_reducible repeat (first | refine blk_drewN ?_ _ | refine blk_drew ?_ | refine blk_alloc ?_ _)); exact h_) (k1 : (w1.setCell ⟨g, i1, none⟩ u1).heap[g]? = some (.cells (cs.setIfInBounds i1 u1) t (0, 0)) → w2.heap[g]? = some (.cells (cs.setIfInBounds i1 u1) t (0, 0)) := by intro h_; (with_reducible repeat (first | refine blk_drewN ?_ _ | refine blk_drew ?_ | refine blk_alloc ?_ _)); exact h_) (k0 : w.heap[g]? = some (.cells cs t (0, 0)) → w1.heap[g]? = some (.cells cs t (0, 0)) := by intro h_; (with_reducible repeat (first | refine blk_drewN ?_ _ | refine blk_drew ?_ | refine blk_alloc ?_ _)); exact h_) (e : ((cs.setIfInBounds i1 u1).setIfInBounds i2 u2) = cs' := by rfl) : w3.heap[g]? = some (.cells cs' t (0, 0)) := e ▸ (k2 (blk_set (k1 (blk_set (k0 h.out) i1 u1)) i2 u2))
theorem z0_ {P : Prop} (h : P := by first | rfl | (simp [errW_none, errW_some] <;> rfl) | (simp [*, errW_none, errW_some] <;> rfl)) : P := h
theorem z1_ {P : Prop} (h : P := by first | rfl | (simp; done) | (simp [*]; done)) : P := h
theorem z2_ {P : Prop} (h : P := by first | exact Kd.R_nil _ _ _ _ _ | exact Kd.N_nil _ _ _ _ _ | exact Kd.V_nil _ _ _ _ _ | exact Kd.Q_nil _ _ _ _ _ | exact Kd.S_nil _ _ _ _ _) : P := h
theorem zh_ {w w1 w2 : World} {g : Nat} {o : Obj} {row : Option Nat} (h : Aside0 (w.heap[g]? = some o)) (hg : w1.grownBy w2 row) (hne : some g ≠ row) (t : w.heap[g]? = some o → w1.heap[g]? = some o := by intro h_; (with_reducible repeat (first | refine blk_drewN ?_ _ | refine blk_drew ?_ | refine blk_alloc ?_ _)); exact h_) : w2.heap[g]? = some o := blk_grown (t h.out) hg hne
theorem zn_ {w w1 : World} {g g' : Nat} {o : Obj} (hg : g' = w1.heap.size) (h : Aside0 (w.heap[g]? = some o)) (t : w.heap[g]? = some o → w1.heap[g]? = some o := by intro h_; (with_reducible repeat (first | refine blk_drewN ?_ _ | refine blk_drew ?_ | refine blk_alloc ?_ _)); exact h_) : g ≠ g' := by rw [hg]; exact Nat.ne_of_lt (blk_lt (t h.out))
theorem zm_ {w w1 : World} {g g' : Nat} {o : Obj} (hg : g' = w1.heap.size) (h : Aside0 (w.heap[g]? = some o)) (t : w.heap[g]? = some o → w1.heap[g]? = some o := by intro h_; (with_reducible repeat (first | refine blk_drewN ?_ _ | refine blk_drew ?_ | refine blk_alloc ?_ _)); exact h_) : g' ≠ g := by rw [hg]; exact Nat.ne_of_gt (blk_lt (t h.out))
theorem zs_ {w w1 : World} {g : Nat} (hg : g = w1.heap.size) (h : Below w.heap.size w w1) : w.heap.size ≤ g := by rw [hg]; exact below_size h
theorem zx_ {w : World} {g : Nat} {t : TypeId} {cs : Array Value} {v : Value} (h : Aside0 (w.heap[g]? = some (.cells cs t (0, 0)))) (i : Nat) (hv : cs[i]? = some v := by exact rfl) : w.cell? ⟨g, i, none⟩ = some v := (blk_cell h.out i).trans hv
theorem zg_ {P : Program} {ops : Array Oper} {Q : Exit → Act → World → Prop} {rest : List Oper} {oi : Oper} {a : Act} {w : World} (N : Option Tmp) {f : FuncId} {fn : Func} {asx : Array Operand} {ts : Array TypeId} (hf : P.funcs[f]? = some fn) (args : Array Value) (hd : oi.dst = N := by exact rfl) (hg : oi.guard = none := by exact rfl) (hname : (fn.name == "runtime.NumGoroutine") = false := by kernel_rfl) (hb : fn.body.isSome = true := by exact rfl)
    (hop : oi.op = .call { callee := .value (.func f), args := asx, argTypes := ts } := by exact rfl) (hargs : asx.map a.eval = args := by (try simp only [List.map_toArray, List.map_cons, List.map_nil]); first | done | rfl | (simp only [List.length_drop, List.length_take]; rfl))
    (h : Calls P f args w fun e w' => ∃ v, e = .returned v ∧ wpList P ops Q rest (a.put N v) w') : wpList P ops Q (oi :: rest) a w := goesL_ N hd hg hf hname hb args hop hargs h
theorem zq_ {P : Program} {ops : Array Oper} {Q : Exit → Act → World → Prop} {md : Region.Mode} {S : World → Prop} {ds : List Nat} {fuel : Nat} {l : Array Bool} {a a' : Act} {v : Value} {w : World} (N : Option Tmp) (ha : Act.put a N v = a' := by simp only [Act.put, List.setIfInBounds_toArray, List.set_cons_zero, List.set_cons_succ, i64_w, i32_w]; rfl) (h : wpAnyLast P md ops Q S ds fuel l a' w) : wpAnyLast P md ops Q S ds fuel l (Act.put a N v) w := norm_ ha h
theorem zi_ {P : Program} {ops : Array Oper} {Q : Exit → Act → World → Prop} {md : Region.Mode} {S : World → Prop} {ds : List Nat} {fuel : Nat} {l : Array Bool} {a a' : Act} {w : World} (ha : a = a' := by simp only [putAll, Act.put, List.setIfInBounds_toArray, List.set_cons_zero, List.set_cons_succ]; rfl) (h : wpAnyLast P md ops Q S ds fuel l a' w) : wpAnyLast P md ops Q S ds fuel l a w := norm_ ha h
theorem zj_ {P : Program} {ops : Array Oper} {Q : Exit → Act → World → Prop} {md : Region.Mode} {S : World → Prop} {ds : List Nat} {fuel : Nat} {l : Array Bool} {a a' : Act} {w : World} (h : wpAnyLast P md ops Q S ds fuel l a' w) (ha : a = a' := by first | (simp only [putAll, Act.put, List.setIfInBounds_toArray, List.set_cons_zero, List.set_cons_succ]; done) | (simp only [putAll, Act.put, List.setIfInBounds_toArray, List.set_cons_zero, List.set_cons_succ]; rfl)) : wpAnyLast P md ops Q S ds fuel l a w := norm_ ha h
theorem zw0_ {b : Nat} {w0 w w' : World} (h : Aside0 (Below b w0 w)) (t : Below b w0 w → Below b w0 w' := by intro h_; repeat (first | (with_reducible first | exact h_ | apply below_alloc | apply pw_below_drewN | apply below_drew1) | exact h_)) : Below b w0 w' := t h.out
theorem zw1_ {b g0 : Nat} {w0 w w' : World} (h : Aside0 (Below b w0 w)) (i0 : Aside0 (b ≤ g0)) (t : Below b w0 w → b ≤ g0 → Below b w0 w' := by intro h_ i0_; repeat (first | (with_reducible first | exact h_ | apply below_alloc | apply pw_below_drewN | apply below_drew1 | refine below_set ?_ i0_) | exact h_)) : Below b w0 w' := t h.out i0.out
theorem zw2_ {b g0 g1 : Nat} {w0 w w' : World} (h : Aside0 (Below b w0 w)) (i0 : Aside0 (b ≤ g0)) (i1 : Aside0 (b ≤ g1)) (t : Below b w0 w → b ≤ g0 → b ≤ g1 → Below b w0 w' := by intro h_ i0_ i1_; repeat (first | (with_reducible first | exact h_ | apply below_alloc | apply pw_below_drewN | apply below_drew1 | refine below_set ?_ i0_ | refine below_set ?_ i1_) | exact h_)) : Below b w0 w' := t h.out i0.out i1.out
theorem zw3_ {b g0 g1 g2 : Nat} {w0 w w' : World} (h : Aside0 (Below b w0 w)) (i0 : Aside0 (b ≤ g0)) (i1 : Aside0 (b ≤ g1)) (i2 : Aside0 (b ≤ g2)) (t : Below b w0 w → b ≤ g0 → b ≤ g1 → b ≤ g2 → Below b w0 w' := by intro h_ i0_ i1_ i2_; repeat (first | (with_reducible first | exact h_ | apply below_alloc | apply pw_below_drewN | apply below_drew1 | refine below_set ?_ i0_ | refine below_set ?_ i1_ | refine below_set ?_ i2_) | exact h_)) : Below b w0 w' := t h.out i0.out i1.out i2.out
theorem zw4_ {b g0 g1 g2 g3 : Nat} {w0 w w' : World} (h : Aside0 (Below b w0 w)) (i0 : Aside0 (b ≤ g0)) (i1 : Aside0 (b ≤ g1)) (i2 : Aside0 (b ≤ g2)) (i3 : Aside0 (b ≤ g3)) (t : Below b w0 w → b ≤ g0 → b ≤ g1 → b ≤ g2 → b ≤ g3 → Below b w0 w' := by intro h_ i0_ i1_ i2_ i3_; repeat (first | (with_reducible first | exact h_ | apply below_alloc | apply pw_below_drewN | apply below_drew1 | refine below_set ?_ i0_ | refine below_set ?_ i1_ | refine below_set ?_ i2_ | refine below_set ?_ i3_) | exact h_)) : Below b w0 w' := t h.out i0.out i1.out i2.out i3.out
theorem zw5_ {b g0 g1 g2 g3 g4 : Nat} {w0 w w' : World} (h : Aside0 (Below b w0 w)) (i0 : Aside0 (b ≤ g0)) (i1 : Aside0 (b ≤ g1)) (i2 : Aside0 (b ≤ g2)) (i3 : Aside0 (b ≤ g3)) (i4 : Aside0 (b ≤ g4)) (t : Below b w0 w → b ≤ g0 → b ≤ g1 → b ≤ g2 → b ≤ g3 → b ≤ g4 → Below b w0 w' := by intro h_ i0_ i1_ i2_ i3_ i4_; repeat (first | (with_reducible first | exact h_ | apply below_alloc | apply pw_below_drewN | apply below_drew1 | refine below_set ?_ i0_ | refine below_set ?_ i1_ | refine below_set ?_ i2_ | refine below_set ?_ i3_ | refine below_set ?_ i4_) | exact h_)) : Below b w0 w' := t h.out i0.out i1.out i2.out i3.out i4.out
theorem zw6_ {b g0 g1 g2 g3 g4 g5 : Nat} {w0 w w' : World} (h : Aside0 (Below b w0 w)) (i0 : Aside0 (b ≤ g0)) (i1 : Aside0 (b ≤ g1)) (i2 : Aside0 (b ≤ g2)) (i3 : Aside0 (b ≤ g3)) (i4 : Aside0 (b ≤ g4)) (i5 : Aside0 (b ≤ g5)) (t : Below b w0 w → b ≤ g0 → b ≤ g1 → b ≤ g2 → b ≤ g3 → b ≤ g4 → b ≤ g5 → Below b w0 w' := by intro h_ i0_ i1_ i2_ i3_ i4_ i5_; repeat (first | (with_reducible first | exact h_ | apply below_alloc | apply pw_below_drewN | apply below_drew1 | refine below_set ?_ i0_ | refine below_set ?_ i1_ | refine below_set ?_ i2_ | refine below_set ?_ i3_ | refine below_set ?_ i4_ | refine below_set ?_ i5_) | exact h_)) : Below b w0 w' := t h.out i0.out i1.out i2.out i3.out i4.out i5.out
theorem yp_ {P : Program} {ops : Array Oper} {Q : Exit → Act → World → Prop} {md : Region.Mode} {S : World → Prop} {ds : List Nat} {oi : Oper} {v : Value} {fuel : Nat} {l l' : Array Bool} {a a' : Act} {w : World} (h : wpAnyLast P md ops Q S ds fuel l' a' w) (i n : Nat) (hi : ops[i]? = some oi := by exact rfl) (hN : oi.dst = some n := by exact rfl) (hl : l.setIfInBounds i true = l' := by simp only [List.setIfInBounds_toArray, List.set_cons_zero, List.set_cons_succ]; rfl) (hc : anyB md ops l l' i = true := by exact any_of HT_.out (by kernel_rfl)) (hQ : ∀ c a w, Q (.panic c) (a.put oi.dst v) w → Q (.panic c) a w := by exact fun _ _ _ h => h) (hy : Yields P ops oi v a := by refine Or.inl ⟨by rfl, ?_⟩; intro w'; go_simp; with_reducible rfl) (ha : a.put (some n) v = a' := by simp only [Act.put, List.setIfInBounds_toArray, List.set_cons_zero, List.set_cons_succ, i64_w, i32_w]; rfl) : wpAnyLast P md ops Q S ds (fuel + 1) l a w := pure_ l' hi hN hc hQ hy ha h
theorem yt2_ {P : Program} {ops : Array Oper} {Q : Exit → Act → World → Prop} {md : Region.Mode} {S : World → Prop} {ds : List Nat} {oi : Oper} {v : Value} {fuel : Nat} {l l' : Array Bool} {a a' : Act} {w : World} (h : wpAnyLast P md ops Q S ds fuel l' a' w) (i n : Nat) (hS : S w := by exact hHeld) (hi : ops[i]? = some oi := by exact rfl) (hN : oi.dst = some n := by exact rfl) (hl : l.setIfInBounds i true = l' := by simp only [List.setIfInBounds_toArray, List.set_cons_zero, List.set_cons_succ]; rfl) (hr : ∀ w, S w → (execOp a.eval oi).run P w = .ok (.value v) w := by rintro w' ⟨s0, s1⟩; go_simp; with_reducible rfl) (hc : takeB md ops ds l l' i = true := by exact take_ofW HT_.out HW_.out (by kernel_rfl)) (hQ : ∀ c a w, Q (.panic c) (a.put oi.dst v) w → Q (.panic c) a w := by exact fun _ _ _ h => h) (hw : Region.wanted oi (yielded ops a.tmps) = true := by rfl) (ha : a.put (some n) v = a' := by simp only [Act.put, List.setIfInBounds_toArray, List.set_cons_zero, List.set_cons_succ, i64_w, i32_w]; rfl) : wpAnyLast P md ops Q S ds (fuel + 1) l a w := take_ l' hi hN hc hQ (.inl ⟨hw, hr⟩) hS ha h
theorem yt3_ {P : Program} {ops : Array Oper} {Q : Exit → Act → World → Prop} {md : Region.Mode} {S : World → Prop} {ds : List Nat} {oi : Oper} {v : Value} {fuel : Nat} {l l' : Array Bool} {a a' : Act} {w : World} (h : wpAnyLast P md ops Q S ds fuel l' a' w) (i n : Nat) (hS : S w := by exact hHeld) (hi : ops[i]? = some oi := by exact rfl) (hN : oi.dst = some n := by exact rfl) (hl : l.setIfInBounds i true = l' := by simp only [List.setIfInBounds_toArray, List.set_cons_zero, List.set_cons_succ]; rfl) (hr : ∀ w, S w → (execOp a.eval oi).run P w = .ok (.value v) w := by rintro w' ⟨s0, s1, s2⟩; go_simp; with_reducible rfl) (hc : takeB md ops ds l l' i = true := by exact take_ofW HT_.out HW_.out (by kernel_rfl)) (hQ : ∀ c a w, Q (.panic c) (a.put oi.dst v) w → Q (.panic c) a w := by exact fun _ _ _ h => h) (hw : Region.wanted oi (yielded ops a.tmps) = true := by rfl) (ha : a.put (some n) v = a' := by simp only [Act.put, List.setIfInBounds_toArray, List.set_cons_zero, List.set_cons_succ, i64_w, i32_w]; rfl) : wpAnyLast P md ops Q S ds (fuel + 1) l a w := take_ l' hi hN hc hQ (.inl ⟨hw, hr⟩) hS ha h
theorem yt4_ {P : Program} {ops : Array Oper} {Q : Exit → Act → World → Prop} {md : Region.Mode} {S : World → Prop} {ds : List Nat} {oi : Oper} {v : Value} {fuel : Nat} {l l' : Array Bool} {a a' : Act} {w : World} (h : wpAnyLast P md ops Q S ds fuel l' a' w) (i n : Nat) (hS : S w := by exact hHeld) (hi : ops[i]? = some oi := by exact rfl) (hN : oi.dst = some n := by exact rfl) (hl : l.setIfInBounds i true = l' := by simp only [List.setIfInBounds_toArray, List.set_cons_zero, List.set_cons_succ]; rfl) (hr : ∀ w, S w → (execOp a.eval oi).run P w = .ok (.value v) w := by rintro w' ⟨s0, s1, s2, s3⟩; go_simp; with_reducible rfl) (hc : takeB md ops ds l l' i = true := by exact take_ofW HT_.out HW_.out (by kernel_rfl)) (hQ : ∀ c a w, Q (.panic c) (a.put oi.dst v) w → Q (.panic c) a w := by exact fun _ _ _ h => h) (hw : Region.wanted oi (yielded ops a.tmps) = true := by rfl) (ha : a.put (some n) v = a' := by simp only [Act.put, List.setIfInBounds_toArray, List.set_cons_zero, List.set_cons_succ, i64_w, i32_w]; rfl) : wpAnyLast P md ops Q S ds (fuel + 1) l a w := take_ l' hi hN hc hQ (.inl ⟨hw, hr⟩) hS ha h
theorem yt5_ {P : Program} {ops : Array Oper} {Q : Exit → Act → World → Prop} {md : Region.Mode} {S : World → Prop} {ds : List Nat} {oi : Oper} {v : Value} {fuel : Nat} {l l' : Array Bool} {a a' : Act} {w : World} (h : wpAnyLast P md ops Q S ds fuel l' a' w) (i n : Nat) (hS : S w := by exact hHeld) (hi : ops[i]? = some oi := by exact rfl) (hN : oi.dst = some n := by exact rfl) (hl : l.setIfInBounds i true = l' := by simp only [List.setIfInBounds_toArray, List.set_cons_zero, List.set_cons_succ]; rfl) (hr : ∀ w, S w → (execOp a.eval oi).run P w = .ok (.value v) w := by rintro w' ⟨s0, s1, s2, s3, s4⟩; go_simp; with_reducible rfl) (hc : takeB md ops ds l l' i = true := by exact take_ofW HT_.out HW_.out (by kernel_rfl)) (hQ : ∀ c a w, Q (.panic c) (a.put oi.dst v) w → Q (.panic c) a w := by exact fun _ _ _ h => h) (hw : Region.wanted oi (yielded ops a.tmps) = true := by rfl) (ha : a.put (some n) v = a' := by simp only [Act.put, List.setIfInBounds_toArray, List.set_cons_zero, List.set_cons_succ, i64_w, i32_w]; rfl) : wpAnyLast P md ops Q S ds (fuel + 1) l a w := take_ l' hi hN hc hQ (.inl ⟨hw, hr⟩) hS ha h
theorem yt7_ {P : Program} {ops : Array Oper} {Q : Exit → Act → World → Prop} {md : Region.Mode} {S : World → Prop} {ds : List Nat} {oi : Oper} {v : Value} {fuel : Nat} {l l' : Array Bool} {a a' : Act} {w : World} (h : wpAnyLast P md ops Q S ds fuel l' a' w) (i n : Nat) (hS : S w := by exact hHeld) (hi : ops[i]? = some oi := by exact rfl) (hN : oi.dst = some n := by exact rfl) (hl : l.setIfInBounds i true = l' := by simp only [List.setIfInBounds_toArray, List.set_cons_zero, List.set_cons_succ]; rfl) (hr : ∀ w, S w → (execOp a.eval oi).run P w = .ok (.value v) w := by rintro w' ⟨s0, s1, s2, s3, s4, s5, s6⟩; go_simp; with_reducible rfl) (hc : takeB md ops ds l l' i = true := by exact take_ofW HT_.out HW_.out (by kernel_rfl)) (hQ : ∀ c a w, Q (.panic c) (a.put oi.dst v) w → Q (.panic c) a w := by exact fun _ _ _ h => h) (hw : Region.wanted oi (yielded ops a.tmps) = true := by rfl) (ha : a.put (some n) v = a' := by simp only [Act.put, List.setIfInBounds_toArray, List.set_cons_zero, List.set_cons_succ, i64_w, i32_w]; rfl) : wpAnyLast P md ops Q S ds (fuel + 1) l a w := take_ l' hi hN hc hQ (.inl ⟨hw, hr⟩) hS ha h
theorem yt9_ {P : Program} {ops : Array Oper} {Q : Exit → Act → World → Prop} {md : Region.Mode} {S : World → Prop} {ds : List Nat} {oi : Oper} {v : Value} {fuel : Nat} {l l' : Array Bool} {a a' : Act} {w : World} (h : wpAnyLast P md ops Q S ds fuel l' a' w) (i n : Nat) (hS : S w := by exact hHeld) (hi : ops[i]? = some oi := by exact rfl) (hN : oi.dst = some n := by exact rfl) (hl : l.setIfInBounds i true = l' := by simp only [List.setIfInBounds_toArray, List.set_cons_zero, List.set_cons_succ]; rfl) (hr : ∀ w, S w → (execOp a.eval oi).run P w = .ok (.value v) w := by rintro w' ⟨s0, s1, s2, s3, s4, s5, s6, s7, s8⟩; go_simp; with_reducible rfl) (hc : takeB md ops ds l l' i = true := by exact take_ofW HT_.out HW_.out (by kernel_rfl)) (hQ : ∀ c a w, Q (.panic c) (a.put oi.dst v) w → Q (.panic c) a w := by exact fun _ _ _ h => h) (hw : Region.wanted oi (yielded ops a.tmps) = true := by rfl) (ha : a.put (some n) v = a' := by simp only [Act.put, List.setIfInBounds_toArray, List.set_cons_zero, List.set_cons_succ, i64_w, i32_w]; rfl) : wpAnyLast P md ops Q S ds (fuel + 1) l a w := take_ l' hi hN hc hQ (.inl ⟨hw, hr⟩) hS ha h
theorem yt10_ {P : Program} {ops : Array Oper} {Q : Exit → Act → World → Prop} {md : Region.Mode} {S : World → Prop} {ds : List Nat} {oi : Oper} {v : Value} {fuel : Nat} {l l' : Array Bool} {a a' : Act} {w : World} (h : wpAnyLast P md ops Q S ds fuel l' a' w) (i n : Nat) (hS : S w := by exact hHeld) (hi : ops[i]? = some oi := by exact rfl) (hN : oi.dst = some n := by exact rfl) (hl : l.setIfInBounds i true = l' := by simp only [List.setIfInBounds_toArray, List.set_cons_zero, List.set_cons_succ]; rfl) (hr : ∀ w, S w → (execOp a.eval oi).run P w = .ok (.value v) w := by rintro w' ⟨s0, s1, s2, s3, s4, s5, s6, s7, s8, s9⟩; go_simp; with_reducible rfl) (hc : takeB md ops ds l l' i = true := by exact take_ofW HT_.out HW_.out (by kernel_rfl)) (hQ : ∀ c a w, Q (.panic c) (a.put oi.dst v) w → Q (.panic c) a w := by exact fun _ _ _ h => h) (hw : Region.wanted oi (yielded ops a.tmps) = true := by rfl) (ha : a.put (some n) v = a' := by simp only [Act.put, List.setIfInBounds_toArray, List.set_cons_zero, List.set_cons_succ, i64_w, i32_w]; rfl) : wpAnyLast P md ops Q S ds (fuel + 1) l a w := take_ l' hi hN hc hQ (.inl ⟨hw, hr⟩) hS ha h
theorem yo_ {P : Program} {ops : Array Oper} {Q : Exit → Act → World → Prop} {md : Region.Mode} {S : World → Prop} {ds : List Nat} {oi : Oper} {fuel : Nat} {l l' : Array Bool} {a : Act} {w : World} (i : Nat) (N : Option Tmp) (h : ∀ K : Act → World → Prop, Shut (∀ a' w', S w' → (S w' → wpAnyLast P md ops Q S ds fuel l' a' w') → K a' w') → if Region.wanted oi (yielded ops a.tmps) = true then Oper.wp P oi a w K Q else K (a.put N undef) w) (hi : ops[i]? = some oi := by exact rfl) (hN : oi.dst = N := by exact rfl) (hl : l.setIfInBounds i true = l' := by simp only [List.setIfInBounds_toArray, List.set_cons_zero, List.set_cons_succ]; rfl) (hc : readyB md ops l l' i = true := by exact one_of HT_.out (by kernel_rfl)) (hd : i ∉ ds := by decide) : wpAnyLast P md ops Q S ds (fuel + 1) l a w := one_ l' hi hN hc hd h
theorem yl_ {P : Program} {ops : Array Oper} {Q : Exit → Act → World → Prop} {md : Region.Mode} {S : World → Prop} {ds : List Nat} {oi : Oper} {fuel : Nat} {l l' : Array Bool} {a : Act} {w : World} (i : Nat) (N : Option Tmp) (h : ∀ K : Act → World → Prop, Shut (∀ a' w', wpAnyLast P md ops Q S ds fuel l' a' w' → K a' w') → if Region.wanted oi (yielded ops a.tmps) = true then Oper.wp P oi a w K Q else K (a.put N undef) w) (hi : ops[i]? = some oi := by exact rfl) (hN : oi.dst = N := by exact rfl) (hl : l.setIfInBounds i true = l' := by simp only [List.setIfInBounds_toArray, List.set_cons_zero, List.set_cons_succ]; rfl) (hc : readyB md ops l l' i = true := by exact one_of HT_.out (by kernel_rfl)) (hd : i ∈ ds := by decide) : wpAnyLast P md ops Q S ds (fuel + 1) l a w := last_ l' hi hN hc hd h
theorem yg_ {P : Program} {ops : Array Oper} {Q : Exit → Act → World → Prop} {oi : Oper} {N : Option Tmp} {a : Act} {w : World} {K : Act → World → Prop} {f : FuncId} {fn : Func} {asx : Array Operand} {ts : Array TypeId} (hf : P.funcs[f]? = some fn) (args : Array Value) (h : Calls P f args w fun e w' => ∃ v, e = .returned v ∧ K (a.put N v) w') (hname : (fn.name == "runtime.NumGoroutine") = false := by kernel_rfl) (hb : fn.body.isSome = true := by exact rfl) (hw : Region.wanted oi (yielded ops a.tmps) = true := by rfl) (hN : oi.dst = N := by exact rfl) (hop : oi.op = .call { callee := .value (.func f), args := asx, argTypes := ts } := by exact rfl) (hargs : asx.map a.eval = args := by (try simp only [List.map_toArray, List.map_cons, List.map_nil]); first | done | rfl | (simp only [List.length_drop, List.length_take]; rfl)) : if Region.wanted oi (yielded ops a.tmps) = true then Oper.wp P oi a w K Q else K (a.put N undef) w := goes_ hf hname hb args hw hN hop hargs h
theorem zA_ {p : Prop} (h : p) : Aside0 p := ⟨h⟩
theorem zD_ {p : Prop} [Decidable p] (h : decide p = true := by first | (with_reducible assumption) | assumption) : p := of_decide_eq_true h
theorem zE_ {w w' : World} (h : Drawn0 w w' := by repeat (first | exact Drawn0.refl _ | apply Drawn0.step)) : Drawn0 w w' := h
theorem zN_ {P Q : Prop} (h : P) (n : ¬ P := by simp) : Q := absurd h n
theorem zO_ {α β : Type} {o : Option α} {f : α → Option β} {b : β} (h : o.bind f = some b) : ∃ a, o = some a ∧ f a = some b := Option.bind_eq_some_iff.mp h
theorem zB_ {P : Program} {ops : Array Oper} {rest : List Oper} {o : Oper} {a : Act} {Q : Exit → Act → World → Prop} {W : World} {N : Tmp} (cs : Array Value) (t : TypeId) (h : ∀ g, g = W.heap.size → ∀ w1, w1.heap[g]? = some (.cells cs t (0, 0)) → Below W.heap.size W w1 → wpList P ops Q rest (a.put o.dst (.pointer (some ⟨g, 0, none⟩))) w1)
    (hd : o.dst = some N := by rfl) (hgd : o.guard = none := by rfl) (hrun : (execOp a.eval o).run P W = .ok (.value (.pointer (some ⟨W.heap.size, 0, none⟩))) (W.alloc (.cells cs t (0, 0))) := by first | (go_simp; done) | (go_simp; rfl)) : wpList P ops Q (o :: rest) a W := box_event hgd hd hrun h
end Go.Proofs.YtmddclifcgcpcaaGreatDoorW.PrintMore
namespace Go.Proofs.YtmddclifcgcpcaaGreatDoor.PTopNames
open Go.RowKit Go.Proofs.YtmddclifcgcpcaaGreatDoorW.PrintWords Go.Proofs.YtmddclifcgcpcaaGreatDoorW.PrintLast Go.Proofs.YtmddclifcgcpcaaGreatDoorW.PrintMore
attribute [local go_sem] max2_int min2_int max_two min_two max_three min_three max_four min_four
def errW : Option Int → Value
 | none => .nilIface
 | some c => .iface 248 (.int .i64 c)
theorem errW_none : errW none = .nilIface := rfl
theorem errW_some (c : Int) : errW (some c) = .iface 248 (.int .i64 c) := rfl
theorem info3 : (Tryz.prog.info? 3).map (fun i => (i.zero, i.size, i.bytes)) = some (some (.int .i64 0), 1, 8) := by kernel_rfl
theorem info32 : (Tryz.prog.info? 32).map (fun i => (i.zero, i.size, i.bytes)) = some (some (.slice none 0 0), 1, 24) := by kernel_rfl
theorem info36 : (Tryz.prog.info? 36).map (fun i => (i.zero, i.size, i.bytes)) = some (some (.int .i64 0), 1, 8) := by kernel_rfl
theorem info87 : (Tryz.prog.info? 87).map (fun i => (i.zero, i.size, i.bytes)) = some (some (.agg #[(.slice none 0 0), (.slice none 0 0), (.int .i64 0)]), 3, 56) := by kernel_rfl
theorem info292 : (Tryz.prog.info? 292).map (fun i => (i.zero, i.size, i.bytes)) = some (some (.agg #[(.int .i64 0), (.int .u64 0)]), 2, 16) := by kernel_rfl
structure S84 where
 f0 : ByteArray
 f1 : Int
 f2 : Int
def z84 : S84 := ⟨(⟨#[]⟩ : ByteArray), (0 : Int), (0 : Int)⟩
def k84 : Kd S84 := Kd.iso (Kd.pair Kd.string (Kd.pair (Kd.int .i64) (Kd.int .i64))) (fun x : S84 => (x.f0, x.f1, x.f2))
theorem k84_open {w : World} {x : S84} {cs : List Value} (h : k84.K w x cs) : cs = [.string x.f0, .int .i64 x.f1, .int .i64 x.f2] := by
 obtain ⟨_, _, rfl, rfl, ⟨_, _, rfl, rfl, rfl⟩⟩ := h
 exact rfl
theorem k84_mkM (w : World) (base : Nat) (ok : Nat → Prop) (x : S84)  : k84.M w base ok x [.string x.f0, .int .i64 x.f1, .int .i64 x.f2] := ⟨[.string x.f0], [.int .i64 x.f1, .int .i64 x.f2], rfl, rfl, ⟨[.int .i64 x.f1], [.int .i64 x.f2], rfl, rfl, rfl⟩⟩
def rd_T84 (xs : List S84) (i : Int) : S84 := xs.getD i.toNat z84
theorem at_T84 {w : World} {A : Option Addr} {n : Nat} {xs : List S84} (h : Kd.C k84 w A n xs) (i : Int) (h0 : 0 ≤ i) (h1 : i < n) : ∃ ad , A = some ad ∧ w.cell? (ad.add (i.toNat * 3)) = some (.string (rd_T84 xs i).f0) ∧ w.cell? ⟨(ad.add (i.toNat * 3)).block, (ad.add (i.toNat * 3)).off + 1, none⟩ = some (.int .i64 (rd_T84 xs i).f1) ∧ w.cell? ⟨(ad.add (i.toNat * 3)).block, (ad.add (i.toNat * 3)).off + 2, none⟩ = some (.int .i64 (rd_T84 xs i).f2) := by
 obtain ⟨ad, c, e, _, hK, hc0⟩ := Kd.C_get h z84 i h0 h1
 have hc : ∀ j u, c[j]? = some u → w.cell? (ad.add (i.toNat * 3 + j)) = some u := hc0
 obtain rfl := k84_open hK
 exact ⟨ad, e, hc 0 _ rfl, by rw [← add_field _ _ 1 (by omega)]; exact hc 1 _ rfl, by rw [← add_field _ _ 2 (by omega)]; exact hc 2 _ rfl⟩
structure S87 where
 f0 : (List Int)
 f1 : (List Int)
 f2 : Int
def z87 : S87 := ⟨([] : List Int), ([] : List Int), (0 : Int)⟩
def k87 : Kd S87 := Kd.iso (Kd.pair (Kd.slice 36 (Kd.int .i64)) (Kd.pair (Kd.slice 36 (Kd.int .i64)) (Kd.int .i64))) (fun x : S87 => (x.f0, x.f1, x.f2))
theorem k87_open {w : World} {x : S87} {cs : List Value} (h : k87.K w x cs) : ∃ A0 c0 A1 c1, cs = [.slice A0 x.f0.length c0, .slice A1 x.f1.length c1, .int .i64 x.f2] ∧ x.f0.length ≤ c0 ∧ (Kd.int .i64).C w A0 x.f0.length x.f0 ∧ x.f1.length ≤ c1 ∧ (Kd.int .i64).C w A1 x.f1.length x.f1 := by
 obtain ⟨_, _, rfl, ⟨A0, c0, rfl, l0, g0⟩, ⟨_, _, rfl, ⟨A1, c1, rfl, l1, g1⟩, rfl⟩⟩ := h
 exact ⟨A0, c0, A1, c1, rfl, l0, g0, l1, g1⟩
theorem k87_mkM (w : World) (base : Nat) (ok : Nat → Prop) (x : S87) {v0 : Value} (g0 : (Kd.int .i64).R 36 w base ok v0 x.f0) {v1 : Value} (g1 : (Kd.int .i64).R 36 w base ok v1 x.f1) : k87.M w base ok x [v0, v1, .int .i64 x.f2] := ⟨[v0], [v1, .int .i64 x.f2], rfl, ⟨v0, rfl, g0⟩, ⟨[v1], [.int .i64 x.f2], rfl, ⟨v1, rfl, g1⟩, rfl⟩⟩
def rd_T87 (xs : List S87) (i : Int) : S87 := xs.getD i.toNat z87
theorem at_T87 {w : World} {A : Option Addr} {n : Nat} {xs : List S87} (h : Kd.C k87 w A n xs) (i : Int) (h0 : 0 ≤ i) (h1 : i < n) : ∃ ad A0 c0 A1 c1, A = some ad ∧ w.cell? (ad.add (i.toNat * 3)) = some (.slice A0 (rd_T87 xs i).f0.length c0) ∧ w.cell? ⟨(ad.add (i.toNat * 3)).block, (ad.add (i.toNat * 3)).off + 1, none⟩ = some (.slice A1 (rd_T87 xs i).f1.length c1) ∧ w.cell? ⟨(ad.add (i.toNat * 3)).block, (ad.add (i.toNat * 3)).off + 2, none⟩ = some (.int .i64 (rd_T87 xs i).f2) ∧ (rd_T87 xs i).f0.length ≤ c0 ∧ (Kd.int .i64).C w A0 (rd_T87 xs i).f0.length (rd_T87 xs i).f0 ∧ (rd_T87 xs i).f1.length ≤ c1 ∧ (Kd.int .i64).C w A1 (rd_T87 xs i).f1.length (rd_T87 xs i).f1 := by
 obtain ⟨ad, c, e, _, hK, hc0⟩ := Kd.C_get h z87 i h0 h1
 have hc : ∀ j u, c[j]? = some u → w.cell? (ad.add (i.toNat * 3 + j)) = some u := hc0
 obtain ⟨A0, c0, A1, c1, rfl, l0, g0, l1, g1⟩ := k87_open hK
 exact ⟨ad, A0, c0, A1, c1, e, hc 0 _ rfl, by rw [← add_field _ _ 1 (by omega)]; exact hc 1 _ rfl, by rw [← add_field _ _ 2 (by omega)]; exact hc 2 _ rfl, l0, g0, l1, g1⟩
structure S292 where
 f0 : Int
 f1 : Int
def z292 : S292 := ⟨(0 : Int), (0 : Int)⟩
def k292 : Kd S292 := Kd.iso (Kd.pair (Kd.int .i64) (Kd.int .u64)) (fun x : S292 => (x.f0, x.f1))
theorem k292_open {w : World} {x : S292} {cs : List Value} (h : k292.K w x cs) : cs = [.int .i64 x.f0, .int .u64 x.f1] := by
 obtain ⟨_, _, rfl, rfl, rfl⟩ := h
 exact rfl
theorem k292_openM {w : World} {base : Nat} {ok : Nat → Prop} {x : S292} {cs : List Value} (h : k292.M w base ok x cs) : cs = [.int .i64 x.f0, .int .u64 x.f1] := by
 obtain ⟨_, _, rfl, rfl, rfl⟩ := h
 exact rfl
theorem k292_mkM (w : World) (base : Nat) (ok : Nat → Prop) (x : S292)  : k292.M w base ok x [.int .i64 x.f0, .int .u64 x.f1] := ⟨[.int .i64 x.f0], [.int .u64 x.f1], rfl, rfl, rfl⟩
def rd_T292 (xs : List S292) (i : Int) : S292 := xs.getD i.toNat z292
theorem at_T292 {w : World} {A : Option Addr} {n : Nat} {xs : List S292} (h : Kd.C k292 w A n xs) (i : Int) (h0 : 0 ≤ i) (h1 : i < n) : ∃ ad , A = some ad ∧ w.cell? (ad.add (i.toNat * 2)) = some (.int .i64 (rd_T292 xs i).f0) ∧ w.cell? ⟨(ad.add (i.toNat * 2)).block, (ad.add (i.toNat * 2)).off + 1, none⟩ = some (.int .u64 (rd_T292 xs i).f1) := by
 obtain ⟨ad, c, e, _, hK, hc0⟩ := Kd.C_get h z292 i h0 h1
 have hc : ∀ j u, c[j]? = some u → w.cell? (ad.add (i.toNat * 2 + j)) = some u := hc0
 obtain rfl := k292_open hK
 exact ⟨ad, e, hc 0 _ rfl, by rw [← add_field _ _ 1 (by omega)]; exact hc 1 _ rfl⟩
def rd_L13 (xs : List (List Int)) (i : Int) : (List Int) := xs.getD i.toNat ([] : List Int)
theorem at_L13 {w : World} {A : Option Addr} {n : Nat} {xs : List (List Int)} (h : Kd.C (Kd.slice 3 (Kd.int .i64)) w A n xs) (i : Int) (h0 : 0 ≤ i) (h1 : i < n) : ∃ ad A0 c0, A = some ad ∧ w.cell? (ad.add i.toNat) = some (.slice A0 (rd_L13 xs i).length c0) ∧ (rd_L13 xs i).length ≤ c0 ∧ (Kd.int .i64).C w A0 (rd_L13 xs i).length (rd_L13 xs i) := by
 obtain ⟨ad, c, e, _, hK, hc0⟩ := Kd.C_get h ([] : List Int) i h0 h1
 have hc : ∀ j u, c[j]? = some u → w.cell? (ad.add (i.toNat * 1 + j)) = some u := hc0
 obtain ⟨A0, c0, rfl, l0, g0⟩ := hK
 exact ⟨ad, A0, c0, e, by have hq := hc 0 _ rfl; rwa [Nat.mul_one, Nat.add_zero] at hq, l0, g0⟩
structure S273 where
 f0 : (List Int)
 f1 : (List Int)
def z273 : S273 := ⟨([] : List Int), ([] : List Int)⟩
def k273 : Kd S273 := Kd.iso (Kd.pair (Kd.slice 3 (Kd.int .i64)) (Kd.slice 36 (Kd.int .i64))) (fun x : S273 => (x.f0, x.f1))
theorem k273_open {w : World} {x : S273} {cs : List Value} (h : k273.K w x cs) : ∃ A0 c0 A1 c1, cs = [.slice A0 x.f0.length c0, .slice A1 x.f1.length c1] ∧ x.f0.length ≤ c0 ∧ (Kd.int .i64).C w A0 x.f0.length x.f0 ∧ x.f1.length ≤ c1 ∧ (Kd.int .i64).C w A1 x.f1.length x.f1 := by
 obtain ⟨_, _, rfl, ⟨A0, c0, rfl, l0, g0⟩, ⟨A1, c1, rfl, l1, g1⟩⟩ := h
 exact ⟨A0, c0, A1, c1, rfl, l0, g0, l1, g1⟩
theorem k273_openM {w : World} {base : Nat} {ok : Nat → Prop} {x : S273} {cs : List Value} (h : k273.M w base ok x cs) : ∃ v0 v1, cs = [v0, v1] ∧ (Kd.int .i64).R 3 w base ok v0 x.f0 ∧ (Kd.int .i64).R 36 w base ok v1 x.f1 := by
 obtain ⟨_, _, rfl, ⟨v0, rfl, g0⟩, ⟨v1, rfl, g1⟩⟩ := h
 exact ⟨v0, v1, rfl, g0, g1⟩
theorem k273_mkM (w : World) (base : Nat) (ok : Nat → Prop) (x : S273) {v0 : Value} (g0 : (Kd.int .i64).R 3 w base ok v0 x.f0) {v1 : Value} (g1 : (Kd.int .i64).R 36 w base ok v1 x.f1) : k273.M w base ok x [v0, v1] := ⟨[v0], [v1], rfl, ⟨v0, rfl, g0⟩, ⟨v1, rfl, g1⟩⟩
def rd_T273 (xs : List S273) (i : Int) : S273 := xs.getD i.toNat z273
theorem at_T273 {w : World} {A : Option Addr} {n : Nat} {xs : List S273} (h : Kd.C k273 w A n xs) (i : Int) (h0 : 0 ≤ i) (h1 : i < n) : ∃ ad A0 c0 A1 c1, A = some ad ∧ w.cell? (ad.add (i.toNat * 2)) = some (.slice A0 (rd_T273 xs i).f0.length c0) ∧ w.cell? ⟨(ad.add (i.toNat * 2)).block, (ad.add (i.toNat * 2)).off + 1, none⟩ = some (.slice A1 (rd_T273 xs i).f1.length c1) ∧ (rd_T273 xs i).f0.length ≤ c0 ∧ (Kd.int .i64).C w A0 (rd_T273 xs i).f0.length (rd_T273 xs i).f0 ∧ (rd_T273 xs i).f1.length ≤ c1 ∧ (Kd.int .i64).C w A1 (rd_T273 xs i).f1.length (rd_T273 xs i).f1 := by
 obtain ⟨ad, c, e, _, hK, hc0⟩ := Kd.C_get h z273 i h0 h1
 have hc : ∀ j u, c[j]? = some u → w.cell? (ad.add (i.toNat * 2 + j)) = some u := hc0
 obtain ⟨A0, c0, A1, c1, rfl, l0, g0, l1, g1⟩ := k273_open hK
 exact ⟨ad, A0, c0, A1, c1, e, hc 0 _ rfl, by rw [← add_field _ _ 1 (by omega)]; exact hc 1 _ rfl, l0, g0, l1, g1⟩
structure S358 where
 f0 : Int
 f1 : Int
 f2 : Int
 f3 : Int
 f4 : S273
def z358 : S358 := ⟨(0 : Int), (0 : Int), (0 : Int), (0 : Int), z273⟩
def k358 : Kd S358 := Kd.iso (Kd.pair (Kd.int .i64) (Kd.pair (Kd.int .i64) (Kd.pair (Kd.int .i64) (Kd.pair (Kd.int .i64) k273)))) (fun x : S358 => (x.f0, x.f1, x.f2, x.f3, x.f4))
theorem k358_open {w : World} {x : S358} {cs : List Value} (h : k358.K w x cs) : ∃ A4 c4 A5 c5, cs = [.int .i64 x.f0, .int .i64 x.f1, .int .i64 x.f2, .int .i64 x.f3, .slice A4 x.f4.f0.length c4, .slice A5 x.f4.f1.length c5] ∧ x.f4.f0.length ≤ c4 ∧ (Kd.int .i64).C w A4 x.f4.f0.length x.f4.f0 ∧ x.f4.f1.length ≤ c5 ∧ (Kd.int .i64).C w A5 x.f4.f1.length x.f4.f1 := by
 obtain ⟨_, _, rfl, rfl, ⟨_, _, rfl, rfl, ⟨_, _, rfl, rfl, ⟨_, _, rfl, rfl, s4⟩⟩⟩⟩ := h
 obtain ⟨A4, c4, A5, c5, rfl, l4, g4, l5, g5⟩ := k273_open s4
 exact ⟨A4, c4, A5, c5, rfl, l4, g4, l5, g5⟩
theorem k358_mkM (w : World) (base : Nat) (ok : Nat → Prop) (x : S358) {v4 : Value} (g4 : (Kd.int .i64).R 3 w base ok v4 x.f4.f0) {v5 : Value} (g5 : (Kd.int .i64).R 36 w base ok v5 x.f4.f1) : k358.M w base ok x [.int .i64 x.f0, .int .i64 x.f1, .int .i64 x.f2, .int .i64 x.f3, v4, v5] := ⟨[.int .i64 x.f0], [.int .i64 x.f1, .int .i64 x.f2, .int .i64 x.f3, v4, v5], rfl, rfl, ⟨[.int .i64 x.f1], [.int .i64 x.f2, .int .i64 x.f3, v4, v5], rfl, rfl, ⟨[.int .i64 x.f2], [.int .i64 x.f3, v4, v5], rfl, rfl, ⟨[.int .i64 x.f3], [v4, v5], rfl, rfl, (k273_mkM w base ok x.f4 g4 g5)⟩⟩⟩⟩
def rd_T358 (xs : List S358) (i : Int) : S358 := xs.getD i.toNat z358
theorem at_T358 {w : World} {A : Option Addr} {n : Nat} {xs : List S358} (h : Kd.C k358 w A n xs) (i : Int) (h0 : 0 ≤ i) (h1 : i < n) : ∃ ad A4 c4 A5 c5, A = some ad ∧ w.cell? (ad.add (i.toNat * 6)) = some (.int .i64 (rd_T358 xs i).f0) ∧ w.cell? ⟨(ad.add (i.toNat * 6)).block, (ad.add (i.toNat * 6)).off + 1, none⟩ = some (.int .i64 (rd_T358 xs i).f1) ∧ w.cell? ⟨(ad.add (i.toNat * 6)).block, (ad.add (i.toNat * 6)).off + 2, none⟩ = some (.int .i64 (rd_T358 xs i).f2) ∧ w.cell? ⟨(ad.add (i.toNat * 6)).block, (ad.add (i.toNat * 6)).off + 3, none⟩ = some (.int .i64 (rd_T358 xs i).f3) ∧ w.cell? ⟨(ad.add (i.toNat * 6)).block, (ad.add (i.toNat * 6)).off + 4, none⟩ = some (.slice A4 (rd_T358 xs i).f4.f0.length c4) ∧ w.cell? ⟨(ad.add (i.toNat * 6)).block, (ad.add (i.toNat * 6)).off + 5, none⟩ = some (.slice A5 (rd_T358 xs i).f4.f1.length c5) ∧ (rd_T358 xs i).f4.f0.length ≤ c4 ∧ (Kd.int .i64).C w A4 (rd_T358 xs i).f4.f0.length (rd_T358 xs i).f4.f0 ∧ (rd_T358 xs i).f4.f1.length ≤ c5 ∧ (Kd.int .i64).C w A5 (rd_T358 xs i).f4.f1.length (rd_T358 xs i).f4.f1 := by
 obtain ⟨ad, c, e, _, hK, hc0⟩ := Kd.C_get h z358 i h0 h1
 have hc : ∀ j u, c[j]? = some u → w.cell? (ad.add (i.toNat * 6 + j)) = some u := hc0
 obtain ⟨A4, c4, A5, c5, rfl, l4, g4, l5, g5⟩ := k358_open hK
 exact ⟨ad, A4, c4, A5, c5, e, hc 0 _ rfl, by rw [← add_field _ _ 1 (by omega)]; exact hc 1 _ rfl, by rw [← add_field _ _ 2 (by omega)]; exact hc 2 _ rfl, by rw [← add_field _ _ 3 (by omega)]; exact hc 3 _ rfl, by rw [← add_field _ _ 4 (by omega)]; exact hc 4 _ rfl, by rw [← add_field _ _ 5 (by omega)]; exact hc 5 _ rfl, l4, g4, l5, g5⟩
theorem eqA292 (d : Nat) (w : World) (x0 y0 : Int) (x1 y1 : Int) :
  (Op.equalIn (d + 2) 292 (.agg #[.int .i64 x0, .int .u64 x1]) (.agg #[.int .i64 y0, .int .u64 y1])).run Tryz.prog w = .ok (x0 == y0 && (x1 == y1)) w := by
 refine eqA_of Tryz.underlying292 (by kernel_rfl) ?_
 refine eqf_cons (by rfl) (by go_simp; rfl) (by go_simp; rfl) (by go_simp) ?_
 exact eqf_last (by rfl) (by go_simp; rfl) (by go_simp; rfl) (by go_simp)
def slices_Clone_int_int.f (l0 : List Int) : Option (List Int) := if l0.length < 17592186044416 then some l0 else none
theorem slices_Clone_int_int.calls (A0 : Option Addr) (c0 : Nat) (l0 : List Int) (r : List Int) (w : World) (hr0 : Kd.C (Kd.int .i64) w A0 l0.length l0) (hc0 : l0.length ≤ c0) (h : slices_Clone_int_int.f l0 = some r) :
  Calls Tryz.prog 14 #[.slice A0 l0.length c0] w fun e w' => ∃ v0_ : Value, e = .returned (v0_) ∧ Kd.R (Kd.int .i64) 3 w' w.heap.size (fun _ => True) v0_ r ∧ Below w.heap.size w w' := by
 have HR0 := zA_ hr0
 have HC0 := zA_ hc0
 clear hc0
 have HB := zA_ (Below.refl w.heap.size w)
 have heq : ∀ (w : World) (a : Option Addr) (n c n' c' : Nat), (binOp .eql 32 (.slice a n c) (.slice none n' c')).run Tryz.prog w = .ok (.bool a.isNone) w := fun w a n c n' c' => Lib.run_eql_slice_nil w _ _ a n c n' c' Tryz.underlying32
 unfold slices_Clone_int_int.f at h
 by_cases c3 : l0.length < 17592186044416
 rotate_left
 ·rw [if_neg c3] at h
  cases h
 rw [if_pos c3] at h
 obtain rfl := Option.some.inj h
 have LMc3 := zA_ c3
 clear c3 h
 cases A0 with
 | none =>
  have e0 : l0 = [] := by
   cases l0 with
   | nil => rfl
   | cons x xs => obtain ⟨ad, e, _⟩ := hr0.2.2 (by simp); cases e
  subst e0
  clear hr0
  go_enter Tryz.func14, Tryz.ntmps14
  go_wp2
  go_ret
  exact ⟨_, rfl, Kd.R_nil _ _ _ _ _, Below.refl _ _⟩
 | some a0 =>
  clear hr0
  obtain ⟨y0, hy0⟩ : ∃ y_ : List Int, y_ = (([] : List Int)) := ⟨_, rfl⟩
  have Ny0 := zA_ hy0
  have LMc4 : Aside0 (y0.length + l0.length < 17592186044416) := ⟨by rw [hy0]; simpa using LMc3.out⟩
  obtain ⟨y1, hy1⟩ : ∃ y_ : List Int, y_ = y0 ++ l0 := ⟨_, rfl⟩
  have e1 : y1 = l0 := by rw [hy1, hy0]; rfl
  have Ny1 := zA_ hy1
  have E1 := zA_ e1
  clear hy0 hy1 e1
  go_enter Tryz.func14, Tryz.ntmps14
  go_wp2_with (first | ((with_reducible refine gate_dst (N := 5) rfl ?_); refine Kd.R_lit (Kd.int .i64) _ 3 ?hg (N := 5) ?hd (xs := ([] : List Int)) (inner := []) (ok := fun _ => True) (okp := fun _ => True) ?hr ?hp (fun _ hk => hk) trivial (Below.refl _ _) (Nat.le_refl _) (by simp) ?_; (case hd => rfl); (case hg => rfl); (case hr => first | (go_simp; done) | (go_simp; rfl)); (case hp => exact (Reps.none _ _)); intro v182 w8 ho9 hb hg_ hnew_; clear hg_ hnew_; rw [← Ny0.out] at ho9; have n0_ := zA_ (Kd.R_lower ho9 (below_size (zw0_ HB))); have n2_ := zA_ (below_step (zw0_ HB) hb); clear HB; have HO183 := n0_; have HB := n2_; clear n0_ n2_; clear hb ho9) | ((with_reducible refine gate_builtin (b := .append) (xs := #[.tmp 5, .tmp 6]) rfl ?_); at_builtin; refine Kd.R_append_rows (Kd.int .i64) (w0 := w) w.heap.size rfl (.tmp 5) (.tmp 6) 32 3 (.int .i64 0) 8 rfl Tryz.underlying32 info3 rfl (by decide) (by omega) v182 y0 l0 _ _ _ (fun _ => True) (fun _ => False) rfl rfl ?aO ?aR (fun _ _ h => h) (fun _ h => h.elim) ?aF ?aB ?aS ?aL ?_; (case aR => exact zk_ (Kd.C_below HR0.out HB.out)); (case aB => exact (zw0_ HB)); (case aF => exact (fun _ _ => trivial)); (case aO => exact (zr_ HO183.out)); (case aS => exact (below_size (zw0_ HB))); (case aL => have := LMc4.out; omega); intro v185 w10 ho hb hg hat; rw [← Ny1.out] at ho; have n1_ := zA_ (hb); have n2_ := zA_ (ho); clear HB HO183; have HB := n1_; have HO186 := n2_; clear n1_ n2_; clear ho hb hg hat))
  go_ret
  exact ⟨_, rfl, by rw [← E1.out]; exact HO186.out, HB.out⟩
def fix_Of.f (a0 : Int) : Option (Int) := if a0 ≥ 2147483648 then (none) else (if a0 < (-2147483648) then (none) else (some (wrap64 (a0 * 4294967296))))
theorem fix_Of.calls (a0 : Int) (r : Int) (w : World) (h : fix_Of.f a0 = some r) :
  Calls Tryz.prog 18 #[.int .i64 a0] w fun e w' => e = .returned (.int .i64 r) ∧ Drawn0 w w' := by
 have H : (if a0 ≥ 2147483648 then (none) else (if a0 < (-2147483648) then (none) else (some (wrap64 (a0 * 4294967296))))) = some r := h
 clear h
 by_cases c2 : a0 ≥ 2147483648
 ·rw [if_pos c2] at H
  exact zN_ H
 rw [if_neg c2] at H
 have c2b0 : decide (2147483648 ≤ a0) = false := decide_eq_false c2
 clear c2
 by_cases c3 : a0 < (-2147483648)
 ·rw [if_pos c3] at H
  exact zN_ H
 rw [if_neg c3] at H
 have c3b0 : decide (a0 < (-2147483648)) = false := decide_eq_false c3
 clear c3
 obtain rfl := Option.some.inj H
 go_enter Tryz.func18, Tryz.ntmps18
 go_wp2
 go_ret
 exact ⟨z1_, zE_⟩
def script_job.l0 : Nat → Int → List Int → List (S84) → Int → Int → Int → Int → Int → List (S87) → List Int → Option (List Int × (List (S84)) × Int × Int × Int × Int × Int × (List (S87)) × List Int)
 | 0, _, _, _, _, _, _, _, _, _, _ => none
 | k + 1, x10, x188000, x188001, x188002, x188003, x188004, x188005, x188006, x188007, x188008 => if x10 < 4 then ((fix_Of.f x10).bind fun t188 => ((fix_Of.f (wrap64 ((wrap64 (2 * x10)) + 1))).bind fun t192 => (if x188007.length < 2513169434916 then (script_job.l0 k (wrap64 (x10 + 1)) x188000 x188001 x188002 x188003 x188004 x188005 x188006 (x188007 ++ [(⟨(([t188] : List Int)), (([t192] : List Int)), 0⟩ : S87)]) x188008) else (none)))) else (some (x188000, x188001, x188002, x188003, x188004, x188005, x188006, x188007, x188008))
def script_job.f (k : Nat)  : Option (List Int × (List (S84)) × Int × Int × Int × Int × Int × (List (S87)) × List Int) := if 2 ≤ 35184372088832 then (script_job.l0 k 0 (([1] : List Int)) (([(⟨(⟨#[100, 101, 110, 115, 101]⟩ : ByteArray), 1, 0⟩ : S84)] : List (S84))) 1 2 1073741824 2147483648 0 ([] : List (S87)) (List.replicate 2 0)) else (none)
def script_job.T5 : Bool × List (List Nat × List Nat) := (true, [([], []), ([0], [0]), ([], []), ([2], [2]), ([3], [3]), ([], []), ([5], [5]), ([6], [6]), ([7, 3], [7]), ([8], [8]), ([4, 9], [4, 9]), ([10], [10]), ([1, 11, 8], [1, 11]), ([0, 1, 2, 3, 4, 5, 6, 7, 8, 9, 10, 11, 12], []), ([13, 12, 12, 0, 1, 2, 3, 4, 5, 6, 7, 8, 9, 10, 11, 12], [12, 13])])
def script_job.B5 : List Nat := [0, 1, 0, 4, 12, 0, 32, 96, 236, 492, 1020, 2044, 4095, 8191, 16383]
theorem script_job.tab5 : rtab .any (opsOf Tryz.f8 5) = script_job.T5 := by kernel_rfl
theorem script_job.bits5 : waitsOk script_job.T5.2 script_job.B5 = true := by kernel_rfl
theorem script_job.calls (k : Nat)  (r1 : List Int) (r2 : List (S84)) (r3 : Int) (r4 : Int) (r5 : Int) (r6 : Int) (r7 : Int) (r8 : List (S87)) (r9 : List Int) (w : World) (h : script_job.f k  = some (r1, r2, r3, r4, r5, r6, r7, r8, r9)) :
  Calls Tryz.prog 8 #[] w fun e w' => ∃ v0_ v1_ v7_ v8_ : Value, e = .returned (.agg #[v0_, v1_, .int .i64 r3, .int .i64 r4, .int .i64 r5, .int .i64 r6, .int .i64 r7, v7_, v8_]) ∧ Kd.R (Kd.int .i64) 3 w' w.heap.size (fun _ => True) v0_ r1 ∧ Kd.R k84 84 w' w.heap.size (fun _ => True) v1_ r2 ∧ Kd.S k87 87 w' w.heap.size (fun k_ => some k_ ≠ (v8_ : Value).ownBlock) v7_ r8 ∧ Kd.R (Kd.int .i64) 36 w' w.heap.size (fun _ => True) v8_ r9 ∧ Below w.heap.size w w' := by
 have hu42 := Tryz.underlying42
 have hu84 := Tryz.underlying84
 have hu35 := Tryz.underlying35
 have hu38 := Tryz.underlying38
 have hu87 := Tryz.underlying87
 have HB := zA_ (Below.refl w.heap.size w)
 have H : (if 2 ≤ 35184372088832 then (script_job.l0 k 0 (([1] : List Int)) (([(⟨(⟨#[100, 101, 110, 115, 101]⟩ : ByteArray), 1, 0⟩ : S84)] : List (S84))) 1 2 1073741824 2147483648 0 ([] : List (S87)) (List.replicate 2 0)) else (none)) = some (r1, r2, r3, r4, r5, r6, r7, r8, r9) := h
 clear h
 obtain ⟨y178, hy178⟩ : ∃ y_ : List Int, y_ = (([1] : List Int)) := ⟨_, rfl⟩
 replace H : (if 2 ≤ 35184372088832 then (script_job.l0 k 0 y178 (([(⟨(⟨#[100, 101, 110, 115, 101]⟩ : ByteArray), 1, 0⟩ : S84)] : List (S84))) 1 2 1073741824 2147483648 0 ([] : List (S87)) (List.replicate 2 0)) else (none)) = some (r1, r2, r3, r4, r5, r6, r7, r8, r9) := by first | (rw [hy178]; with_reducible exact H) | (have H2_ := (Option.bind_some _ _).symm.trans H; rw [hy178]; with_reducible exact H2_) | (have H2_ := (Option.bind_some _ _).symm.trans H; with_reducible exact H2_) | with_reducible exact H | (rw [hy178]; exact H) | exact H
 have Ny178 := zA_ hy178
 clear hy178
 obtain ⟨y181, hy181⟩ : ∃ y_ : List (S84), y_ = (([(⟨(⟨#[100, 101, 110, 115, 101]⟩ : ByteArray), 1, 0⟩ : S84)] : List (S84))) := ⟨_, rfl⟩
 replace H : (if 2 ≤ 35184372088832 then (script_job.l0 k 0 y178 y181 1 2 1073741824 2147483648 0 ([] : List (S87)) (List.replicate 2 0)) else (none)) = some (r1, r2, r3, r4, r5, r6, r7, r8, r9) := by first | (rw [hy181]; with_reducible exact H) | (have H2_ := (Option.bind_some _ _).symm.trans H; rw [hy181]; with_reducible exact H2_) | (have H2_ := (Option.bind_some _ _).symm.trans H; with_reducible exact H2_) | with_reducible exact H | (rw [hy181]; exact H) | exact H
 have Ny181 := zA_ hy181
 clear hy181
 by_cases c1 : 2 ≤ 35184372088832
 rotate_left
 ·rw [if_neg c1] at H
  exact zN_ H
 rw [if_pos c1] at H
 have c1b0 := eq_true c1
 have c1b1 : decide (2 ≤ 35184372088832) = true := decide_eq_true c1
 clear c1
 obtain ⟨y184, hy184⟩ : ∃ y_ : List Int, y_ = (List.replicate 2 0) := ⟨_, rfl⟩
 replace H : (script_job.l0 k 0 y178 y181 1 2 1073741824 2147483648 0 ([] : List (S87)) y184) = some (r1, r2, r3, r4, r5, r6, r7, r8, r9) := by first | (rw [hy184]; with_reducible exact H) | (have H2_ := (Option.bind_some _ _).symm.trans H; rw [hy184]; with_reducible exact H2_) | (have H2_ := (Option.bind_some _ _).symm.trans H; with_reducible exact H2_) | with_reducible exact H | (rw [hy184]; exact H) | exact H
 have Ny184 := zA_ hy184
 clear hy184
 have H' := zA_ H
 clear H
 go_enter Tryz.func8, Tryz.ntmps8
 go_wp2_with (first | ((with_reducible refine gate_dst (N := 0) rfl ?_); refine zB_ (#[.slice none 0 0, .slice none 0 0, .int .i64 0, .int .i64 0, .int .i64 0, .int .i64 0, .int .i64 0, .slice none 0 0, .slice none 0 0]) 42 ?_; intro gb177 hg w2 hbox hb; have BK177 := zA_ (hbox); have GW177 := zA_ (zs_ hg (zw0_ HB)); have GE177 := zA_ (zs_ hg (zw0_ HB)); replace HB := zA_ (below_step (zw0_ HB) hb); clear hb hbox hg) | ((with_reducible refine gate_dst (N := 3) rfl ?_); refine Kd.R_lit (Kd.int .i64) _ 3 ?hg (N := 3) ?hd (xs := ([1] : List Int)) (inner := [.int .i64 1]) (ok := fun _ => True) (okp := fun _ => True) ?hr ?hp (fun _ hk => hk) trivial (Below.refl _ _) (Nat.le_refl _) (by simp) ?_; (case hd => rfl); (case hg => rfl); (case hr => first | (go_simp; done) | (go_simp; rfl)); (case hp => exact (Reps.one (show Kd.M (Kd.int .i64) _ _ _ 1 [.int .i64 1] from rfl) (Reps.none _ _))); intro v179 w3 ho4 hb hg_ hnew_; clear hg_ hnew_; (first | rw [← Ny178.out] at ho4 | (simp only [Int.reduceToNat] at ho4; rw [← Ny178.out] at ho4)); have HO180 := zA_ (Kd.R_lower ho4 (below_size (zw1_ HB GE177))); replace BK177 := za_ BK177 hb; replace HB := zA_ (below_step (zw1_ HB GE177) hb); clear hb ho4) | ((with_reducible refine gate_dst (N := 5) rfl ?_); refine Kd.R_lit k84 _ 84 ?hg (N := 5) ?hd (xs := ([(⟨(⟨#[100, 101, 110, 115, 101]⟩ : ByteArray), 1, 0⟩ : S84)] : List (S84))) (inner := [.string (⟨#[100, 101, 110, 115, 101]⟩ : ByteArray), .int .i64 1, .int .i64 0]) (ok := fun _ => True) (okp := fun _ => True) ?hr ?hp (fun _ hk => hk) trivial (Below.refl _ _) (Nat.le_refl _) (by simp) ?_; (case hd => rfl); (case hg => rfl); (case hr => first | (go_simp; done) | (go_simp; rfl)); (case hp => exact (Reps.c3 (show Kd.M k84 _ _ _ (⟨(⟨#[100, 101, 110, 115, 101]⟩ : ByteArray), 1, 0⟩ : S84) [.string (⟨#[100, 101, 110, 115, 101]⟩ : ByteArray), .int .i64 1, .int .i64 0] from (k84_mkM _ _ _ (⟨(⟨#[100, 101, 110, 115, 101]⟩ : ByteArray), 1, 0⟩ : S84) )) (Reps.none _ _))); intro v182 w5 ho6 hb hg_ hnew_; clear hg_ hnew_; (first | rw [← Ny181.out] at ho6 | (simp only [Int.reduceToNat] at ho6; rw [← Ny181.out] at ho6)); replace HO180 := zy_ HO180 hb; have HO183 := zA_ (Kd.R_lower ho6 (below_size (zw1_ HB GE177))); replace BK177 := za_ BK177 hb; replace HB := zA_ (below_step (zw1_ HB GE177) hb); clear hb ho6; obtain ⟨Ao7, co7, eo7⟩ := Kd.R_slice HO183.out; subst eo7; obtain ⟨Ao8, co8, eo8⟩ := Kd.R_slice HO180.out; subst eo8) | ((with_reducible refine gate_dst (N := 8) rfl ?_); refine Kd.R_make (Kd.int .i64) _ 36 rfl (N := 8) rfl 40 _ _ rfl 2 rfl rfl Tryz.underlying40 (.int .i64 0) 8 info36 rfl (by decide) (by omega) 0 (ok := fun _ => True) (okp := fun _ => True) rfl (fun _ hk => hk) trivial (by omega) (by omega) (Below.refl _ _) (Nat.le_refl _) ?_; intro v185 w9 ho10 hb hg_ hnew_; clear hg_ hnew_; (first | rw [← Ny184.out] at ho10 | (simp only [Int.reduceToNat] at ho10; rw [← Ny184.out] at ho10)); replace HO180 := zy_ HO180 hb; replace HO183 := zy_ HO183 hb; have HO186 := zA_ (Kd.R_lower ho10 (below_size (zw1_ HB GE177))); replace BK177 := za_ BK177 hb; replace HB := zA_ (below_step (zw1_ HB GE177) hb); clear hb ho10; obtain ⟨Ao11, co11, eo11⟩ := Kd.R_slice HO186.out; subst eo11) | ((with_reducible refine gate_dst (N := 1) rfl ?_); refine zB_ (#[.slice none 0 0, .slice none 0 0, .int .i64 0, .int .i64 0, .int .i64 0, .int .i64 0, .int .i64 0, .slice none 0 0, .slice none 0 0]) 42 ?_; intro gb187 hg w12 hbox hb; replace HO180 := zy_ HO180 hb; replace HO183 := zy_ HO183 hb; replace HO186 := zy_ HO186 hb; have BK187 := zA_ (hbox); have GW187 := zA_ (zs_ hg (zw1_ HB GE177)); have GE187 := zA_ (zs_ hg (zw1_ HB GE177)); replace HB := zA_ (below_step (zw1_ HB GE177) hb); have NB177_187 := zA_ (zn_ hg BK177); have NB187_177 := zA_ (zm_ hg BK177); replace BK177 := za_ BK177 hb; clear hb hbox hg; have hnb13 := NB187_177.out; have hnc13 := NB177_187.out; have hcz14_0 := zx_ (v := .slice none 0 0) BK187 0; have hcz14_1 := zx_ (v := .slice none 0 0) BK187 1; have hcz14_2 := zx_ (v := .int .i64 0) BK187 2; have hcz14_3 := zx_ (v := .int .i64 0) BK187 3; have hcz14_4 := zx_ (v := .int .i64 0) BK187 4; have hcz14_5 := zx_ (v := .int .i64 0) BK187 5; have hcz14_6 := zx_ (v := .int .i64 0) BK187 6; have hcz14_7 := zx_ (v := .slice none 0 0) BK187 7; have hcz14_8 := zx_ (v := .slice none 0 0) BK187 8; have hfz14_0 := blk_frozen BK187.out 0; have hfz14_1 := blk_frozen BK187.out 1; have hfz14_2 := blk_frozen BK187.out 2; have hfz14_3 := blk_frozen BK187.out 3; have hfz14_4 := blk_frozen BK187.out 4; have hfz14_5 := blk_frozen BK187.out 5; have hfz14_6 := blk_frozen BK187.out 6; have hfz14_7 := blk_frozen BK187.out 7; have hfz14_8 := blk_frozen BK187.out 8))
 go_loopg [10] k (fun kq v10 w' => ∃ (x10_1 : Int) (x188007_1 : List (S87)) (u188007 : Value), v10 = .int .i64 x10_1 ∧ Aside0 (script_job.l0 kq x10_1 y178 y181 1 2 1073741824 2147483648 0 x188007_1 y184 = some (r1, r2, r3, r4, r5, r6, r7, r8, r9)) ∧ Aside0 (kq ≤ k) ∧ Aside0 (Kd.R (Kd.int .i64) 3 w' w.heap.size (fun _ => True) (.slice Ao8 y178.length co8) y178) ∧ Aside0 (Kd.R k84 84 w' w.heap.size (fun _ => True) (.slice Ao7 y181.length co7) y181) ∧ Aside0 (Kd.S k87 87 w' w.heap.size (fun k_ => some k_ ≠ ((.slice Ao11 y184.length co11) : Value).ownBlock) u188007 x188007_1) ∧ Aside0 (Kd.R (Kd.int .i64) 36 w' w.heap.size (fun _ => True) (.slice Ao11 y184.length co11) y184) ∧ Aside0 (w'.heap[gb177]? = some (.cells #[(.slice none 0 0), (.slice none 0 0), .int .i64 0, .int .i64 0, .int .i64 0, .int .i64 0, .int .i64 0, (.slice none 0 0), (.slice none 0 0)] 42 (0, 0))) ∧ Aside0 (w'.heap[gb187]? = some (.cells #[(.slice Ao8 y178.length co8), (.slice Ao7 y181.length co7), .int .i64 1, .int .i64 2, .int .i64 1073741824, .int .i64 2147483648, .int .i64 0, u188007, (.slice Ao11 y184.length co11)] 42 (0, 0))) ∧ Aside0 (Below w.heap.size w w'))
 case atStart => exact ⟨(0), (([] : List (S87))), (.slice none 0 0), z1_, H', ⟨Nat.le_refl _⟩, ⟨zr_ (Kd.R_mono (Kd.R_far (p := ⟨gb187, 8, none⟩) (Kd.R_far (p := ⟨gb187, 7, none⟩) (Kd.R_far (p := ⟨gb187, 6, none⟩) (Kd.R_far (p := ⟨gb187, 5, none⟩) (Kd.R_far (p := ⟨gb187, 4, none⟩) (Kd.R_far (p := ⟨gb187, 3, none⟩) (Kd.R_far (p := ⟨gb187, 2, none⟩) (Kd.R_far (p := ⟨gb187, 1, none⟩) (Kd.R_far (p := ⟨gb187, 0, none⟩) (Kd.R_types HO180.out BK187.out (by decide)) (fun _ hk => hk.2) (.slice Ao8 y178.length co8)) (fun _ hk => hk.2) (.slice Ao7 y181.length co7)) (fun _ hk => hk.2) (.int .i64 1)) (fun _ hk => hk.2) (.int .i64 2)) (fun _ hk => hk.2) (.int .i64 1073741824)) (fun _ hk => hk.2) (.int .i64 2147483648)) (fun _ hk => hk.2) (.int .i64 0)) (fun _ hk => hk.2) (.slice none 0 0)) (fun _ hk => hk.2) (.slice Ao11 y184.length co11)) (fun _ hk => trivial))⟩, ⟨zr_ (Kd.R_mono (Kd.R_far (p := ⟨gb187, 8, none⟩) (Kd.R_far (p := ⟨gb187, 7, none⟩) (Kd.R_far (p := ⟨gb187, 6, none⟩) (Kd.R_far (p := ⟨gb187, 5, none⟩) (Kd.R_far (p := ⟨gb187, 4, none⟩) (Kd.R_far (p := ⟨gb187, 3, none⟩) (Kd.R_far (p := ⟨gb187, 2, none⟩) (Kd.R_far (p := ⟨gb187, 1, none⟩) (Kd.R_far (p := ⟨gb187, 0, none⟩) (Kd.R_types HO183.out BK187.out (by decide)) (fun _ hk => hk.2) (.slice Ao8 y178.length co8)) (fun _ hk => hk.2) (.slice Ao7 y181.length co7)) (fun _ hk => hk.2) (.int .i64 1)) (fun _ hk => hk.2) (.int .i64 2)) (fun _ hk => hk.2) (.int .i64 1073741824)) (fun _ hk => hk.2) (.int .i64 2147483648)) (fun _ hk => hk.2) (.int .i64 0)) (fun _ hk => hk.2) (.slice none 0 0)) (fun _ hk => hk.2) (.slice Ao11 y184.length co11)) (fun _ hk => trivial))⟩, ⟨by first | exact Kd.S_nil _ _ _ _ _ | exact Kd.N_nil _ _ _ _ _ | exact Kd.V_nil _ _ _ _ _ | exact Kd.Q_nil _ _ _ _ _ | exact Kd.R_nil _ _ _ _ _⟩, ⟨zr_ (Kd.R_mono (Kd.R_far (p := ⟨gb187, 8, none⟩) (Kd.R_far (p := ⟨gb187, 7, none⟩) (Kd.R_far (p := ⟨gb187, 6, none⟩) (Kd.R_far (p := ⟨gb187, 5, none⟩) (Kd.R_far (p := ⟨gb187, 4, none⟩) (Kd.R_far (p := ⟨gb187, 3, none⟩) (Kd.R_far (p := ⟨gb187, 2, none⟩) (Kd.R_far (p := ⟨gb187, 1, none⟩) (Kd.R_far (p := ⟨gb187, 0, none⟩) (Kd.R_types HO186.out BK187.out (by decide)) (fun _ hk => hk.2) (.slice Ao8 y178.length co8)) (fun _ hk => hk.2) (.slice Ao7 y181.length co7)) (fun _ hk => hk.2) (.int .i64 1)) (fun _ hk => hk.2) (.int .i64 2)) (fun _ hk => hk.2) (.int .i64 1073741824)) (fun _ hk => hk.2) (.int .i64 2147483648)) (fun _ hk => hk.2) (.int .i64 0)) (fun _ hk => hk.2) (.slice none 0 0)) (fun _ hk => hk.2) (.slice Ao11 y184.length co11)) (fun _ hk => trivial))⟩, ⟨zv1_ BK177 NB177_187⟩, ⟨by (with_reducible repeat (first | refine blk_drewN ?_ _ | refine blk_drew ?_ | refine blk_alloc ?_ _)); refine blk_put (cs := #[.slice Ao8 y178.length co8, .slice Ao7 y181.length co7, .int .i64 1, .int .i64 2, .int .i64 1073741824, .int .i64 2147483648, .int .i64 0, .slice none 0 0, .slice none 0 0]) ?_ 8 _ rfl; (with_reducible repeat (first | refine blk_drewN ?_ _ | refine blk_drew ?_ | refine blk_alloc ?_ _)); refine blk_put (cs := #[.slice Ao8 y178.length co8, .slice Ao7 y181.length co7, .int .i64 1, .int .i64 2, .int .i64 1073741824, .int .i64 2147483648, .int .i64 0, .slice none 0 0, .slice none 0 0]) ?_ 7 _ rfl; (with_reducible repeat (first | refine blk_drewN ?_ _ | refine blk_drew ?_ | refine blk_alloc ?_ _)); refine blk_put (cs := #[.slice Ao8 y178.length co8, .slice Ao7 y181.length co7, .int .i64 1, .int .i64 2, .int .i64 1073741824, .int .i64 2147483648, .int .i64 0, .slice none 0 0, .slice none 0 0]) ?_ 6 _ rfl; (with_reducible repeat (first | refine blk_drewN ?_ _ | refine blk_drew ?_ | refine blk_alloc ?_ _)); refine blk_put (cs := #[.slice Ao8 y178.length co8, .slice Ao7 y181.length co7, .int .i64 1, .int .i64 2, .int .i64 1073741824, .int .i64 0, .int .i64 0, .slice none 0 0, .slice none 0 0]) ?_ 5 _ rfl; (with_reducible repeat (first | refine blk_drewN ?_ _ | refine blk_drew ?_ | refine blk_alloc ?_ _)); refine blk_put (cs := #[.slice Ao8 y178.length co8, .slice Ao7 y181.length co7, .int .i64 1, .int .i64 2, .int .i64 0, .int .i64 0, .int .i64 0, .slice none 0 0, .slice none 0 0]) ?_ 4 _ rfl; (with_reducible repeat (first | refine blk_drewN ?_ _ | refine blk_drew ?_ | refine blk_alloc ?_ _)); refine blk_put (cs := #[.slice Ao8 y178.length co8, .slice Ao7 y181.length co7, .int .i64 1, .int .i64 0, .int .i64 0, .int .i64 0, .int .i64 0, .slice none 0 0, .slice none 0 0]) ?_ 3 _ rfl; (with_reducible repeat (first | refine blk_drewN ?_ _ | refine blk_drew ?_ | refine blk_alloc ?_ _)); refine blk_put (cs := #[.slice Ao8 y178.length co8, .slice Ao7 y181.length co7, .int .i64 0, .int .i64 0, .int .i64 0, .int .i64 0, .int .i64 0, .slice none 0 0, .slice none 0 0]) ?_ 2 _ rfl; (with_reducible repeat (first | refine blk_drewN ?_ _ | refine blk_drew ?_ | refine blk_alloc ?_ _)); refine blk_put (cs := #[.slice Ao8 y178.length co8, .slice none 0 0, .int .i64 0, .int .i64 0, .int .i64 0, .int .i64 0, .int .i64 0, .slice none 0 0, .slice none 0 0]) ?_ 1 _ rfl; (with_reducible repeat (first | refine blk_drewN ?_ _ | refine blk_drew ?_ | refine blk_alloc ?_ _)); refine blk_put (cs := #[.slice none 0 0, .slice none 0 0, .int .i64 0, .int .i64 0, .int .i64 0, .int .i64 0, .int .i64 0, .slice none 0 0, .slice none 0 0]) ?_ 0 _ rfl; (with_reducible repeat (first | refine blk_drewN ?_ _ | refine blk_drew ?_ | refine blk_alloc ?_ _)); exact BK187.out⟩, ⟨zw2_ HB GE177 GE187⟩⟩
 case round =>
  clear H'
  try clear c1b0
  try clear c1b1
  try clear p2
  try clear hcz14_0
  try clear hcz14_1
  try clear hcz14_2
  try clear hcz14_3
  try clear hcz14_4
  try clear hcz14_5
  try clear hcz14_6
  try clear hcz14_7
  try clear hcz14_8
  try clear hfz14_0
  try clear hfz14_1
  try clear hfz14_2
  try clear hfz14_3
  try clear hfz14_4
  try clear hfz14_5
  try clear hfz14_6
  try clear hfz14_7
  try clear hfz14_8
  obtain ⟨x10_1, x188007_1, u188007, rfl, HA, HK1, HO_188000, HO_188001, HO_188007, HO_188008, BK177, BK187, HB⟩ := hrel
  cases gk with
  | zero => exact absurd HA.out (by simp [script_job.l0])
  | succ k1 =>
   have H := HA.out
   clear HA
   simp only [script_job.l0] at H
   by_cases c15 : x10_1 < 4
   rotate_left
   ·rw [if_neg c15] at H
    have c15b0 : decide (x10_1 < 4) = false := decide_eq_false c15
    clear c15
    simp only [Option.some.injEq, Prod.mk.injEq] at H
    obtain ⟨rfl, rfl, rfl, rfl, rfl, rfl, rfl, rfl, rfl⟩ := H
    have hnb33 := NB187_177.out
    have hnc33 := NB177_187.out
    have hcz34_0 := zx_ (v := .slice Ao8 y178.length co8) BK187 0
    have hcz34_1 := zx_ (v := .slice Ao7 y181.length co7) BK187 1
    have hcz34_2 := zx_ (v := .int .i64 1) BK187 2
    have hcz34_3 := zx_ (v := .int .i64 2) BK187 3
    have hcz34_4 := zx_ (v := .int .i64 1073741824) BK187 4
    have hcz34_5 := zx_ (v := .int .i64 2147483648) BK187 5
    have hcz34_6 := zx_ (v := .int .i64 0) BK187 6
    have hcz34_7 := zx_ (v := u188007) BK187 7
    have hcz34_8 := zx_ (v := .slice Ao11 y184.length co11) BK187 8
    have hfz34_0 := blk_frozen BK187.out 0
    have hfz34_1 := blk_frozen BK187.out 1
    have hfz34_2 := blk_frozen BK187.out 2
    have hfz34_3 := blk_frozen BK187.out 3
    have hfz34_4 := blk_frozen BK187.out 4
    have hfz34_5 := blk_frozen BK187.out 5
    have hfz34_6 := blk_frozen BK187.out 6
    have hfz34_7 := blk_frozen BK187.out 7
    have hfz34_8 := blk_frozen BK187.out 8
    have hcz35_0 := zx_ (v := .slice none 0 0) BK177 0
    have hcz35_1 := zx_ (v := .slice none 0 0) BK177 1
    have hcz35_2 := zx_ (v := .int .i64 0) BK177 2
    have hcz35_3 := zx_ (v := .int .i64 0) BK177 3
    have hcz35_4 := zx_ (v := .int .i64 0) BK177 4
    have hcz35_5 := zx_ (v := .int .i64 0) BK177 5
    have hcz35_6 := zx_ (v := .int .i64 0) BK177 6
    have hcz35_7 := zx_ (v := .slice none 0 0) BK177 7
    have hcz35_8 := zx_ (v := .slice none 0 0) BK177 8
    have hfz35_0 := blk_frozen BK177.out 0
    have hfz35_1 := blk_frozen BK177.out 1
    have hfz35_2 := blk_frozen BK177.out 2
    have hfz35_3 := blk_frozen BK177.out 3
    have hfz35_4 := blk_frozen BK177.out 4
    have hfz35_5 := blk_frozen BK177.out 5
    have hfz35_6 := blk_frozen BK177.out 6
    have hfz35_7 := blk_frozen BK177.out 7
    have hfz35_8 := blk_frozen BK177.out 8
    obtain ⟨Ao36, co36, eo36⟩ := Kd.S_slice HO_188007.out
    subst eo36
    go_wp2
    refine bodyPost_ret (results_cell_row rfl _ _ gb177 42 #[.slice Ao8 y178.length co8, .slice Ao7 y181.length co7, .int .i64 1, .int .i64 2, .int .i64 1073741824, .int .i64 2147483648, .int .i64 0, .slice Ao36 x188007_1.length co36, .slice Ao11 y184.length co11] (0, 0) _ rfl (by (with_reducible repeat (first | refine blk_drewN ?_ _ | refine blk_drew ?_ | refine blk_alloc ?_ _)); refine blk_put (cs := #[.slice Ao8 y178.length co8, .slice Ao7 y181.length co7, .int .i64 1, .int .i64 2, .int .i64 1073741824, .int .i64 2147483648, .int .i64 0, .slice Ao36 x188007_1.length co36, .slice none 0 0]) ?_ 8 _ rfl; (with_reducible repeat (first | refine blk_drewN ?_ _ | refine blk_drew ?_ | refine blk_alloc ?_ _)); refine blk_put (cs := #[.slice Ao8 y178.length co8, .slice Ao7 y181.length co7, .int .i64 1, .int .i64 2, .int .i64 1073741824, .int .i64 2147483648, .int .i64 0, .slice none 0 0, .slice none 0 0]) ?_ 7 _ rfl; (with_reducible repeat (first | refine blk_drewN ?_ _ | refine blk_drew ?_ | refine blk_alloc ?_ _)); refine blk_put (cs := #[.slice Ao8 y178.length co8, .slice Ao7 y181.length co7, .int .i64 1, .int .i64 2, .int .i64 1073741824, .int .i64 2147483648, .int .i64 0, .slice none 0 0, .slice none 0 0]) ?_ 6 _ rfl; (with_reducible repeat (first | refine blk_drewN ?_ _ | refine blk_drew ?_ | refine blk_alloc ?_ _)); refine blk_put (cs := #[.slice Ao8 y178.length co8, .slice Ao7 y181.length co7, .int .i64 1, .int .i64 2, .int .i64 1073741824, .int .i64 0, .int .i64 0, .slice none 0 0, .slice none 0 0]) ?_ 5 _ rfl; (with_reducible repeat (first | refine blk_drewN ?_ _ | refine blk_drew ?_ | refine blk_alloc ?_ _)); refine blk_put (cs := #[.slice Ao8 y178.length co8, .slice Ao7 y181.length co7, .int .i64 1, .int .i64 2, .int .i64 0, .int .i64 0, .int .i64 0, .slice none 0 0, .slice none 0 0]) ?_ 4 _ rfl; (with_reducible repeat (first | refine blk_drewN ?_ _ | refine blk_drew ?_ | refine blk_alloc ?_ _)); refine blk_put (cs := #[.slice Ao8 y178.length co8, .slice Ao7 y181.length co7, .int .i64 1, .int .i64 0, .int .i64 0, .int .i64 0, .int .i64 0, .slice none 0 0, .slice none 0 0]) ?_ 3 _ rfl; (with_reducible repeat (first | refine blk_drewN ?_ _ | refine blk_drew ?_ | refine blk_alloc ?_ _)); refine blk_put (cs := #[.slice Ao8 y178.length co8, .slice Ao7 y181.length co7, .int .i64 0, .int .i64 0, .int .i64 0, .int .i64 0, .int .i64 0, .slice none 0 0, .slice none 0 0]) ?_ 2 _ rfl; (with_reducible repeat (first | refine blk_drewN ?_ _ | refine blk_drew ?_ | refine blk_alloc ?_ _)); refine blk_put (cs := #[.slice Ao8 y178.length co8, .slice none 0 0, .int .i64 0, .int .i64 0, .int .i64 0, .int .i64 0, .int .i64 0, .slice none 0 0, .slice none 0 0]) ?_ 1 _ rfl; (with_reducible repeat (first | refine blk_drewN ?_ _ | refine blk_drew ?_ | refine blk_alloc ?_ _)); refine blk_put (cs := #[.slice none 0 0, .slice none 0 0, .int .i64 0, .int .i64 0, .int .i64 0, .int .i64 0, .int .i64 0, .slice none 0 0, .slice none 0 0]) ?_ 0 _ rfl; (with_reducible repeat (first | refine blk_drewN ?_ _ | refine blk_drew ?_ | refine blk_alloc ?_ _)); exact BK177.out) Tryz.underlying42 rfl (by kernel_rfl)) rfl ?_
    exact ⟨_, _, _, _, z0_, zr_ (Kd.R_mono (Kd.R_far (p := ⟨gb177, 8, none⟩) (Kd.R_far (p := ⟨gb177, 7, none⟩) (Kd.R_far (p := ⟨gb177, 6, none⟩) (Kd.R_far (p := ⟨gb177, 5, none⟩) (Kd.R_far (p := ⟨gb177, 4, none⟩) (Kd.R_far (p := ⟨gb177, 3, none⟩) (Kd.R_far (p := ⟨gb177, 2, none⟩) (Kd.R_far (p := ⟨gb177, 1, none⟩) (Kd.R_far (p := ⟨gb177, 0, none⟩) (Kd.R_types HO_188000.out BK177.out (by decide)) (fun _ hk => hk.2) (.slice Ao8 y178.length co8)) (fun _ hk => hk.2) (.slice Ao7 y181.length co7)) (fun _ hk => hk.2) (.int .i64 1)) (fun _ hk => hk.2) (.int .i64 2)) (fun _ hk => hk.2) (.int .i64 1073741824)) (fun _ hk => hk.2) (.int .i64 2147483648)) (fun _ hk => hk.2) (.int .i64 0)) (fun _ hk => hk.2) (.slice Ao36 x188007_1.length co36)) (fun _ hk => hk.2) (.slice Ao11 y184.length co11)) (fun _ hk => trivial)), zr_ (Kd.R_mono (Kd.R_far (p := ⟨gb177, 8, none⟩) (Kd.R_far (p := ⟨gb177, 7, none⟩) (Kd.R_far (p := ⟨gb177, 6, none⟩) (Kd.R_far (p := ⟨gb177, 5, none⟩) (Kd.R_far (p := ⟨gb177, 4, none⟩) (Kd.R_far (p := ⟨gb177, 3, none⟩) (Kd.R_far (p := ⟨gb177, 2, none⟩) (Kd.R_far (p := ⟨gb177, 1, none⟩) (Kd.R_far (p := ⟨gb177, 0, none⟩) (Kd.R_types HO_188001.out BK177.out (by decide)) (fun _ hk => hk.2) (.slice Ao8 y178.length co8)) (fun _ hk => hk.2) (.slice Ao7 y181.length co7)) (fun _ hk => hk.2) (.int .i64 1)) (fun _ hk => hk.2) (.int .i64 2)) (fun _ hk => hk.2) (.int .i64 1073741824)) (fun _ hk => hk.2) (.int .i64 2147483648)) (fun _ hk => hk.2) (.int .i64 0)) (fun _ hk => hk.2) (.slice Ao36 x188007_1.length co36)) (fun _ hk => hk.2) (.slice Ao11 y184.length co11)) (fun _ hk => trivial)), by (with_reducible repeat (first | apply Kd.S_alloc | apply Kd.S_drewN | apply Kd.S_drew)); exact Kd.S_mono (Kd.S_far (p := ⟨gb177, 8, none⟩) (Kd.S_far (p := ⟨gb177, 7, none⟩) (Kd.S_far (p := ⟨gb177, 6, none⟩) (Kd.S_far (p := ⟨gb177, 5, none⟩) (Kd.S_far (p := ⟨gb177, 4, none⟩) (Kd.S_far (p := ⟨gb177, 3, none⟩) (Kd.S_far (p := ⟨gb177, 2, none⟩) (Kd.S_far (p := ⟨gb177, 1, none⟩) (Kd.S_far (p := ⟨gb177, 0, none⟩) (Kd.S_types HO_188007.out BK177.out (by decide)) (fun _ hk => hk.2) (.slice Ao8 y178.length co8)) (fun _ hk => hk.2) (.slice Ao7 y181.length co7)) (fun _ hk => hk.2) (.int .i64 1)) (fun _ hk => hk.2) (.int .i64 2)) (fun _ hk => hk.2) (.int .i64 1073741824)) (fun _ hk => hk.2) (.int .i64 2147483648)) (fun _ hk => hk.2) (.int .i64 0)) (fun _ hk => hk.2) (.slice Ao36 x188007_1.length co36)) (fun _ hk => hk.2) (.slice Ao11 y184.length co11)) (fun _ hk => hk.1), zr_ (Kd.R_mono (Kd.R_far (p := ⟨gb177, 8, none⟩) (Kd.R_far (p := ⟨gb177, 7, none⟩) (Kd.R_far (p := ⟨gb177, 6, none⟩) (Kd.R_far (p := ⟨gb177, 5, none⟩) (Kd.R_far (p := ⟨gb177, 4, none⟩) (Kd.R_far (p := ⟨gb177, 3, none⟩) (Kd.R_far (p := ⟨gb177, 2, none⟩) (Kd.R_far (p := ⟨gb177, 1, none⟩) (Kd.R_far (p := ⟨gb177, 0, none⟩) (Kd.R_types HO_188008.out BK177.out (by decide)) (fun _ hk => hk.2) (.slice Ao8 y178.length co8)) (fun _ hk => hk.2) (.slice Ao7 y181.length co7)) (fun _ hk => hk.2) (.int .i64 1)) (fun _ hk => hk.2) (.int .i64 2)) (fun _ hk => hk.2) (.int .i64 1073741824)) (fun _ hk => hk.2) (.int .i64 2147483648)) (fun _ hk => hk.2) (.int .i64 0)) (fun _ hk => hk.2) (.slice Ao36 x188007_1.length co36)) (fun _ hk => hk.2) (.slice Ao11 y184.length co11)) (fun _ hk => trivial)), zw2_ HB GE177 GE187⟩
   rw [if_pos c15] at H
   have c15b0 : decide (x10_1 < 4) = true := decide_eq_true c15
   clear c15
   replace H := zO_ H
   obtain ⟨t188, A160, H⟩ := H
   (try dsimp only at H)
   have A16 := zA_ A160
   clear A160
   obtain ⟨y189, hy189⟩ : ∃ y_ : List Int, y_ = (([t188] : List Int)) := ⟨_, rfl⟩
   replace H : ((fix_Of.f (wrap64 ((wrap64 (2 * x10_1)) + 1))).bind fun t192 => (if x188007_1.length < 2513169434916 then (script_job.l0 k1 (wrap64 (x10_1 + 1)) y178 y181 1 2 1073741824 2147483648 0 (x188007_1 ++ [(⟨y189, (([t192] : List Int)), 0⟩ : S87)]) y184) else (none))) = some (r1, r2, r3, r4, r5, r6, r7, r8, r9) := by first | (rw [hy189]; with_reducible exact H) | (have H2_ := (Option.bind_some _ _).symm.trans H; rw [hy189]; with_reducible exact H2_) | (have H2_ := (Option.bind_some _ _).symm.trans H; with_reducible exact H2_) | with_reducible exact H | (rw [hy189]; exact H) | exact H
   have Ny189 := zA_ hy189
   clear hy189
   replace H := zO_ H
   obtain ⟨t192, A170, H⟩ := H
   (try dsimp only at H)
   have A17 := zA_ A170
   clear A170
   obtain ⟨y193, hy193⟩ : ∃ y_ : List Int, y_ = (([t192] : List Int)) := ⟨_, rfl⟩
   replace H : (if x188007_1.length < 2513169434916 then (script_job.l0 k1 (wrap64 (x10_1 + 1)) y178 y181 1 2 1073741824 2147483648 0 (x188007_1 ++ [(⟨y189, y193, 0⟩ : S87)]) y184) else (none)) = some (r1, r2, r3, r4, r5, r6, r7, r8, r9) := by first | (rw [hy193]; with_reducible exact H) | (have H2_ := (Option.bind_some _ _).symm.trans H; rw [hy193]; with_reducible exact H2_) | (have H2_ := (Option.bind_some _ _).symm.trans H; with_reducible exact H2_) | with_reducible exact H | (rw [hy193]; exact H) | exact H
   have Ny193 := zA_ hy193
   clear hy193
   by_cases c18 : x188007_1.length < 2513169434916
   rotate_left
   ·rw [if_neg c18] at H
    exact zN_ H
   rw [if_pos c18] at H
   have LMc18 := zA_ c18
   clear c18
   obtain ⟨y196, hy196⟩ : ∃ y_ : List (S87), y_ = (x188007_1 ++ [(⟨y189, y193, 0⟩ : S87)]) := ⟨_, rfl⟩
   replace H : (script_job.l0 k1 (wrap64 (x10_1 + 1)) y178 y181 1 2 1073741824 2147483648 0 y196 y184) = some (r1, r2, r3, r4, r5, r6, r7, r8, r9) := by first | (rw [hy196]; with_reducible exact H) | (have H2_ := (Option.bind_some _ _).symm.trans H; rw [hy196]; with_reducible exact H2_) | (have H2_ := (Option.bind_some _ _).symm.trans H; with_reducible exact H2_) | with_reducible exact H | (rw [hy196]; exact H) | exact H
   have Ny196 := zA_ hy196
   clear hy196
   have H' := zA_ H
   clear H
   obtain ⟨Ao19, co19, eo19⟩ := Kd.S_slice HO_188007.out
   subst eo19
   try go_wp2
   replace HO_188000 := zA_ (Kd.R_drew HO_188000.out)
   replace HO_188001 := zA_ (Kd.R_drew HO_188001.out)
   replace HO_188007 := zA_ (Kd.S_drew HO_188007.out)
   replace HO_188008 := zA_ (Kd.R_drew HO_188008.out)
   replace BK177 := zA_ (blk_drew BK177.out)
   replace BK187 := zA_ (blk_drew BK187.out)
   replace HB := zA_ (below_drew1 HB.out)
   refine start_ (n := 15) (S := fun w' => w'.cell? ⟨gb187, 0, none⟩ = some (.slice Ao8 y178.length co8) ∧ w'.cell? ⟨gb187, 1, none⟩ = some (.slice Ao7 y181.length co7) ∧ w'.cell? ⟨gb187, 2, none⟩ = some (.int .i64 1) ∧ w'.cell? ⟨gb187, 3, none⟩ = some (.int .i64 2) ∧ w'.cell? ⟨gb187, 4, none⟩ = some (.int .i64 1073741824) ∧ w'.cell? ⟨gb187, 5, none⟩ = some (.int .i64 2147483648) ∧ w'.cell? ⟨gb187, 6, none⟩ = some (.int .i64 0) ∧ w'.cell? ⟨gb187, 7, none⟩ = some (.slice Ao19 x188007_1.length co19) ∧ w'.cell? ⟨gb187, 8, none⟩ = some (.slice Ao11 y184.length co11)) (ds := [14]) #[false, false, false, false, false, false, false, false, false, false, false, false, false, false, false] (by kernel_rfl) rfl rfl ⟨(blk_cell BK187.out 0).trans rfl, (blk_cell BK187.out 1).trans rfl, (blk_cell BK187.out 2).trans rfl, (blk_cell BK187.out 3).trans rfl, (blk_cell BK187.out 4).trans rfl, (blk_cell BK187.out 5).trans rfl, (blk_cell BK187.out 6).trans rfl, (blk_cell BK187.out 7).trans rfl, (blk_cell BK187.out 8).trans rfl⟩ (fun hHeld => ?_); refine with_tabW script_job.tab5 script_job.bits5 (fun HT_ HW_ => ?_)
   generalize wr.drew = w20 at HO_188000 HO_188001 HO_188007 HO_188008 BK177 BK187 HB hHeld ⊢
   refine yp_ ?_ 0 13
   refine yp_ ?_ 2 15
   refine yp_ ?_ 5 18
   refine yp_ ?_ 6 19
   refine yp_ ?_ 7 20
   refine yt9_ ?_ 1 14
   refine yo_ 3 (some 16) (fun K hK => ?_)
   refine yg_ Tryz.func18 #[.int .i64 x10_1] ?_
   with_reducible refine (fix_Of.calls x10_1 t188 _ A16.out).mono ?_
   rintro e w' ⟨rfl, ⟨nd, rfl⟩⟩
   refine ⟨_, rfl, ?_⟩
   refine hK.out _ _ ⟨zx_ BK187 0, zx_ BK187 1, zx_ BK187 2, zx_ BK187 3, zx_ BK187 4, zx_ BK187 5, zx_ BK187 6, zx_ BK187 7, zx_ BK187 8⟩ (fun hHeld => ?_)
   clear hK K
   refine zq_ (some 16) (h := ?_)
   refine join_ (σ := Value × Value) 5 #[true, true, true, true, true, true, true, true, true, true, false, false, false, false, false] (fun s_ => [(17, s_.1), (21, .int .i64 t192), (22, s_.2)]) (fun s_ w' => (w'.cell? ⟨gb187, 0, none⟩ = some (.slice Ao8 y178.length co8) ∧ w'.cell? ⟨gb187, 1, none⟩ = some (.slice Ao7 y181.length co7) ∧ w'.cell? ⟨gb187, 2, none⟩ = some (.int .i64 1) ∧ w'.cell? ⟨gb187, 3, none⟩ = some (.int .i64 2) ∧ w'.cell? ⟨gb187, 4, none⟩ = some (.int .i64 1073741824) ∧ w'.cell? ⟨gb187, 5, none⟩ = some (.int .i64 2147483648) ∧ w'.cell? ⟨gb187, 6, none⟩ = some (.int .i64 0) ∧ w'.cell? ⟨gb187, 7, none⟩ = some (.slice Ao19 x188007_1.length co19) ∧ w'.cell? ⟨gb187, 8, none⟩ = some (.slice Ao11 y184.length co11)) ∧ (Kd.R (Kd.int .i64) 36 w' w.heap.size (fun k_ => some k_ ≠ (s_.2 : Value).ownBlock ∧ some k_ ≠ (.slice Ao11 y184.length co11 : Value).ownBlock) s_.1 y189) ∧ (Kd.R (Kd.int .i64) 36 w' w.heap.size (fun k_ => some k_ ≠ (s_.1 : Value).ownBlock ∧ some k_ ≠ (.slice Ao11 y184.length co11 : Value).ownBlock) s_.2 y193) ∧ (Kd.R (Kd.int .i64) 3 w' w.heap.size (fun _ => True) (.slice Ao8 y178.length co8) y178) ∧ (Kd.R k84 84 w' w.heap.size (fun _ => True) (.slice Ao7 y181.length co7) y181) ∧ (Kd.S k87 87 w' w.heap.size (fun k_ => some k_ ≠ (s_.1 : Value).ownBlock ∧ some k_ ≠ (s_.2 : Value).ownBlock ∧ some k_ ≠ (.slice Ao11 y184.length co11 : Value).ownBlock) (.slice Ao19 x188007_1.length co19) x188007_1) ∧ (Kd.R (Kd.int .i64) 36 w' w.heap.size (fun k_ => some k_ ≠ (s_.1 : Value).ownBlock ∧ some k_ ≠ (s_.2 : Value).ownBlock) (.slice Ao11 y184.length co11) y184) ∧ (w'.heap[gb177]? = some (.cells #[.slice none 0 0, .slice none 0 0, .int .i64 0, .int .i64 0, .int .i64 0, .int .i64 0, .int .i64 0, .slice none 0 0, .slice none 0 0] 42 (0, 0))) ∧ (w'.heap[gb187]? = some (.cells #[.slice Ao8 y178.length co8, .slice Ao7 y181.length co7, .int .i64 1, .int .i64 2, .int .i64 1073741824, .int .i64 2147483648, .int .i64 0, .slice Ao19 x188007_1.length co19, .slice Ao11 y184.length co11] 42 (0, 0))) ∧ (Below w.heap.size w w')) ?_ ?_
   rotate_left
   ·intro hCont
    refine two_ (i := 4) (j := 8) (Ni := some 17) (Nj := some 21) #[true, true, true, true, true, true, true, true, false, false, false, false, false, false, false] #[true, true, true, true, false, true, true, true, true, false, false, false, false, false, false] rfl rfl rfl rfl (two_of HT_.out (by kernel_rfl)) (by decide) (by decide) (fun K hK => ?_) (fun K hK => ?_)
    ·skip
     refine Kd.R_lit_step (Kd.int .i64) _ 36 ?hg (N := 17) ?hd (xs := ([t188] : List Int)) (inner := [.int .i64 t188]) (ok := fun _ => True) (okp := fun _ => True) ?hr ?hp (fun _ hk => hk) trivial (Below.refl _ _) (Nat.le_refl _) (by simp) ?_; (case hd => rfl); (case hg => rfl); (case hr => first | (go_simp; done) | (go_simp; rfl)); (case hp => exact (Reps.one (show Kd.M (Kd.int .i64) _ _ _ t188 [.int .i64 t188] from rfl) (Reps.none _ _)))
     intro v190 w21 ho22 hb hg_ hnew_
     clear hg_ hnew_
     (first | rw [← Ny189.out] at ho22 | (simp only [Int.reduceToNat] at ho22; rw [← Ny189.out] at ho22))
     replace HO_188000 := zy_ HO_188000 hb
     replace HO_188001 := zy_ HO_188001 hb
     replace HO_188007 := zA_ (Kd.S_elder' (by (with_reducible repeat (first | apply Kd.S_alloc | apply Kd.S_drewN | apply Kd.S_drew)); exact HO_188007.out) (Kd.R_base ho22) hb)
     have HO191 := zA_ (Kd.R_lower (Kd.R_new' ho22 (Kd.R_lt (zr_ HO_188008.out))) (below_size (zw2_ HB GE177 GE187)))
     replace HO_188008 := ze_ HO_188008 ho22 hb
     replace BK177 := za_ BK177 hb
     replace BK187 := za_ BK187 hb
     replace HB := zA_ (below_step (zw2_ HB GE177 GE187) hb)
     clear hb ho22
     refine hK.out _ _ ⟨zx_ BK187 0, zx_ BK187 1, zx_ BK187 2, zx_ BK187 3, zx_ BK187 4, zx_ BK187 5, zx_ BK187 6, zx_ BK187 7, zx_ BK187 8⟩ (fun hHeld => ?_)
     clear hK K
     refine zq_ (some 17) (h := ?_)
     refine yo_ 8 (some 21) (fun K hK => ?_)
     refine yg_ Tryz.func18 #[.int .i64 (wrap64 ((wrap64 (2 * x10_1)) + 1))] ?_
     with_reducible refine (fix_Of.calls (wrap64 ((wrap64 (2 * x10_1)) + 1)) t192 _ A17.out).mono ?_
     rintro e w' ⟨rfl, ⟨nd, rfl⟩⟩
     refine ⟨_, rfl, ?_⟩
     refine hK.out _ _ ⟨zx_ BK187 0, zx_ BK187 1, zx_ BK187 2, zx_ BK187 3, zx_ BK187 4, zx_ BK187 5, zx_ BK187 6, zx_ BK187 7, zx_ BK187 8⟩ (fun hHeld => ?_)
     clear hK K
     refine zq_ (some 21) (h := ?_)
     refine yo_ 9 (some 22) (fun K hK => ?_)
     refine Kd.R_lit_step (Kd.int .i64) _ 36 ?hg (N := 22) ?hd (xs := ([t192] : List Int)) (inner := [.int .i64 t192]) (ok := fun _ => True) (okp := fun _ => True) ?hr ?hp (fun _ hk => hk) trivial (Below.refl _ _) (Nat.le_refl _) (by simp) ?_; (case hd => rfl); (case hg => rfl); (case hr => first | (go_simp; done) | (go_simp; rfl)); (case hp => exact (Reps.one (show Kd.M (Kd.int .i64) _ _ _ t192 [.int .i64 t192] from rfl) (Reps.none _ _)))
     intro v194 w23 ho24 hb hg_ hnew_
     clear hg_ hnew_
     (first | rw [← Ny193.out] at ho24 | (simp only [Int.reduceToNat] at ho24; rw [← Ny193.out] at ho24))
     replace HO_188000 := zy_ HO_188000 hb
     replace HO_188001 := zy_ HO_188001 hb
     replace HO_188007 := zA_ (Kd.S_elder' (by (with_reducible repeat (first | apply Kd.S_alloc | apply Kd.S_drewN | apply Kd.S_drew)); exact HO_188007.out) (Kd.R_base ho24) hb)
     have HO195 := zA_ (Kd.R_lower (Kd.R_new' (Kd.R_new' ho24 (Kd.R_lt (zr_ HO_188008.out))) (Kd.R_lt (zr_ HO191.out))) (below_size (zw2_ HB GE177 GE187)))
     replace HO_188008 := ze_ HO_188008 ho24 hb
     replace HO191 := ze_ HO191 ho24 hb
     replace BK177 := za_ BK177 hb
     replace BK187 := za_ BK187 hb
     replace HB := zA_ (below_step (zw2_ HB GE177 GE187) hb)
     clear hb ho24
     obtain ⟨Ao25, co25, eo25⟩ := Kd.R_slice HO195.out
     (first | subst eo25 | (injection eo25 with f1_ f2_ f3_; have f4_ := f1_.symm; have f5_ := f3_.symm; clear f1_ f2_ f3_; subst f4_; subst f5_))
     obtain ⟨Ao26, co26, eo26⟩ := Kd.R_slice HO191.out
     (first | subst eo26 | (injection eo26 with f1_ f2_ f3_; have f4_ := f1_.symm; have f5_ := f3_.symm; clear f1_ f2_ f3_; subst f4_; subst f5_))
     refine hK.out _ _ ⟨zx_ BK187 0, zx_ BK187 1, zx_ BK187 2, zx_ BK187 3, zx_ BK187 4, zx_ BK187 5, zx_ BK187 6, zx_ BK187 7, zx_ BK187 8⟩ (fun hHeld => ?_)
     clear hK K
     refine zq_ (some 22) (h := ?_)
     exact zj_ (hCont (.slice Ao26 y189.length co26, .slice Ao25 y193.length co25) _ ⟨hHeld, (zr_ (Kd.R_mono HO191.out (fun _ hk => ⟨hk.2, hk.1.2⟩))), (zr_ (Kd.R_mono HO195.out (fun _ hk => ⟨hk.2, hk.1.2⟩))), (zr_ HO_188000.out), (zr_ HO_188001.out), (by (with_reducible repeat (first | apply Kd.S_alloc | apply Kd.S_drewN | apply Kd.S_drew)); exact Kd.S_mono HO_188007.out (fun _ hk => ⟨hk.1.2, ⟨hk.2, hk.1.1⟩⟩)), (zr_ (Kd.R_mono HO_188008.out (fun _ hk => ⟨hk.1.2, hk.2⟩))), (zb_ BK177), (zb_ BK187), (zw2_ HB GE177 GE187)⟩)
    skip
    refine yg_ Tryz.func18 #[.int .i64 (wrap64 ((wrap64 (2 * x10_1)) + 1))] ?_
    with_reducible refine (fix_Of.calls (wrap64 ((wrap64 (2 * x10_1)) + 1)) t192 _ A17.out).mono ?_
    rintro e w' ⟨rfl, ⟨nd, rfl⟩⟩
    refine ⟨_, rfl, ?_⟩
    refine hK.out _ _ ⟨zx_ BK187 0, zx_ BK187 1, zx_ BK187 2, zx_ BK187 3, zx_ BK187 4, zx_ BK187 5, zx_ BK187 6, zx_ BK187 7, zx_ BK187 8⟩ (fun hHeld => ?_)
    clear hK K
    refine zq_ (some 21) (h := ?_)
    refine two_ (i := 4) (j := 9) (Ni := some 17) (Nj := some 22) #[true, true, true, true, true, true, true, true, true, false, false, false, false, false, false] #[true, true, true, true, false, true, true, true, true, true, false, false, false, false, false] rfl rfl rfl rfl (two_of HT_.out (by kernel_rfl)) (by decide) (by decide) (fun K hK => ?_) (fun K hK => ?_)
    ·skip
     refine Kd.R_lit_step (Kd.int .i64) _ 36 ?hg (N := 17) ?hd (xs := ([t188] : List Int)) (inner := [.int .i64 t188]) (ok := fun _ => True) (okp := fun _ => True) ?hr ?hp (fun _ hk => hk) trivial (Below.refl _ _) (Nat.le_refl _) (by simp) ?_; (case hd => rfl); (case hg => rfl); (case hr => first | (go_simp; done) | (go_simp; rfl)); (case hp => exact (Reps.one (show Kd.M (Kd.int .i64) _ _ _ t188 [.int .i64 t188] from rfl) (Reps.none _ _)))
     intro v190 w21 ho22 hb hg_ hnew_
     clear hg_ hnew_
     (first | rw [← Ny189.out] at ho22 | (simp only [Int.reduceToNat] at ho22; rw [← Ny189.out] at ho22))
     replace HO_188000 := zy_ HO_188000 hb
     replace HO_188001 := zy_ HO_188001 hb
     replace HO_188007 := zA_ (Kd.S_elder' (by (with_reducible repeat (first | apply Kd.S_alloc | apply Kd.S_drewN | apply Kd.S_drew)); exact HO_188007.out) (Kd.R_base ho22) hb)
     have HO191 := zA_ (Kd.R_lower (Kd.R_new' ho22 (Kd.R_lt (zr_ HO_188008.out))) (below_size (zw2_ HB GE177 GE187)))
     replace HO_188008 := ze_ HO_188008 ho22 hb
     replace BK177 := za_ BK177 hb
     replace BK187 := za_ BK187 hb
     replace HB := zA_ (below_step (zw2_ HB GE177 GE187) hb)
     clear hb ho22
     refine hK.out _ _ ⟨zx_ BK187 0, zx_ BK187 1, zx_ BK187 2, zx_ BK187 3, zx_ BK187 4, zx_ BK187 5, zx_ BK187 6, zx_ BK187 7, zx_ BK187 8⟩ (fun hHeld => ?_)
     clear hK K
     refine zq_ (some 17) (h := ?_)
     refine yo_ 9 (some 22) (fun K hK => ?_)
     refine Kd.R_lit_step (Kd.int .i64) _ 36 ?hg (N := 22) ?hd (xs := ([t192] : List Int)) (inner := [.int .i64 t192]) (ok := fun _ => True) (okp := fun _ => True) ?hr ?hp (fun _ hk => hk) trivial (Below.refl _ _) (Nat.le_refl _) (by simp) ?_; (case hd => rfl); (case hg => rfl); (case hr => first | (go_simp; done) | (go_simp; rfl)); (case hp => exact (Reps.one (show Kd.M (Kd.int .i64) _ _ _ t192 [.int .i64 t192] from rfl) (Reps.none _ _)))
     intro v194 w23 ho24 hb hg_ hnew_
     clear hg_ hnew_
     (first | rw [← Ny193.out] at ho24 | (simp only [Int.reduceToNat] at ho24; rw [← Ny193.out] at ho24))
     replace HO_188000 := zy_ HO_188000 hb
     replace HO_188001 := zy_ HO_188001 hb
     replace HO_188007 := zA_ (Kd.S_elder' (by (with_reducible repeat (first | apply Kd.S_alloc | apply Kd.S_drewN | apply Kd.S_drew)); exact HO_188007.out) (Kd.R_base ho24) hb)
     have HO195 := zA_ (Kd.R_lower (Kd.R_new' (Kd.R_new' ho24 (Kd.R_lt (zr_ HO_188008.out))) (Kd.R_lt (zr_ HO191.out))) (below_size (zw2_ HB GE177 GE187)))
     replace HO_188008 := ze_ HO_188008 ho24 hb
     replace HO191 := ze_ HO191 ho24 hb
     replace BK177 := za_ BK177 hb
     replace BK187 := za_ BK187 hb
     replace HB := zA_ (below_step (zw2_ HB GE177 GE187) hb)
     clear hb ho24
     obtain ⟨Ao25, co25, eo25⟩ := Kd.R_slice HO195.out
     (first | subst eo25 | (injection eo25 with f1_ f2_ f3_; have f4_ := f1_.symm; have f5_ := f3_.symm; clear f1_ f2_ f3_; subst f4_; subst f5_))
     obtain ⟨Ao26, co26, eo26⟩ := Kd.R_slice HO191.out
     (first | subst eo26 | (injection eo26 with f1_ f2_ f3_; have f4_ := f1_.symm; have f5_ := f3_.symm; clear f1_ f2_ f3_; subst f4_; subst f5_))
     refine hK.out _ _ ⟨zx_ BK187 0, zx_ BK187 1, zx_ BK187 2, zx_ BK187 3, zx_ BK187 4, zx_ BK187 5, zx_ BK187 6, zx_ BK187 7, zx_ BK187 8⟩ (fun hHeld => ?_)
     clear hK K
     refine zq_ (some 22) (h := ?_)
     exact zj_ (hCont (.slice Ao26 y189.length co26, .slice Ao25 y193.length co25) _ ⟨hHeld, (zr_ (Kd.R_mono HO191.out (fun _ hk => ⟨hk.2, hk.1.2⟩))), (zr_ (Kd.R_mono HO195.out (fun _ hk => ⟨hk.2, hk.1.2⟩))), (zr_ HO_188000.out), (zr_ HO_188001.out), (by (with_reducible repeat (first | apply Kd.S_alloc | apply Kd.S_drewN | apply Kd.S_drew)); exact Kd.S_mono HO_188007.out (fun _ hk => ⟨hk.1.2, ⟨hk.2, hk.1.1⟩⟩)), (zr_ (Kd.R_mono HO_188008.out (fun _ hk => ⟨hk.1.2, hk.2⟩))), (zb_ BK177), (zb_ BK187), (zw2_ HB GE177 GE187)⟩)
    skip
    refine Kd.R_lit_step (Kd.int .i64) _ 36 ?hg (N := 22) ?hd (xs := ([t192] : List Int)) (inner := [.int .i64 t192]) (ok := fun _ => True) (okp := fun _ => True) ?hr ?hp (fun _ hk => hk) trivial (Below.refl _ _) (Nat.le_refl _) (by simp) ?_; (case hd => rfl); (case hg => rfl); (case hr => first | (go_simp; done) | (go_simp; rfl)); (case hp => exact (Reps.one (show Kd.M (Kd.int .i64) _ _ _ t192 [.int .i64 t192] from rfl) (Reps.none _ _)))
    intro v194 w21 ho22 hb hg_ hnew_
    clear hg_ hnew_
    (first | rw [← Ny193.out] at ho22 | (simp only [Int.reduceToNat] at ho22; rw [← Ny193.out] at ho22))
    replace HO_188000 := zy_ HO_188000 hb
    replace HO_188001 := zy_ HO_188001 hb
    replace HO_188007 := zA_ (Kd.S_elder' (by (with_reducible repeat (first | apply Kd.S_alloc | apply Kd.S_drewN | apply Kd.S_drew)); exact HO_188007.out) (Kd.R_base ho22) hb)
    have HO195 := zA_ (Kd.R_lower (Kd.R_new' ho22 (Kd.R_lt (zr_ HO_188008.out))) (below_size (zw2_ HB GE177 GE187)))
    replace HO_188008 := ze_ HO_188008 ho22 hb
    replace BK177 := za_ BK177 hb
    replace BK187 := za_ BK187 hb
    replace HB := zA_ (below_step (zw2_ HB GE177 GE187) hb)
    clear hb ho22
    refine hK.out _ _ ⟨zx_ BK187 0, zx_ BK187 1, zx_ BK187 2, zx_ BK187 3, zx_ BK187 4, zx_ BK187 5, zx_ BK187 6, zx_ BK187 7, zx_ BK187 8⟩ (fun hHeld => ?_)
    clear hK K
    refine zq_ (some 22) (h := ?_)
    refine yo_ 4 (some 17) (fun K hK => ?_)
    refine Kd.R_lit_step (Kd.int .i64) _ 36 ?hg (N := 17) ?hd (xs := ([t188] : List Int)) (inner := [.int .i64 t188]) (ok := fun _ => True) (okp := fun _ => True) ?hr ?hp (fun _ hk => hk) trivial (Below.refl _ _) (Nat.le_refl _) (by simp) ?_; (case hd => rfl); (case hg => rfl); (case hr => first | (go_simp; done) | (go_simp; rfl)); (case hp => exact (Reps.one (show Kd.M (Kd.int .i64) _ _ _ t188 [.int .i64 t188] from rfl) (Reps.none _ _)))
    intro v190 w23 ho24 hb hg_ hnew_
    clear hg_ hnew_
    (first | rw [← Ny189.out] at ho24 | (simp only [Int.reduceToNat] at ho24; rw [← Ny189.out] at ho24))
    replace HO_188000 := zy_ HO_188000 hb
    replace HO_188001 := zy_ HO_188001 hb
    replace HO_188007 := zA_ (Kd.S_elder' (by (with_reducible repeat (first | apply Kd.S_alloc | apply Kd.S_drewN | apply Kd.S_drew)); exact HO_188007.out) (Kd.R_base ho24) hb)
    have HO191 := zA_ (Kd.R_lower (Kd.R_new' (Kd.R_new' ho24 (Kd.R_lt (zr_ HO_188008.out))) (Kd.R_lt (zr_ HO195.out))) (below_size (zw2_ HB GE177 GE187)))
    replace HO_188008 := ze_ HO_188008 ho24 hb
    replace HO195 := ze_ HO195 ho24 hb
    replace BK177 := za_ BK177 hb
    replace BK187 := za_ BK187 hb
    replace HB := zA_ (below_step (zw2_ HB GE177 GE187) hb)
    clear hb ho24
    obtain ⟨Ao25, co25, eo25⟩ := Kd.R_slice HO195.out
    (first | subst eo25 | (injection eo25 with f1_ f2_ f3_; have f4_ := f1_.symm; have f5_ := f3_.symm; clear f1_ f2_ f3_; subst f4_; subst f5_))
    obtain ⟨Ao26, co26, eo26⟩ := Kd.R_slice HO191.out
    (first | subst eo26 | (injection eo26 with f1_ f2_ f3_; have f4_ := f1_.symm; have f5_ := f3_.symm; clear f1_ f2_ f3_; subst f4_; subst f5_))
    refine hK.out _ _ ⟨zx_ BK187 0, zx_ BK187 1, zx_ BK187 2, zx_ BK187 3, zx_ BK187 4, zx_ BK187 5, zx_ BK187 6, zx_ BK187 7, zx_ BK187 8⟩ (fun hHeld => ?_)
    clear hK K
    refine zq_ (some 17) (h := ?_)
    exact zj_ (hCont (.slice Ao26 y189.length co26, .slice Ao25 y193.length co25) _ ⟨hHeld, (zr_ (Kd.R_mono HO191.out (fun _ hk => ⟨hk.2, hk.1.2⟩))), (zr_ (Kd.R_mono HO195.out (fun _ hk => ⟨hk.2, hk.1.2⟩))), (zr_ HO_188000.out), (zr_ HO_188001.out), (by (with_reducible repeat (first | apply Kd.S_alloc | apply Kd.S_drewN | apply Kd.S_drew)); exact Kd.S_mono HO_188007.out (fun _ hk => ⟨hk.2, ⟨hk.1.2, hk.1.1⟩⟩)), (zr_ (Kd.R_mono HO_188008.out (fun _ hk => ⟨hk.2, hk.1.2⟩))), (zb_ BK177), (zb_ BK187), (zw2_ HB GE177 GE187)⟩)
   rintro ⟨v190, v194⟩ w27 ⟨hS_, h0_, h1_, h2_, h3_, h4_, h5_, h6_, h7_, h8_⟩
   (try dsimp only at h0_ h1_ h2_ h3_ h4_ h5_ h6_ h7_ h8_)
   clear HO_188000 HO_188001 HO_188007 HO_188008 BK177 BK187 HB
   have HO191 := zA_ h0_
   have HO195 := zA_ h1_
   have HO_188000 := zA_ h2_
   have HO_188001 := zA_ h3_
   have HO_188007 := zA_ h4_
   have HO_188008 := zA_ h5_
   have BK177 := zA_ h6_
   have BK187 := zA_ h7_
   have HB := zA_ h8_
   clear h0_ h1_ h2_ h3_ h4_ h5_ h6_ h7_ h8_
   have hHeld : w27.cell? ⟨gb187, 0, none⟩ = some (.slice Ao8 y178.length co8) ∧ w27.cell? ⟨gb187, 1, none⟩ = some (.slice Ao7 y181.length co7) ∧ w27.cell? ⟨gb187, 2, none⟩ = some (.int .i64 1) ∧ w27.cell? ⟨gb187, 3, none⟩ = some (.int .i64 2) ∧ w27.cell? ⟨gb187, 4, none⟩ = some (.int .i64 1073741824) ∧ w27.cell? ⟨gb187, 5, none⟩ = some (.int .i64 2147483648) ∧ w27.cell? ⟨gb187, 6, none⟩ = some (.int .i64 0) ∧ w27.cell? ⟨gb187, 7, none⟩ = some (.slice Ao19 x188007_1.length co19) ∧ w27.cell? ⟨gb187, 8, none⟩ = some (.slice Ao11 y184.length co11) := hS_
   obtain ⟨Ao28, co28, eo28⟩ := Kd.R_slice HO195.out
   (first | subst eo28 | (injection eo28 with f1_ f2_ f3_; have f4_ := f1_.symm; have f5_ := f3_.symm; clear f1_ f2_ f3_; subst f4_; subst f5_))
   obtain ⟨Ao29, co29, eo29⟩ := Kd.R_slice HO191.out
   (first | subst eo29 | (injection eo29 with f1_ f2_ f3_; have f4_ := f1_.symm; have f5_ := f3_.symm; clear f1_ f2_ f3_; subst f4_; subst f5_))
   refine zi_ (h := ?_)
   refine yp_ ?_ 10 23
   refine yo_ 11 (some 24) (fun K hK => ?_)
   refine value_ (w1 := ?_) (v := ?_) (by rfl) rfl ?_ ?_
   rotate_left 2
   ·go_simp
    constructor
    ·rfl
    rfl
   refine hK.out _ _ ⟨(blk_cell (blk_alloc BK187.out _) 0).trans rfl, (blk_cell (blk_alloc BK187.out _) 1).trans rfl, (blk_cell (blk_alloc BK187.out _) 2).trans rfl, (blk_cell (blk_alloc BK187.out _) 3).trans rfl, (blk_cell (blk_alloc BK187.out _) 4).trans rfl, (blk_cell (blk_alloc BK187.out _) 5).trans rfl, (blk_cell (blk_alloc BK187.out _) 6).trans rfl, (blk_cell (blk_alloc BK187.out _) 7).trans rfl, (blk_cell (blk_alloc BK187.out _) 8).trans rfl⟩ (fun hHeld => ?_)
   clear hK K
   refine zq_ (some 24) (h := ?_)
   refine yo_ 12 (some 25) (fun K hK => ?_)
   refine Kd.S_append_step k87 (w0 := w) w.heap.size (by rfl) (.tmp 14) (.tmp 24) 39 87 (.agg #[(.slice none 0 0), (.slice none 0 0), (.int .i64 0)]) 56 rfl Tryz.underlying39 info87 rfl (by decide) (by omega) (.slice Ao19 x188007_1.length co19) x188007_1 (⟨y189, y193, 0⟩ : S87) [.slice Ao29 y189.length co29, .slice Ao28 y193.length co28, .int .i64 0] (fun k_ => some k_ ≠ (.slice Ao11 y184.length co11 : Value).ownBlock) (fun k_ => some k_ = (.slice Ao29 y189.length co29 : Value).ownBlock ∨ some k_ = (.slice Ao28 y193.length co28 : Value).ownBlock) rfl rfl ?aP (fun k_ hk_ => hk_.elim (fun h_ => ((Kd.R_mono (ok' := fun k_ => ((fun k_ => some k_ ≠ (.slice Ao11 y184.length co11 : Value).ownBlock)) k_ ∧ some k_ ≠ (.slice Ao19 x188007_1.length co19 : Value).ownBlock) (Kd.R_apart' (HO191.out) (Kd.S_typed HO_188007.out) (by decide)) (fun k_ hk => ⟨hk.1.2, hk.2⟩))).1 k_ h_.symm) (fun h_ => ((Kd.R_mono (ok' := fun k_ => ((fun k_ => some k_ ≠ (.slice Ao11 y184.length co11 : Value).ownBlock)) k_ ∧ some k_ ≠ (.slice Ao19 x188007_1.length co19 : Value).ownBlock) (Kd.R_apart' (HO195.out) (Kd.S_typed HO_188007.out) (by decide)) (fun k_ hk => ⟨hk.1.2, hk.2⟩))).1 k_ h_.symm)) ?aF ?aO ?aB ?aS ?aL ?_
   (case aP => exact k87_mkM _ _ _ (⟨y189, y193, 0⟩ : S87) (Kd.R_mono (Kd.R_tight rfl (Kd.R_mono (ok' := fun k_ => ((fun k_ => some k_ ≠ (.slice Ao11 y184.length co11 : Value).ownBlock)) k_ ∧ some k_ ≠ (.slice Ao19 x188007_1.length co19 : Value).ownBlock) (Kd.R_apart' (HO191.out) (Kd.S_typed HO_188007.out) (by decide)) (fun k_ hk => ⟨hk.1.2, hk.2⟩))) (fun _ h_ => Or.inl h_)) (Kd.R_mono (Kd.R_tight rfl (Kd.R_mono (ok' := fun k_ => ((fun k_ => some k_ ≠ (.slice Ao11 y184.length co11 : Value).ownBlock)) k_ ∧ some k_ ≠ (.slice Ao19 x188007_1.length co19 : Value).ownBlock) (Kd.R_apart' (HO195.out) (Kd.S_typed HO_188007.out) (by decide)) (fun k_ hk => ⟨hk.1.2, hk.2⟩))) (fun _ h_ => Or.inr (h_))))
   (case aB => exact (zw2_ HB GE177 GE187))
   (case aF => exact (fun k_ hk => Kd.fresh' (Kd.R_lt (zr_ HO_188008.out)) k_ hk))
   (case aO => exact (by (with_reducible repeat (first | apply Kd.S_alloc | apply Kd.S_drewN | apply Kd.S_drew)); exact Kd.S_mono HO_188007.out (fun k_ hk => ⟨hk.2.2, fun e_ => e_.elim (fun h_ => hk.1 h_) (fun h_ => hk.2.1 h_)⟩)))
   (case aS => exact (below_size (zw2_ HB GE177 GE187)))
   (case aL => have := LMc18.out; omega)
   intro v197 w30 ho hb hg hat
   rw [← Ny196.out] at ho
   replace HO_188000 := zA_ (Kd.R_over' (zr_ HO_188000.out) (Kd.S_typed (by (with_reducible repeat (first | apply Kd.S_alloc | apply Kd.S_drewN | apply Kd.S_drew)); exact HO_188007.out)) (by decide) hg)
   replace HO_188001 := zA_ (Kd.R_over' (zr_ HO_188001.out) (Kd.S_typed (by (with_reducible repeat (first | apply Kd.S_alloc | apply Kd.S_drewN | apply Kd.S_drew)); exact HO_188007.out)) (by decide) hg)
   replace HO_188008 := zA_ (Kd.R_over' (zr_ HO_188008.out) (Kd.S_typed (by (with_reducible repeat (first | apply Kd.S_alloc | apply Kd.S_drewN | apply Kd.S_drew)); exact HO_188007.out)) (by decide) hg)
   replace BK177 := zA_ (zh_ BK177 hg (Kd.S_ne HO_188007.out BK177.out (by decide)))
   replace BK187 := zA_ (zh_ BK187 hg (Kd.S_ne HO_188007.out BK187.out (by decide)))
   replace HB := zA_ (hb)
   have HO198 := zA_ (ho)
   clear HO191 HO195 HO_188007
   clear ho hb hg hat
   obtain ⟨Ao31, co31, eo31⟩ := Kd.S_slice HO198.out
   (first | subst eo31 | (injection eo31 with f1_ f2_ f3_; have f4_ := f1_.symm; have f5_ := f3_.symm; clear f1_ f2_ f3_; subst f4_; subst f5_))
   refine hK.out _ _ ⟨zx_ BK187 0, zx_ BK187 1, zx_ BK187 2, zx_ BK187 3, zx_ BK187 4, zx_ BK187 5, zx_ BK187 6, zx_ BK187 7, zx_ BK187 8⟩ (fun hHeld => ?_)
   clear hK K
   refine zq_ (some 25) (h := ?_)
   refine yp_ ?_ 13 26
   refine yl_ 14 none (fun K hK => ?_)
   have hs32 := zx_ (v := .slice Ao19 x188007_1.length co19) BK187 7
   have hfs32 := blk_frozen BK187.out 7
   have hns32_0 := NB177_187.out
   have hms32_0 := NB187_177.out
   refine skip_ (w1 := ?_) (by rfl) rfl ?_ ?_
   rotate_left
   ·go_simp
    rfl
   refine hK.out _ _ ?_
   clear hK K
   refine done_ (done_of HT_.out (by kernel_rfl)) ?_
   try go_wp2
   go_roundg k1
   case measure => have := HK1.out; omega
   case rel => exact ⟨(wrap64 (x10_1 + 1)), (y196), (.slice Ao31 y196.length co31), z1_, H', ⟨by have := HK1.out; omega⟩, ⟨zr_ (Kd.R_mono (Kd.R_far (p := ⟨gb187, 7, none⟩) (Kd.R_types HO_188000.out BK187.out (by decide)) (fun _ hk => hk.2) (.slice Ao31 y196.length co31)) (fun _ hk => trivial))⟩, ⟨zr_ (Kd.R_mono (Kd.R_far (p := ⟨gb187, 7, none⟩) (Kd.R_types HO_188001.out BK187.out (by decide)) (fun _ hk => hk.2) (.slice Ao31 y196.length co31)) (fun _ hk => trivial))⟩, ⟨by (with_reducible repeat (first | apply Kd.S_alloc | apply Kd.S_drewN | apply Kd.S_drew)); exact Kd.S_mono (Kd.S_far (p := ⟨gb187, 7, none⟩) (Kd.S_types HO198.out BK187.out (by decide)) (fun _ hk => hk.2) (.slice Ao31 y196.length co31)) (fun _ hk => hk.1)⟩, ⟨zr_ (Kd.R_mono (Kd.R_far (p := ⟨gb187, 7, none⟩) (Kd.R_types HO_188008.out BK187.out (by decide)) (fun _ hk => hk.2) (.slice Ao31 y196.length co31)) (fun _ hk => trivial))⟩, ⟨zv1_ BK177 NB177_187⟩, ⟨zo1_ BK187⟩, ⟨zw2_ HB GE177 GE187⟩⟩
def slices_Index_int_int.l0 : Nat → List Int → Int → Int → Int → Option (Int)
 | 0, _, _, _, _ => none
 | k + 1, x0, x1, x7, x8 => if x8 < x7 then (if 0 ≤ x8 then (if x8 < (x0.length : Int) then (if x1 = (rd x0 x8) then (some x8) else (slices_Index_int_int.l0 k x0 x1 x7 (wrap64 (x8 + 1)))) else (none)) else (none)) else (some (-1))
def slices_Index_int_int.f (k : Nat) (l0 : List Int) (a1 : Int) : Option (Int) := slices_Index_int_int.l0 k l0 a1 (l0.length : Int) 0
theorem slices_Index_int_int.calls (k : Nat) (A0 : Option Addr) (c0 : Nat) (l0 : List Int) (a1 : Int) (r : Int) (w : World) (hr0 : Kd.C (Kd.int .i64) w A0 l0.length l0) (hc0 : l0.length ≤ c0) (h : slices_Index_int_int.f k l0 a1 = some r) :
  Calls Tryz.prog 107 #[.slice A0 l0.length c0, .int .i64 a1] w fun e w' => e = .returned (.int .i64 r) ∧ Drawn0 w w' := by
 have HR0 := zA_ hr0
 have HC0 := zA_ hc0
 clear hr0 hc0
 have H : (slices_Index_int_int.l0 k l0 a1 (l0.length : Int) 0) = some r := h
 clear h
 have H' := zA_ H
 clear H
 go_enter Tryz.func107, Tryz.ntmps107
 go_wp2
 go_loopg [8] k (fun kq v8 w' => ∃ (x8_1 : Int), v8 = .int .i64 x8_1 ∧ Aside0 (slices_Index_int_int.l0 kq l0 a1 (l0.length : Int) x8_1 = some r) ∧ Aside0 (kq ≤ k) ∧ Drawn0 w w')
 case atStart => exact ⟨(0), z1_, H', ⟨Nat.le_refl _⟩, by repeat (first | exact Drawn0.refl _ | apply Drawn0.step)⟩
 case round =>
  clear H'
  try clear p2
  obtain ⟨x8_1, rfl, HA, HK1, ⟨m1, rfl⟩⟩ := hrel
  cases gk with
  | zero => exact absurd HA.out (by simp [slices_Index_int_int.l0])
  | succ k1 =>
   have H := HA.out
   clear HA
   simp only [slices_Index_int_int.l0] at H
   by_cases c3 : x8_1 < (l0.length : Int)
   rotate_left
   ·rw [if_neg c3] at H
    have c3b0 : decide (x8_1 < (l0.length : Int)) = false := decide_eq_false c3
    clear c3
    obtain rfl := Option.some.inj H
    go_wp2
    go_ret
    exact ⟨z1_, zE_⟩
   rw [if_pos c3] at H
   have c3b0 : decide (x8_1 < (l0.length : Int)) = true := decide_eq_true c3
   clear c3
   by_cases c4 : 0 ≤ x8_1
   rotate_left
   ·rw [if_neg c4] at H
    exact zN_ H
   rw [if_pos c4] at H
   have c4b0 : decide (0 ≤ x8_1) = true := decide_eq_true c4
   clear c4
   by_cases c5 : x8_1 < (l0.length : Int)
   rotate_left
   ·rw [if_neg c5] at H
    exact zN_ H
   rw [if_pos c5] at H
   have c5b0 : decide (x8_1 < (l0.length : Int)) = true := decide_eq_true c5
   clear c5
   by_cases c6 : a1 = (rd l0 x8_1)
   ·rw [if_pos c6] at H
    have c6b0 : (a1 == (rd l0 x8_1)) = true := beq_iff_eq.mpr c6
    have c6b1 : (a1 != (rd l0 x8_1)) = false := bne_eq_false_iff_eq.mpr c6
    clear c6
    obtain rfl := Option.some.inj H
    have p204 : 0 ≤ (x8_1 : Int) := zD_
    have q204 : x8_1 < (l0.length : Int) := zD_
    obtain ⟨ad204, e204, hx204_0⟩ := Kd.at_int HR0.out x8_1 p204 q204
    cases e204
    replace p204 := eq_true p204
    replace q204 := eq_true q204
    go_wp2
    go_ret
    exact ⟨z1_, zE_⟩
   rw [if_neg c6] at H
   have c6b0 : (a1 == (rd l0 x8_1)) = false := beq_eq_false_iff_ne.mpr c6
   have c6b1 : (a1 != (rd l0 x8_1)) = true := bne_iff_ne.mpr c6
   have H' := zA_ H
   clear H
   have p204 : 0 ≤ (x8_1 : Int) := zD_
   have q204 : x8_1 < (l0.length : Int) := zD_
   obtain ⟨ad204, e204, hx204_0⟩ := Kd.at_int HR0.out x8_1 p204 q204
   cases e204
   replace p204 := eq_true p204
   replace q204 := eq_true q204
   go_wp2
   go_roundg k1
   case measure => have := HK1.out; omega
   case rel => exact ⟨(wrap64 (x8_1 + 1)), z1_, H', ⟨by have := HK1.out; omega⟩, by repeat (first | exact Drawn0.refl _ | apply Drawn0.step)⟩
def slices_Contains_int_int.f (k : Nat) (l0 : List Int) (a1 : Int) : Option (Bool) := (slices_Index_int_int.f k l0 a1).bind fun t205 => (some (decide (t205 ≥ 0)))
theorem slices_Contains_int_int.calls (k : Nat) (A0 : Option Addr) (c0 : Nat) (l0 : List Int) (a1 : Int) (r : Bool) (w : World) (hr0 : Kd.C (Kd.int .i64) w A0 l0.length l0) (hc0 : l0.length ≤ c0) (h : slices_Contains_int_int.f k l0 a1 = some r) :
  Calls Tryz.prog 59 #[.slice A0 l0.length c0, .int .i64 a1] w fun e w' => e = .returned (.bool r) ∧ Drawn0 w w' := by
 have HR0 := zA_ hr0
 have HC0 := zA_ hc0
 clear hr0 hc0
 have H : ((slices_Index_int_int.f k l0 a1).bind fun t205 => (some (decide (t205 ≥ 0)))) = some r := h
 clear h
 replace H := zO_ H
 obtain ⟨t205, A30, H⟩ := H
 replace H : (some (decide (t205 ≥ 0))) = some r := H
 have A3 := zA_ A30
 clear A30
 obtain rfl := Option.some.inj H
 go_enter Tryz.func59, Tryz.ntmps59
 go_wp2_with (first | ((with_reducible refine gate_callee (f := 107) rfl ?_); refine zg_ (some 7) Tryz.func107 #[.slice A0 l0.length c0, .int .i64 a1] (h := ?_); (with_reducible refine (slices_Index_int_int.calls k _ _ l0 a1 t205 _ ?side1 ?side2 A3.out).mono ?_); (case side1 => repeat (first | exact HR0.out | (with_reducible refine Kd.C_alloc ?_ _) | (with_reducible refine Kd.C_drewN ?_ _) | (with_reducible refine Kd.C_drew ?_))); (case side2 => exact HC0.out); rintro e w' ⟨rfl, ⟨nd, rfl⟩⟩; refine ⟨_, rfl, ?_⟩))
 go_ret
 exact ⟨z1_, zE_⟩
def view_copied.f (a0_0 : Int) (l0_1 : List Int) : Option (Int × List Int) := (slices_Clone_int_int.f l0_1).bind fun t302 => (some (a0_0, t302))
theorem view_copied.calls (a0_0 : Int) (A0_1 : Option Addr) (c0_1 : Nat) (l0_1 : List Int) (r1 : Int) (r2 : List Int) (w : World) (hr0_1 : Kd.C (Kd.int .i64) w A0_1 l0_1.length l0_1) (hc0_1 : l0_1.length ≤ c0_1) (h : view_copied.f a0_0 l0_1 = some (r1, r2)) :
  Calls Tryz.prog 109 #[.agg #[.int .u32 a0_0, .slice A0_1 l0_1.length c0_1]] w fun e w' => ∃ v1_ : Value, e = .returned (.agg #[.int .u32 r1, v1_]) ∧ Kd.R (Kd.int .i64) 3 w' w.heap.size (fun _ => True) v1_ r2 ∧ Below w.heap.size w w' := by
 have hu124 := Tryz.underlying124
 have HR0_1 := zA_ hr0_1
 have HC0_1 := zA_ hc0_1
 clear hr0_1 hc0_1
 have HB := zA_ (Below.refl w.heap.size w)
 have H : ((slices_Clone_int_int.f l0_1).bind fun t302 => (some (a0_0, t302))) = some (r1, r2) := h
 clear h
 replace H := zO_ H
 obtain ⟨t302, A20, H⟩ := H
 replace H : (some (a0_0, t302)) = some (r1, r2) := H
 have A2 := zA_ A20
 clear A20
 simp only [Option.some.injEq, Prod.mk.injEq] at H
 obtain ⟨rfl, rfl⟩ := H
 go_enter Tryz.func109, Tryz.ntmps109
 try go_wp2_with (first | ((with_reducible refine gate_dst (N := 1) rfl ?_); refine zB_ (#[.int .u32 a0_0, .slice A0_1 l0_1.length c0_1]) 124 ?_; intro gb300 hg w3 hbox hb; have BK300 := zA_ (hbox); have GW300 := zA_ (zs_ hg (zw0_ HB)); have GE300 := zA_ (zs_ hg (zw0_ HB)); replace HB := zA_ (below_step (zw0_ HB) hb); clear hb hbox hg) | ((with_reducible refine gate_dst (N := 2) rfl ?_); refine zB_ (#[.int .u32 0, .slice none 0 0]) 124 ?_; intro gb301 hg w4 hbox hb; have BK301 := zA_ (hbox); have GW301 := zA_ (zs_ hg (zw1_ HB GE300)); have GE301 := zA_ (zs_ hg (zw1_ HB GE300)); replace HB := zA_ (below_step (zw1_ HB GE300) hb); have NB300_301 := zA_ (zn_ hg BK300); have NB301_300 := zA_ (zm_ hg BK300); replace BK300 := za_ BK300 hb; clear hb hbox hg))
 replace BK300 := zA_ (blk_drew BK300.out)
 replace BK301 := zA_ (blk_drew BK301.out)
 replace HB := zA_ (below_drew1 HB.out)
 refine start_ (n := 7) (S := fun w' => w'.cell? ⟨gb300, 0, none⟩ = some (.int .u32 a0_0) ∧ w'.cell? ⟨gb300, 1, none⟩ = some (.slice A0_1 l0_1.length c0_1)) (ds := []) #[false, false, false, false, false, false, false] (by kernel_rfl) rfl rfl ⟨(blk_cell BK300.out 0).trans rfl, (blk_cell BK300.out 1).trans rfl⟩ (fun hHeld => ?_)
 generalize w4.drew = w5 at BK300 BK301 HB hHeld ⊢
 refine pure_ (i := 0) (N := some 3) (v := ?_) (a' := ?_) #[true, false, false, false, false, false, false] rfl rfl (by kernel_rfl) (fun _ _ _ h => h) (Or.inl ⟨by rfl, ?_⟩) ?_ ?_
 rotate_left
 ·intro w'
  go_simp
  with_reducible rfl
 rotate_left
 ·simp only [Act.put, List.setIfInBounds_toArray, List.set_cons_zero, List.set_cons_succ, i64_w, i32_w]
  rfl
 refine pure_ (i := 2) (N := some 5) (v := ?_) (a' := ?_) #[true, false, true, false, false, false, false] rfl rfl (by kernel_rfl) (fun _ _ _ h => h) (Or.inl ⟨by rfl, ?_⟩) ?_ ?_
 rotate_left
 ·intro w'
  go_simp
  with_reducible rfl
 rotate_left
 ·simp only [Act.put, List.setIfInBounds_toArray, List.set_cons_zero, List.set_cons_succ, i64_w, i32_w]
  rfl
 refine take_ (i := 1) (N := some 4) (v := ?_) (a' := ?_) #[true, true, true, false, false, false, false] rfl rfl (by kernel_rfl) (fun _ _ _ h => h) (Or.inl ⟨by rfl, ?_⟩) hHeld ?_ ?_
 rotate_left
 ·rintro w' ⟨s0, s1⟩
  go_simp
  with_reducible rfl
 rotate_left
 ·simp only [Act.put, List.setIfInBounds_toArray, List.set_cons_zero, List.set_cons_succ, i64_w, i32_w]
  rfl
 refine take_ (i := 3) (N := some 6) (v := ?_) (a' := ?_) #[true, true, true, true, false, false, false] rfl rfl (by kernel_rfl) (fun _ _ _ h => h) (Or.inl ⟨by rfl, ?_⟩) hHeld ?_ ?_
 rotate_left
 ·rintro w' ⟨s0, s1⟩
  go_simp
  with_reducible rfl
 rotate_left
 ·simp only [Act.put, List.setIfInBounds_toArray, List.set_cons_zero, List.set_cons_succ, i64_w, i32_w]
  rfl
 refine one_ (i := 4) (N := some 7) #[true, true, true, true, true, false, false] rfl rfl (by kernel_rfl) (by decide) (fun K hK => ?_)
 refine yg_ Tryz.func14 #[.slice A0_1 l0_1.length c0_1] ?_
 with_reducible refine (slices_Clone_int_int.calls _ _ l0_1 t302 _ ?side1 ?side2 A2.out).mono ?_
 (case side1 => exact zk_ (Kd.C_below HR0_1.out HB.out))
 (case side2 => exact HC0_1.out)
 rintro e w6 ⟨v303, rfl, ho0, hb⟩
 refine ⟨_, rfl, ?_⟩
 have HO304 := zA_ (Kd.R_lower ho0 (below_size (zw2_ HB GE300 GE301)))
 replace BK300 := za_ BK300 hb
 replace BK301 := za_ BK301 hb
 replace HB := zA_ (below_step (zw2_ HB GE300 GE301) hb)
 (try clear hb)
 (try clear hb2)
 (try clear hk)
 (try clear hi)
 (try clear ho0)
 obtain ⟨Ao7, co7, eo7⟩ := Kd.R_slice HO304.out
 (first | subst eo7 | (injection eo7 with f1_ f2_ f3_; have f4_ := f1_.symm; have f5_ := f3_.symm; clear f1_ f2_ f3_; subst f4_; subst f5_))
 refine hK.out _ _ ⟨zx_ BK300 0, zx_ BK300 1⟩ (fun hHeld => ?_)
 clear hK K
 refine zq_ (some 7) (h := ?_)
 refine pure_ (i := 5) (N := some 8) (v := ?_) (a' := ?_) #[true, true, true, true, true, true, false] rfl rfl (by kernel_rfl) (fun _ _ _ h => h) (Or.inl ⟨by rfl, ?_⟩) ?_ ?_
 rotate_left
 ·intro w'
  go_simp
  with_reducible rfl
 rotate_left
 ·simp only [Act.put, List.setIfInBounds_toArray, List.set_cons_zero, List.set_cons_succ, i64_w, i32_w]
  rfl
 refine one_ (i := 6) (N := none) #[true, true, true, true, true, true, true] rfl rfl (by kernel_rfl) (by decide) (fun K hK => ?_)
 have hs8 := zx_ (v := .int .u32 0) BK301 0
 have hfs8 := blk_frozen BK301.out 0
 have hns8_0 := NB300_301.out
 have hms8_0 := NB301_300.out
 have hs9 := zx_ (v := .slice none 0 0) BK301 1
 have hfs9 := blk_frozen BK301.out 1
 have hns9_0 := NB300_301.out
 have hms9_0 := NB301_300.out
 refine skip_ (w1 := ?_) (by rfl) rfl ?_ ?_
 rotate_left
 ·go_simp
  rfl
 refine hK.out _ _ ⟨((cell_far (p := ⟨gb301, _, none⟩) NB300_301.out _).trans (((cell_far (p := ⟨gb301, _, none⟩) NB300_301.out _).trans (hHeld.1)))), ((cell_far (p := ⟨gb301, _, none⟩) NB300_301.out _).trans (((cell_far (p := ⟨gb301, _, none⟩) NB300_301.out _).trans (hHeld.2))))⟩ (fun hHeld => ?_)
 clear hK K
 refine done_ (by kernel_rfl) ?_
 try go_wp2
 refine bodyPost_ret (results_cell_row rfl _ _ gb301 124 #[.int .u32 a0_0, .slice Ao7 t302.length co7] (0, 0) _ rfl (zo2_ BK301) Tryz.underlying124 rfl (by kernel_rfl)) rfl ?_
 exact ⟨_, z0_, zr_ (Kd.R_mono (Kd.R_far (p := ⟨gb301, 1, none⟩) (Kd.R_far (p := ⟨gb301, 0, none⟩) (Kd.R_types HO304.out BK301.out (by decide)) (fun _ hk => hk.2) (.int .u32 a0_0)) (fun _ hk => hk.2) (.slice Ao7 t302.length co7)) (fun _ hk => trivial)), zw2_ HB GE300 GE301⟩
def view_rising.l0 : Nat → List Int → Int → List Int → Int → Int → Option (Bool)
 | 0, _, _, _, _, _ => none
 | k + 1, x0, x3, x6, x7, x8 => if x8 < x7 then (if 0 ≤ x8 then (if x8 < (x6.length : Int) then (if (rd x6 x8) ≤ x3 then (some false) else (if (rd x6 x8) ≥ 16 then (some false) else (view_rising.l0 k x0 (rd x6 x8) x6 x7 (wrap64 (x8 + 1))))) else (none)) else (none)) else (some (decide ((x0.length : Int) > 0)))
def view_rising.f (k : Nat) (l0 : List Int) : Option (Bool) := view_rising.l0 k l0 (-1) l0 (l0.length : Int) 0
theorem view_rising.calls (k : Nat) (A0 : Option Addr) (c0 : Nat) (l0 : List Int) (r : Bool) (w : World) (hr0 : Kd.C (Kd.int .i64) w A0 l0.length l0) (hc0 : l0.length ≤ c0) (h : view_rising.f k l0 = some r) :
  Calls Tryz.prog 108 #[.slice A0 l0.length c0] w fun e w' => e = .returned (.bool r) ∧ Drawn0 w w' := by
 have HR0 := zA_ hr0
 have HC0 := zA_ hc0
 clear hr0 hc0
 have H : (view_rising.l0 k l0 (-1) l0 (l0.length : Int) 0) = some r := h
 clear h
 have H' := zA_ H
 clear H
 go_enter Tryz.func108, Tryz.ntmps108
 go_wp2
 go_loopg [3, 8] k (fun kq v3 v8 w' => ∃ (x3_1 : Int) (x8_1 : Int), v3 = .int .i64 x3_1 ∧ v8 = .int .i64 x8_1 ∧ Aside0 (view_rising.l0 kq l0 x3_1 l0 (l0.length : Int) x8_1 = some r) ∧ Aside0 (kq ≤ k) ∧ Drawn0 w w')
 case atStart => exact ⟨((-1)), (0), z1_, z1_, H', ⟨Nat.le_refl _⟩, by repeat (first | exact Drawn0.refl _ | apply Drawn0.step)⟩
 case round =>
  clear H'
  obtain ⟨x3_1, x8_1, rfl, rfl, HA, HK1, ⟨m1, rfl⟩⟩ := hrel
  cases gk with
  | zero => exact absurd HA.out (by simp [view_rising.l0])
  | succ k1 =>
   have H := HA.out
   clear HA
   simp only [view_rising.l0] at H
   by_cases c2 : x8_1 < (l0.length : Int)
   rotate_left
   ·rw [if_neg c2] at H
    have c2b0 : decide (x8_1 < (l0.length : Int)) = false := decide_eq_false c2
    clear c2
    obtain rfl := Option.some.inj H
    go_wp2
    go_ret
    exact ⟨z1_, zE_⟩
   rw [if_pos c2] at H
   have c2b0 : decide (x8_1 < (l0.length : Int)) = true := decide_eq_true c2
   clear c2
   by_cases c3 : 0 ≤ x8_1
   rotate_left
   ·rw [if_neg c3] at H
    exact zN_ H
   rw [if_pos c3] at H
   have c3b0 : decide (0 ≤ x8_1) = true := decide_eq_true c3
   clear c3
   by_cases c4 : x8_1 < (l0.length : Int)
   rotate_left
   ·rw [if_neg c4] at H
    exact zN_ H
   rw [if_pos c4] at H
   have c4b0 : decide (x8_1 < (l0.length : Int)) = true := decide_eq_true c4
   clear c4
   by_cases c5 : (rd l0 x8_1) ≤ x3_1
   ·rw [if_pos c5] at H
    have c5b0 : decide ((rd l0 x8_1) ≤ x3_1) = true := decide_eq_true c5
    clear c5
    obtain rfl := Option.some.inj H
    have p305 : 0 ≤ (x8_1 : Int) := zD_
    have q305 : x8_1 < (l0.length : Int) := zD_
    obtain ⟨ad305, e305, hx305_0⟩ := Kd.at_int HR0.out x8_1 p305 q305
    cases e305
    replace p305 := eq_true p305
    replace q305 := eq_true q305
    go_wp2
    go_ret
    exact ⟨z1_, zE_⟩
   rw [if_neg c5] at H
   have c5b0 : decide ((rd l0 x8_1) ≤ x3_1) = false := decide_eq_false c5
   clear c5
   by_cases c6 : (rd l0 x8_1) ≥ 16
   ·rw [if_pos c6] at H
    have c6b0 : decide (16 ≤ (rd l0 x8_1)) = true := decide_eq_true c6
    clear c6
    obtain rfl := Option.some.inj H
    have p305 : 0 ≤ (x8_1 : Int) := zD_
    have q305 : x8_1 < (l0.length : Int) := zD_
    obtain ⟨ad305, e305, hx305_0⟩ := Kd.at_int HR0.out x8_1 p305 q305
    cases e305
    replace p305 := eq_true p305
    replace q305 := eq_true q305
    go_wp2
    go_ret
    exact ⟨z1_, zE_⟩
   rw [if_neg c6] at H
   have c6b0 : decide (16 ≤ (rd l0 x8_1)) = false := decide_eq_false c6
   clear c6
   have H' := zA_ H
   clear H
   have p305 : 0 ≤ (x8_1 : Int) := zD_
   have q305 : x8_1 < (l0.length : Int) := zD_
   obtain ⟨ad305, e305, hx305_0⟩ := Kd.at_int HR0.out x8_1 p305 q305
   cases e305
   replace p305 := eq_true p305
   replace q305 := eq_true q305
   go_wp2
   go_roundg k1
   case measure => have := HK1.out; omega
   case rel => exact ⟨(rd l0 x8_1), (wrap64 (x8_1 + 1)), z1_, z1_, H', ⟨by have := HK1.out; omega⟩, by repeat (first | exact Drawn0.refl _ | apply Drawn0.step)⟩
def beat_good.l0 : Nat → List Int → Int → List Int → Int → Int → Option (Bool)
 | 0, _, _, _, _, _ => none
 | k + 1, x0, x3, x6, x7, x8 => if x8 < x7 then (if 0 ≤ x8 then (if x8 < (x6.length : Int) then (if (rd x6 x8) ≤ x3 then (some false) else (if (rd x6 x8) ≥ 16 then (some false) else (beat_good.l0 k x0 (rd x6 x8) x6 x7 (wrap64 (x8 + 1))))) else (none)) else (none)) else (some (decide ((x0.length : Int) > 0)))
def beat_good.f (k : Nat) (l0 : List Int) : Option (Bool) := beat_good.l0 k l0 (-1) l0 (l0.length : Int) 0
theorem beat_good.calls (k : Nat) (A0 : Option Addr) (c0 : Nat) (l0 : List Int) (r : Bool) (w : World) (hr0 : Kd.C (Kd.int .i64) w A0 l0.length l0) (hc0 : l0.length ≤ c0) (h : beat_good.f k l0 = some r) :
  Calls Tryz.prog 173 #[.slice A0 l0.length c0] w fun e w' => e = .returned (.bool r) ∧ Drawn0 w w' := by
 have HR0 := zA_ hr0
 have HC0 := zA_ hc0
 clear hr0 hc0
 have H : (beat_good.l0 k l0 (-1) l0 (l0.length : Int) 0) = some r := h
 clear h
 have H' := zA_ H
 clear H
 go_enter Tryz.func173, Tryz.ntmps173
 go_wp2
 go_loopg [3, 8] k (fun kq v3 v8 w' => ∃ (x3_1 : Int) (x8_1 : Int), v3 = .int .i64 x3_1 ∧ v8 = .int .i64 x8_1 ∧ Aside0 (beat_good.l0 kq l0 x3_1 l0 (l0.length : Int) x8_1 = some r) ∧ Aside0 (kq ≤ k) ∧ Drawn0 w w')
 case atStart => exact ⟨((-1)), (0), z1_, z1_, H', ⟨Nat.le_refl _⟩, by repeat (first | exact Drawn0.refl _ | apply Drawn0.step)⟩
 case round =>
  clear H'
  obtain ⟨x3_1, x8_1, rfl, rfl, HA, HK1, ⟨m1, rfl⟩⟩ := hrel
  cases gk with
  | zero => exact absurd HA.out (by simp [beat_good.l0])
  | succ k1 =>
   have H := HA.out
   clear HA
   simp only [beat_good.l0] at H
   by_cases c2 : x8_1 < (l0.length : Int)
   rotate_left
   ·rw [if_neg c2] at H
    have c2b0 : decide (x8_1 < (l0.length : Int)) = false := decide_eq_false c2
    clear c2
    obtain rfl := Option.some.inj H
    go_wp2
    go_ret
    exact ⟨z1_, zE_⟩
   rw [if_pos c2] at H
   have c2b0 : decide (x8_1 < (l0.length : Int)) = true := decide_eq_true c2
   clear c2
   by_cases c3 : 0 ≤ x8_1
   rotate_left
   ·rw [if_neg c3] at H
    exact zN_ H
   rw [if_pos c3] at H
   have c3b0 : decide (0 ≤ x8_1) = true := decide_eq_true c3
   clear c3
   by_cases c4 : x8_1 < (l0.length : Int)
   rotate_left
   ·rw [if_neg c4] at H
    exact zN_ H
   rw [if_pos c4] at H
   have c4b0 : decide (x8_1 < (l0.length : Int)) = true := decide_eq_true c4
   clear c4
   by_cases c5 : (rd l0 x8_1) ≤ x3_1
   ·rw [if_pos c5] at H
    have c5b0 : decide ((rd l0 x8_1) ≤ x3_1) = true := decide_eq_true c5
    clear c5
    obtain rfl := Option.some.inj H
    have p306 : 0 ≤ (x8_1 : Int) := zD_
    have q306 : x8_1 < (l0.length : Int) := zD_
    obtain ⟨ad306, e306, hx306_0⟩ := Kd.at_int HR0.out x8_1 p306 q306
    cases e306
    replace p306 := eq_true p306
    replace q306 := eq_true q306
    go_wp2
    go_ret
    exact ⟨z1_, zE_⟩
   rw [if_neg c5] at H
   have c5b0 : decide ((rd l0 x8_1) ≤ x3_1) = false := decide_eq_false c5
   clear c5
   by_cases c6 : (rd l0 x8_1) ≥ 16
   ·rw [if_pos c6] at H
    have c6b0 : decide (16 ≤ (rd l0 x8_1)) = true := decide_eq_true c6
    clear c6
    obtain rfl := Option.some.inj H
    have p306 : 0 ≤ (x8_1 : Int) := zD_
    have q306 : x8_1 < (l0.length : Int) := zD_
    obtain ⟨ad306, e306, hx306_0⟩ := Kd.at_int HR0.out x8_1 p306 q306
    cases e306
    replace p306 := eq_true p306
    replace q306 := eq_true q306
    go_wp2
    go_ret
    exact ⟨z1_, zE_⟩
   rw [if_neg c6] at H
   have c6b0 : decide (16 ≤ (rd l0 x8_1)) = false := decide_eq_false c6
   clear c6
   have H' := zA_ H
   clear H
   have p306 : 0 ≤ (x8_1 : Int) := zD_
   have q306 : x8_1 < (l0.length : Int) := zD_
   obtain ⟨ad306, e306, hx306_0⟩ := Kd.at_int HR0.out x8_1 p306 q306
   cases e306
   replace p306 := eq_true p306
   replace q306 := eq_true q306
   go_wp2
   go_roundg k1
   case measure => have := HK1.out; omega
   case rel => exact ⟨(rd l0 x8_1), (wrap64 (x8_1 + 1)), z1_, z1_, H', ⟨by have := HK1.out; omega⟩, by repeat (first | exact Drawn0.refl _ | apply Drawn0.step)⟩
def link_worker.f (a0 : Int) : Option (Bool) := if a0 ≥ 0 then (some (decide (a0 < 16))) else (some false)
theorem link_worker.calls (a0 : Int) (r : Bool) (w : World) (h : link_worker.f a0 = some r) :
  Calls Tryz.prog 176 #[.int .i64 a0] w fun e w' => e = .returned (.bool r) ∧ Drawn0 w w' := by
 have H : (if a0 ≥ 0 then (some (decide (a0 < 16))) else (some false)) = some r := h
 clear h
 by_cases c2 : a0 ≥ 0
 ·rw [if_pos c2] at H
  have c2b0 : decide (0 ≤ a0) = true := decide_eq_true c2
  clear c2
  obtain rfl := Option.some.inj H
  go_enter Tryz.func176, Tryz.ntmps176
  go_wp2
  go_ret
  exact ⟨z1_, zE_⟩
 rw [if_neg c2] at H
 have c2b0 : decide (0 ≤ a0) = false := decide_eq_false c2
 clear c2
 obtain rfl := Option.some.inj H
 go_enter Tryz.func176, Tryz.ntmps176
 go_wp2
 go_ret
 exact ⟨z1_, zE_⟩
mutual
def data_Good.j0 : Nat → List Int → Bool → Option (Bool)
 | 0, _, _ => none
 | k + 1, x0, x13 => if x13 = true then (some false) else (data_Good.l0 k (-1) x0 (x0.length : Int) 0)
def data_Good.l0 : Nat → Int → List Int → Int → Int → Option (Bool)
 | 0, _, _, _, _ => none
 | k + 1, x3, x14, x15, x16 => if x16 < x15 then (if 0 ≤ x16 then (if x16 < (x14.length : Int) then (if (rd x14 x16) ≤ x3 then (some false) else (if (rd x14 x16) ≥ 16 then (some false) else (data_Good.l0 k (rd x14 x16) x14 x15 (wrap64 (x16 + 1))))) else (none)) else (none)) else (some true)
end
def data_Good.f (k : Nat) (l0 : List Int) : Option (Bool) := if (l0.length : Int) < 1 then (data_Good.j0 k l0 true) else (data_Good.j0 k l0 (decide ((l0.length : Int) > 16)))
theorem data_Good.calls (k : Nat) (A0 : Option Addr) (c0 : Nat) (l0 : List Int) (r : Bool) (w : World) (hr0 : Kd.C (Kd.int .i64) w A0 l0.length l0) (hc0 : l0.length ≤ c0) (h : data_Good.f k l0 = some r) :
  Calls Tryz.prog 58 #[.slice A0 l0.length c0] w fun e w' => e = .returned (.bool r) ∧ Drawn0 w w' := by
 have HR0 := zA_ hr0
 have HC0 := zA_ hc0
 clear hr0 hc0
 have H : (if (l0.length : Int) < 1 then (data_Good.j0 k l0 true) else (data_Good.j0 k l0 (decide ((l0.length : Int) > 16)))) = some r := h
 clear h
 have HC2 := zA_ H
 clear H
 go_enter Tryz.func58, Tryz.ntmps58
 go_upto_region 1 with (fail)
 go_cut [13] (fun v13 wc => ∃ (kq : Nat) (x13_1 : Bool), v13 = .bool x13_1 ∧ Aside0 (data_Good.j0 kq l0 x13_1 = some r) ∧ Aside0 (kq ≤ k) ∧ Drawn0 w wc)
 case first =>
  have H := HC2.out
  clear HC2
  by_cases c3 : (l0.length : Int) < 1
  ·rw [if_pos c3] at H
   have c3b0 : decide ((l0.length : Int) < 1) = true := decide_eq_true c3
   have c3b1 : decide (l0.length < 1) = true := decide_eq_true (by omega)
   clear c3
   (first | rw [c3b0] | (simp only [i64_w, i32_w]; rw [c3b0]) | rw [c3b1] | skip)
   have H' := zA_ H
   clear H
   go_wp2
   go_meet
   case rel => exact ⟨_, (true), z1_, H', ⟨by first | omega | exact Nat.le_refl _⟩, by repeat (first | exact Drawn0.refl _ | apply Drawn0.step)⟩
  rw [if_neg c3] at H
  have c3b0 : decide ((l0.length : Int) < 1) = false := decide_eq_false c3
  have c3b1 : decide (l0.length < 1) = false := decide_eq_false (by omega)
  clear c3
  (first | rw [c3b0] | (simp only [i64_w, i32_w]; rw [c3b0]) | rw [c3b1] | skip)
  have H' := zA_ H
  clear H
  go_wp2
  go_meet
  case rel => exact ⟨_, (decide ((l0.length : Int) > 16)), z1_, H', ⟨by first | omega | exact Nat.le_refl _⟩, by repeat (first | exact Drawn0.refl _ | apply Drawn0.step)⟩
 case rest =>
  clear HC2
  try clear p2
  try clear c3b0
  try clear c3b1
  obtain ⟨kq, x13_1, rfl, HA, HJ1, ⟨mc1, rfl⟩⟩ := hcut
  cases kq with
  | zero => exact absurd HA.out (by simp [data_Good.j0])
  | succ kj1 =>
   have H := HA.out
   clear HA
   simp only [data_Good.j0] at H
   by_cases c4 : x13_1 = true
   ·subst c4
    have H1 : (some false) = some r := by rw [if_pos rfl] at H; exact H
    clear H
    have H := H1
    clear H1
    obtain rfl := Option.some.inj H
    go_wp2
    go_ret
    exact ⟨z1_, zE_⟩
   replace c4 := Bool.eq_false_iff.mpr c4
   subst c4
   have H1 : (data_Good.l0 kj1 (-1) l0 (l0.length : Int) 0) = some r := by rw [if_neg (show ¬ (false = true) by decide)] at H; exact H
   clear H
   have H := H1
   clear H1
   have H' := zA_ H
   clear H
   go_wp2
   go_loopg [3, 16] kj1 (fun kq v3 v16 w' => ∃ (x3_2 : Int) (x16_2 : Int), v3 = .int .i64 x3_2 ∧ v16 = .int .i64 x16_2 ∧ Aside0 (data_Good.l0 kq x3_2 l0 (l0.length : Int) x16_2 = some r) ∧ Aside0 (kq ≤ kj1) ∧ Drawn0 w w')
   case atStart => exact ⟨((-1)), (0), z1_, z1_, H', ⟨Nat.le_refl _⟩, by repeat (first | exact Drawn0.refl _ | apply Drawn0.step)⟩
   case round =>
    clear H'
    try clear p2
    try clear c3b0
    try clear c3b1
    try clear p2
    obtain ⟨x3_2, x16_2, rfl, rfl, HA, HK2, ⟨m2, rfl⟩⟩ := hrel
    cases gk with
    | zero => exact absurd HA.out (by simp [data_Good.l0])
    | succ k2 =>
     have H := HA.out
     clear HA
     simp only [data_Good.l0] at H
     by_cases c5 : x16_2 < (l0.length : Int)
     rotate_left
     ·rw [if_neg c5] at H
      have c5b0 : decide (x16_2 < (l0.length : Int)) = false := decide_eq_false c5
      clear c5
      obtain rfl := Option.some.inj H
      go_wp2
      go_ret
      exact ⟨z1_, zE_⟩
     rw [if_pos c5] at H
     have c5b0 : decide (x16_2 < (l0.length : Int)) = true := decide_eq_true c5
     clear c5
     by_cases c6 : 0 ≤ x16_2
     rotate_left
     ·rw [if_neg c6] at H
      exact zN_ H
     rw [if_pos c6] at H
     have c6b0 : decide (0 ≤ x16_2) = true := decide_eq_true c6
     clear c6
     by_cases c7 : x16_2 < (l0.length : Int)
     rotate_left
     ·rw [if_neg c7] at H
      exact zN_ H
     rw [if_pos c7] at H
     have c7b0 : decide (x16_2 < (l0.length : Int)) = true := decide_eq_true c7
     clear c7
     by_cases c8 : (rd l0 x16_2) ≤ x3_2
     ·rw [if_pos c8] at H
      have c8b0 : decide ((rd l0 x16_2) ≤ x3_2) = true := decide_eq_true c8
      clear c8
      obtain rfl := Option.some.inj H
      have p310 : 0 ≤ (x16_2 : Int) := zD_
      have q310 : x16_2 < (l0.length : Int) := zD_
      obtain ⟨ad310, e310, hx310_0⟩ := Kd.at_int HR0.out x16_2 p310 q310
      cases e310
      replace p310 := eq_true p310
      replace q310 := eq_true q310
      go_wp2
      go_ret
      exact ⟨z1_, zE_⟩
     rw [if_neg c8] at H
     have c8b0 : decide ((rd l0 x16_2) ≤ x3_2) = false := decide_eq_false c8
     clear c8
     by_cases c9 : (rd l0 x16_2) ≥ 16
     ·rw [if_pos c9] at H
      have c9b0 : decide (16 ≤ (rd l0 x16_2)) = true := decide_eq_true c9
      clear c9
      obtain rfl := Option.some.inj H
      have p310 : 0 ≤ (x16_2 : Int) := zD_
      have q310 : x16_2 < (l0.length : Int) := zD_
      obtain ⟨ad310, e310, hx310_0⟩ := Kd.at_int HR0.out x16_2 p310 q310
      cases e310
      replace p310 := eq_true p310
      replace q310 := eq_true q310
      go_wp2
      go_ret
      exact ⟨z1_, zE_⟩
     rw [if_neg c9] at H
     have c9b0 : decide (16 ≤ (rd l0 x16_2)) = false := decide_eq_false c9
     clear c9
     have H' := zA_ H
     clear H
     have p310 : 0 ≤ (x16_2 : Int) := zD_
     have q310 : x16_2 < (l0.length : Int) := zD_
     obtain ⟨ad310, e310, hx310_0⟩ := Kd.at_int HR0.out x16_2 p310 q310
     cases e310
     replace p310 := eq_true p310
     replace q310 := eq_true q310
     go_wp2
     go_roundg k2
     case measure => have := HJ1.out; have := HK2.out; omega
     case rel => exact ⟨(rd l0 x16_2), (wrap64 (x16_2 + 1)), z1_, z1_, H', ⟨by have := HJ1.out; have := HK2.out; omega⟩, by repeat (first | exact Drawn0.refl _ | apply Drawn0.step)⟩
def model_product.l0 : Nat → Int → List Int → Int → Int → Option (Int)
 | 0, _, _, _, _ => none
 | k + 1, x3, x6, x7, x8 => if x8 < x7 then (if 0 ≤ x8 then (if x8 < (x6.length : Int) then (model_product.l0 k (wrap64 (x3 * (rd x6 x8))) x6 x7 (wrap64 (x8 + 1))) else (none)) else (none)) else (some x3)
def model_product.f (k : Nat) (l0 : List Int) : Option (Int) := model_product.l0 k 1 l0 (l0.length : Int) 0
theorem model_product.calls (k : Nat) (A0 : Option Addr) (c0 : Nat) (l0 : List Int) (r : Int) (w : World) (hr0 : Kd.C (Kd.int .i64) w A0 l0.length l0) (hc0 : l0.length ≤ c0) (h : model_product.f k l0 = some r) :
  Calls Tryz.prog 241 #[.slice A0 l0.length c0] w fun e w' => e = .returned (.int .i64 r) ∧ Drawn0 w w' := by
 have HR0 := zA_ hr0
 have HC0 := zA_ hc0
 clear hr0 hc0
 have H : (model_product.l0 k 1 l0 (l0.length : Int) 0) = some r := h
 clear h
 have H' := zA_ H
 clear H
 go_enter Tryz.func241, Tryz.ntmps241
 go_wp2
 go_loopg [3, 8] k (fun kq v3 v8 w' => ∃ (x3_1 : Int) (x8_1 : Int), v3 = .int .i64 x3_1 ∧ v8 = .int .i64 x8_1 ∧ Aside0 (model_product.l0 kq x3_1 l0 (l0.length : Int) x8_1 = some r) ∧ Aside0 (kq ≤ k) ∧ Drawn0 w w')
 case atStart => exact ⟨(1), (0), z1_, z1_, H', ⟨Nat.le_refl _⟩, by repeat (first | exact Drawn0.refl _ | apply Drawn0.step)⟩
 case round =>
  clear H'
  obtain ⟨x3_1, x8_1, rfl, rfl, HA, HK1, ⟨m1, rfl⟩⟩ := hrel
  cases gk with
  | zero => exact absurd HA.out (by simp [model_product.l0])
  | succ k1 =>
   have H := HA.out
   clear HA
   simp only [model_product.l0] at H
   by_cases c2 : x8_1 < (l0.length : Int)
   rotate_left
   ·rw [if_neg c2] at H
    have c2b0 : decide (x8_1 < (l0.length : Int)) = false := decide_eq_false c2
    clear c2
    obtain rfl := Option.some.inj H
    go_wp2
    go_ret
    exact ⟨z1_, zE_⟩
   rw [if_pos c2] at H
   have c2b0 : decide (x8_1 < (l0.length : Int)) = true := decide_eq_true c2
   clear c2
   by_cases c3 : 0 ≤ x8_1
   rotate_left
   ·rw [if_neg c3] at H
    exact zN_ H
   rw [if_pos c3] at H
   have c3b0 : decide (0 ≤ x8_1) = true := decide_eq_true c3
   clear c3
   by_cases c4 : x8_1 < (l0.length : Int)
   rotate_left
   ·rw [if_neg c4] at H
    exact zN_ H
   rw [if_pos c4] at H
   have c4b0 : decide (x8_1 < (l0.length : Int)) = true := decide_eq_true c4
   clear c4
   have H' := zA_ H
   clear H
   have p317 : 0 ≤ (x8_1 : Int) := zD_
   have q317 : x8_1 < (l0.length : Int) := zD_
   obtain ⟨ad317, e317, hx317_0⟩ := Kd.at_int HR0.out x8_1 p317 q317
   cases e317
   replace p317 := eq_true p317
   replace q317 := eq_true q317
   go_wp2
   go_roundg k1
   case measure => have := HK1.out; omega
   case rel => exact ⟨(wrap64 (x3_1 * (rd l0 x8_1))), (wrap64 (x8_1 + 1)), z1_, z1_, H', ⟨by have := HK1.out; omega⟩, by repeat (first | exact Drawn0.refl _ | apply Drawn0.step)⟩
def model_Layer_params.f (k : Nat) (a0_0 : ByteArray) (a0_1 : Int) (a0_2 : Int) (l1 : List Int) : Option ((List (List Int))) := if a0_0.toList = ([100, 101, 110, 115, 101] : List UInt8) then ((model_product.f k l1).bind fun t319 => (some (([(([a0_1, t319] : List Int)), (([a0_1] : List Int))] : List (List Int))))) else (none)
def model_Layer_params.T3 : Bool × List (List Nat × List Nat) := (true, [([], []), ([0], [0]), ([], []), ([2], [2]), ([1, 3], [1, 3]), ([], []), ([5], [5]), ([6], [6]), ([4, 7], [4, 7]), ([8, 3, 0, 1, 2, 3, 4, 5, 6, 7, 8], [8])])
def model_Layer_params.B3 : List Nat := [0, 1, 0, 4, 15, 0, 32, 96, 255, 511]
theorem model_Layer_params.tab3 : rtab .any (opsOf Tryz.f240 3) = model_Layer_params.T3 := by kernel_rfl
theorem model_Layer_params.bits3 : waitsOk model_Layer_params.T3.2 model_Layer_params.B3 = true := by kernel_rfl
theorem model_Layer_params.calls (k : Nat) (a0_0 : ByteArray) (a0_1 : Int) (a0_2 : Int) (A1 : Option Addr) (c1 : Nat) (l1 : List Int) (r : List (List Int)) (w : World) (hr1 : Kd.C (Kd.int .i64) w A1 l1.length l1) (hc1 : l1.length ≤ c1) (h : model_Layer_params.f k a0_0 a0_1 a0_2 l1 = some r) :
  Calls Tryz.prog 240 #[.agg #[.string a0_0, .int .i64 a0_1, .int .i64 a0_2], .slice A1 l1.length c1] w fun e w' => ∃ v0_ : Value, e = .returned (v0_) ∧ Kd.N (Kd.slice 3 (Kd.int .i64)) 32 w' w.heap.size (fun k_ => (w.heap.size ≤ k_)) v0_ r ∧ Below w.heap.size w w' := by
 have hu84 := Tryz.underlying84
 have HR1 := zA_ hr1
 have HC1 := zA_ hc1
 clear hr1 hc1
 have HB := zA_ (Below.refl w.heap.size w)
 have H : (if a0_0.toList = ([100, 101, 110, 115, 101] : List UInt8) then ((model_product.f k l1).bind fun t319 => (some (([(([a0_1, t319] : List Int)), (([a0_1] : List Int))] : List (List Int))))) else (none)) = some r := h
 clear h
 by_cases c3 : a0_0.toList = ([100, 101, 110, 115, 101] : List UInt8)
 rotate_left
 ·rw [if_neg c3] at H
  exact zN_ H
 rw [if_pos c3] at H
 have c3b0 : (a0_0.toList == ([100, 101, 110, 115, 101] : List UInt8)) = true := beq_iff_eq.mpr c3
 have c3b1 : (a0_0.toList != ([100, 101, 110, 115, 101] : List UInt8)) = false := bne_eq_false_iff_eq.mpr c3
 clear c3
 replace H := zO_ H
 obtain ⟨t319, A40, H⟩ := H
 replace H : (some (([(([a0_1, t319] : List Int)), (([a0_1] : List Int))] : List (List Int)))) = some r := H
 have A4 := zA_ A40
 clear A40
 obtain ⟨y320, hy320⟩ : ∃ y_ : List Int, y_ = (([a0_1, t319] : List Int)) := ⟨_, rfl⟩
 replace H : (some (([y320, (([a0_1] : List Int))] : List (List Int)))) = some r := by first | (rw [hy320]; with_reducible exact H) | (have H2_ := (Option.bind_some _ _).symm.trans H; rw [hy320]; with_reducible exact H2_) | (have H2_ := (Option.bind_some _ _).symm.trans H; with_reducible exact H2_) | with_reducible exact H | (rw [hy320]; exact H) | exact H
 have Ny320 := zA_ hy320
 clear hy320
 obtain ⟨y323, hy323⟩ : ∃ y_ : List Int, y_ = (([a0_1] : List Int)) := ⟨_, rfl⟩
 replace H : (some (([y320, y323] : List (List Int)))) = some r := by first | (rw [hy323]; with_reducible exact H) | (have H2_ := (Option.bind_some _ _).symm.trans H; rw [hy323]; with_reducible exact H2_) | (have H2_ := (Option.bind_some _ _).symm.trans H; with_reducible exact H2_) | with_reducible exact H | (rw [hy323]; exact H) | exact H
 have Ny323 := zA_ hy323
 clear hy323
 obtain ⟨y326, hy326⟩ : ∃ y_ : List (List Int), y_ = (([y320, y323] : List (List Int))) := ⟨_, rfl⟩
 replace H : (some y326) = some r := by first | (rw [hy326]; with_reducible exact H) | (have H2_ := (Option.bind_some _ _).symm.trans H; rw [hy326]; with_reducible exact H2_) | (have H2_ := (Option.bind_some _ _).symm.trans H; with_reducible exact H2_) | with_reducible exact H | (rw [hy326]; exact H) | exact H
 have Ny326 := zA_ hy326
 clear hy326
 obtain rfl := Option.some.inj H
 go_enter Tryz.func240, Tryz.ntmps240
 try go_wp2_with (first | ((with_reducible refine gate_dst (N := 2) rfl ?_); refine zB_ (#[.string a0_0, .int .i64 a0_1, .int .i64 a0_2]) 84 ?_; intro gb318 hg w5 hbox hb; have BK318 := zA_ (hbox); have GW318 := zA_ (zs_ hg (zw0_ HB)); have GE318 := zA_ (zs_ hg (zw0_ HB)); replace HB := zA_ (below_step (zw0_ HB) hb); clear hb hbox hg; have hcz6_0 := zx_ (v := .string a0_0) BK318 0; have hcz6_1 := zx_ (v := .int .i64 a0_1) BK318 1; have hcz6_2 := zx_ (v := .int .i64 a0_2) BK318 2; have hfz6_0 := blk_frozen BK318.out 0; have hfz6_1 := blk_frozen BK318.out 1; have hfz6_2 := blk_frozen BK318.out 2))
 replace BK318 := zA_ (blk_drew BK318.out)
 replace HB := zA_ (below_drew1 HB.out)
 refine start_ (n := 10) (S := fun w' => w'.cell? ⟨gb318, 0, none⟩ = some (.string a0_0) ∧ w'.cell? ⟨gb318, 1, none⟩ = some (.int .i64 a0_1) ∧ w'.cell? ⟨gb318, 2, none⟩ = some (.int .i64 a0_2)) (ds := []) #[false, false, false, false, false, false, false, false, false, false] (by kernel_rfl) rfl rfl ⟨(blk_cell BK318.out 0).trans rfl, (blk_cell BK318.out 1).trans rfl, (blk_cell BK318.out 2).trans rfl⟩ (fun hHeld => ?_); refine with_tabW model_Layer_params.tab3 model_Layer_params.bits3 (fun HT_ HW_ => ?_)
 generalize w5.drew = w7 at BK318 HB hHeld ⊢
 refine yp_ ?_ 0 9
 refine yp_ ?_ 2 11
 refine yp_ ?_ 5 14
 refine yt3_ ?_ 1 10
 refine yt3_ ?_ 6 15
 refine join_ (σ := Value × Value) 2 #[true, true, true, true, true, true, true, true, false, false] (fun s_ => [(12, .int .i64 t319), (13, s_.1), (16, s_.2)]) (fun s_ w' => (w'.cell? ⟨gb318, 0, none⟩ = some (.string a0_0) ∧ w'.cell? ⟨gb318, 1, none⟩ = some (.int .i64 a0_1) ∧ w'.cell? ⟨gb318, 2, none⟩ = some (.int .i64 a0_2)) ∧ (Kd.R (Kd.int .i64) 3 w' w.heap.size (fun k_ => (w.heap.size ≤ k_) ∧ some k_ ≠ (s_.2 : Value).ownBlock) s_.1 y320) ∧ (Kd.R (Kd.int .i64) 3 w' w.heap.size (fun k_ => (w.heap.size ≤ k_) ∧ some k_ ≠ (s_.1 : Value).ownBlock) s_.2 y323) ∧ (w'.heap[gb318]? = some (.cells #[.string a0_0, .int .i64 a0_1, .int .i64 a0_2] 84 (0, 0))) ∧ (Below w.heap.size w w')) ?_ ?_
 rotate_left
 ·intro hCont
  refine two_ (i := 3) (j := 7) (Ni := some 12) (Nj := some 16) #[true, true, true, true, false, true, true, false, false, false] #[true, true, true, false, false, true, true, true, false, false] rfl rfl rfl rfl (two_of HT_.out (by kernel_rfl)) (by decide) (by decide) (fun K hK => ?_) (fun K hK => ?_)
  ·skip
   refine yg_ Tryz.func241 #[.slice A1 l1.length c1] ?_
   with_reducible refine (model_product.calls k _ _ l1 t319 _ ?side1 ?side2 A4.out).mono ?_
   (case side1 => exact zk_ (Kd.C_below HR1.out HB.out))
   (case side2 => exact HC1.out)
   rintro e w' ⟨rfl, ⟨nd, rfl⟩⟩
   refine ⟨_, rfl, ?_⟩
   refine hK.out _ _ ⟨zx_ BK318 0, zx_ BK318 1, zx_ BK318 2⟩ (fun hHeld => ?_)
   clear hK K
   refine zq_ (some 12) (h := ?_)
   refine two_ (i := 4) (j := 7) (Ni := some 13) (Nj := some 16) #[true, true, true, true, true, true, true, false, false, false] #[true, true, true, true, false, true, true, true, false, false] rfl rfl rfl rfl (two_of HT_.out (by kernel_rfl)) (by decide) (by decide) (fun K hK => ?_) (fun K hK => ?_)
   ·skip
    refine Kd.R_lit_step (Kd.int .i64) _ 3 ?hg (N := 13) ?hd (xs := ([a0_1, t319] : List Int)) (inner := [.int .i64 a0_1, .int .i64 t319]) (ok := fun _ => True) (okp := fun _ => True) ?hr ?hp (fun _ hk => hk) trivial (Below.refl _ _) (Nat.le_refl _) (by simp) ?_; (case hd => rfl); (case hg => rfl); (case hr => first | (go_simp; done) | (go_simp; rfl)); (case hp => exact (Reps.one (show Kd.M (Kd.int .i64) _ _ _ a0_1 [.int .i64 a0_1] from rfl) (Reps.one (show Kd.M (Kd.int .i64) _ _ _ t319 [.int .i64 t319] from rfl) (Reps.none _ _))))
    intro v321 w8 ho9 hb hg_ hnew_
    clear hg_ hnew_
    (first | rw [← Ny320.out] at ho9 | (simp only [Int.reduceToNat] at ho9; rw [← Ny320.out] at ho9))
    have HO322 := zA_ (Kd.R_lower (Kd.R_newM (M := fun k_ => (w.heap.size ≤ k_)) ho9 (below_size (zw1_ HB GE318)) (fun k_ h_ => h_)) (below_size (zw1_ HB GE318)))
    replace BK318 := za_ BK318 hb
    replace HB := zA_ (below_step (zw1_ HB GE318) hb)
    clear hb ho9
    refine hK.out _ _ ⟨zx_ BK318 0, zx_ BK318 1, zx_ BK318 2⟩ (fun hHeld => ?_)
    clear hK K
    refine zq_ (some 13) (h := ?_)
    refine yo_ 7 (some 16) (fun K hK => ?_)
    refine Kd.R_lit_step (Kd.int .i64) _ 3 ?hg (N := 16) ?hd (xs := ([a0_1] : List Int)) (inner := [.int .i64 a0_1]) (ok := fun _ => True) (okp := fun _ => True) ?hr ?hp (fun _ hk => hk) trivial (Below.refl _ _) (Nat.le_refl _) (by simp) ?_; (case hd => rfl); (case hg => rfl); (case hr => first | (go_simp; done) | (go_simp; rfl)); (case hp => exact (Reps.one (show Kd.M (Kd.int .i64) _ _ _ a0_1 [.int .i64 a0_1] from rfl) (Reps.none _ _)))
    intro v324 w10 ho11 hb hg_ hnew_
    clear hg_ hnew_
    (first | rw [← Ny323.out] at ho11 | (simp only [Int.reduceToNat] at ho11; rw [← Ny323.out] at ho11))
    have HO325 := zA_ (Kd.R_lower (Kd.R_new' (Kd.R_newM (M := fun k_ => (w.heap.size ≤ k_)) ho11 (below_size (zw1_ HB GE318)) (fun k_ h_ => h_)) (Kd.R_lt (zr_ HO322.out))) (below_size (zw1_ HB GE318)))
    replace HO322 := ze_ HO322 ho11 hb
    replace BK318 := za_ BK318 hb
    replace HB := zA_ (below_step (zw1_ HB GE318) hb)
    clear hb ho11
    refine hK.out _ _ ⟨zx_ BK318 0, zx_ BK318 1, zx_ BK318 2⟩ (fun hHeld => ?_)
    clear hK K
    refine zq_ (some 16) (h := ?_)
    exact zj_ (hCont (v321, v324) _ ⟨hHeld, (zr_ (Kd.R_mono HO322.out (fun _ hk => ⟨hk.1.1, hk.2⟩))), (zr_ (Kd.R_mono HO325.out (fun _ hk => ⟨hk.1.1, hk.2⟩))), (zb_ BK318), (zw1_ HB GE318)⟩)
   skip
   refine Kd.R_lit_step (Kd.int .i64) _ 3 ?hg (N := 16) ?hd (xs := ([a0_1] : List Int)) (inner := [.int .i64 a0_1]) (ok := fun _ => True) (okp := fun _ => True) ?hr ?hp (fun _ hk => hk) trivial (Below.refl _ _) (Nat.le_refl _) (by simp) ?_; (case hd => rfl); (case hg => rfl); (case hr => first | (go_simp; done) | (go_simp; rfl)); (case hp => exact (Reps.one (show Kd.M (Kd.int .i64) _ _ _ a0_1 [.int .i64 a0_1] from rfl) (Reps.none _ _)))
   intro v324 w8 ho9 hb hg_ hnew_
   clear hg_ hnew_
   (first | rw [← Ny323.out] at ho9 | (simp only [Int.reduceToNat] at ho9; rw [← Ny323.out] at ho9))
   have HO325 := zA_ (Kd.R_lower (Kd.R_newM (M := fun k_ => (w.heap.size ≤ k_)) ho9 (below_size (zw1_ HB GE318)) (fun k_ h_ => h_)) (below_size (zw1_ HB GE318)))
   replace BK318 := za_ BK318 hb
   replace HB := zA_ (below_step (zw1_ HB GE318) hb)
   clear hb ho9
   refine hK.out _ _ ⟨zx_ BK318 0, zx_ BK318 1, zx_ BK318 2⟩ (fun hHeld => ?_)
   clear hK K
   refine zq_ (some 16) (h := ?_)
   refine yo_ 4 (some 13) (fun K hK => ?_)
   refine Kd.R_lit_step (Kd.int .i64) _ 3 ?hg (N := 13) ?hd (xs := ([a0_1, t319] : List Int)) (inner := [.int .i64 a0_1, .int .i64 t319]) (ok := fun _ => True) (okp := fun _ => True) ?hr ?hp (fun _ hk => hk) trivial (Below.refl _ _) (Nat.le_refl _) (by simp) ?_; (case hd => rfl); (case hg => rfl); (case hr => first | (go_simp; done) | (go_simp; rfl)); (case hp => exact (Reps.one (show Kd.M (Kd.int .i64) _ _ _ a0_1 [.int .i64 a0_1] from rfl) (Reps.one (show Kd.M (Kd.int .i64) _ _ _ t319 [.int .i64 t319] from rfl) (Reps.none _ _))))
   intro v321 w10 ho11 hb hg_ hnew_
   clear hg_ hnew_
   (first | rw [← Ny320.out] at ho11 | (simp only [Int.reduceToNat] at ho11; rw [← Ny320.out] at ho11))
   have HO322 := zA_ (Kd.R_lower (Kd.R_new' (Kd.R_newM (M := fun k_ => (w.heap.size ≤ k_)) ho11 (below_size (zw1_ HB GE318)) (fun k_ h_ => h_)) (Kd.R_lt (zr_ HO325.out))) (below_size (zw1_ HB GE318)))
   replace HO325 := ze_ HO325 ho11 hb
   replace BK318 := za_ BK318 hb
   replace HB := zA_ (below_step (zw1_ HB GE318) hb)
   clear hb ho11
   refine hK.out _ _ ⟨zx_ BK318 0, zx_ BK318 1, zx_ BK318 2⟩ (fun hHeld => ?_)
   clear hK K
   refine zq_ (some 13) (h := ?_)
   exact zj_ (hCont (v321, v324) _ ⟨hHeld, (zr_ (Kd.R_mono HO322.out (fun _ hk => ⟨hk.1.1, hk.2⟩))), (zr_ (Kd.R_mono HO325.out (fun _ hk => ⟨hk.1.1, hk.2⟩))), (zb_ BK318), (zw1_ HB GE318)⟩)
  skip
  refine Kd.R_lit_step (Kd.int .i64) _ 3 ?hg (N := 16) ?hd (xs := ([a0_1] : List Int)) (inner := [.int .i64 a0_1]) (ok := fun _ => True) (okp := fun _ => True) ?hr ?hp (fun _ hk => hk) trivial (Below.refl _ _) (Nat.le_refl _) (by simp) ?_; (case hd => rfl); (case hg => rfl); (case hr => first | (go_simp; done) | (go_simp; rfl)); (case hp => exact (Reps.one (show Kd.M (Kd.int .i64) _ _ _ a0_1 [.int .i64 a0_1] from rfl) (Reps.none _ _)))
  intro v324 w8 ho9 hb hg_ hnew_
  clear hg_ hnew_
  (first | rw [← Ny323.out] at ho9 | (simp only [Int.reduceToNat] at ho9; rw [← Ny323.out] at ho9))
  have HO325 := zA_ (Kd.R_lower (Kd.R_newM (M := fun k_ => (w.heap.size ≤ k_)) ho9 (below_size (zw1_ HB GE318)) (fun k_ h_ => h_)) (below_size (zw1_ HB GE318)))
  replace BK318 := za_ BK318 hb
  replace HB := zA_ (below_step (zw1_ HB GE318) hb)
  clear hb ho9
  refine hK.out _ _ ⟨zx_ BK318 0, zx_ BK318 1, zx_ BK318 2⟩ (fun hHeld => ?_)
  clear hK K
  refine zq_ (some 16) (h := ?_)
  refine yo_ 3 (some 12) (fun K hK => ?_)
  refine yg_ Tryz.func241 #[.slice A1 l1.length c1] ?_
  with_reducible refine (model_product.calls k _ _ l1 t319 _ ?side1 ?side2 A4.out).mono ?_
  (case side1 => exact zk_ (Kd.C_below HR1.out HB.out))
  (case side2 => exact HC1.out)
  rintro e w' ⟨rfl, ⟨nd, rfl⟩⟩
  refine ⟨_, rfl, ?_⟩
  refine hK.out _ _ ⟨zx_ BK318 0, zx_ BK318 1, zx_ BK318 2⟩ (fun hHeld => ?_)
  clear hK K
  refine zq_ (some 12) (h := ?_)
  refine yo_ 4 (some 13) (fun K hK => ?_)
  refine Kd.R_lit_step (Kd.int .i64) _ 3 ?hg (N := 13) ?hd (xs := ([a0_1, t319] : List Int)) (inner := [.int .i64 a0_1, .int .i64 t319]) (ok := fun _ => True) (okp := fun _ => True) ?hr ?hp (fun _ hk => hk) trivial (Below.refl _ _) (Nat.le_refl _) (by simp) ?_; (case hd => rfl); (case hg => rfl); (case hr => first | (go_simp; done) | (go_simp; rfl)); (case hp => exact (Reps.one (show Kd.M (Kd.int .i64) _ _ _ a0_1 [.int .i64 a0_1] from rfl) (Reps.one (show Kd.M (Kd.int .i64) _ _ _ t319 [.int .i64 t319] from rfl) (Reps.none _ _))))
  intro v321 w10 ho11 hb hg_ hnew_
  clear hg_ hnew_
  (first | rw [← Ny320.out] at ho11 | (simp only [Int.reduceToNat] at ho11; rw [← Ny320.out] at ho11))
  have HO322 := zA_ (Kd.R_lower (Kd.R_new' (Kd.R_newM (M := fun k_ => (w.heap.size ≤ k_)) ho11 (below_size (zw1_ HB GE318)) (fun k_ h_ => h_)) (Kd.R_lt (zr_ HO325.out))) (below_size (zw1_ HB GE318)))
  replace HO325 := ze_ HO325 ho11 hb
  replace BK318 := za_ BK318 hb
  replace HB := zA_ (below_step (zw1_ HB GE318) hb)
  clear hb ho11
  refine hK.out _ _ ⟨zx_ BK318 0, zx_ BK318 1, zx_ BK318 2⟩ (fun hHeld => ?_)
  clear hK K
  refine zq_ (some 13) (h := ?_)
  exact zj_ (hCont (v321, v324) _ ⟨hHeld, (zr_ (Kd.R_mono HO322.out (fun _ hk => ⟨hk.1.1, hk.2⟩))), (zr_ (Kd.R_mono HO325.out (fun _ hk => ⟨hk.1.1, hk.2⟩))), (zb_ BK318), (zw1_ HB GE318)⟩)
 rintro ⟨v321, v324⟩ w12 ⟨hS_, h0_, h1_, h2_, h3_⟩
 (try dsimp only at h0_ h1_ h2_ h3_)
 clear BK318 HB
 have HO322 := zA_ h0_
 have HO325 := zA_ h1_
 have BK318 := zA_ h2_
 have HB := zA_ h3_
 clear h0_ h1_ h2_ h3_
 have hHeld : w12.cell? ⟨gb318, 0, none⟩ = some (.string a0_0) ∧ w12.cell? ⟨gb318, 1, none⟩ = some (.int .i64 a0_1) ∧ w12.cell? ⟨gb318, 2, none⟩ = some (.int .i64 a0_2) := hS_
 obtain ⟨Ao13, co13, eo13⟩ := Kd.R_slice HO322.out
 (first | subst eo13 | (injection eo13 with f1_ f2_ f3_; have f4_ := f1_.symm; have f5_ := f3_.symm; clear f1_ f2_ f3_; subst f4_; subst f5_))
 obtain ⟨Ao14, co14, eo14⟩ := Kd.R_slice HO325.out
 (first | subst eo14 | (injection eo14 with f1_ f2_ f3_; have f4_ := f1_.symm; have f5_ := f3_.symm; clear f1_ f2_ f3_; subst f4_; subst f5_))
 refine zi_ (h := ?_)
 refine yo_ 8 (some 17) (fun K hK => ?_)
 refine Kd.N_lit_step (Kd.slice 3 (Kd.int .i64)) _ 32 ?hg (N' := 17) ?hd (xs := ([y320, y323] : List (List Int))) (inner := [.slice Ao13 y320.length co13, .slice Ao14 y323.length co14]) (ok := (fun k_ => (w.heap.size ≤ k_) ∧ k_ ≠ gb318)) (okp := (fun k_ => (w.heap.size ≤ k_) ∧ k_ ≠ gb318)) ?hr ?hp (fun _ hk => hk) ((show ∀ k_, w12.heap.size ≤ k_ → (fun k_ => (w.heap.size ≤ k_) ∧ k_ ≠ gb318) k_ from fun k_ hk => ⟨(Nat.le_trans (below_size (zw1_ HB GE318)) hk), Kd.freshB (g := gb318) (o := .cells #[.string a0_0, .int .i64 a0_1, .int .i64 a0_2] 84 (0, 0)) (zb_ BK318) k_ hk⟩) _ (Nat.le_refl _)) (Below.refl _ _) (Nat.le_refl _) (by simp) ?_; (case hd => rfl); (case hg => rfl); (case hr => first | (go_simp; done) | (go_simp; rfl)); (case hp => exact (Reps.one (show Kd.FK (Kd.slice 3 (Kd.int .i64)) _ _ y320 [.slice Ao13 y320.length co13] from (Kd.FK_slice_mk (Kd.R_reads' (Kd.R_mono (ok' := (fun k_ => (w.heap.size ≤ k_) ∧ k_ ≠ gb318)) (Kd.R_types (HO322.out) BK318.out (by decide)) (fun k_ hk => ⟨hk.1.1, hk.2⟩))).2.1 (Kd.R_F (Kd.R_mono (ok' := (fun k_ => (w.heap.size ≤ k_) ∧ k_ ≠ gb318)) (Kd.R_types (HO322.out) BK318.out (by decide)) (fun k_ hk => ⟨hk.1.1, hk.2⟩))))) (Reps.one (show Kd.FK (Kd.slice 3 (Kd.int .i64)) _ _ y323 [.slice Ao14 y323.length co14] from (Kd.FK_slice_mk (Kd.R_reads' (Kd.R_mono (ok' := (fun k_ => (w.heap.size ≤ k_) ∧ k_ ≠ gb318)) (Kd.R_types (HO325.out) BK318.out (by decide)) (fun k_ hk => ⟨hk.1.1, hk.2⟩))).2.1 (Kd.R_F (Kd.R_mono (ok' := (fun k_ => (w.heap.size ≤ k_) ∧ k_ ≠ gb318)) (Kd.R_types (HO325.out) BK318.out (by decide)) (fun k_ hk => ⟨hk.1.1, hk.2⟩))))) (Reps.none _ _))))
 intro v327 w15 ho16 hb hg_ hnew_
 clear hg_ hnew_
 (first | rw [← Ny326.out] at ho16 | (simp only [Int.reduceToNat] at ho16; rw [← Ny326.out] at ho16))
 have HO328 := zA_ (Kd.N_lower ho16 (below_size (zw1_ HB GE318)))
 replace BK318 := za_ BK318 hb
 replace HB := zA_ (below_step (zw1_ HB GE318) hb)
 clear HO322 HO325
 clear hb ho16
 refine hK.out _ _ ⟨zx_ BK318 0, zx_ BK318 1, zx_ BK318 2⟩ (fun hHeld => ?_)
 clear hK K
 refine zq_ (some 17) (h := ?_)
 refine yp_ ?_ 9 4
 refine done_ (done_of HT_.out (by kernel_rfl)) ?_
 try go_wp2
 go_ret
 exact ⟨_, z0_, by (with_reducible repeat (first | apply Kd.N_alloc | apply Kd.N_drewN | apply Kd.N_drew)); exact Kd.N_mono HO328.out (fun _ hk => hk.1), zw1_ HB GE318⟩
mutual
def shape_product.l0 : Nat → Int → List Int → Int → Int → Option (Int)
 | 0, _, _, _, _ => none
 | k + 1, x3, x9, x10, x11 => if x11 < x10 then (if 0 ≤ x11 then (if x11 < (x9.length : Int) then (if (rd x9 x11) < 1 then (shape_product.j1 k x3 (rd x9 x11) x9 x10 x11 true) else (shape_product.j1 k x3 (rd x9 x11) x9 x10 x11 (decide ((rd x9 x11) > 4096)))) else (none)) else (none)) else (some x3)
def shape_product.j1 : Nat → Int → Int → List Int → Int → Int → Bool → Option (Int)
 | 0, _, _, _, _, _, _ => none
 | k + 1, x3, x5, x9, x10, x11, x20 => if x20 = true then (none) else (if (wrap64 (x3 * x5)) > 4096 then (none) else (shape_product.l0 k (wrap64 (x3 * x5)) x9 x10 (wrap64 (x11 + 1))))
end
def shape_product.f (k : Nat) (l0 : List Int) : Option (Int) := if (l0.length : Int) > 4 then (none) else (shape_product.l0 k 1 l0 (l0.length : Int) 0)
theorem shape_product.calls (k : Nat) (A0 : Option Addr) (c0 : Nat) (l0 : List Int) (r : Int) (w : World) (hr0 : Kd.C (Kd.int .i64) w A0 l0.length l0) (hc0 : l0.length ≤ c0) (h : shape_product.f k l0 = some r) :
  Calls Tryz.prog 295 #[.slice A0 l0.length c0] w fun e w' => e = .returned (.int .i64 r) ∧ Drawn0 w w' := by
 have HR0 := zA_ hr0
 have HC0 := zA_ hc0
 clear hr0 hc0
 have H : (if (l0.length : Int) > 4 then (none) else (shape_product.l0 k 1 l0 (l0.length : Int) 0)) = some r := h
 clear h
 by_cases c2 : (l0.length : Int) > 4
 ·rw [if_pos c2] at H
  exact zN_ H
 rw [if_neg c2] at H
 have c2b0 : decide (4 < (l0.length : Int)) = false := decide_eq_false c2
 have c2b1 : decide (4 < l0.length) = false := decide_eq_false (by omega)
 clear c2
 have H' := zA_ H
 clear H
 go_enter Tryz.func295, Tryz.ntmps295
 go_wp2
 go_loopg [3, 11] k (fun kq v3 v11 w' => ∃ (x3_1 : Int) (x11_1 : Int), v3 = .int .i64 x3_1 ∧ v11 = .int .i64 x11_1 ∧ Aside0 (shape_product.l0 kq x3_1 l0 (l0.length : Int) x11_1 = some r) ∧ Aside0 (kq ≤ k) ∧ Drawn0 w w')
 case atStart => exact ⟨(1), (0), z1_, z1_, H', ⟨Nat.le_refl _⟩, by repeat (first | exact Drawn0.refl _ | apply Drawn0.step)⟩
 case round =>
  clear H'
  try clear c2b0
  try clear c2b1
  try clear p2
  obtain ⟨x3_1, x11_1, rfl, rfl, HA, HK1, ⟨m1, rfl⟩⟩ := hrel
  cases gk with
  | zero => exact absurd HA.out (by simp [shape_product.l0])
  | succ k1 =>
   have H := HA.out
   clear HA
   simp only [shape_product.l0] at H
   by_cases c3 : x11_1 < (l0.length : Int)
   rotate_left
   ·rw [if_neg c3] at H
    have c3b0 : decide (x11_1 < (l0.length : Int)) = false := decide_eq_false c3
    clear c3
    obtain rfl := Option.some.inj H
    go_wp2
    go_ret
    exact ⟨z1_, zE_⟩
   rw [if_pos c3] at H
   have c3b0 : decide (x11_1 < (l0.length : Int)) = true := decide_eq_true c3
   clear c3
   by_cases c4 : 0 ≤ x11_1
   rotate_left
   ·rw [if_neg c4] at H
    exact zN_ H
   rw [if_pos c4] at H
   have c4b0 : decide (0 ≤ x11_1) = true := decide_eq_true c4
   clear c4
   by_cases c5 : x11_1 < (l0.length : Int)
   rotate_left
   ·rw [if_neg c5] at H
    exact zN_ H
   rw [if_pos c5] at H
   have c5b0 : decide (x11_1 < (l0.length : Int)) = true := decide_eq_true c5
   clear c5
   have HC6 := zA_ H
   clear H
   have p329 : 0 ≤ (x11_1 : Int) := zD_
   have q329 : x11_1 < (l0.length : Int) := zD_
   obtain ⟨ad329, e329, hx329_0⟩ := Kd.at_int HR0.out x11_1 p329 q329
   cases e329
   replace p329 := eq_true p329
   replace q329 := eq_true q329
   go_upto_region 7 with (fail)
   go_cut [20] (fun v20 wc => ∃ (kq : Nat) (x20_5 : Bool), v20 = .bool x20_5 ∧ Aside0 (shape_product.j1 kq x3_1 (rd l0 x11_1) l0 (l0.length : Int) x11_1 x20_5 = some r) ∧ Aside0 (kq ≤ k1) ∧ Drawn0 w wc)
   case first =>
    have H := HC6.out
    clear HC6
    by_cases c7 : (rd l0 x11_1) < 1
    ·rw [if_pos c7] at H
     have c7b0 : decide ((rd l0 x11_1) < 1) = true := decide_eq_true c7
     clear c7
     (first | rw [c7b0] | (simp only [i64_w, i32_w]; rw [c7b0]) | skip)
     have H' := zA_ H
     clear H
     go_wp2
     go_meet
     case rel => exact ⟨_, (true), z1_, H', ⟨by have := HK1.out; first | omega | exact Nat.le_refl _⟩, by repeat (first | exact Drawn0.refl _ | apply Drawn0.step)⟩
    rw [if_neg c7] at H
    have c7b0 : decide ((rd l0 x11_1) < 1) = false := decide_eq_false c7
    clear c7
    (first | rw [c7b0] | (simp only [i64_w, i32_w]; rw [c7b0]) | skip)
    have H' := zA_ H
    clear H
    go_wp2
    go_meet
    case rel => exact ⟨_, (decide ((rd l0 x11_1) > 4096)), z1_, H', ⟨by have := HK1.out; first | omega | exact Nat.le_refl _⟩, by repeat (first | exact Drawn0.refl _ | apply Drawn0.step)⟩
   case rest =>
    clear HC6
    try clear c2b0
    try clear c2b1
    try clear p2
    try clear c3b0
    try clear p3
    try clear q3
    try clear hx3
    try clear c4b0
    try clear c5b0
    try clear c7b0
    try clear hx329_0
    try clear p2
    try clear p329
    try clear q329
    obtain ⟨kq, x20_5, rfl, HA, HJ5, ⟨mc5, rfl⟩⟩ := hcut
    cases kq with
    | zero => exact absurd HA.out (by simp [shape_product.j1])
    | succ kj5 =>
     have H := HA.out
     clear HA
     simp only [shape_product.j1] at H
     by_cases c8 : x20_5 = true
     ·subst c8
      have H1 : (none) = some r := by rw [if_pos rfl] at H; exact H
      clear H
      have H := H1
      clear H1
      exact zN_ H
     replace c8 := Bool.eq_false_iff.mpr c8
     subst c8
     have H1 := H
     rw [if_neg (show ¬ (false = true) by decide)] at H1
     clear H
     have H := H1
     clear H1
     by_cases c9 : (wrap64 (x3_1 * (rd l0 x11_1))) > 4096
     ·rw [if_pos c9] at H
      exact zN_ H
     rw [if_neg c9] at H
     have c9b0 : decide (4096 < (wrap64 (x3_1 * (rd l0 x11_1)))) = false := decide_eq_false c9
     clear c9
     have H' := zA_ H
     clear H
     go_wp2
     go_roundg kj5
     case measure => have := HK1.out; have := HJ5.out; omega
     case rel => exact ⟨(wrap64 (x3_1 * (rd l0 x11_1))), (wrap64 (x11_1 + 1)), z1_, z1_, H', ⟨by have := HK1.out; have := HJ5.out; omega⟩, by repeat (first | exact Drawn0.refl _ | apply Drawn0.step)⟩
def shape_Good.f (k : Nat) (l0 : List Int) : Option (Bool) := (shape_product.f k l0).bind fun t330 => (some (decide (t330 > 0)))
theorem shape_Good.calls (k : Nat) (A0 : Option Addr) (c0 : Nat) (l0 : List Int) (r : Bool) (w : World) (hr0 : Kd.C (Kd.int .i64) w A0 l0.length l0) (hc0 : l0.length ≤ c0) (h : shape_Good.f k l0 = some r) :
  Calls Tryz.prog 242 #[.slice A0 l0.length c0] w fun e w' => e = .returned (.bool r) ∧ Drawn0 w w' := by
 have HR0 := zA_ hr0
 have HC0 := zA_ hc0
 clear hr0 hc0
 have H : ((shape_product.f k l0).bind fun t330 => (some (decide (t330 > 0)))) = some r := h
 clear h
 replace H := zO_ H
 obtain ⟨t330, A20, H⟩ := H
 replace H : (some (decide (t330 > 0))) = some r := H
 have A2 := zA_ A20
 clear A20
 obtain rfl := Option.some.inj H
 go_enter Tryz.func242, Tryz.ntmps242
 go_wp2_with (first | ((with_reducible refine gate_callee (f := 295) rfl ?_); refine zg_ (some 4) Tryz.func295 #[.slice A0 l0.length c0] (h := ?_); (with_reducible refine (shape_product.calls k _ _ l0 t330 _ ?side1 ?side2 A2.out).mono ?_); (case side1 => repeat (first | exact HR0.out | (with_reducible refine Kd.C_alloc ?_ _) | (with_reducible refine Kd.C_drewN ?_ _) | (with_reducible refine Kd.C_drew ?_))); (case side2 => exact HC0.out); rintro e w' ⟨rfl, ⟨nd, rfl⟩⟩; refine ⟨_, rfl, ?_⟩))
 go_ret
 exact ⟨z1_, zE_⟩
mutual
def model_Net_sum.l0 : Nat → List (List Int) → Int → Bool → List (S84) → Int → Int → List Int → List (S84) → Option (Int × Bool)
 | 0, _, _, _, _, _, _, _, _ => none
 | k + 1, x1, x6, x7, x17, x18, x19, x332000, x332001 => if x19 < x18 then (if 0 ≤ x19 then (if x19 < (x17.length : Int) then (if x19 < (x1.length : Int) then ((model_Layer_params.f k ((rd_T84 x17 x19).f0) ((rd_T84 x17 x19).f1) ((rd_T84 x17 x19).f2) (rd_L13 x1 x19)).bind fun t336 => (model_Net_sum.l1 k x1 x6 x7 x19 x17 x18 x19 t336 (t336.length : Int) 0 x332000 x332001)) else (none)) else (none)) else (none)) else (if x7 = true then ((shape_Good.f k x332000).bind fun t332 => (if t332 = true then (some (x6, decide (x6 ≤ 4096))) else (some (x6, false)))) else (some (x6, false)))
def model_Net_sum.l1 : Nat → List (List Int) → Int → Bool → Int → List (S84) → Int → Int → List (List Int) → Int → Int → List Int → List (S84) → Option (Int × Bool)
 | 0, _, _, _, _, _, _, _, _, _, _, _, _ => none
 | k + 1, x1, x6, x7, x8, x17, x18, x19, x29, x30, x31, x332000, x332001 => if x31 < x30 then (if 0 ≤ x31 then (if x31 < (x29.length : Int) then ((model_product.f k (rd_L13 x29 x31)).bind fun t340 => (if x7 = true then ((shape_Good.f k (rd_L13 x29 x31)).bind fun t341 => (model_Net_sum.l1 k x1 (wrap64 (x6 + t340)) t341 x8 x17 x18 x19 x29 x30 (wrap64 (x31 + 1)) x332000 x332001)) else (model_Net_sum.l1 k x1 (wrap64 (x6 + t340)) false x8 x17 x18 x19 x29 x30 (wrap64 (x31 + 1)) x332000 x332001))) else (none)) else (none)) else (if x7 = true then (if 0 ≤ x8 then (if x8 < (x1.length : Int) then ((shape_Good.f k (rd_L13 x1 x8)).bind fun t343 => (if t343 = true then (if 0 ≤ (wrap64 (x8 + 1)) then (if (wrap64 (x8 + 1)) < (x1.length : Int) then ((shape_Good.f k (rd_L13 x1 (wrap64 (x8 + 1)))).bind fun t345 => (model_Net_sum.l0 k x1 x6 t345 x17 x18 (wrap64 (x19 + 1)) x332000 x332001)) else (none)) else (none)) else (model_Net_sum.l0 k x1 x6 false x17 x18 (wrap64 (x19 + 1)) x332000 x332001))) else (none)) else (none)) else (model_Net_sum.l0 k x1 x6 false x17 x18 (wrap64 (x19 + 1)) x332000 x332001))
end
def model_Net_sum.f (k : Nat) (l0_0 : List Int) (l0_1 : List (S84)) (l1 : List (List Int)) : Option (Int × Bool) := model_Net_sum.l0 k l1 0 (decide ((l0_1.length : Int) ≤ 16)) l0_1 (l0_1.length : Int) 0 l0_0 l0_1
def model_Net_sum.T5 : Bool × List (List Nat × List Nat) := (true, [([], []), ([], []), ([], []), ([1, 2], [1, 2]), ([3], [3]), ([0, 4], [0, 4]), ([5], [5]), ([], [])])
def model_Net_sum.B5 : List Nat := [0, 0, 0, 6, 14, 31, 63, 0]
theorem model_Net_sum.tab5 : rtab .any (opsOf Tryz.f166 5) = model_Net_sum.T5 := by kernel_rfl
theorem model_Net_sum.bits5 : waitsOk model_Net_sum.T5.2 model_Net_sum.B5 = true := by kernel_rfl
theorem model_Net_sum.calls (k : Nat) (A0_0 : Option Addr) (c0_0 : Nat) (l0_0 : List Int) (A0_1 : Option Addr) (c0_1 : Nat) (l0_1 : List (S84)) (A1 : Option Addr) (c1 : Nat) (l1 : List (List Int)) (r1 : Int) (r2 : Bool) (w : World) (hr0_0 : Kd.C (Kd.int .i64) w A0_0 l0_0.length l0_0) (hc0_0 : l0_0.length ≤ c0_0) (hr0_1 : Kd.C k84 w A0_1 l0_1.length l0_1) (hc0_1 : l0_1.length ≤ c0_1) (hr1 : Kd.C (Kd.slice 3 (Kd.int .i64)) w A1 l1.length l1) (hc1 : l1.length ≤ c1) (h : model_Net_sum.f k l0_0 l0_1 l1 = some (r1, r2)) :
  Calls Tryz.prog 166 #[.agg #[.slice A0_0 l0_0.length c0_0, .slice A0_1 l0_1.length c0_1], .slice A1 l1.length c1] w fun e w' => e = .returned (.tuple #[.int .i64 r1, .bool r2]) ∧ Below w.heap.size w w' := by
 have hu35 := Tryz.underlying35
 have hu84 := Tryz.underlying84
 have HR0_0 := zA_ hr0_0
 have HC0_0 := zA_ hc0_0
 clear hr0_0 hc0_0
 have HR0_1 := zA_ hr0_1
 have HC0_1 := zA_ hc0_1
 clear hr0_1 hc0_1
 have HR1 := zA_ hr1
 have HC1 := zA_ hc1
 clear hr1 hc1
 have HB := zA_ (Below.refl w.heap.size w)
 have H : (model_Net_sum.l0 k l1 0 (decide ((l0_1.length : Int) ≤ 16)) l0_1 (l0_1.length : Int) 0 l0_0 l0_1) = some (r1, r2) := h
 clear h
 have H' := zA_ H
 clear H
 go_enter Tryz.func166, Tryz.ntmps166
 try go_wp2_with (first | ((with_reducible refine gate_dst (N := 2) rfl ?_); refine zB_ (#[.slice A0_0 l0_0.length c0_0, .slice A0_1 l0_1.length c0_1]) 35 ?_; intro gb331 hg w3 hbox hb; have BK331 := zA_ (hbox); have GW331 := zA_ (zs_ hg (zw0_ HB)); have GE331 := zA_ (zs_ hg (zw0_ HB)); replace HB := zA_ (below_step (zw0_ HB) hb); clear hb hbox hg))
 replace BK331 := zA_ (blk_drew BK331.out)
 replace HB := zA_ (below_drew1 HB.out)
 refine start_ (n := 6) (S := fun w' => w'.cell? ⟨gb331, 0, none⟩ = some (.slice A0_0 l0_0.length c0_0) ∧ w'.cell? ⟨gb331, 1, none⟩ = some (.slice A0_1 l0_1.length c0_1)) (ds := []) #[false, false, false, false, false, false] (by kernel_rfl) rfl rfl ⟨(blk_cell BK331.out 0).trans rfl, (blk_cell BK331.out 1).trans rfl⟩ (fun hHeld => ?_)
 generalize w3.drew = w4 at BK331 HB hHeld ⊢
 refine pure_ (i := 0) (N := some 12) (v := ?_) (a' := ?_) #[true, false, false, false, false, false] rfl rfl (by kernel_rfl) (fun _ _ _ h => h) (Or.inl ⟨by rfl, ?_⟩) ?_ ?_
 rotate_left
 ·intro w'
  go_simp
  with_reducible rfl
 rotate_left
 ·simp only [Act.put, List.setIfInBounds_toArray, List.set_cons_zero, List.set_cons_succ, i64_w, i32_w]
  rfl
 refine pure_ (i := 4) (N := some 6) (v := ?_) (a' := ?_) #[true, false, false, false, true, false] rfl rfl (by kernel_rfl) (fun _ _ _ h => h) (Or.inl ⟨by rfl, ?_⟩) ?_ ?_
 rotate_left
 ·intro w'
  go_simp
  with_reducible rfl
 rotate_left
 ·simp only [Act.put, List.setIfInBounds_toArray, List.set_cons_zero, List.set_cons_succ, i64_w, i32_w]
  rfl
 refine take_ (i := 1) (N := some 13) (v := ?_) (a' := ?_) #[true, true, false, false, true, false] rfl rfl (by kernel_rfl) (fun _ _ _ h => h) (Or.inl ⟨by rfl, ?_⟩) hHeld ?_ ?_
 rotate_left
 ·rintro w' ⟨s0, s1⟩
  go_simp
  with_reducible rfl
 rotate_left
 ·simp only [Act.put, List.setIfInBounds_toArray, List.set_cons_zero, List.set_cons_succ, i64_w, i32_w]
  rfl
 refine pure_ (i := 2) (N := some 14) (v := ?_) (a' := ?_) #[true, true, true, false, true, false] rfl rfl (by kernel_rfl) (fun _ _ _ h => h) (Or.inl ⟨by rfl, ?_⟩) ?_ ?_
 rotate_left
 ·intro w'
  go_simp
  with_reducible rfl
 rotate_left
 ·simp only [Act.put, List.setIfInBounds_toArray, List.set_cons_zero, List.set_cons_succ, i64_w, i32_w]
  rfl
 refine pure_ (i := 3) (N := some 15) (v := ?_) (a' := ?_) #[true, true, true, true, true, false] rfl rfl (by kernel_rfl) (fun _ _ _ h => h) (Or.inl ⟨by rfl, ?_⟩) ?_ ?_
 rotate_left
 ·intro w'
  go_simp
  with_reducible rfl
 rotate_left
 ·simp only [Act.put, List.setIfInBounds_toArray, List.set_cons_zero, List.set_cons_succ, i64_w, i32_w]
  rfl
 refine pure_ (i := 5) (N := some 7) (v := ?_) (a' := ?_) #[true, true, true, true, true, true] rfl rfl (by kernel_rfl) (fun _ _ _ h => h) (Or.inl ⟨by rfl, ?_⟩) ?_ ?_
 rotate_left
 ·intro w'
  go_simp
  with_reducible rfl
 rotate_left
 ·simp only [Act.put, List.setIfInBounds_toArray, List.set_cons_zero, List.set_cons_succ, i64_w, i32_w]
  rfl
 refine done_ (by kernel_rfl) ?_
 have hcz5_0 := zx_ (v := .slice A0_0 l0_0.length c0_0) BK331 0
 have hcz5_1 := zx_ (v := .slice A0_1 l0_1.length c0_1) BK331 1
 have hfz5_0 := blk_frozen BK331.out 0
 have hfz5_1 := blk_frozen BK331.out 1
 try go_wp2
 go_loopg [6, 7, 19] k (fun kq v6 v7 v19 w' => ∃ (x6_1 : Int) (x7_1 : Bool) (x19_1 : Int), v6 = .int .i64 x6_1 ∧ v7 = .bool x7_1 ∧ v19 = .int .i64 x19_1 ∧ Aside0 (model_Net_sum.l0 kq l1 x6_1 x7_1 l0_1 (l0_1.length : Int) x19_1 l0_0 l0_1 = some (r1, r2)) ∧ Aside0 (kq ≤ k) ∧ Aside0 (w'.heap[gb331]? = some (.cells #[(.slice A0_0 l0_0.length c0_0), (.slice A0_1 l0_1.length c0_1)] 35 (0, 0))) ∧ Aside0 (Below w.heap.size w w'))
 case atStart => exact ⟨(0), (decide ((l0_1.length : Int) ≤ 16)), (0), z1_, z1_, z1_, H', ⟨Nat.le_refl _⟩, ⟨zb_ BK331⟩, ⟨zw1_ HB GE331⟩⟩
 case round =>
  clear H'
  try clear p2
  try clear hcz5_0
  try clear hcz5_1
  try clear hfz5_0
  try clear hfz5_1
  obtain ⟨x6_1, x7_1, x19_1, rfl, rfl, rfl, HA, HK1, BK331, HB⟩ := hrel
  cases gk with
  | zero => exact absurd HA.out (by simp [model_Net_sum.l0])
  | succ k1 =>
   have H := HA.out
   clear HA
   simp only [model_Net_sum.l0] at H
   by_cases c6 : x19_1 < (l0_1.length : Int)
   rotate_left
   ·rw [if_neg c6] at H
    have c6b0 : decide (x19_1 < (l0_1.length : Int)) = false := decide_eq_false c6
    clear c6
    by_cases c33 : x7_1 = true
    rotate_left
    ·replace c33 := Bool.eq_false_iff.mpr c33
     subst c33
     have H1 : (some (x6_1, false)) = some (r1, r2) := by rw [if_neg (show ¬ (false = true) by decide)] at H; exact H
     clear H
     have H := H1
     clear H1
     simp only [Option.some.injEq, Prod.mk.injEq] at H
     obtain ⟨rfl, rfl⟩ := H
     go_wp2
     go_ret2
     exact ⟨z0_, zw1_ HB GE331⟩
    subst c33
    have H1 := H
    rw [if_pos rfl] at H1
    clear H
    have H := H1
    clear H1
    replace H := zO_ H
    obtain ⟨t332, A340, H⟩ := H
    replace H : (if t332 = true then (some (x6_1, decide (x6_1 ≤ 4096))) else (some (x6_1, false))) = some (r1, r2) := H
    have A34 := zA_ A340
    clear A340
    by_cases c35 : t332 = true
    ·subst c35
     have H1 : (some (x6_1, decide (x6_1 ≤ 4096))) = some (r1, r2) := by rw [if_pos rfl] at H; exact H
     clear H
     have H := H1
     clear H1
     simp only [Option.some.injEq, Prod.mk.injEq] at H
     obtain ⟨rfl, rfl⟩ := H
     have hcz36_0 := zx_ (v := .slice A0_0 l0_0.length c0_0) BK331 0
     have hcz36_1 := zx_ (v := .slice A0_1 l0_1.length c0_1) BK331 1
     have hfz36_0 := blk_frozen BK331.out 0
     have hfz36_1 := blk_frozen BK331.out 1
     go_wp2_with (first | (go_at_call 242; (with_reducible refine (shape_Good.calls k1 _ _ l0_0 true _ ?side1 ?side2 A34.out).mono ?_); (case side1 => exact zk_ (Kd.C_below HR0_0.out HB.out)); (case side2 => exact HC0_0.out); rintro e w' ⟨rfl, ⟨nd, rfl⟩⟩))
     go_ret2
     exact ⟨z0_, zw1_ HB GE331⟩
    replace c35 := Bool.eq_false_iff.mpr c35
    subst c35
    have H1 : (some (x6_1, false)) = some (r1, r2) := by rw [if_neg (show ¬ (false = true) by decide)] at H; exact H
    clear H
    have H := H1
    clear H1
    simp only [Option.some.injEq, Prod.mk.injEq] at H
    obtain ⟨rfl, rfl⟩ := H
    have hcz37_0 := zx_ (v := .slice A0_0 l0_0.length c0_0) BK331 0
    have hcz37_1 := zx_ (v := .slice A0_1 l0_1.length c0_1) BK331 1
    have hfz37_0 := blk_frozen BK331.out 0
    have hfz37_1 := blk_frozen BK331.out 1
    go_wp2_with (first | (go_at_call 242; (with_reducible refine (shape_Good.calls k1 _ _ l0_0 false _ ?side1 ?side2 A34.out).mono ?_); (case side1 => exact zk_ (Kd.C_below HR0_0.out HB.out)); (case side2 => exact HC0_0.out); rintro e w' ⟨rfl, ⟨nd, rfl⟩⟩))
    go_ret2
    exact ⟨z0_, zw1_ HB GE331⟩
   rw [if_pos c6] at H
   have c6b0 : decide (x19_1 < (l0_1.length : Int)) = true := decide_eq_true c6
   clear c6
   by_cases c7 : 0 ≤ x19_1
   rotate_left
   ·rw [if_neg c7] at H
    exact zN_ H
   rw [if_pos c7] at H
   have c7b0 : decide (0 ≤ x19_1) = true := decide_eq_true c7
   clear c7
   by_cases c8 : x19_1 < (l0_1.length : Int)
   rotate_left
   ·rw [if_neg c8] at H
    exact zN_ H
   rw [if_pos c8] at H
   have c8b0 : decide (x19_1 < (l0_1.length : Int)) = true := decide_eq_true c8
   clear c8
   by_cases c9 : x19_1 < (l1.length : Int)
   rotate_left
   ·rw [if_neg c9] at H
    exact zN_ H
   rw [if_pos c9] at H
   have c9b0 : decide (x19_1 < (l1.length : Int)) = true := decide_eq_true c9
   clear c9
   replace H := zO_ H
   obtain ⟨t336, A100, H⟩ := H
   replace H : (model_Net_sum.l1 k1 l1 x6_1 x7_1 x19_1 l0_1 (l0_1.length : Int) x19_1 t336 (t336.length : Int) 0 l0_0 l0_1) = some (r1, r2) := H
   have A10 := zA_ A100
   clear A100
   have H' := zA_ H
   clear H
   have p333 : 0 ≤ (x19_1 : Int) := zD_
   have q333 : x19_1 < (l0_1.length : Int) := zD_
   obtain ⟨ad333, e333, hx333_0, hx333_1, hx333_2⟩ := at_T84 HR0_1.out x19_1 p333 q333
   cases e333
   replace hx333_0 := (HB.out.cell (World.block_lt_of_cell? w _ hx333_0)).trans hx333_0
   replace hx333_1 := (HB.out.cell (World.block_lt_of_cell? w _ hx333_1)).trans hx333_1
   replace hx333_2 := (HB.out.cell (World.block_lt_of_cell? w _ hx333_2)).trans hx333_2
   replace p333 := eq_true p333
   replace q333 := eq_true q333
   try go_wp2_with (first | ((with_reducible refine gate_dst (N := 9) rfl ?_); refine zB_ (#[.string (⟨#[]⟩ : ByteArray), .int .i64 0, .int .i64 0]) 84 ?_; intro gb334 hg w11 hbox hb; have BK334 := zA_ (hbox); have GW334 := zA_ (zs_ hg (zw1_ HB GE331)); have GE334 := zA_ (zs_ hg (zw1_ HB GE331)); replace HB := zA_ (below_step (zw1_ HB GE331) hb); have NB331_334 := zA_ (zn_ hg BK331); have NB334_331 := zA_ (zm_ hg BK331); replace BK331 := za_ BK331 hb; clear hb hbox hg; have hnb12 := NB334_331.out; have hnc12 := NB331_334.out; have hcz13_0 := zx_ (v := .string (⟨#[]⟩ : ByteArray)) BK334 0; have hcz13_1 := zx_ (v := .int .i64 0) BK334 1; have hcz13_2 := zx_ (v := .int .i64 0) BK334 2; have hfz13_0 := blk_frozen BK334.out 0; have hfz13_1 := blk_frozen BK334.out 1; have hfz13_2 := blk_frozen BK334.out 2))
   have n0_ : Aside0 ((((w11.setCell ⟨gb334, 0, none⟩ (.string ((rd_T84 l0_1 x19_1).f0))).setCell ⟨gb334, 1, none⟩ (.int .i64 ((rd_T84 l0_1 x19_1).f1))).setCell ⟨gb334, 2, none⟩ (.int .i64 ((rd_T84 l0_1 x19_1).f2))).heap[gb331]? = some (.cells #[.slice A0_0 l0_0.length c0_0, .slice (some ad333) l0_1.length c0_1] 35 (0, 0))) := ⟨zv1_ BK331 NB331_334⟩
   have n1_ : Aside0 ((((w11.setCell ⟨gb334, 0, none⟩ (.string ((rd_T84 l0_1 x19_1).f0))).setCell ⟨gb334, 1, none⟩ (.int .i64 ((rd_T84 l0_1 x19_1).f1))).setCell ⟨gb334, 2, none⟩ (.int .i64 ((rd_T84 l0_1 x19_1).f2))).heap[gb334]? = some (.cells #[.string ((rd_T84 l0_1 x19_1).f0), .int .i64 ((rd_T84 l0_1 x19_1).f1), .int .i64 ((rd_T84 l0_1 x19_1).f2)] 84 (0, 0))) := ⟨by (with_reducible repeat (first | refine blk_drewN ?_ _ | refine blk_drew ?_ | refine blk_alloc ?_ _)); refine blk_put (cs := #[.string ((rd_T84 l0_1 x19_1).f0), .int .i64 ((rd_T84 l0_1 x19_1).f1), .int .i64 0]) ?_ 2 _ rfl; (with_reducible repeat (first | refine blk_drewN ?_ _ | refine blk_drew ?_ | refine blk_alloc ?_ _)); refine blk_put (cs := #[.string ((rd_T84 l0_1 x19_1).f0), .int .i64 0, .int .i64 0]) ?_ 1 _ rfl; (with_reducible repeat (first | refine blk_drewN ?_ _ | refine blk_drew ?_ | refine blk_alloc ?_ _)); refine blk_put (cs := #[.string (⟨#[]⟩ : ByteArray), .int .i64 0, .int .i64 0]) ?_ 0 _ rfl; (with_reducible repeat (first | refine blk_drewN ?_ _ | refine blk_drew ?_ | refine blk_alloc ?_ _)); exact BK334.out⟩
   have n2_ : Aside0 (Below w.heap.size w (((w11.setCell ⟨gb334, 0, none⟩ (.string ((rd_T84 l0_1 x19_1).f0))).setCell ⟨gb334, 1, none⟩ (.int .i64 ((rd_T84 l0_1 x19_1).f1))).setCell ⟨gb334, 2, none⟩ (.int .i64 ((rd_T84 l0_1 x19_1).f2)))) := ⟨zw2_ HB GE331 GE334⟩
   (try clear BK331)
   (try clear BK334)
   (try clear HB)
   generalize (((w11.setCell ⟨gb334, 0, none⟩ (.string ((rd_T84 l0_1 x19_1).f0))).setCell ⟨gb334, 1, none⟩ (.int .i64 ((rd_T84 l0_1 x19_1).f1))).setCell ⟨gb334, 2, none⟩ (.int .i64 ((rd_T84 l0_1 x19_1).f2))) = w14 at n0_ n1_ n2_ ⊢
   have BK331 := n0_
   have BK334 := n1_
   have HB := n2_
   clear n0_ n1_ n2_
   replace BK331 := zA_ (blk_drew BK331.out)
   replace BK334 := zA_ (blk_drew BK334.out)
   replace HB := zA_ (below_drew1 HB.out)
   have p335 : 0 ≤ (x19_1 : Int) := zD_
   have q335 : x19_1 < (l1.length : Int) := zD_
   obtain ⟨ad335, A335_0, c335_0, e335, hx335_0, hl335_0, hi335_0⟩ := at_L13 HR1.out x19_1 p335 q335
   have hw335_0 := hx335_0
   cases e335
   replace hx335_0 := (HB.out.cell (World.block_lt_of_cell? w _ hx335_0)).trans hx335_0
   have HR335_0 := zA_ hi335_0
   have HC335_0 := zA_ hl335_0
   clear hi335_0 hl335_0
   replace p335 := eq_true p335
   replace q335 := eq_true q335
   refine start_ (n := 8) (S := fun w' => w'.cell? ⟨gb334, 0, none⟩ = some (.string ((rd_T84 l0_1 x19_1).f0)) ∧ w'.cell? ⟨gb334, 1, none⟩ = some (.int .i64 ((rd_T84 l0_1 x19_1).f1)) ∧ w'.cell? ⟨gb334, 2, none⟩ = some (.int .i64 ((rd_T84 l0_1 x19_1).f2)) ∧ w'.cell? (ad335.add (x19_1).toNat) = some (.slice A335_0 (rd_L13 l1 x19_1).length c335_0)) (ds := []) #[false, false, false, false, false, false, false, false] (by kernel_rfl) rfl rfl ⟨(blk_cell BK334.out 0).trans rfl, (blk_cell BK334.out 1).trans rfl, (blk_cell BK334.out 2).trans rfl, ((HB.out.cell (World.block_lt_of_cell? w _ hw335_0)).trans hw335_0)⟩ (fun hHeld => ?_); refine with_tabW model_Net_sum.tab5 model_Net_sum.bits5 (fun HT_ HW_ => ?_)
   generalize w14.drew = w15 at BK331 BK334 HB HR335_0 hx335_0 hHeld ⊢
   refine yp_ ?_ 1 25
   refine yp_ ?_ 2 26
   refine yp_ ?_ 3 27
   refine yp_ ?_ 7 31
   refine yt4_ ?_ 0 24
   refine yt4_ ?_ 4 28
   refine yo_ 5 (some 29) (fun K hK => ?_)
   refine yg_ Tryz.func240 #[.agg #[.string ((rd_T84 l0_1 x19_1).f0), .int .i64 ((rd_T84 l0_1 x19_1).f1), .int .i64 ((rd_T84 l0_1 x19_1).f2)], .slice A335_0 (rd_L13 l1 x19_1).length c335_0] ?_
   with_reducible refine (model_Layer_params.calls k1 ((rd_T84 l0_1 x19_1).f0) ((rd_T84 l0_1 x19_1).f1) ((rd_T84 l0_1 x19_1).f2) _ _ (rd_L13 l1 x19_1) t336 _ ?side1 ?side2 A10.out).mono ?_
   (case side1 => exact zk_ (Kd.C_below HR335_0.out HB.out))
   (case side2 => exact HC335_0.out)
   rintro e w16 ⟨v337, rfl, ho0, hb⟩
   refine ⟨_, rfl, ?_⟩
   have HO338 := zA_ (Kd.N_lower (Kd.N_mono (ok' := fun k_ => k_ ≠ gb331 ∧ k_ ≠ gb334) ho0 (fun k_ hk_ => ⟨(Kd.freshB (g := gb331) (o := .cells #[.slice A0_0 l0_0.length c0_0, .slice (some ad333) l0_1.length c0_1] 35 (0, 0)) (zb_ BK331) k_ hk_), (Kd.freshB (g := gb334) (o := .cells #[.string ((rd_T84 l0_1 x19_1).f0), .int .i64 ((rd_T84 l0_1 x19_1).f1), .int .i64 ((rd_T84 l0_1 x19_1).f2)] 84 (0, 0)) (zb_ BK334) k_ hk_)⟩)) (below_size (zw2_ HB GE331 GE334)))
   replace BK331 := za_ BK331 hb
   replace BK334 := za_ BK334 hb
   replace HB := zA_ (below_step (zw2_ HB GE331 GE334) hb)
   (try clear hb)
   (try clear hb2)
   (try clear hk)
   (try clear hi)
   (try clear ho0)
   obtain ⟨Ao17, co17, eo17⟩ := Kd.N_slice HO338.out
   (first | subst eo17 | (injection eo17 with f1_ f2_ f3_; have f4_ := f1_.symm; have f5_ := f3_.symm; clear f1_ f2_ f3_; subst f4_; subst f5_))
   refine hK.out _ _ ⟨(blk_cell BK334.out 0).trans rfl, (blk_cell BK334.out 1).trans rfl, (blk_cell BK334.out 2).trans rfl, ((HB.out.cell (World.block_lt_of_cell? w _ hw335_0)).trans hw335_0)⟩ (fun hHeld => ?_)
   clear hK K
   refine zq_ (some 29) (h := ?_)
   refine yp_ ?_ 6 30
   refine done_ (done_of HT_.out (by kernel_rfl)) ?_
   try go_wp2
   go_loopg [6, 7, 31] k1 (fun kq v6 v7 v31 w' => ∃ (x6_2 : Int) (x7_2 : Bool) (x31_2 : Int), v6 = .int .i64 x6_2 ∧ v7 = .bool x7_2 ∧ v31 = .int .i64 x31_2 ∧ Aside0 (model_Net_sum.l1 kq l1 x6_2 x7_2 x19_1 l0_1 (l0_1.length : Int) x19_1 t336 (t336.length : Int) x31_2 l0_0 l0_1 = some (r1, r2)) ∧ Aside0 (kq ≤ k1) ∧ Aside0 (Kd.N (Kd.slice 3 (Kd.int .i64)) 32 w' w.heap.size (fun k_ => k_ ≠ gb331 ∧ k_ ≠ gb334) (.slice Ao17 t336.length co17) t336) ∧ Aside0 (w'.heap[gb331]? = some (.cells #[(.slice A0_0 l0_0.length c0_0), (.slice (some ad333) l0_1.length c0_1)] 35 (0, 0))) ∧ Aside0 (w'.heap[gb334]? = some (.cells #[.string ((rd_T84 l0_1 x19_1).f0), .int .i64 ((rd_T84 l0_1 x19_1).f1), .int .i64 ((rd_T84 l0_1 x19_1).f2)] 84 (0, 0))) ∧ Aside0 (Below w.heap.size w w'))
   case atStart => exact ⟨(x6_1), (x7_1), (0), z1_, z1_, z1_, H', ⟨Nat.le_refl _⟩, ⟨by (with_reducible repeat (first | apply Kd.N_alloc | apply Kd.N_drewN | apply Kd.N_drew)); exact HO338.out⟩, ⟨zb_ BK331⟩, ⟨zb_ BK334⟩, ⟨zw2_ HB GE331 GE334⟩⟩
   case round =>
    clear H'
    try clear p2
    try clear p3
    try clear q3
    try clear hx3
    try clear c6b0
    try clear c7b0
    try clear c8b0
    try clear c9b0
    try clear hcz13_0
    try clear hcz13_1
    try clear hcz13_2
    try clear hcz5_0
    try clear hcz5_1
    try clear hfz13_0
    try clear hfz13_1
    try clear hfz13_2
    try clear hfz5_0
    try clear hfz5_1
    try clear hx333_0
    try clear hx333_1
    try clear hx333_2
    try clear hx335_0
    try clear p2
    try clear p333
    try clear p335
    try clear q333
    try clear q335
    obtain ⟨x6_2, x7_2, x31_2, rfl, rfl, rfl, HA, HK2, HO_29, BK331, BK334, HB⟩ := hrel
    cases gk with
    | zero => exact absurd HA.out (by simp [model_Net_sum.l1])
    | succ k2 =>
     have H := HA.out
     clear HA
     simp only [model_Net_sum.l1] at H
     by_cases c18 : x31_2 < (t336.length : Int)
     ·rw [if_pos c18] at H
      have c18b0 : decide (x31_2 < (t336.length : Int)) = true := decide_eq_true c18
      clear c18
      by_cases c19 : 0 ≤ x31_2
      rotate_left
      ·rw [if_neg c19] at H
       exact zN_ H
      rw [if_pos c19] at H
      have c19b0 : decide (0 ≤ x31_2) = true := decide_eq_true c19
      clear c19
      by_cases c20 : x31_2 < (t336.length : Int)
      rotate_left
      ·rw [if_neg c20] at H
       exact zN_ H
      rw [if_pos c20] at H
      have c20b0 : decide (x31_2 < (t336.length : Int)) = true := decide_eq_true c20
      clear c20
      replace H := zO_ H
      obtain ⟨t340, A210, H⟩ := H
      (try dsimp only at H)
      have A21 := zA_ A210
      clear A210
      by_cases c22 : x7_2 = true
      rotate_left
      ·replace c22 := Bool.eq_false_iff.mpr c22
       subst c22
       have H1 := H
       rw [if_neg (show ¬ (false = true) by decide)] at H1
       clear H
       have H := H1
       clear H1
       have H' := zA_ H
       clear H
       have p339 : 0 ≤ (x31_2 : Int) := zD_
       have q339 : x31_2 < (t336.length : Int) := zD_
       obtain ⟨ad339, A339_0, c339_0, e339, hx339_0, hl339_0, hi339_0⟩ := at_L13 (Kd.N_reads' HO_29.out).2.2 x31_2 p339 q339
       cases e339
       obtain ⟨ce339, hce339, hMe339, hcc339⟩ := Kd.N_get HO_29.out [] x31_2 p339 (by first | exact q339 | exact zD_ | (have e_ := (Kd.N_reads' HO_29.out).1; omega))
       obtain ⟨ua339_0, uc339_0, rfl, ul339_0, ge339_0⟩ := Kd.FK_slice_open hMe339
       have hv339_0 := hcc339 0 _ rfl
       rw [Nat.add_zero, show ((Kd.slice 3 (Kd.int .i64))).sz = 1 from rfl, Nat.mul_one] at hv339_0
       replace hv339_0 := Option.some.inj (hv339_0.symm.trans hx339_0)
       injection hv339_0 with hva_ hvn_ hvc_
       rw [hva_] at ge339_0
       rw [hvc_] at ul339_0
       have HL339_0 := zA_ (show Kd.V (Kd.int .i64) 3 _ w.heap.size _ _ (rd_L13 t336 x31_2) from Kd.V_mk ul339_0 ge339_0)
       clear hva_ hvn_ hvc_ ge339_0 ul339_0
       clear hcc339 hce339
       have HR339_0 := zA_ hi339_0
       have HC339_0 := zA_ hl339_0
       clear hi339_0 hl339_0
       replace p339 := eq_true p339
       replace q339 := eq_true q339
       go_wp2_with (first | ((with_reducible refine gate_callee (f := 241) rfl ?_); refine zg_ (some 37) Tryz.func241 #[.slice A339_0 (rd_L13 t336 x31_2).length c339_0] (h := ?_); (with_reducible refine (model_product.calls k2 _ _ (rd_L13 t336 x31_2) t340 _ ?side1 ?side2 A21.out).mono ?_); (case side1 => repeat (first | exact (by repeat (first | (with_reducible exact HR339_0.out) | (with_reducible refine Kd.C_alloc ?_ _) | (with_reducible refine Kd.C_drewN ?_ _) | (with_reducible refine Kd.C_drew ?_) | exact HR339_0.out)) | (with_reducible refine Kd.C_alloc ?_ _) | (with_reducible refine Kd.C_drewN ?_ _) | (with_reducible refine Kd.C_drew ?_))); (case side2 => exact HC339_0.out); rintro e w' ⟨rfl, ⟨nd, rfl⟩⟩; refine ⟨_, rfl, ?_⟩))
       go_roundg k2
       case measure => have := HK1.out; have := HK2.out; omega
       case rel => exact ⟨(wrap64 (x6_2 + t340)), (false), (wrap64 (x31_2 + 1)), z1_, z1_, z1_, H', ⟨by have := HK1.out; have := HK2.out; omega⟩, ⟨by (with_reducible repeat (first | apply Kd.N_alloc | apply Kd.N_drewN | apply Kd.N_drew)); exact HO_29.out⟩, ⟨zb_ BK331⟩, ⟨zb_ BK334⟩, ⟨zw2_ HB GE331 GE334⟩⟩
      subst c22
      have H1 := H
      rw [if_pos rfl] at H1
      clear H
      have H := H1
      clear H1
      replace H := zO_ H
      obtain ⟨t341, A230, H⟩ := H
      (try dsimp only at H)
      have A23 := zA_ A230
      clear A230
      have H' := zA_ H
      clear H
      have p339 : 0 ≤ (x31_2 : Int) := zD_
      have q339 : x31_2 < (t336.length : Int) := zD_
      obtain ⟨ad339, A339_0, c339_0, e339, hx339_0, hl339_0, hi339_0⟩ := at_L13 (Kd.N_reads' HO_29.out).2.2 x31_2 p339 q339
      cases e339
      obtain ⟨ce339, hce339, hMe339, hcc339⟩ := Kd.N_get HO_29.out [] x31_2 p339 (by first | exact q339 | exact zD_ | (have e_ := (Kd.N_reads' HO_29.out).1; omega))
      obtain ⟨ua339_0, uc339_0, rfl, ul339_0, ge339_0⟩ := Kd.FK_slice_open hMe339
      have hv339_0 := hcc339 0 _ rfl
      rw [Nat.add_zero, show ((Kd.slice 3 (Kd.int .i64))).sz = 1 from rfl, Nat.mul_one] at hv339_0
      replace hv339_0 := Option.some.inj (hv339_0.symm.trans hx339_0)
      injection hv339_0 with hva_ hvn_ hvc_
      rw [hva_] at ge339_0
      rw [hvc_] at ul339_0
      have HL339_0 := zA_ (show Kd.V (Kd.int .i64) 3 _ w.heap.size _ _ (rd_L13 t336 x31_2) from Kd.V_mk ul339_0 ge339_0)
      clear hva_ hvn_ hvc_ ge339_0 ul339_0
      clear hcc339 hce339
      have HR339_0 := zA_ hi339_0
      have HC339_0 := zA_ hl339_0
      clear hi339_0 hl339_0
      replace p339 := eq_true p339
      replace q339 := eq_true q339
      go_wp2_with (first | ((with_reducible refine gate_callee (f := 241) rfl ?_); refine zg_ (some 37) Tryz.func241 #[.slice A339_0 (rd_L13 t336 x31_2).length c339_0] (h := ?_); (with_reducible refine (model_product.calls k2 _ _ (rd_L13 t336 x31_2) t340 _ ?side1 ?side2 A21.out).mono ?_); (case side1 => repeat (first | exact (by repeat (first | (with_reducible exact HR339_0.out) | (with_reducible refine Kd.C_alloc ?_ _) | (with_reducible refine Kd.C_drewN ?_ _) | (with_reducible refine Kd.C_drew ?_) | exact HR339_0.out)) | (with_reducible refine Kd.C_alloc ?_ _) | (with_reducible refine Kd.C_drewN ?_ _) | (with_reducible refine Kd.C_drew ?_))); (case side2 => exact HC339_0.out); rintro e w' ⟨rfl, ⟨nd, rfl⟩⟩; refine ⟨_, rfl, ?_⟩) | (go_at_call 242; (with_reducible refine (shape_Good.calls k2 _ _ (rd_L13 t336 x31_2) t341 _ ?side1 ?side2 A23.out).mono ?_); (case side1 => repeat (first | exact (by repeat (first | (with_reducible exact HR339_0.out) | (with_reducible refine Kd.C_alloc ?_ _) | (with_reducible refine Kd.C_drewN ?_ _) | (with_reducible refine Kd.C_drew ?_) | exact HR339_0.out)) | (with_reducible refine Kd.C_alloc ?_ _) | (with_reducible refine Kd.C_drewN ?_ _) | (with_reducible refine Kd.C_drew ?_))); (case side2 => exact HC339_0.out); rintro e w' ⟨rfl, ⟨nd, rfl⟩⟩))
      go_roundg k2
      case measure => have := HK1.out; have := HK2.out; omega
      case rel => exact ⟨(wrap64 (x6_2 + t340)), (t341), (wrap64 (x31_2 + 1)), z1_, z1_, z1_, H', ⟨by have := HK1.out; have := HK2.out; omega⟩, ⟨by (with_reducible repeat (first | apply Kd.N_alloc | apply Kd.N_drewN | apply Kd.N_drew)); exact HO_29.out⟩, ⟨zb_ BK331⟩, ⟨zb_ BK334⟩, ⟨zw2_ HB GE331 GE334⟩⟩
     rw [if_neg c18] at H
     have c18b0 : decide (x31_2 < (t336.length : Int)) = false := decide_eq_false c18
     clear c18
     by_cases c24 : x7_2 = true
     rotate_left
     ·replace c24 := Bool.eq_false_iff.mpr c24
      subst c24
      have H1 := H
      rw [if_neg (show ¬ (false = true) by decide)] at H1
      clear H
      have H := H1
      clear H1
      have H' := zA_ H
      clear H
      go_wp2
      go_roundg k2
      case measure => have := HK1.out; have := HK2.out; omega
      case rel => exact ⟨(x6_2), (false), (wrap64 (x19_1 + 1)), z1_, z1_, z1_, H', ⟨by have := HK1.out; have := HK2.out; omega⟩, ⟨zb_ BK331⟩, ⟨zw2_ HB GE331 GE334⟩⟩
     subst c24
     have H1 := H
     rw [if_pos rfl] at H1
     clear H
     have H := H1
     clear H1
     by_cases c25 : 0 ≤ x19_1
     rotate_left
     ·rw [if_neg c25] at H
      exact zN_ H
     rw [if_pos c25] at H
     have c25b0 : decide (0 ≤ x19_1) = true := decide_eq_true c25
     clear c25
     by_cases c26 : x19_1 < (l1.length : Int)
     rotate_left
     ·rw [if_neg c26] at H
      exact zN_ H
     rw [if_pos c26] at H
     have c26b0 : decide (x19_1 < (l1.length : Int)) = true := decide_eq_true c26
     clear c26
     replace H := zO_ H
     obtain ⟨t343, A270, H⟩ := H
     (try dsimp only at H)
     have A27 := zA_ A270
     clear A270
     by_cases c28 : t343 = true
     rotate_left
     ·replace c28 := Bool.eq_false_iff.mpr c28
      subst c28
      have H1 := H
      rw [if_neg (show ¬ (false = true) by decide)] at H1
      clear H
      have H := H1
      clear H1
      have H' := zA_ H
      clear H
      have p342 : 0 ≤ (x19_1 : Int) := zD_
      have q342 : x19_1 < (l1.length : Int) := zD_
      obtain ⟨ad342, A342_0, c342_0, e342, hx342_0, hl342_0, hi342_0⟩ := at_L13 HR1.out x19_1 p342 q342
      obtain rfl : ad335 = ad342 := (by injection e342)
      replace hx342_0 := (HB.out.cell (World.block_lt_of_cell? w _ hx342_0)).trans hx342_0
      have HR342_0 := zA_ hi342_0
      have HC342_0 := zA_ hl342_0
      clear hi342_0 hl342_0
      replace p342 := eq_true p342
      replace q342 := eq_true q342
      go_wp2_with (first | (go_at_call 242; (with_reducible refine (shape_Good.calls k2 _ _ (rd_L13 l1 x19_1) false _ ?side1 ?side2 A27.out).mono ?_); (case side1 => exact zk_ (Kd.C_below HR342_0.out HB.out)); (case side2 => exact HC342_0.out); rintro e w' ⟨rfl, ⟨nd, rfl⟩⟩))
      go_roundg k2
      case measure => have := HK1.out; have := HK2.out; omega
      case rel => exact ⟨(x6_2), (false), (wrap64 (x19_1 + 1)), z1_, z1_, z1_, H', ⟨by have := HK1.out; have := HK2.out; omega⟩, ⟨zb_ BK331⟩, ⟨zw2_ HB GE331 GE334⟩⟩
     subst c28
     have H1 := H
     rw [if_pos rfl] at H1
     clear H
     have H := H1
     clear H1
     obtain ⟨ji29, hji29⟩ : ∃ j_ : Int, (wrap64 (x19_1 + 1)) = j_ := ⟨_, rfl⟩
     replace H : (if 0 ≤ (ji29) then (if (ji29) < (l1.length : Int) then ((shape_Good.f k2 (rd_L13 l1 (ji29))).bind fun t345 => (model_Net_sum.l0 k2 l1 x6_2 t345 l0_1 (l0_1.length : Int) ji29 l0_0 l0_1)) else (none)) else (none)) = some (r1, r2) := by first | (rw [hji29] at H; exact H) | (simp only [hji29] at H ⊢; exact H)
     (try rw [hji29] at A27)
     have hji29w : (IntKind.i64.wrap (x19_1 + 1)) = ji29 := (i64_w _).trans hji29
     by_cases c30 : 0 ≤ (ji29)
     rotate_left
     ·rw [if_neg c30] at H
      exact zN_ H
     rw [if_pos c30] at H
     have c30b0 : decide (0 ≤ (ji29)) = true := decide_eq_true c30
     clear c30
     by_cases c31 : (ji29) < (l1.length : Int)
     rotate_left
     ·rw [if_neg c31] at H
      exact zN_ H
     rw [if_pos c31] at H
     have c31b0 : decide ((ji29) < (l1.length : Int)) = true := decide_eq_true c31
     clear c31
     replace H := zO_ H
     obtain ⟨t345, A320, H⟩ := H
     replace H : (model_Net_sum.l0 k2 l1 x6_2 t345 l0_1 (l0_1.length : Int) ji29 l0_0 l0_1) = some (r1, r2) := H
     have A32 := zA_ A320
     clear A320
     have H' := zA_ H
     clear H
     have p342 : 0 ≤ (x19_1 : Int) := zD_
     have q342 : x19_1 < (l1.length : Int) := zD_
     obtain ⟨ad342, A342_0, c342_0, e342, hx342_0, hl342_0, hi342_0⟩ := at_L13 HR1.out x19_1 p342 q342
     obtain rfl : ad335 = ad342 := (by injection e342)
     replace hx342_0 := (HB.out.cell (World.block_lt_of_cell? w _ hx342_0)).trans hx342_0
     have HR342_0 := zA_ hi342_0
     have HC342_0 := zA_ hl342_0
     clear hi342_0 hl342_0
     replace p342 := eq_true p342
     replace q342 := eq_true q342
     go_wp2_with (first | (go_at_call 242; (with_reducible refine (shape_Good.calls k2 _ _ (rd_L13 l1 x19_1) true _ ?side1 ?side2 A27.out).mono ?_); (case side1 => exact zk_ (Kd.C_below HR342_0.out HB.out)); (case side2 => exact HC342_0.out); rintro e w' ⟨rfl, ⟨nd, rfl⟩⟩; have p344 : 0 ≤ ((ji29) : Int) := zD_; have q344 : (ji29) < (l1.length : Int) := zD_; obtain ⟨ad344, A344_0, c344_0, e344, hx344_0, hl344_0, hi344_0⟩ := at_L13 HR1.out (ji29) p344 q344; obtain rfl : ad335 = ad344 := (by injection e344); replace hx344_0 := (HB.out.cell (World.block_lt_of_cell? w _ hx344_0)).trans hx344_0; have HR344_0 := zA_ hi344_0; have HC344_0 := zA_ hl344_0; clear hi344_0 hl344_0; replace p344 := eq_true p344; replace q344 := eq_true q344) | (go_at_call 242; (with_reducible refine (shape_Good.calls k2 _ _ (rd_L13 l1 (ji29)) t345 _ ?side1 ?side2 A32.out).mono ?_); (case side1 => repeat (first | exact (Kd.C_below HR344_0.out (zw2_ HB GE331 GE334)) | (with_reducible refine Kd.C_alloc ?_ _) | (with_reducible refine Kd.C_drewN ?_ _) | (with_reducible refine Kd.C_drew ?_))); (case side2 => exact HC344_0.out); rintro e w' ⟨rfl, ⟨nd, rfl⟩⟩))
     go_roundg k2
     case measure => have := HK1.out; have := HK2.out; omega
     case rel => exact ⟨(x6_2), (t345), (ji29), z1_, z1_, (by first | rfl | (simp; done) | (simp only [← hji29] <;> (first | rfl | simp)) | (simp [*]; done)), H', ⟨by have := HK1.out; have := HK2.out; omega⟩, ⟨zb_ BK331⟩, ⟨zw2_ HB GE331 GE334⟩⟩
def model_within.f (a0 : Int) (a1 : Int) : Option (Bool) := if a0 ≥ 1 then (some (decide (a0 ≤ a1))) else (some false)
theorem model_within.calls (a0 : Int) (a1 : Int) (r : Bool) (w : World) (h : model_within.f a0 a1 = some r) :
  Calls Tryz.prog 292 #[.int .i64 a0, .int .i64 a1] w fun e w' => e = .returned (.bool r) ∧ Drawn0 w w' := by
 have H : (if a0 ≥ 1 then (some (decide (a0 ≤ a1))) else (some false)) = some r := h
 clear h
 by_cases c3 : a0 ≥ 1
 ·rw [if_pos c3] at H
  have c3b0 : decide (1 ≤ a0) = true := decide_eq_true c3
  clear c3
  obtain rfl := Option.some.inj H
  go_enter Tryz.func292, Tryz.ntmps292
  go_wp2
  go_ret
  exact ⟨z1_, zE_⟩
 rw [if_neg c3] at H
 have c3b0 : decide (1 ≤ a0) = false := decide_eq_false c3
 clear c3
 obtain rfl := Option.some.inj H
 go_enter Tryz.func292, Tryz.ntmps292
 go_wp2
 go_ret
 exact ⟨z1_, zE_⟩
def model_counts.f (a0 : ByteArray) : Option (Int) := if a0.toList = ([100, 101, 110, 115, 101] : List UInt8) then (some 1) else (none)
theorem model_counts.calls (a0 : ByteArray) (r : Int) (w : World) (h : model_counts.f a0 = some r) :
  Calls Tryz.prog 336 #[.string a0] w fun e w' => e = .returned (.int .i64 r) ∧ Drawn0 w w' := by
 have H : (if a0.toList = ([100, 101, 110, 115, 101] : List UInt8) then (some 1) else (none)) = some r := h
 clear h
 by_cases c2 : a0.toList = ([100, 101, 110, 115, 101] : List UInt8)
 rotate_left
 ·rw [if_neg c2] at H
  exact zN_ H
 rw [if_pos c2] at H
 have c2b0 : (a0.toList == ([100, 101, 110, 115, 101] : List UInt8)) = true := beq_iff_eq.mpr c2
 have c2b1 : (a0.toList != ([100, 101, 110, 115, 101] : List UInt8)) = false := bne_eq_false_iff_eq.mpr c2
 clear c2
 obtain rfl := Option.some.inj H
 go_enter Tryz.func336, Tryz.ntmps336
 go_wp2
 go_ret
 exact ⟨z1_, zE_⟩
def model_Layer_good.j0 : Nat → Bool → ByteArray → Int → Int → Option (Bool)
 | 0, _, _, _, _ => none
 | k + 1, x11, x347000, x347001, x347002 => if x11 = true then (none) else (if x347000.toList = ([100, 101, 110, 115, 101] : List UInt8) then ((model_within.f x347001 256).bind fun t348 => (some t348)) else (none))
def model_Layer_good.f (k : Nat) (a0_0 : ByteArray) (a0_1 : Int) (a0_2 : Int) : Option (Bool) := (model_counts.f a0_0).bind fun t347 => (if t347 < 2 then (model_Layer_good.j0 k (a0_2 != 0) a0_0 a0_1 a0_2) else (model_Layer_good.j0 k false a0_0 a0_1 a0_2))
theorem model_Layer_good.calls (k : Nat) (a0_0 : ByteArray) (a0_1 : Int) (a0_2 : Int) (r : Bool) (w : World) (h : model_Layer_good.f k a0_0 a0_1 a0_2 = some r) :
  Calls Tryz.prog 291 #[.agg #[.string a0_0, .int .i64 a0_1, .int .i64 a0_2]] w fun e w' => e = .returned (.bool r) ∧ Below w.heap.size w w' := by
 have hu84 := Tryz.underlying84
 have HB := zA_ (Below.refl w.heap.size w)
 have H : ((model_counts.f a0_0).bind fun t347 => (if t347 < 2 then (model_Layer_good.j0 k (a0_2 != 0) a0_0 a0_1 a0_2) else (model_Layer_good.j0 k false a0_0 a0_1 a0_2))) = some r := h
 clear h
 have HC2 := zA_ H
 clear H
 go_enter Tryz.func291, Tryz.ntmps291
 go_upto_region 1 with (first | ((with_reducible refine gate_dst (N := 1) rfl ?_); refine zB_ (#[.string a0_0, .int .i64 a0_1, .int .i64 a0_2]) 84 ?_; intro gb346 hg w3 hbox hb; have BK346 := zA_ (hbox); have GW346 := zA_ (zs_ hg (zw0_ HB)); have GE346 := zA_ (zs_ hg (zw0_ HB)); replace HB := zA_ (below_step (zw0_ HB) hb); clear hb hbox hg))
 (try simp only [Act.put, List.setIfInBounds_toArray, List.set_cons_zero, List.set_cons_succ])
 go_cut [11] (fun v11 wc => ∃ (kq : Nat) (x11_1 : Bool), v11 = .bool x11_1 ∧ Aside0 (model_Layer_good.j0 kq x11_1 a0_0 a0_1 a0_2 = some r) ∧ Aside0 (kq ≤ k) ∧ Aside0 (wc.heap[gb346]? = some (.cells #[.string a0_0, .int .i64 a0_1, .int .i64 a0_2] 84 (0, 0))) ∧ Aside0 (Below w.heap.size w wc))
 case first =>
  have H := HC2.out
  clear HC2
  replace H := zO_ H
  obtain ⟨t347, A40, H⟩ := H
  replace H : (if t347 < 2 then (model_Layer_good.j0 k (a0_2 != 0) a0_0 a0_1 a0_2) else (model_Layer_good.j0 k false a0_0 a0_1 a0_2)) = some r := H
  have A4 := zA_ A40
  clear A40
  by_cases c5 : t347 < 2
  ·rw [if_pos c5] at H
   have c5b0 : decide (t347 < 2) = true := decide_eq_true c5
   clear c5
   (first | rw [c5b0] | (simp only [i64_w, i32_w]; rw [c5b0]) | skip)
   have H' := zA_ H
   clear H
   have hcz6_0 := zx_ (v := .string a0_0) BK346 0
   have hcz6_1 := zx_ (v := .int .i64 a0_1) BK346 1
   have hcz6_2 := zx_ (v := .int .i64 a0_2) BK346 2
   have hfz6_0 := blk_frozen BK346.out 0
   have hfz6_1 := blk_frozen BK346.out 1
   have hfz6_2 := blk_frozen BK346.out 2
   go_wp2_with (first | ((with_reducible refine gate_callee (f := 336) rfl ?_); refine zg_ (some 5) Tryz.func336 #[.string a0_0] (h := ?_); (with_reducible refine (model_counts.calls a0_0 t347 _ A4.out).mono ?_); rintro e w' ⟨rfl, ⟨nd, rfl⟩⟩; refine ⟨_, rfl, ?_⟩))
   go_meet
   case rel => exact ⟨_, ((a0_2 != 0)), z1_, H', ⟨by first | omega | exact Nat.le_refl _⟩, ⟨zb_ BK346⟩, ⟨zw1_ HB GE346⟩⟩
  rw [if_neg c5] at H
  have c5b0 : decide (t347 < 2) = false := decide_eq_false c5
  clear c5
  (first | rw [c5b0] | (simp only [i64_w, i32_w]; rw [c5b0]) | skip)
  have H' := zA_ H
  clear H
  have hcz7_0 := zx_ (v := .string a0_0) BK346 0
  have hcz7_1 := zx_ (v := .int .i64 a0_1) BK346 1
  have hcz7_2 := zx_ (v := .int .i64 a0_2) BK346 2
  have hfz7_0 := blk_frozen BK346.out 0
  have hfz7_1 := blk_frozen BK346.out 1
  have hfz7_2 := blk_frozen BK346.out 2
  go_wp2_with (first | ((with_reducible refine gate_callee (f := 336) rfl ?_); refine zg_ (some 5) Tryz.func336 #[.string a0_0] (h := ?_); (with_reducible refine (model_counts.calls a0_0 t347 _ A4.out).mono ?_); rintro e w' ⟨rfl, ⟨nd, rfl⟩⟩; refine ⟨_, rfl, ?_⟩))
  go_meet
  case rel => exact ⟨_, (false), z1_, H', ⟨by first | omega | exact Nat.le_refl _⟩, ⟨zb_ BK346⟩, ⟨zw1_ HB GE346⟩⟩
 case rest =>
  clear HC2
  try clear p2
  try clear c5b0
  try clear hcz6_0
  try clear hcz6_1
  try clear hcz6_2
  try clear hcz7_0
  try clear hcz7_1
  try clear hcz7_2
  try clear hfz6_0
  try clear hfz6_1
  try clear hfz6_2
  try clear hfz7_0
  try clear hfz7_1
  try clear hfz7_2
  obtain ⟨kq, x11_1, rfl, HA, HJ1, BK346, HB⟩ := hcut
  cases kq with
  | zero => exact absurd HA.out (by simp [model_Layer_good.j0])
  | succ kj1 =>
   have H := HA.out
   clear HA
   simp only [model_Layer_good.j0] at H
   by_cases c8 : x11_1 = true
   ·subst c8
    have H1 : (none) = some r := by rw [if_pos rfl] at H; exact H
    clear H
    have H := H1
    clear H1
    exact zN_ H
   replace c8 := Bool.eq_false_iff.mpr c8
   subst c8
   have H1 := H
   rw [if_neg (show ¬ (false = true) by decide)] at H1
   clear H
   have H := H1
   clear H1
   by_cases c9 : a0_0.toList = ([100, 101, 110, 115, 101] : List UInt8)
   rotate_left
   ·rw [if_neg c9] at H
    exact zN_ H
   rw [if_pos c9] at H
   have c9b0 : (a0_0.toList == ([100, 101, 110, 115, 101] : List UInt8)) = true := beq_iff_eq.mpr c9
   have c9b1 : (a0_0.toList != ([100, 101, 110, 115, 101] : List UInt8)) = false := bne_eq_false_iff_eq.mpr c9
   clear c9
   replace H := zO_ H
   obtain ⟨t348, A100, H⟩ := H
   replace H : (some t348) = some r := H
   have A10 := zA_ A100
   clear A100
   obtain rfl := Option.some.inj H
   have hcz11_0 := zx_ (v := .string a0_0) BK346 0
   have hcz11_1 := zx_ (v := .int .i64 a0_1) BK346 1
   have hcz11_2 := zx_ (v := .int .i64 a0_2) BK346 2
   have hfz11_0 := blk_frozen BK346.out 0
   have hfz11_1 := blk_frozen BK346.out 1
   have hfz11_2 := blk_frozen BK346.out 2
   go_wp2_with (first | ((with_reducible refine gate_callee (f := 292) rfl ?_); refine zg_ (some 18) Tryz.func292 #[.int .i64 a0_1, .int .i64 256] (h := ?_); (with_reducible refine (model_within.calls a0_1 256 t348 _ A10.out).mono ?_); rintro e w' ⟨rfl, ⟨nd, rfl⟩⟩; refine ⟨_, rfl, ?_⟩))
   go_ret
   exact ⟨z0_, zw1_ HB GE346⟩
def model_Net_good.l0 : Nat → List (S84) → Int → Int → List Int → List (S84) → Option (Bool)
 | 0, _, _, _, _, _ => none
 | k + 1, x6, x7, x8, x350000, x350001 => if x8 < x7 then (if 0 ≤ x8 then (if x8 < (x6.length : Int) then ((model_Layer_good.f k ((rd_T84 x6 x8).f0) ((rd_T84 x6 x8).f1) ((rd_T84 x6 x8).f2)).bind fun t352 => (if t352 = true then (model_Net_good.l0 k x6 x7 (wrap64 (x8 + 1)) x350000 x350001) else (none))) else (none)) else (none)) else (if (x350000.length : Int) = 1 then (if 0 < (x350000.length : Int) then ((model_within.f (rd x350000 0) 1024).bind fun t354 => (some t354)) else (none)) else (none))
def model_Net_good.f (k : Nat) (l0_0 : List Int) (l0_1 : List (S84)) : Option (Bool) := model_Net_good.l0 k l0_1 (l0_1.length : Int) 0 l0_0 l0_1
theorem model_Net_good.calls (k : Nat) (A0_0 : Option Addr) (c0_0 : Nat) (l0_0 : List Int) (A0_1 : Option Addr) (c0_1 : Nat) (l0_1 : List (S84)) (r : Bool) (w : World) (hr0_0 : Kd.C (Kd.int .i64) w A0_0 l0_0.length l0_0) (hc0_0 : l0_0.length ≤ c0_0) (hr0_1 : Kd.C k84 w A0_1 l0_1.length l0_1) (hc0_1 : l0_1.length ≤ c0_1) (h : model_Net_good.f k l0_0 l0_1 = some r) :
  Calls Tryz.prog 238 #[.agg #[.slice A0_0 l0_0.length c0_0, .slice A0_1 l0_1.length c0_1]] w fun e w' => e = .returned (.bool r) ∧ Below w.heap.size w w' := by
 have hu35 := Tryz.underlying35
 have hu84 := Tryz.underlying84
 have HR0_0 := zA_ hr0_0
 have HC0_0 := zA_ hc0_0
 clear hr0_0 hc0_0
 have HR0_1 := zA_ hr0_1
 have HC0_1 := zA_ hc0_1
 clear hr0_1 hc0_1
 have HB := zA_ (Below.refl w.heap.size w)
 have H : (model_Net_good.l0 k l0_1 (l0_1.length : Int) 0 l0_0 l0_1) = some r := h
 clear h
 have H' := zA_ H
 clear H
 go_enter Tryz.func238, Tryz.ntmps238
 go_wp2_with (first | ((with_reducible refine gate_dst (N := 1) rfl ?_); refine zB_ (#[.slice A0_0 l0_0.length c0_0, .slice A0_1 l0_1.length c0_1]) 35 ?_; intro gb349 hg w2 hbox hb; have BK349 := zA_ (hbox); have GW349 := zA_ (zs_ hg (zw0_ HB)); have GE349 := zA_ (zs_ hg (zw0_ HB)); replace HB := zA_ (below_step (zw0_ HB) hb); clear hb hbox hg; have hcz3_0 := zx_ (v := .slice A0_0 l0_0.length c0_0) BK349 0; have hcz3_1 := zx_ (v := .slice A0_1 l0_1.length c0_1) BK349 1; have hfz3_0 := blk_frozen BK349.out 0; have hfz3_1 := blk_frozen BK349.out 1))
 go_loopg [8] k (fun kq v8 w' => ∃ (x8_1 : Int), v8 = .int .i64 x8_1 ∧ Aside0 (model_Net_good.l0 kq l0_1 (l0_1.length : Int) x8_1 l0_0 l0_1 = some r) ∧ Aside0 (kq ≤ k) ∧ Aside0 (w'.heap[gb349]? = some (.cells #[(.slice A0_0 l0_0.length c0_0), (.slice A0_1 l0_1.length c0_1)] 35 (0, 0))) ∧ Aside0 (Below w.heap.size w w'))
 case atStart => exact ⟨(0), z1_, H', ⟨Nat.le_refl _⟩, ⟨zb_ BK349⟩, ⟨zw1_ HB GE349⟩⟩
 case round =>
  clear H'
  try clear p2
  try clear hcz3_0
  try clear hcz3_1
  try clear hfz3_0
  try clear hfz3_1
  obtain ⟨x8_1, rfl, HA, HK1, BK349, HB⟩ := hrel
  cases gk with
  | zero => exact absurd HA.out (by simp [model_Net_good.l0])
  | succ k1 =>
   have H := HA.out
   clear HA
   simp only [model_Net_good.l0] at H
   by_cases c4 : x8_1 < (l0_1.length : Int)
   rotate_left
   ·rw [if_neg c4] at H
    have c4b0 : decide (x8_1 < (l0_1.length : Int)) = false := decide_eq_false c4
    clear c4
    by_cases c13 : (l0_0.length : Int) = 1
    rotate_left
    ·rw [if_neg c13] at H
     exact zN_ H
    rw [if_pos c13] at H
    have c13b0 : ((l0_0.length : Int) == 1) = true := beq_iff_eq.mpr c13
    have c13b1 : ((l0_0.length : Int) != 1) = false := bne_eq_false_iff_eq.mpr c13
    clear c13
    by_cases c14 : 0 < (l0_0.length : Int)
    rotate_left
    ·rw [if_neg c14] at H
     exact zN_ H
    rw [if_pos c14] at H
    have c14b0 : decide (0 < (l0_0.length : Int)) = true := decide_eq_true c14
    have c14b1 : decide (0 < l0_0.length) = true := decide_eq_true (by omega)
    clear c14
    replace H := zO_ H
    obtain ⟨t354, A150, H⟩ := H
    replace H : (some t354) = some r := H
    have A15 := zA_ A150
    clear A150
    obtain rfl := Option.some.inj H
    have hcz16_0 := zx_ (v := .slice A0_0 l0_0.length c0_0) BK349 0
    have hcz16_1 := zx_ (v := .slice A0_1 l0_1.length c0_1) BK349 1
    have hfz16_0 := blk_frozen BK349.out 0
    have hfz16_1 := blk_frozen BK349.out 1
    have p353 : 0 ≤ (0 : Int) := (by omega)
    have q353 : 0 < (l0_0.length : Int) := zD_
    obtain ⟨ad353, e353, hx353_0⟩ := Kd.at_int HR0_0.out 0 p353 q353
    cases e353
    have qi353 : (0 < l0_0.length) = True := eq_true (by omega)
    (try rw [show ((0 : Int)).toNat = 0 from rfl] at hx353_0)
    (try rw [Addr.add_zero'] at hx353_0)
    replace hx353_0 := (HB.out.cell (World.block_lt_of_cell? w _ hx353_0)).trans hx353_0
    replace p353 := eq_true p353
    replace q353 := eq_true q353
    go_wp2_with (first | ((with_reducible refine gate_callee (f := 292) rfl ?_); refine zg_ (some 25) Tryz.func292 #[.int .i64 (rd l0_0 0), .int .i64 1024] (h := ?_); (with_reducible refine (model_within.calls (rd l0_0 0) 1024 t354 _ A15.out).mono ?_); rintro e w' ⟨rfl, ⟨nd, rfl⟩⟩; refine ⟨_, rfl, ?_⟩))
    go_ret
    exact ⟨z0_, zw1_ HB GE349⟩
   rw [if_pos c4] at H
   have c4b0 : decide (x8_1 < (l0_1.length : Int)) = true := decide_eq_true c4
   clear c4
   by_cases c5 : 0 ≤ x8_1
   rotate_left
   ·rw [if_neg c5] at H
    exact zN_ H
   rw [if_pos c5] at H
   have c5b0 : decide (0 ≤ x8_1) = true := decide_eq_true c5
   clear c5
   by_cases c6 : x8_1 < (l0_1.length : Int)
   rotate_left
   ·rw [if_neg c6] at H
    exact zN_ H
   rw [if_pos c6] at H
   have c6b0 : decide (x8_1 < (l0_1.length : Int)) = true := decide_eq_true c6
   clear c6
   replace H := zO_ H
   obtain ⟨t352, A70, H⟩ := H
   replace H : (if t352 = true then (model_Net_good.l0 k1 l0_1 (l0_1.length : Int) (wrap64 (x8_1 + 1)) l0_0 l0_1) else (none)) = some r := H
   have A7 := zA_ A70
   clear A70
   by_cases c8 : t352 = true
   rotate_left
   ·replace c8 := Bool.eq_false_iff.mpr c8
    subst c8
    have H1 : (none) = some r := by rw [if_neg (show ¬ (false = true) by decide)] at H; exact H
    clear H
    have H := H1
    clear H1
    exact zN_ H
   subst c8
   have H1 : (model_Net_good.l0 k1 l0_1 (l0_1.length : Int) (wrap64 (x8_1 + 1)) l0_0 l0_1) = some r := by rw [if_pos rfl] at H; exact H
   clear H
   have H := H1
   clear H1
   have H' := zA_ H
   clear H
   have p350 : 0 ≤ (x8_1 : Int) := zD_
   have q350 : x8_1 < (l0_1.length : Int) := zD_
   obtain ⟨ad350, e350, hx350_0, hx350_1, hx350_2⟩ := at_T84 HR0_1.out x8_1 p350 q350
   cases e350
   replace hx350_0 := (HB.out.cell (World.block_lt_of_cell? w _ hx350_0)).trans hx350_0
   replace hx350_1 := (HB.out.cell (World.block_lt_of_cell? w _ hx350_1)).trans hx350_1
   replace hx350_2 := (HB.out.cell (World.block_lt_of_cell? w _ hx350_2)).trans hx350_2
   replace p350 := eq_true p350
   replace q350 := eq_true q350
   go_wp2_with (first | ((with_reducible refine gate_dst (N := 4) rfl ?_); refine zB_ (#[.string (⟨#[]⟩ : ByteArray), .int .i64 0, .int .i64 0]) 84 ?_; intro gb351 hg w9 hbox hb; have BK351 := zA_ (hbox); have GW351 := zA_ (zs_ hg (zw1_ HB GE349)); have GE351 := zA_ (zs_ hg (zw1_ HB GE349)); replace HB := zA_ (below_step (zw1_ HB GE349) hb); have NB349_351 := zA_ (zn_ hg BK349); have NB351_349 := zA_ (zm_ hg BK349); replace BK349 := za_ BK349 hb; clear hb hbox hg; have hnb10 := NB351_349.out; have hnc10 := NB349_351.out; have hcz11_0 := zx_ (v := .string (⟨#[]⟩ : ByteArray)) BK351 0; have hcz11_1 := zx_ (v := .int .i64 0) BK351 1; have hcz11_2 := zx_ (v := .int .i64 0) BK351 2; have hfz11_0 := blk_frozen BK351.out 0; have hfz11_1 := blk_frozen BK351.out 1; have hfz11_2 := blk_frozen BK351.out 2) | ((with_reducible refine gate_callee (f := 291) rfl ?_); refine zg_ (some 13) Tryz.func291 #[.agg #[.string ((rd_T84 l0_1 x8_1).f0), .int .i64 ((rd_T84 l0_1 x8_1).f1), .int .i64 ((rd_T84 l0_1 x8_1).f2)]] (h := ?_); (with_reducible refine (model_Layer_good.calls k1 ((rd_T84 l0_1 x8_1).f0) ((rd_T84 l0_1 x8_1).f1) ((rd_T84 l0_1 x8_1).f2) true _ A7.out).mono ?_); rintro e w12 ⟨rfl, hb⟩; refine ⟨_, rfl, ?_⟩; replace BK349 := zA_ (blk_below (g := gb349) (o := .cells #[.slice A0_0 l0_0.length c0_0, .slice (some ad350) l0_1.length c0_1] 35 (0, 0)) (zv1_ BK349 NB349_351) hb); replace BK351 := zA_ (blk_below (g := gb351) (o := .cells #[.string ((rd_T84 l0_1 x8_1).f0), .int .i64 ((rd_T84 l0_1 x8_1).f1), .int .i64 ((rd_T84 l0_1 x8_1).f2)] 84 (0, 0)) (by (with_reducible repeat (first | refine blk_drewN ?_ _ | refine blk_drew ?_ | refine blk_alloc ?_ _)); refine blk_put (cs := #[.string ((rd_T84 l0_1 x8_1).f0), .int .i64 ((rd_T84 l0_1 x8_1).f1), .int .i64 0]) ?_ 2 _ rfl; (with_reducible repeat (first | refine blk_drewN ?_ _ | refine blk_drew ?_ | refine blk_alloc ?_ _)); refine blk_put (cs := #[.string ((rd_T84 l0_1 x8_1).f0), .int .i64 0, .int .i64 0]) ?_ 1 _ rfl; (with_reducible repeat (first | refine blk_drewN ?_ _ | refine blk_drew ?_ | refine blk_alloc ?_ _)); refine blk_put (cs := #[.string (⟨#[]⟩ : ByteArray), .int .i64 0, .int .i64 0]) ?_ 0 _ rfl; (with_reducible repeat (first | refine blk_drewN ?_ _ | refine blk_drew ?_ | refine blk_alloc ?_ _)); exact BK351.out) hb); replace HB := zA_ (below_step (zw2_ HB GE349 GE351) hb); (try clear hb)))
   go_roundg k1
   case measure => have := HK1.out; omega
   case rel => exact ⟨(wrap64 (x8_1 + 1)), z1_, H', ⟨by have := HK1.out; omega⟩, ⟨zb_ BK349⟩, ⟨zw2_ HB GE349 GE351⟩⟩
def model_Layer_out.f (a0_0 : ByteArray) (a0_1 : Int) (a0_2 : Int) (l1 : List Int) : Option (List Int × Bool) := if a0_0.toList = ([100, 101, 110, 115, 101] : List UInt8) then (some ((([a0_1] : List Int)), true)) else (none)
theorem model_Layer_out.calls (a0_0 : ByteArray) (a0_1 : Int) (a0_2 : Int) (A1 : Option Addr) (c1 : Nat) (l1 : List Int) (r1 : List Int) (r2 : Bool) (w : World) (hr1 : Kd.C (Kd.int .i64) w A1 l1.length l1) (hc1 : l1.length ≤ c1) (h : model_Layer_out.f a0_0 a0_1 a0_2 l1 = some (r1, r2)) :
  Calls Tryz.prog 293 #[.agg #[.string a0_0, .int .i64 a0_1, .int .i64 a0_2], .slice A1 l1.length c1] w fun e w' => ∃ v0_ : Value, e = .returned (.tuple #[v0_, .bool r2]) ∧ Kd.R (Kd.int .i64) 3 w' w.heap.size (fun _ => True) v0_ r1 ∧ Below w.heap.size w w' := by
 have hu84 := Tryz.underlying84
 have HR1 := zA_ hr1
 have HC1 := zA_ hc1
 clear hr1 hc1
 have HB := zA_ (Below.refl w.heap.size w)
 have H : (if a0_0.toList = ([100, 101, 110, 115, 101] : List UInt8) then (some ((([a0_1] : List Int)), true)) else (none)) = some (r1, r2) := h
 clear h
 by_cases c3 : a0_0.toList = ([100, 101, 110, 115, 101] : List UInt8)
 rotate_left
 ·rw [if_neg c3] at H
  exact zN_ H
 rw [if_pos c3] at H
 have c3b0 : (a0_0.toList == ([100, 101, 110, 115, 101] : List UInt8)) = true := beq_iff_eq.mpr c3
 have c3b1 : (a0_0.toList != ([100, 101, 110, 115, 101] : List UInt8)) = false := bne_eq_false_iff_eq.mpr c3
 clear c3
 obtain ⟨y356, hy356⟩ : ∃ y_ : List Int, y_ = (([a0_1] : List Int)) := ⟨_, rfl⟩
 replace H : (some (y356, true)) = some (r1, r2) := by first | (rw [hy356]; with_reducible exact H) | (have H2_ := (Option.bind_some _ _).symm.trans H; rw [hy356]; with_reducible exact H2_) | (have H2_ := (Option.bind_some _ _).symm.trans H; with_reducible exact H2_) | with_reducible exact H | (rw [hy356]; exact H) | exact H
 have Ny356 := zA_ hy356
 clear hy356
 simp only [Option.some.injEq, Prod.mk.injEq] at H
 obtain ⟨rfl, rfl⟩ := H
 go_enter Tryz.func293, Tryz.ntmps293
 go_wp2_with (first | ((with_reducible refine gate_dst (N := 2) rfl ?_); refine zB_ (#[.string a0_0, .int .i64 a0_1, .int .i64 a0_2]) 84 ?_; intro gb355 hg w4 hbox hb; have BK355 := zA_ (hbox); have GW355 := zA_ (zs_ hg (zw0_ HB)); have GE355 := zA_ (zs_ hg (zw0_ HB)); replace HB := zA_ (below_step (zw0_ HB) hb); clear hb hbox hg; have hcz5_0 := zx_ (v := .string a0_0) BK355 0; have hcz5_1 := zx_ (v := .int .i64 a0_1) BK355 1; have hcz5_2 := zx_ (v := .int .i64 a0_2) BK355 2; have hfz5_0 := blk_frozen BK355.out 0; have hfz5_1 := blk_frozen BK355.out 1; have hfz5_2 := blk_frozen BK355.out 2) | ((with_reducible refine gate_dst (N := 12) rfl ?_); refine Kd.R_lit (Kd.int .i64) _ 3 ?hg (N := 12) ?hd (xs := ([a0_1] : List Int)) (inner := [.int .i64 a0_1]) (ok := fun _ => True) (okp := fun _ => True) ?hr ?hp (fun _ hk => hk) trivial (Below.refl _ _) (Nat.le_refl _) (by simp) ?_; (case hd => rfl); (case hg => rfl); (case hr => first | (go_simp; done) | (go_simp; rfl)); (case hp => exact (Reps.one (show Kd.M (Kd.int .i64) _ _ _ a0_1 [.int .i64 a0_1] from rfl) (Reps.none _ _))); intro v357 w6 ho7 hb hg_ hnew_; clear hg_ hnew_; (first | rw [← Ny356.out] at ho7 | (simp only [Int.reduceToNat] at ho7; rw [← Ny356.out] at ho7)); have HO358 := zA_ (Kd.R_lower ho7 (below_size (zw1_ HB GE355))); replace BK355 := za_ BK355 hb; replace HB := zA_ (below_step (zw1_ HB GE355) hb); clear hb ho7))
 go_ret2
 exact ⟨_, z0_, zr_ HO358.out, zw1_ HB GE355⟩
def slices_Equal_int_int.l0 : Nat → List Int → List Int → Int → Int → Option (Bool)
 | 0, _, _, _, _ => none
 | k + 1, x0, x1, x12, x13 => if x13 < x12 then (if 0 ≤ x13 then (if x13 < (x0.length : Int) then (if x13 < (x1.length : Int) then (if (rd x0 x13) = (rd x1 x13) then (slices_Equal_int_int.l0 k x0 x1 x12 (wrap64 (x13 + 1))) else (some false)) else (none)) else (none)) else (none)) else (some true)
def slices_Equal_int_int.f (k : Nat) (l0 : List Int) (l1 : List Int) : Option (Bool) := if (l0.length : Int) = (l1.length : Int) then (slices_Equal_int_int.l0 k l0 l1 (l0.length : Int) 0) else (some false)
theorem slices_Equal_int_int.calls (k : Nat) (A0 : Option Addr) (c0 : Nat) (l0 : List Int) (A1 : Option Addr) (c1 : Nat) (l1 : List Int) (r : Bool) (w : World) (hr0 : Kd.C (Kd.int .i64) w A0 l0.length l0) (hc0 : l0.length ≤ c0) (hr1 : Kd.C (Kd.int .i64) w A1 l1.length l1) (hc1 : l1.length ≤ c1) (h : slices_Equal_int_int.f k l0 l1 = some r) :
  Calls Tryz.prog 339 #[.slice A0 l0.length c0, .slice A1 l1.length c1] w fun e w' => e = .returned (.bool r) ∧ Drawn0 w w' := by
 have HR0 := zA_ hr0
 have HC0 := zA_ hc0
 clear hr0 hc0
 have HR1 := zA_ hr1
 have HC1 := zA_ hc1
 clear hr1 hc1
 have H : (if (l0.length : Int) = (l1.length : Int) then (slices_Equal_int_int.l0 k l0 l1 (l0.length : Int) 0) else (some false)) = some r := h
 clear h
 by_cases c3 : (l0.length : Int) = (l1.length : Int)
 rotate_left
 ·rw [if_neg c3] at H
  have c3b0 : ((l0.length : Int) == (l1.length : Int)) = false := beq_eq_false_iff_ne.mpr c3
  have c3b1 : ((l0.length : Int) != (l1.length : Int)) = true := bne_iff_ne.mpr c3
  have c3b2 : (l0.length == l1.length) = false := by first | simpa using c3 | (simp at c3 ⊢; omega)
  obtain rfl := Option.some.inj H
  go_enter Tryz.func339, Tryz.ntmps339
  go_wp2
  repeat (go_quiet (fail); try go_wp2)
  go_ret
  exact ⟨z1_, zE_⟩
 rw [if_pos c3] at H
 have c3b0 : ((l0.length : Int) == (l1.length : Int)) = true := beq_iff_eq.mpr c3
 have c3b1 : ((l0.length : Int) != (l1.length : Int)) = false := bne_eq_false_iff_eq.mpr c3
 have c3b2 : (l0.length == l1.length) = true := by first | simpa using c3 | (simp at c3 ⊢; omega)
 clear c3
 have H' := zA_ H
 clear H
 go_enter Tryz.func339, Tryz.ntmps339
 go_wp2
 repeat (go_quiet (fail); try go_wp2)
 go_loopg [13] k (fun kq v13 w' => ∃ (x13_1 : Int), v13 = .int .i64 x13_1 ∧ Aside0 (slices_Equal_int_int.l0 kq l0 l1 (l0.length : Int) x13_1 = some r) ∧ Aside0 (kq ≤ k) ∧ Drawn0 w w')
 case atStart => exact ⟨(0), z1_, H', ⟨Nat.le_refl _⟩, by repeat (first | exact Drawn0.refl _ | apply Drawn0.step)⟩
 case round =>
  clear H'
  try clear p2
  try clear c3b0
  try clear c3b1
  try clear c3b2
  obtain ⟨x13_1, rfl, HA, HK1, ⟨m1, rfl⟩⟩ := hrel
  cases gk with
  | zero => exact absurd HA.out (by simp [slices_Equal_int_int.l0])
  | succ k1 =>
   have H := HA.out
   clear HA
   simp only [slices_Equal_int_int.l0] at H
   by_cases c4 : x13_1 < (l0.length : Int)
   rotate_left
   ·rw [if_neg c4] at H
    have c4b0 : decide (x13_1 < (l0.length : Int)) = false := decide_eq_false c4
    clear c4
    obtain rfl := Option.some.inj H
    go_wp2
    repeat (go_quiet (fail); try go_wp2)
    go_ret
    exact ⟨z1_, zE_⟩
   rw [if_pos c4] at H
   have c4b0 : decide (x13_1 < (l0.length : Int)) = true := decide_eq_true c4
   clear c4
   by_cases c5 : 0 ≤ x13_1
   rotate_left
   ·rw [if_neg c5] at H
    exact zN_ H
   rw [if_pos c5] at H
   have c5b0 : decide (0 ≤ x13_1) = true := decide_eq_true c5
   clear c5
   by_cases c6 : x13_1 < (l0.length : Int)
   rotate_left
   ·rw [if_neg c6] at H
    exact zN_ H
   rw [if_pos c6] at H
   have c6b0 : decide (x13_1 < (l0.length : Int)) = true := decide_eq_true c6
   clear c6
   by_cases c7 : x13_1 < (l1.length : Int)
   rotate_left
   ·rw [if_neg c7] at H
    exact zN_ H
   rw [if_pos c7] at H
   have c7b0 : decide (x13_1 < (l1.length : Int)) = true := decide_eq_true c7
   clear c7
   by_cases c8 : (rd l0 x13_1) = (rd l1 x13_1)
   rotate_left
   ·rw [if_neg c8] at H
    have c8b0 : ((rd l0 x13_1) == (rd l1 x13_1)) = false := beq_eq_false_iff_ne.mpr c8
    have c8b1 : ((rd l0 x13_1) != (rd l1 x13_1)) = true := bne_iff_ne.mpr c8
    obtain rfl := Option.some.inj H
    have p359 : 0 ≤ (x13_1 : Int) := zD_
    have q359 : x13_1 < (l0.length : Int) := zD_
    obtain ⟨ad359, e359, hx359_0⟩ := Kd.at_int HR0.out x13_1 p359 q359
    cases e359
    replace p359 := eq_true p359
    replace q359 := eq_true q359
    have p360 : 0 ≤ (x13_1 : Int) := zD_
    have q360 : x13_1 < (l1.length : Int) := zD_
    obtain ⟨ad360, e360, hx360_0⟩ := Kd.at_int HR1.out x13_1 p360 q360
    cases e360
    replace p360 := eq_true p360
    replace q360 := eq_true q360
    go_wp2
    repeat (go_quiet (fail); try go_wp2)
    go_ret
    exact ⟨z1_, zE_⟩
   rw [if_pos c8] at H
   have c8b0 : ((rd l0 x13_1) == (rd l1 x13_1)) = true := beq_iff_eq.mpr c8
   have c8b1 : ((rd l0 x13_1) != (rd l1 x13_1)) = false := bne_eq_false_iff_eq.mpr c8
   clear c8
   have H' := zA_ H
   clear H
   have p359 : 0 ≤ (x13_1 : Int) := zD_
   have q359 : x13_1 < (l0.length : Int) := zD_
   obtain ⟨ad359, e359, hx359_0⟩ := Kd.at_int HR0.out x13_1 p359 q359
   cases e359
   replace p359 := eq_true p359
   replace q359 := eq_true q359
   have p360 : 0 ≤ (x13_1 : Int) := zD_
   have q360 : x13_1 < (l1.length : Int) := zD_
   obtain ⟨ad360, e360, hx360_0⟩ := Kd.at_int HR1.out x13_1 p360 q360
   cases e360
   replace p360 := eq_true p360
   replace q360 := eq_true q360
   go_wp2
   repeat (go_quiet (fail); try go_wp2)
   go_roundg k1
   case measure => have := HK1.out; omega
   case rel => exact ⟨(wrap64 (x13_1 + 1)), z1_, H', ⟨by have := HK1.out; omega⟩, by repeat (first | exact Drawn0.refl _ | apply Drawn0.step)⟩
def shape_Same.f (k : Nat) (l0 : List Int) (l1 : List Int) : Option (Bool) := (slices_Equal_int_int.f k l0 l1).bind fun t361 => (some t361)
theorem shape_Same.calls (k : Nat) (A0 : Option Addr) (c0 : Nat) (l0 : List Int) (A1 : Option Addr) (c1 : Nat) (l1 : List Int) (r : Bool) (w : World) (hr0 : Kd.C (Kd.int .i64) w A0 l0.length l0) (hc0 : l0.length ≤ c0) (hr1 : Kd.C (Kd.int .i64) w A1 l1.length l1) (hc1 : l1.length ≤ c1) (h : shape_Same.f k l0 l1 = some r) :
  Calls Tryz.prog 309 #[.slice A0 l0.length c0, .slice A1 l1.length c1] w fun e w' => e = .returned (.bool r) ∧ Drawn0 w w' := by
 have HR0 := zA_ hr0
 have HC0 := zA_ hc0
 clear hr0 hc0
 have HR1 := zA_ hr1
 have HC1 := zA_ hc1
 clear hr1 hc1
 have H : ((slices_Equal_int_int.f k l0 l1).bind fun t361 => (some t361)) = some r := h
 clear h
 replace H := zO_ H
 obtain ⟨t361, A30, H⟩ := H
 replace H : (some t361) = some r := H
 have A3 := zA_ A30
 clear A30
 obtain rfl := Option.some.inj H
 go_enter Tryz.func309, Tryz.ntmps309
 go_wp2_with (first | ((with_reducible refine gate_callee (f := 339) rfl ?_); refine zg_ (some 7) Tryz.func339 #[.slice A0 l0.length c0, .slice A1 l1.length c1] (h := ?_); (with_reducible refine (slices_Equal_int_int.calls k _ _ l0 _ _ l1 t361 _ ?side1 ?side2 ?side3 ?side4 A3.out).mono ?_); (case side1 => repeat (first | exact HR0.out | (with_reducible refine Kd.C_alloc ?_ _) | (with_reducible refine Kd.C_drewN ?_ _) | (with_reducible refine Kd.C_drew ?_))); (case side2 => exact HC0.out); (case side3 => repeat (first | exact HR1.out | (with_reducible refine Kd.C_alloc ?_ _) | (with_reducible refine Kd.C_drewN ?_ _) | (with_reducible refine Kd.C_drew ?_))); (case side4 => exact HC1.out); rintro e w' ⟨rfl, ⟨nd, rfl⟩⟩; refine ⟨_, rfl, ?_⟩))
 go_ret
 exact ⟨z1_, zE_⟩
def slices_Clone_Fix.f (l0 : List Int) : Option (List Int) := if l0.length < 17592186044416 then some l0 else none
theorem slices_Clone_Fix.calls (A0 : Option Addr) (c0 : Nat) (l0 : List Int) (r : List Int) (w : World) (hr0 : Kd.C (Kd.int .i64) w A0 l0.length l0) (hc0 : l0.length ≤ c0) (h : slices_Clone_Fix.f l0 = some r) :
  Calls Tryz.prog 111 #[.slice A0 l0.length c0] w fun e w' => ∃ v0_ : Value, e = .returned (v0_) ∧ Kd.R (Kd.int .i64) 36 w' w.heap.size (fun _ => True) v0_ r ∧ Below w.heap.size w w' := by
 have HR0 := zA_ hr0
 have HC0 := zA_ hc0
 clear hc0
 have HB := zA_ (Below.refl w.heap.size w)
 have heq : ∀ (w : World) (a : Option Addr) (n c n' c' : Nat), (binOp .eql 40 (.slice a n c) (.slice none n' c')).run Tryz.prog w = .ok (.bool a.isNone) w := fun w a n c n' c' => Lib.run_eql_slice_nil w _ _ a n c n' c' Tryz.underlying40
 unfold slices_Clone_Fix.f at h
 by_cases c3 : l0.length < 17592186044416
 rotate_left
 ·rw [if_neg c3] at h
  cases h
 rw [if_pos c3] at h
 obtain rfl := Option.some.inj h
 have LMc3 := zA_ c3
 clear c3 h
 cases A0 with
 | none =>
  have e0 : l0 = [] := by
   cases l0 with
   | nil => rfl
   | cons x xs => obtain ⟨ad, e, _⟩ := hr0.2.2 (by simp); cases e
  subst e0
  clear hr0
  go_enter Tryz.func111, Tryz.ntmps111
  go_wp2
  go_ret
  exact ⟨_, rfl, Kd.R_nil _ _ _ _ _, Below.refl _ _⟩
 | some a0 =>
  clear hr0
  obtain ⟨y0, hy0⟩ : ∃ y_ : List Int, y_ = (([] : List Int)) := ⟨_, rfl⟩
  have Ny0 := zA_ hy0
  have LMc4 : Aside0 (y0.length + l0.length < 17592186044416) := ⟨by rw [hy0]; simpa using LMc3.out⟩
  obtain ⟨y1, hy1⟩ : ∃ y_ : List Int, y_ = y0 ++ l0 := ⟨_, rfl⟩
  have e1 : y1 = l0 := by rw [hy1, hy0]; rfl
  have Ny1 := zA_ hy1
  have E1 := zA_ e1
  clear hy0 hy1 e1
  go_enter Tryz.func111, Tryz.ntmps111
  go_wp2_with (first | ((with_reducible refine gate_dst (N := 5) rfl ?_); refine Kd.R_lit (Kd.int .i64) _ 36 ?hg (N := 5) ?hd (xs := ([] : List Int)) (inner := []) (ok := fun _ => True) (okp := fun _ => True) ?hr ?hp (fun _ hk => hk) trivial (Below.refl _ _) (Nat.le_refl _) (by simp) ?_; (case hd => rfl); (case hg => rfl); (case hr => first | (go_simp; done) | (go_simp; rfl)); (case hp => exact (Reps.none _ _)); intro v182 w8 ho9 hb hg_ hnew_; clear hg_ hnew_; rw [← Ny0.out] at ho9; have n0_ := zA_ (Kd.R_lower ho9 (below_size (zw0_ HB))); have n2_ := zA_ (below_step (zw0_ HB) hb); clear HB; have HO183 := n0_; have HB := n2_; clear n0_ n2_; clear hb ho9) | ((with_reducible refine gate_builtin (b := .append) (xs := #[.tmp 5, .tmp 6]) rfl ?_); at_builtin; refine Kd.R_append_rows (Kd.int .i64) (w0 := w) w.heap.size rfl (.tmp 5) (.tmp 6) 40 36 (.int .i64 0) 8 rfl Tryz.underlying40 info36 rfl (by decide) (by omega) v182 y0 l0 _ _ _ (fun _ => True) (fun _ => False) rfl rfl ?aO ?aR (fun _ _ h => h) (fun _ h => h.elim) ?aF ?aB ?aS ?aL ?_; (case aR => exact zk_ (Kd.C_below HR0.out HB.out)); (case aB => exact (zw0_ HB)); (case aF => exact (fun _ _ => trivial)); (case aO => exact (zr_ HO183.out)); (case aS => exact (below_size (zw0_ HB))); (case aL => have := LMc4.out; omega); intro v185 w10 ho hb hg hat; rw [← Ny1.out] at ho; have n1_ := zA_ (hb); have n2_ := zA_ (ho); clear HB HO183; have HB := n1_; have HO186 := n2_; clear n1_ n2_; clear ho hb hg hat))
  go_ret
  exact ⟨_, rfl, by rw [← E1.out]; exact HO186.out, HB.out⟩
def tens_Copy.f (l0_0 : List Int) (l0_1 : List Int) : Option (List Int × List Int) := (slices_Clone_int_int.f l0_0).bind fun t406 => ((slices_Clone_Fix.f l0_1).bind fun t409 => (some (t406, t409)))
def tens_Copy.T1 : Bool × List (List Nat × List Nat) := (true, [([], []), ([0], [0]), ([1], [1]), ([], []), ([3], [3]), ([4, 2], [4]), ([2, 5], [2, 5]), ([6, 5, 0, 1, 2, 3, 4, 5, 6], [6])])
def tens_Copy.B1 : List Nat := [0, 1, 3, 0, 8, 31, 63, 127]
theorem tens_Copy.tab1 : rtab .any (opsOf Tryz.f307 1) = tens_Copy.T1 := by kernel_rfl
theorem tens_Copy.bits1 : waitsOk tens_Copy.T1.2 tens_Copy.B1 = true := by kernel_rfl
theorem tens_Copy.calls (A0_0 : Option Addr) (c0_0 : Nat) (l0_0 : List Int) (A0_1 : Option Addr) (c0_1 : Nat) (l0_1 : List Int) (r1 : List Int) (r2 : List Int) (w : World) (hr0_0 : Kd.C (Kd.int .i64) w A0_0 l0_0.length l0_0) (hc0_0 : l0_0.length ≤ c0_0) (hr0_1 : Kd.C (Kd.int .i64) w A0_1 l0_1.length l0_1) (hc0_1 : l0_1.length ≤ c0_1) (h : tens_Copy.f l0_0 l0_1 = some (r1, r2)) :
  Calls Tryz.prog 307 #[.agg #[.slice A0_0 l0_0.length c0_0, .slice A0_1 l0_1.length c0_1]] w fun e w' => ∃ v0_ v1_ : Value, e = .returned (.agg #[v0_, v1_]) ∧ Kd.R (Kd.int .i64) 3 w' w.heap.size (fun _ => True) v0_ r1 ∧ Kd.R (Kd.int .i64) 36 w' w.heap.size (fun _ => True) v1_ r2 ∧ Below w.heap.size w w' := by
 have hu273 := Tryz.underlying273
 have HR0_0 := zA_ hr0_0
 have HC0_0 := zA_ hc0_0
 clear hr0_0 hc0_0
 have HR0_1 := zA_ hr0_1
 have HC0_1 := zA_ hc0_1
 clear hr0_1 hc0_1
 have HB := zA_ (Below.refl w.heap.size w)
 have H : ((slices_Clone_int_int.f l0_0).bind fun t406 => ((slices_Clone_Fix.f l0_1).bind fun t409 => (some (t406, t409)))) = some (r1, r2) := h
 clear h
 replace H := zO_ H
 obtain ⟨t406, A20, H⟩ := H
 replace H : ((slices_Clone_Fix.f l0_1).bind fun t409 => (some (t406, t409))) = some (r1, r2) := H
 have A2 := zA_ A20
 clear A20
 replace H := zO_ H
 obtain ⟨t409, A30, H⟩ := H
 replace H : (some (t406, t409)) = some (r1, r2) := H
 have A3 := zA_ A30
 clear A30
 simp only [Option.some.injEq, Prod.mk.injEq] at H
 obtain ⟨rfl, rfl⟩ := H
 go_enter Tryz.func307, Tryz.ntmps307
 try go_wp2_with (first | ((with_reducible refine gate_dst (N := 1) rfl ?_); refine zB_ (#[.slice A0_0 l0_0.length c0_0, .slice A0_1 l0_1.length c0_1]) 273 ?_; intro gb404 hg w4 hbox hb; have BK404 := zA_ (hbox); have GW404 := zA_ (zs_ hg (zw0_ HB)); have GE404 := zA_ (zs_ hg (zw0_ HB)); replace HB := zA_ (below_step (zw0_ HB) hb); clear hb hbox hg) | ((with_reducible refine gate_dst (N := 2) rfl ?_); refine zB_ (#[.slice none 0 0, .slice none 0 0]) 273 ?_; intro gb405 hg w5 hbox hb; have BK405 := zA_ (hbox); have GW405 := zA_ (zs_ hg (zw1_ HB GE404)); have GE405 := zA_ (zs_ hg (zw1_ HB GE404)); replace HB := zA_ (below_step (zw1_ HB GE404) hb); have NB404_405 := zA_ (zn_ hg BK404); have NB405_404 := zA_ (zm_ hg BK404); replace BK404 := za_ BK404 hb; clear hb hbox hg))
 replace BK404 := zA_ (blk_drew BK404.out)
 replace BK405 := zA_ (blk_drew BK405.out)
 replace HB := zA_ (below_drew1 HB.out)
 refine start_ (n := 8) (S := fun w' => w'.cell? ⟨gb404, 0, none⟩ = some (.slice A0_0 l0_0.length c0_0) ∧ w'.cell? ⟨gb404, 1, none⟩ = some (.slice A0_1 l0_1.length c0_1)) (ds := []) #[false, false, false, false, false, false, false, false] (by kernel_rfl) rfl rfl ⟨(blk_cell BK404.out 0).trans rfl, (blk_cell BK404.out 1).trans rfl⟩ (fun hHeld => ?_); refine with_tabW tens_Copy.tab1 tens_Copy.bits1 (fun HT_ HW_ => ?_)
 generalize w5.drew = w6 at BK404 BK405 HB hHeld ⊢
 refine yp_ ?_ 0 3
 refine yp_ ?_ 3 6
 refine yt2_ ?_ 1 4
 refine yt2_ ?_ 4 7
 refine yo_ 2 (some 5) (fun K hK => ?_)
 refine yg_ Tryz.func14 #[.slice A0_0 l0_0.length c0_0] ?_
 with_reducible refine (slices_Clone_int_int.calls _ _ l0_0 t406 _ ?side1 ?side2 A2.out).mono ?_
 (case side1 => exact zk_ (Kd.C_below HR0_0.out HB.out))
 (case side2 => exact HC0_0.out)
 rintro e w7 ⟨v407, rfl, ho0, hb⟩
 refine ⟨_, rfl, ?_⟩
 have HO408 := zA_ (Kd.R_lower ho0 (below_size (zw2_ HB GE404 GE405)))
 replace BK404 := za_ BK404 hb
 replace BK405 := za_ BK405 hb
 replace HB := zA_ (below_step (zw2_ HB GE404 GE405) hb)
 (try clear hb)
 (try clear hb2)
 (try clear hk)
 (try clear hi)
 (try clear ho0)
 refine hK.out _ _ ⟨zx_ BK404 0, zx_ BK404 1⟩ (fun hHeld => ?_)
 clear hK K
 refine zq_ (some 5) (h := ?_)
 refine yo_ 5 (some 8) (fun K hK => ?_)
 refine yg_ Tryz.func111 #[.slice A0_1 l0_1.length c0_1] ?_
 with_reducible refine (slices_Clone_Fix.calls _ _ l0_1 t409 _ ?side1 ?side2 A3.out).mono ?_
 (case side1 => exact zk_ (Kd.C_below HR0_1.out HB.out))
 (case side2 => exact HC0_1.out)
 rintro e w8 ⟨v410, rfl, ho0, hb⟩
 refine ⟨_, rfl, ?_⟩
 replace HO408 := zy_ HO408 hb
 have HO411 := zA_ (Kd.R_lower ho0 (below_size (zw2_ HB GE404 GE405)))
 replace BK404 := za_ BK404 hb
 replace BK405 := za_ BK405 hb
 replace HB := zA_ (below_step (zw2_ HB GE404 GE405) hb)
 (try clear hb)
 (try clear hb2)
 (try clear hk)
 (try clear hi)
 (try clear ho0)
 obtain ⟨Ao9, co9, eo9⟩ := Kd.R_slice HO411.out
 (first | subst eo9 | (injection eo9 with f1_ f2_ f3_; have f4_ := f1_.symm; have f5_ := f3_.symm; clear f1_ f2_ f3_; subst f4_; subst f5_))
 obtain ⟨Ao10, co10, eo10⟩ := Kd.R_slice HO408.out
 (first | subst eo10 | (injection eo10 with f1_ f2_ f3_; have f4_ := f1_.symm; have f5_ := f3_.symm; clear f1_ f2_ f3_; subst f4_; subst f5_))
 refine hK.out _ _ ⟨zx_ BK404 0, zx_ BK404 1⟩ (fun hHeld => ?_)
 clear hK K
 refine zq_ (some 8) (h := ?_)
 refine yp_ ?_ 6 9
 refine yo_ 7 none (fun K hK => ?_)
 have hs11 := zx_ (v := .slice none 0 0) BK405 0
 have hfs11 := blk_frozen BK405.out 0
 have hns11_0 := NB404_405.out
 have hms11_0 := NB405_404.out
 have hs12 := zx_ (v := .slice none 0 0) BK405 1
 have hfs12 := blk_frozen BK405.out 1
 have hns12_0 := NB404_405.out
 have hms12_0 := NB405_404.out
 refine skip_ (w1 := ?_) (by rfl) rfl ?_ ?_
 rotate_left
 ·go_simp
  rfl
 refine hK.out _ _ ⟨((cell_far (p := ⟨gb405, _, none⟩) NB404_405.out _).trans (((cell_far (p := ⟨gb405, _, none⟩) NB404_405.out _).trans (hHeld.1)))), ((cell_far (p := ⟨gb405, _, none⟩) NB404_405.out _).trans (((cell_far (p := ⟨gb405, _, none⟩) NB404_405.out _).trans (hHeld.2))))⟩ (fun hHeld => ?_)
 clear hK K
 refine done_ (done_of HT_.out (by kernel_rfl)) ?_
 try go_wp2
 refine bodyPost_ret (results_cell_row rfl _ _ gb405 273 #[.slice Ao10 t406.length co10, .slice Ao9 t409.length co9] (0, 0) _ rfl (zo2_ BK405) Tryz.underlying273 rfl (by kernel_rfl)) rfl ?_
 exact ⟨_, _, z0_, zr_ (Kd.R_mono (Kd.R_far (p := ⟨gb405, 1, none⟩) (Kd.R_far (p := ⟨gb405, 0, none⟩) (Kd.R_types HO408.out BK405.out (by decide)) (fun _ hk => hk.2) (.slice Ao10 t406.length co10)) (fun _ hk => hk.2) (.slice Ao9 t409.length co9)) (fun _ hk => trivial)), zr_ (Kd.R_mono (Kd.R_far (p := ⟨gb405, 1, none⟩) (Kd.R_far (p := ⟨gb405, 0, none⟩) (Kd.R_types HO411.out BK405.out (by decide)) (fun _ hk => hk.2) (.slice Ao10 t406.length co10)) (fun _ hk => hk.2) (.slice Ao9 t409.length co9)) (fun _ hk => trivial)), zw2_ HB GE404 GE405⟩
def shape_Size.f (k : Nat) (l0 : List Int) : Option (Int) := (shape_product.f k l0).bind fun t412 => (some t412)
theorem shape_Size.calls (k : Nat) (A0 : Option Addr) (c0 : Nat) (l0 : List Int) (r : Int) (w : World) (hr0 : Kd.C (Kd.int .i64) w A0 l0.length l0) (hc0 : l0.length ≤ c0) (h : shape_Size.f k l0 = some r) :
  Calls Tryz.prog 305 #[.slice A0 l0.length c0] w fun e w' => e = .returned (.int .i64 r) ∧ Drawn0 w w' := by
 have HR0 := zA_ hr0
 have HC0 := zA_ hc0
 clear hr0 hc0
 have H : ((shape_product.f k l0).bind fun t412 => (some t412)) = some r := h
 clear h
 replace H := zO_ H
 obtain ⟨t412, A20, H⟩ := H
 replace H : (some t412) = some r := H
 have A2 := zA_ A20
 clear A20
 obtain rfl := Option.some.inj H
 go_enter Tryz.func305, Tryz.ntmps305
 go_wp2_with (first | ((with_reducible refine gate_callee (f := 295) rfl ?_); refine zg_ (some 4) Tryz.func295 #[.slice A0 l0.length c0] (h := ?_); (with_reducible refine (shape_product.calls k _ _ l0 t412 _ ?side1 ?side2 A2.out).mono ?_); (case side1 => repeat (first | exact HR0.out | (with_reducible refine Kd.C_alloc ?_ _) | (with_reducible refine Kd.C_drewN ?_ _) | (with_reducible refine Kd.C_drew ?_))); (case side2 => exact HC0.out); rintro e w' ⟨rfl, ⟨nd, rfl⟩⟩; refine ⟨_, rfl, ?_⟩))
 go_ret
 exact ⟨z1_, zE_⟩
def tens_Good.f (k : Nat) (l0_0 : List Int) (l0_1 : List Int) : Option (Bool) := (shape_Good.f k l0_0).bind fun t414 => (if t414 = true then ((shape_Size.f k l0_0).bind fun t415 => (some ((l0_1.length : Int) == t415))) else (some false))
theorem tens_Good.calls (k : Nat) (A0_0 : Option Addr) (c0_0 : Nat) (l0_0 : List Int) (A0_1 : Option Addr) (c0_1 : Nat) (l0_1 : List Int) (r : Bool) (w : World) (hr0_0 : Kd.C (Kd.int .i64) w A0_0 l0_0.length l0_0) (hc0_0 : l0_0.length ≤ c0_0) (hr0_1 : Kd.C (Kd.int .i64) w A0_1 l0_1.length l0_1) (hc0_1 : l0_1.length ≤ c0_1) (h : tens_Good.f k l0_0 l0_1 = some r) :
  Calls Tryz.prog 308 #[.agg #[.slice A0_0 l0_0.length c0_0, .slice A0_1 l0_1.length c0_1]] w fun e w' => e = .returned (.bool r) ∧ Below w.heap.size w w' := by
 have hu273 := Tryz.underlying273
 have HR0_0 := zA_ hr0_0
 have HC0_0 := zA_ hc0_0
 clear hr0_0 hc0_0
 have HR0_1 := zA_ hr0_1
 have HC0_1 := zA_ hc0_1
 clear hr0_1 hc0_1
 have HB := zA_ (Below.refl w.heap.size w)
 have H : ((shape_Good.f k l0_0).bind fun t414 => (if t414 = true then ((shape_Size.f k l0_0).bind fun t415 => (some ((l0_1.length : Int) == t415))) else (some false))) = some r := h
 clear h
 replace H := zO_ H
 obtain ⟨t414, A20, H⟩ := H
 replace H : (if t414 = true then ((shape_Size.f k l0_0).bind fun t415 => (some ((l0_1.length : Int) == t415))) else (some false)) = some r := H
 have A2 := zA_ A20
 clear A20
 by_cases c3 : t414 = true
 rotate_left
 ·replace c3 := Bool.eq_false_iff.mpr c3
  subst c3
  have H1 : (some false) = some r := by rw [if_neg (show ¬ (false = true) by decide)] at H; exact H
  clear H
  have H := H1
  clear H1
  obtain rfl := Option.some.inj H
  go_enter Tryz.func308, Tryz.ntmps308
  go_wp2_with (first | ((with_reducible refine gate_dst (N := 1) rfl ?_); (try (refine gate_guard (by rfl) ?_; dsimp only)); refine zB_ (#[.slice A0_0 l0_0.length c0_0, .slice A0_1 l0_1.length c0_1]) 273 ?_; intro gb413 hg w7 hbox hb; have BK413 := zA_ (hbox); have GW413 := zA_ (zs_ hg (zw0_ HB)); have GE413 := zA_ (zs_ hg (zw0_ HB)); replace HB := zA_ (below_step (zw0_ HB) hb); clear hb hbox hg; have hcz8_0 := zx_ (v := .slice A0_0 l0_0.length c0_0) BK413 0; have hcz8_1 := zx_ (v := .slice A0_1 l0_1.length c0_1) BK413 1; have hfz8_0 := blk_frozen BK413.out 0; have hfz8_1 := blk_frozen BK413.out 1) | (go_at_call 242; (with_reducible refine (shape_Good.calls k _ _ l0_0 false _ ?side1 ?side2 A2.out).mono ?_); (case side1 => exact zk_ (Kd.C_below HR0_0.out HB.out)); (case side2 => exact HC0_0.out); rintro e w' ⟨rfl, ⟨nd, rfl⟩⟩; (try first | exact ⟨rfl, _, World.drewN_drewN _ _ _⟩ | exact ⟨rfl, _, Eq.trans (World.drewN_drewN _ _ _) (congrArg (World.drewN _) (Nat.add_assoc _ _ _))⟩)))
  repeat (go_quiet (first | ((with_reducible refine gate_dst (N := 1) rfl ?_); (try (refine gate_guard (by rfl) ?_; dsimp only)); refine zB_ (#[.slice A0_0 l0_0.length c0_0, .slice A0_1 l0_1.length c0_1]) 273 ?_; intro gb413 hg w7 hbox hb; have BK413 := zA_ (hbox); have GW413 := zA_ (zs_ hg (zw0_ HB)); have GE413 := zA_ (zs_ hg (zw0_ HB)); replace HB := zA_ (below_step (zw0_ HB) hb); clear hb hbox hg; have hcz8_0 := zx_ (v := .slice A0_0 l0_0.length c0_0) BK413 0; have hcz8_1 := zx_ (v := .slice A0_1 l0_1.length c0_1) BK413 1; have hfz8_0 := blk_frozen BK413.out 0; have hfz8_1 := blk_frozen BK413.out 1) | (go_at_call 242; (with_reducible refine (shape_Good.calls k _ _ l0_0 false _ ?side1 ?side2 A2.out).mono ?_); (case side1 => exact zk_ (Kd.C_below HR0_0.out HB.out)); (case side2 => exact HC0_0.out); rintro e w' ⟨rfl, ⟨nd, rfl⟩⟩; (try first | exact ⟨rfl, _, World.drewN_drewN _ _ _⟩ | exact ⟨rfl, _, Eq.trans (World.drewN_drewN _ _ _) (congrArg (World.drewN _) (Nat.add_assoc _ _ _))⟩))); try go_wp2_with (first | ((with_reducible refine gate_dst (N := 1) rfl ?_); (try (refine gate_guard (by rfl) ?_; dsimp only)); refine zB_ (#[.slice A0_0 l0_0.length c0_0, .slice A0_1 l0_1.length c0_1]) 273 ?_; intro gb413 hg w7 hbox hb; have BK413 := zA_ (hbox); have GW413 := zA_ (zs_ hg (zw0_ HB)); have GE413 := zA_ (zs_ hg (zw0_ HB)); replace HB := zA_ (below_step (zw0_ HB) hb); clear hb hbox hg; have hcz8_0 := zx_ (v := .slice A0_0 l0_0.length c0_0) BK413 0; have hcz8_1 := zx_ (v := .slice A0_1 l0_1.length c0_1) BK413 1; have hfz8_0 := blk_frozen BK413.out 0; have hfz8_1 := blk_frozen BK413.out 1) | (go_at_call 242; (with_reducible refine (shape_Good.calls k _ _ l0_0 false _ ?side1 ?side2 A2.out).mono ?_); (case side1 => exact zk_ (Kd.C_below HR0_0.out HB.out)); (case side2 => exact HC0_0.out); rintro e w' ⟨rfl, ⟨nd, rfl⟩⟩; (try first | exact ⟨rfl, _, World.drewN_drewN _ _ _⟩ | exact ⟨rfl, _, Eq.trans (World.drewN_drewN _ _ _) (congrArg (World.drewN _) (Nat.add_assoc _ _ _))⟩))))
  go_ret
  exact ⟨z0_, zw1_ HB GE413⟩
 subst c3
 have H1 : ((shape_Size.f k l0_0).bind fun t415 => (some ((l0_1.length : Int) == t415))) = some r := by rw [if_pos rfl] at H; exact H
 clear H
 have H := H1
 clear H1
 replace H := zO_ H
 obtain ⟨t415, A40, H⟩ := H
 replace H : (some ((l0_1.length : Int) == t415)) = some r := H
 have A4 := zA_ A40
 clear A40
 obtain rfl := Option.some.inj H
 go_enter Tryz.func308, Tryz.ntmps308
 go_wp2_with (first | ((with_reducible refine gate_dst (N := 1) rfl ?_); (try (refine gate_guard (by rfl) ?_; dsimp only)); refine zB_ (#[.slice A0_0 l0_0.length c0_0, .slice A0_1 l0_1.length c0_1]) 273 ?_; intro gb413 hg w5 hbox hb; have BK413 := zA_ (hbox); have GW413 := zA_ (zs_ hg (zw0_ HB)); have GE413 := zA_ (zs_ hg (zw0_ HB)); replace HB := zA_ (below_step (zw0_ HB) hb); clear hb hbox hg; have hcz6_0 := zx_ (v := .slice A0_0 l0_0.length c0_0) BK413 0; have hcz6_1 := zx_ (v := .slice A0_1 l0_1.length c0_1) BK413 1; have hfz6_0 := blk_frozen BK413.out 0; have hfz6_1 := blk_frozen BK413.out 1) | (go_at_call 242; (with_reducible refine (shape_Good.calls k _ _ l0_0 true _ ?side1 ?side2 A2.out).mono ?_); (case side1 => exact zk_ (Kd.C_below HR0_0.out HB.out)); (case side2 => exact HC0_0.out); rintro e w' ⟨rfl, ⟨nd, rfl⟩⟩; (try first | exact ⟨rfl, _, World.drewN_drewN _ _ _⟩ | exact ⟨rfl, _, Eq.trans (World.drewN_drewN _ _ _) (congrArg (World.drewN _) (Nat.add_assoc _ _ _))⟩)) | (go_at_call 305; (with_reducible refine (shape_Size.calls k _ _ l0_0 t415 _ ?side1 ?side2 A4.out).mono ?_); (case side1 => repeat (first | exact (Kd.C_below HR0_0.out (zw1_ HB GE413)) | (with_reducible refine Kd.C_alloc ?_ _) | (with_reducible refine Kd.C_drewN ?_ _) | (with_reducible refine Kd.C_drew ?_))); (case side2 => exact HC0_0.out); rintro e w' ⟨rfl, ⟨nd, rfl⟩⟩; (try first | exact ⟨rfl, _, World.drewN_drewN _ _ _⟩ | exact ⟨rfl, _, Eq.trans (World.drewN_drewN _ _ _) (congrArg (World.drewN _) (Nat.add_assoc _ _ _))⟩)))
 repeat (go_quiet (first | ((with_reducible refine gate_dst (N := 1) rfl ?_); (try (refine gate_guard (by rfl) ?_; dsimp only)); refine zB_ (#[.slice A0_0 l0_0.length c0_0, .slice A0_1 l0_1.length c0_1]) 273 ?_; intro gb413 hg w5 hbox hb; have BK413 := zA_ (hbox); have GW413 := zA_ (zs_ hg (zw0_ HB)); have GE413 := zA_ (zs_ hg (zw0_ HB)); replace HB := zA_ (below_step (zw0_ HB) hb); clear hb hbox hg; have hcz6_0 := zx_ (v := .slice A0_0 l0_0.length c0_0) BK413 0; have hcz6_1 := zx_ (v := .slice A0_1 l0_1.length c0_1) BK413 1; have hfz6_0 := blk_frozen BK413.out 0; have hfz6_1 := blk_frozen BK413.out 1) | (go_at_call 242; (with_reducible refine (shape_Good.calls k _ _ l0_0 true _ ?side1 ?side2 A2.out).mono ?_); (case side1 => exact zk_ (Kd.C_below HR0_0.out HB.out)); (case side2 => exact HC0_0.out); rintro e w' ⟨rfl, ⟨nd, rfl⟩⟩; (try first | exact ⟨rfl, _, World.drewN_drewN _ _ _⟩ | exact ⟨rfl, _, Eq.trans (World.drewN_drewN _ _ _) (congrArg (World.drewN _) (Nat.add_assoc _ _ _))⟩)) | (go_at_call 305; (with_reducible refine (shape_Size.calls k _ _ l0_0 t415 _ ?side1 ?side2 A4.out).mono ?_); (case side1 => repeat (first | exact (Kd.C_below HR0_0.out (zw1_ HB GE413)) | (with_reducible refine Kd.C_alloc ?_ _) | (with_reducible refine Kd.C_drewN ?_ _) | (with_reducible refine Kd.C_drew ?_))); (case side2 => exact HC0_0.out); rintro e w' ⟨rfl, ⟨nd, rfl⟩⟩; (try first | exact ⟨rfl, _, World.drewN_drewN _ _ _⟩ | exact ⟨rfl, _, Eq.trans (World.drewN_drewN _ _ _) (congrArg (World.drewN _) (Nat.add_assoc _ _ _))⟩))); try go_wp2_with (first | ((with_reducible refine gate_dst (N := 1) rfl ?_); (try (refine gate_guard (by rfl) ?_; dsimp only)); refine zB_ (#[.slice A0_0 l0_0.length c0_0, .slice A0_1 l0_1.length c0_1]) 273 ?_; intro gb413 hg w5 hbox hb; have BK413 := zA_ (hbox); have GW413 := zA_ (zs_ hg (zw0_ HB)); have GE413 := zA_ (zs_ hg (zw0_ HB)); replace HB := zA_ (below_step (zw0_ HB) hb); clear hb hbox hg; have hcz6_0 := zx_ (v := .slice A0_0 l0_0.length c0_0) BK413 0; have hcz6_1 := zx_ (v := .slice A0_1 l0_1.length c0_1) BK413 1; have hfz6_0 := blk_frozen BK413.out 0; have hfz6_1 := blk_frozen BK413.out 1) | (go_at_call 242; (with_reducible refine (shape_Good.calls k _ _ l0_0 true _ ?side1 ?side2 A2.out).mono ?_); (case side1 => exact zk_ (Kd.C_below HR0_0.out HB.out)); (case side2 => exact HC0_0.out); rintro e w' ⟨rfl, ⟨nd, rfl⟩⟩; (try first | exact ⟨rfl, _, World.drewN_drewN _ _ _⟩ | exact ⟨rfl, _, Eq.trans (World.drewN_drewN _ _ _) (congrArg (World.drewN _) (Nat.add_assoc _ _ _))⟩)) | (go_at_call 305; (with_reducible refine (shape_Size.calls k _ _ l0_0 t415 _ ?side1 ?side2 A4.out).mono ?_); (case side1 => repeat (first | exact (Kd.C_below HR0_0.out (zw1_ HB GE413)) | (with_reducible refine Kd.C_alloc ?_ _) | (with_reducible refine Kd.C_drewN ?_ _) | (with_reducible refine Kd.C_drew ?_))); (case side2 => exact HC0_0.out); rintro e w' ⟨rfl, ⟨nd, rfl⟩⟩; (try first | exact ⟨rfl, _, World.drewN_drewN _ _ _⟩ | exact ⟨rfl, _, Eq.trans (World.drewN_drewN _ _ _) (congrArg (World.drewN _) (Nat.add_assoc _ _ _))⟩))))
 go_ret
 exact ⟨z0_, zw1_ HB GE413⟩
def tape_two.f (a0 : Int) : Option (Bool) := if a0 = 2 then (some true) else (if a0 = 3 then (some true) else (if a0 = 4 then (some true) else (if a0 = 6 then (some true) else (some (a0 == 12)))))
theorem tape_two.calls (a0 : Int) (r : Bool) (w : World) (h : tape_two.f a0 = some r) :
  Calls Tryz.prog 358 #[.int .i64 a0] w fun e w' => e = .returned (.bool r) ∧ Drawn0 w w' := by
 have H : (if a0 = 2 then (some true) else (if a0 = 3 then (some true) else (if a0 = 4 then (some true) else (if a0 = 6 then (some true) else (some (a0 == 12)))))) = some r := h
 clear h
 by_cases c2 : a0 = 2
 ·rw [if_pos c2] at H
  have c2b0 : (a0 == 2) = true := beq_iff_eq.mpr c2
  have c2b1 : (a0 != 2) = false := bne_eq_false_iff_eq.mpr c2
  clear c2
  obtain rfl := Option.some.inj H
  go_enter Tryz.func358, Tryz.ntmps358
  go_wp2
  go_ret
  exact ⟨z1_, zE_⟩
 rw [if_neg c2] at H
 have c2b0 : (a0 == 2) = false := beq_eq_false_iff_ne.mpr c2
 have c2b1 : (a0 != 2) = true := bne_iff_ne.mpr c2
 by_cases c3 : a0 = 3
 ·rw [if_pos c3] at H
  have c3b0 : (a0 == 3) = true := beq_iff_eq.mpr c3
  have c3b1 : (a0 != 3) = false := bne_eq_false_iff_eq.mpr c3
  clear c3
  obtain rfl := Option.some.inj H
  go_enter Tryz.func358, Tryz.ntmps358
  go_wp2
  go_ret
  exact ⟨z1_, zE_⟩
 rw [if_neg c3] at H
 have c3b0 : (a0 == 3) = false := beq_eq_false_iff_ne.mpr c3
 have c3b1 : (a0 != 3) = true := bne_iff_ne.mpr c3
 by_cases c4 : a0 = 4
 ·rw [if_pos c4] at H
  have c4b0 : (a0 == 4) = true := beq_iff_eq.mpr c4
  have c4b1 : (a0 != 4) = false := bne_eq_false_iff_eq.mpr c4
  clear c4
  obtain rfl := Option.some.inj H
  go_enter Tryz.func358, Tryz.ntmps358
  go_wp2
  go_ret
  exact ⟨z1_, zE_⟩
 rw [if_neg c4] at H
 have c4b0 : (a0 == 4) = false := beq_eq_false_iff_ne.mpr c4
 have c4b1 : (a0 != 4) = true := bne_iff_ne.mpr c4
 by_cases c5 : a0 = 6
 rotate_left
 ·rw [if_neg c5] at H
  have c5b0 : (a0 == 6) = false := beq_eq_false_iff_ne.mpr c5
  have c5b1 : (a0 != 6) = true := bne_iff_ne.mpr c5
  obtain rfl := Option.some.inj H
  go_enter Tryz.func358, Tryz.ntmps358
  go_wp2
  go_ret
  exact ⟨z1_, zE_⟩
 rw [if_pos c5] at H
 have c5b0 : (a0 == 6) = true := beq_iff_eq.mpr c5
 have c5b1 : (a0 != 6) = false := bne_eq_false_iff_eq.mpr c5
 clear c5
 obtain rfl := Option.some.inj H
 go_enter Tryz.func358, Tryz.ntmps358
 go_wp2
 go_ret
 exact ⟨z1_, zE_⟩
def tape_counts.f (a0 : Int) : Option (Bool) := if a0 = 5 then (some true) else (if a0 = 8 then (some true) else (if a0 = 11 then (some true) else (if a0 = 12 then (some true) else (some (a0 == 13)))))
theorem tape_counts.calls (a0 : Int) (r : Bool) (w : World) (h : tape_counts.f a0 = some r) :
  Calls Tryz.prog 359 #[.int .i64 a0] w fun e w' => e = .returned (.bool r) ∧ Drawn0 w w' := by
 have H : (if a0 = 5 then (some true) else (if a0 = 8 then (some true) else (if a0 = 11 then (some true) else (if a0 = 12 then (some true) else (some (a0 == 13)))))) = some r := h
 clear h
 by_cases c2 : a0 = 5
 ·rw [if_pos c2] at H
  have c2b0 : (a0 == 5) = true := beq_iff_eq.mpr c2
  have c2b1 : (a0 != 5) = false := bne_eq_false_iff_eq.mpr c2
  clear c2
  obtain rfl := Option.some.inj H
  go_enter Tryz.func359, Tryz.ntmps359
  go_wp2
  go_ret
  exact ⟨z1_, zE_⟩
 rw [if_neg c2] at H
 have c2b0 : (a0 == 5) = false := beq_eq_false_iff_ne.mpr c2
 have c2b1 : (a0 != 5) = true := bne_iff_ne.mpr c2
 by_cases c3 : a0 = 8
 ·rw [if_pos c3] at H
  have c3b0 : (a0 == 8) = true := beq_iff_eq.mpr c3
  have c3b1 : (a0 != 8) = false := bne_eq_false_iff_eq.mpr c3
  clear c3
  obtain rfl := Option.some.inj H
  go_enter Tryz.func359, Tryz.ntmps359
  go_wp2
  go_ret
  exact ⟨z1_, zE_⟩
 rw [if_neg c3] at H
 have c3b0 : (a0 == 8) = false := beq_eq_false_iff_ne.mpr c3
 have c3b1 : (a0 != 8) = true := bne_iff_ne.mpr c3
 by_cases c4 : a0 = 11
 ·rw [if_pos c4] at H
  have c4b0 : (a0 == 11) = true := beq_iff_eq.mpr c4
  have c4b1 : (a0 != 11) = false := bne_eq_false_iff_eq.mpr c4
  clear c4
  obtain rfl := Option.some.inj H
  go_enter Tryz.func359, Tryz.ntmps359
  go_wp2
  go_ret
  exact ⟨z1_, zE_⟩
 rw [if_neg c4] at H
 have c4b0 : (a0 == 11) = false := beq_eq_false_iff_ne.mpr c4
 have c4b1 : (a0 != 11) = true := bne_iff_ne.mpr c4
 by_cases c5 : a0 = 12
 rotate_left
 ·rw [if_neg c5] at H
  have c5b0 : (a0 == 12) = false := beq_eq_false_iff_ne.mpr c5
  have c5b1 : (a0 != 12) = true := bne_iff_ne.mpr c5
  obtain rfl := Option.some.inj H
  go_enter Tryz.func359, Tryz.ntmps359
  go_wp2
  go_ret
  exact ⟨z1_, zE_⟩
 rw [if_pos c5] at H
 have c5b0 : (a0 == 12) = true := beq_iff_eq.mpr c5
 have c5b1 : (a0 != 12) = false := bne_eq_false_iff_eq.mpr c5
 clear c5
 obtain rfl := Option.some.inj H
 go_enter Tryz.func359, Tryz.ntmps359
 go_wp2
 go_ret
 exact ⟨z1_, zE_⟩
def fix_Add.j0 : Nat → Int → Bool → Option (Int)
 | 0, _, _ => none
 | k + 1, x5, x20 => if x20 = true then (some x5) else (none)
def fix_Add.f (k : Nat) (a0 : Int) (a1 : Int) : Option (Int) := if ((decide (a0 < 0)) != (decide (a1 < 0))) = true then (fix_Add.j0 k (wrap64 (a0 + a1)) true) else (fix_Add.j0 k (wrap64 (a0 + a1)) ((decide ((wrap64 (a0 + a1)) < 0)) == (decide (a0 < 0))))
theorem fix_Add.calls (k : Nat) (a0 : Int) (a1 : Int) (r : Int) (w : World) (h : fix_Add.f k a0 a1 = some r) :
  Calls Tryz.prog 329 #[.int .i64 a0, .int .i64 a1] w fun e w' => e = .returned (.int .i64 r) ∧ Drawn0 w w' := by
 have H : (if ((decide (a0 < 0)) != (decide (a1 < 0))) = true then (fix_Add.j0 k (wrap64 (a0 + a1)) true) else (fix_Add.j0 k (wrap64 (a0 + a1)) ((decide ((wrap64 (a0 + a1)) < 0)) == (decide (a0 < 0))))) = some r := h
 clear h
 have HC3 := zA_ H
 clear H
 go_enter Tryz.func329, Tryz.ntmps329
 go_upto_region 2 with (fail)
 go_cut [20] (fun v20 wc => ∃ (kq : Nat) (x20_2 : Bool), v20 = .bool x20_2 ∧ Aside0 (fix_Add.j0 kq (wrap64 (a0 + a1)) x20_2 = some r) ∧ Aside0 (kq ≤ k) ∧ Drawn0 w wc)
 case first =>
  have H := HC3.out
  clear HC3
  by_cases c4 : ((decide (a0 < 0)) != (decide (a1 < 0))) = true
  rotate_left
  ·rw [if_neg c4] at H
   have c4b0 : ((decide (a0 < 0)) != (decide (a1 < 0))) = false := by simpa using c4
   (try (have c4b1 : decide ((decide (a0 < 0)) = (decide (a1 < 0))) = true := by simpa using c4))
   (try (have c4b2 : ((decide (a0 < 0)) == (decide (a1 < 0))) = true := by simpa using c4))
   clear c4
   (first | rw [c4b0] | (simp only [i64_w, i32_w]; rw [c4b0]) | skip)
   have H' := zA_ H
   clear H
   go_wp2
   go_meet
   case rel => exact ⟨_, (((decide ((wrap64 (a0 + a1)) < 0)) == (decide (a0 < 0)))), z1_, H', ⟨by first | omega | exact Nat.le_refl _⟩, by repeat (first | exact Drawn0.refl _ | apply Drawn0.step)⟩
  rw [if_pos c4] at H
  have c4b0 : ((decide (a0 < 0)) != (decide (a1 < 0))) = true := c4
  (try (have c4b1 : decide ((decide (a0 < 0)) = (decide (a1 < 0))) = false := by simpa using c4))
  (try (have c4b2 : ((decide (a0 < 0)) == (decide (a1 < 0))) = false := by simpa using c4))
  (try (have c4b3 : ¬ ((decide (a0 < 0)) = (decide (a1 < 0))) := by simpa using c4))
  clear c4
  (first | rw [c4b0] | (simp only [i64_w, i32_w]; rw [c4b0]) | skip)
  have H' := zA_ H
  clear H
  go_wp2
  go_meet
  case rel => exact ⟨_, (true), z1_, H', ⟨by first | omega | exact Nat.le_refl _⟩, by repeat (first | exact Drawn0.refl _ | apply Drawn0.step)⟩
 case rest =>
  clear HC3
  try clear p2
  try clear c4b0
  try clear c4b1
  try clear c4b2
  obtain ⟨kq, x20_2, rfl, HA, HJ2, ⟨mc2, rfl⟩⟩ := hcut
  cases kq with
  | zero => exact absurd HA.out (by simp [fix_Add.j0])
  | succ kj2 =>
   have H := HA.out
   clear HA
   simp only [fix_Add.j0] at H
   by_cases c5 : x20_2 = true
   rotate_left
   ·replace c5 := Bool.eq_false_iff.mpr c5
    subst c5
    have H1 : (none) = some r := by rw [if_neg (show ¬ (false = true) by decide)] at H; exact H
    clear H
    have H := H1
    clear H1
    exact zN_ H
   subst c5
   have H1 : (some (wrap64 (a0 + a1))) = some r := by rw [if_pos rfl] at H; exact H
   clear H
   have H := H1
   clear H1
   obtain rfl := Option.some.inj H
   go_wp2
   go_ret
   exact ⟨z1_, zE_⟩
def bits_Mul64.f (a0 : Int) (a1 : Int) : Option (Int × Int) := some (IntKind.u64.wrap ((IntKind.u64.wrap ((IntKind.u64.wrap ((a0 / 4294967296) * (a1 / 4294967296))) + ((IntKind.u64.wrap ((IntKind.u64.wrap ((a0 / 4294967296) * (Go.bits .and .u64 a1 4294967295))) + ((IntKind.u64.wrap ((Go.bits .and .u64 a0 4294967295) * (Go.bits .and .u64 a1 4294967295))) / 4294967296))) / 4294967296))) + ((IntKind.u64.wrap ((Go.bits .and .u64 (IntKind.u64.wrap ((IntKind.u64.wrap ((a0 / 4294967296) * (Go.bits .and .u64 a1 4294967295))) + ((IntKind.u64.wrap ((Go.bits .and .u64 a0 4294967295) * (Go.bits .and .u64 a1 4294967295))) / 4294967296))) 4294967295) + (IntKind.u64.wrap ((Go.bits .and .u64 a0 4294967295) * (a1 / 4294967296))))) / 4294967296)), IntKind.u64.wrap (a0 * a1))
theorem bits_Mul64.calls (a0 : Int) (a1 : Int) (r1 : Int) (r2 : Int) (w : World) (h : bits_Mul64.f a0 a1 = some (r1, r2)) :
  Calls Tryz.prog 79 #[.int .u64 a0, .int .u64 a1] w fun e w' => e = .returned (.tuple #[.int .u64 r1, .int .u64 r2]) ∧ Drawn0 w w' := by
 have H : (some (IntKind.u64.wrap ((IntKind.u64.wrap ((IntKind.u64.wrap ((a0 / 4294967296) * (a1 / 4294967296))) + ((IntKind.u64.wrap ((IntKind.u64.wrap ((a0 / 4294967296) * (Go.bits .and .u64 a1 4294967295))) + ((IntKind.u64.wrap ((Go.bits .and .u64 a0 4294967295) * (Go.bits .and .u64 a1 4294967295))) / 4294967296))) / 4294967296))) + ((IntKind.u64.wrap ((Go.bits .and .u64 (IntKind.u64.wrap ((IntKind.u64.wrap ((a0 / 4294967296) * (Go.bits .and .u64 a1 4294967295))) + ((IntKind.u64.wrap ((Go.bits .and .u64 a0 4294967295) * (Go.bits .and .u64 a1 4294967295))) / 4294967296))) 4294967295) + (IntKind.u64.wrap ((Go.bits .and .u64 a0 4294967295) * (a1 / 4294967296))))) / 4294967296)), IntKind.u64.wrap (a0 * a1))) = some (r1, r2) := h
 clear h
 simp only [Option.some.injEq, Prod.mk.injEq] at H
 obtain ⟨rfl, rfl⟩ := H
 go_enter Tryz.func79, Tryz.ntmps79
 go_wp2
 go_ret2
 exact ⟨z1_, zE_⟩
def bits_Mul.f (a0 : Int) (a1 : Int) : Option (Int × Int) := (bits_Mul64.f a0 a1).bind fun bt425 => (some (bt425.1, bt425.2))
theorem bits_Mul.calls (a0 : Int) (a1 : Int) (r1 : Int) (r2 : Int) (w : World) (h : bits_Mul.f a0 a1 = some (r1, r2)) :
  Calls Tryz.prog 134 #[.int .u64 a0, .int .u64 a1] w fun e w' => e = .returned (.tuple #[.int .u64 r1, .int .u64 r2]) ∧ Drawn0 w w' := by
 have H : ((bits_Mul64.f a0 a1).bind fun bt425 => (some (bt425.1, bt425.2))) = some (r1, r2) := h
 clear h
 replace H := zO_ H
 obtain ⟨⟨t425, t426⟩, A30, H⟩ := H
 replace H : (some (t425, t426)) = some (r1, r2) := H
 have A3 := zA_ A30
 clear A30
 simp only [Option.some.injEq, Prod.mk.injEq] at H
 obtain ⟨rfl, rfl⟩ := H
 go_enter Tryz.func134, Tryz.ntmps134
 go_wp2_with (first | ((with_reducible refine gate_callee (f := 79) rfl ?_); refine zg_ (some 25) Tryz.func79 #[.int .u64 a0, .int .u64 a1] (h := ?_); (with_reducible refine (bits_Mul64.calls a0 a1 t425 t426 _ A3.out).mono ?_); rintro e w' ⟨rfl, ⟨nd, rfl⟩⟩; refine ⟨_, rfl, ?_⟩))
 go_ret2
 exact ⟨z1_, zE_⟩
def rrow_ (v : Int) (k n : Nat) (rest : List Value) : List Value := List.replicate k (.int .i64 v) ++ (List.replicate (n - k) (.int .i64 0) ++ rest)
theorem rrow_len (v : Int) (k n : Nat) (rest : List Value) (h : k ≤ n) : (rrow_ v k n rest).length = n + rest.length := by simp [rrow_]; omega
theorem rrow_splice (v : Int) (k n m : Nat) (rest : List Value) (h : k + m ≤ n) : splice (rrow_ v k n rest) k (List.replicate m (.int .i64 v)) = rrow_ v (k + m) n rest := by
 unfold splice rrow_
 have e : (List.replicate k (Value.int .i64 v) ++ (List.replicate (n - k) (Value.int .i64 0) ++ rest)).drop (k + (List.replicate m (Value.int .i64 v)).length) = List.replicate (n - (k + m)) (Value.int .i64 0) ++ rest := by
  rw [List.length_replicate, List.drop_append, List.drop_of_length_le (by simp), List.length_replicate, List.nil_append, List.drop_append, List.drop_replicate, List.length_replicate, show k + m - k - (n - k) = 0 by omega, List.drop_zero]
  congr 2; omega
 rw [e, List.take_left' (by simp), ← List.replicate_append_replicate, List.append_assoc]
theorem rrow_get (v : Int) (k n : Nat) (rest : List Value) (j : Nat) (h : j < k) : (rrow_ v k n rest)[j]? = some (.int .i64 v) := by
 unfold rrow_
 rw [List.getElem?_append_left (by simpa using h), List.getElem?_replicate, if_pos h]
theorem row_open_ {e : Nat} {w : World} {base : Nat} {ok : Nat → Prop} {x : Value} {n : Nat} (h : Kd.R (Kd.int .i64) e w base ok x (List.replicate n 0)) (hn : 0 < n) :
  ∃ g cap rest, x = .slice (some ⟨g, 0, none⟩) n cap ∧ base ≤ g ∧ n ≤ cap ∧ cap = n + rest.length ∧ cap ≤ maxLen ∧ w.heap[g]? = some (.cells (rrow_ 0 0 n rest).toArray e (0, 0)) := by
 have ho := Kd.own_of_R h
 obtain ⟨h1, h2⟩ := ho
 rcases h2 with ⟨_, h3⟩ | ⟨g, cap, cur, hv, hb, hh, hnc, hcm, hcs, htake⟩
 ·simp at h3; omega
 ·have hl : (List.replicate n (0 : Int)).length = n := List.length_replicate ..
  rw [hl] at hv hnc htake
  rw [Nat.mul_one] at htake hcs
  refine ⟨g, cap, cur.toList.drop n, hv, hb, hnc, ?_, hcm, ?_⟩
  ·simp; omega
  ·have e : rrow_ 0 0 n (cur.toList.drop n) = cur.toList := by
    unfold rrow_
    have : List.replicate (n - 0) (Value.int .i64 0) = cur.toList.take n := by rw [htake]; unfold encs; simp
    rw [this, List.replicate_zero, List.nil_append, List.take_append_drop]
   rw [e]
   exact hh
theorem one_cells_ {w : World} {A : Option Addr} {v : Int} (h : Kd.C (Kd.int .i64) w A [v].length [v]) : ∃ ad, A = some ad ∧ ∀ j u, ([Value.int .i64 v] : List Value)[j]? = some u → w.cell? (ad.add j) = some u := by
 obtain ⟨h1, h2, h3⟩ := h
 obtain ⟨ad, e, hc⟩ := h3 (by simp)
 refine ⟨ad, e, fun j u hj => ?_⟩
 obtain ⟨c, hs, hk, hcell⟩ := hc 0 v rfl
 have hk' : c = [.int .i64 v] := hk
 subst hk'
 match j, hj with
 | 0, hj => exact hcell 0 u hj
theorem rrow_one (v : Int) (n : Nat) (rest : List Value) (h : 1 ≤ n) : splice (rrow_ 0 0 n rest) 0 [.int .i64 v] = rrow_ v 1 n rest := rrow_splice v 0 n 1 rest (by omega)
theorem row_shut_ {e : Nat} {w : World} {base g cap n : Nat} {v : Int} {rest : List Value} (hh : w.heap[g]? = some (.cells (rrow_ v n n rest).toArray e (0, 0))) (hb : base ≤ g) (hnc : n ≤ cap) (hcm : cap ≤ maxLen) (hcr : cap = n + rest.length) :
  Kd.R (Kd.int .i64) e w base (fun _ => True) (.slice (some ⟨g, 0, none⟩) n cap) (List.replicate n v) := by
 refine Kd.R_of_own ⟨by simp [encs], .inr ⟨g, cap, (rrow_ v n n rest).toArray, ?_, hb, hh, ?_, hcm, ?_, ?_⟩⟩ (fun _ _ => trivial)
 ·rw [List.length_replicate]
 ·rw [List.length_replicate]; exact hnc
 ·simp [rrow_len v n n rest (Nat.le_refl _)]; omega
 ·rw [List.length_replicate]
  unfold rrow_ encs
  simp
theorem rrow_cells_ {w : World} {g k n m e : Nat} {v : Int} {rest : List Value} (hh : w.heap[g]? = some (.cells (rrow_ v k n rest).toArray e (0, 0))) (h : m ≤ k) : ∀ j u, (List.replicate m (Value.int .i64 v))[j]? = some u → w.cell? ((⟨g, 0, none⟩ : Addr).add j) = some u := by
 intro j u hj
 have hm : j < m := by
  have := (List.getElem?_eq_some_iff.1 hj).1
  simpa using this
 rw [List.getElem?_replicate, if_pos hm] at hj
 rw [← hj]
 have := blk_cell hh j
 rw [show (⟨g, 0, none⟩ : Addr).add j = ⟨g, j, none⟩ by simp [Addr.add]; omega, this, List.getElem?_toArray]
 exact rrow_get v k n rest j (by omega)
theorem wrap_small_ {k m : Nat} (h : k + m ≤ 4096) : Value.int .i64 (IntKind.i64.wrap ((k : Int) + (m : Int))) = .int .i64 ((k + m : Nat) : Int) := by
 congr 1
 simp only [IntKind.wrap, IntKind.bits, IntKind.signed]
 simp
 omega
theorem info36s_ : (Tryz.prog.info? 36).map (·.size) = some 1 := by kernel_rfl
def slices_Repeat_Fix.f (l0 : List Int) (a1 : Int) : Option (List Int) := (bits_Mul.f 1 a1).bind fun p => if l0.length = 1 ∧ 1 ≤ a1 ∧ a1 ≤ 4096 ∧ p.1 = 0 ∧ p.2 = a1 then some (List.replicate a1.toNat (rd l0 0)) else none
theorem slices_Repeat_Fix.calls (A0 : Option Addr) (c0 : Nat) (l0 : List Int) (a1 : Int) (r : List Int) (w : World) (hr0 : Kd.C (Kd.int .i64) w A0 l0.length l0) (hc0 : l0.length ≤ c0) (h : slices_Repeat_Fix.f l0 a1 = some r) :
  Calls Tryz.prog 304 #[.slice A0 l0.length c0, .int .i64 a1] w fun e w' => ∃ v0_ : Value, e = .returned (v0_) ∧ Kd.R (Kd.int .i64) 36 w' w.heap.size (fun _ => True) v0_ r ∧ Below w.heap.size w w' := by
 unfold slices_Repeat_Fix.f at h
 replace h := Option.bind_eq_some_iff.mp h
 obtain ⟨⟨hi, lo⟩, hmul, h⟩ := h
 by_cases hc : l0.length = 1 ∧ 1 ≤ a1 ∧ a1 ≤ 4096 ∧ hi = 0 ∧ lo = a1
 case neg => rw [if_neg hc] at h; cases h
 rw [if_pos hc] at h
 obtain ⟨hl, h1, h2, rfl, rfl⟩ := hc
 obtain rfl := Option.some.inj h
 clear h
 have HM := zA_ hmul
 have HR0 := zA_ hr0
 obtain ⟨N, rfl⟩ := Int.eq_ofNat_of_zero_le (show 0 ≤ lo by omega)
 obtain ⟨v, rfl⟩ : ∃ v, l0 = [v] := List.length_eq_one_iff.mp hl
 have n1 : 1 ≤ N := by omega
 have n2 : N ≤ 4096 := by omega
 clear hmul hr0 hl h1 h2 hc0
 have HB := zA_ (Below.refl w.heap.size w)
 go_enter Tryz.func304, Tryz.ntmps304
 have hgt : decide (9223372036854775807 < (N : Int)) = false := decide_eq_false (by omega)
 go_wp2_with (first | (go_at_call 134; (with_reducible refine (bits_Mul.calls 1 N 0 N _ HM.out).mono ?_); rintro e w' ⟨rfl, ⟨nd, rfl⟩⟩) | ((with_reducible refine gate_dst (N := 30) rfl ?_); refine Kd.R_make (Kd.int .i64) _ 36 rfl (N := 30) rfl 40 _ _ rfl (N : Int) rfl rfl Tryz.underlying40 (.int .i64 0) 8 info36 rfl (by decide) (by omega) 0 (ok := fun _ => True) (okp := fun _ => True) rfl (fun _ hk => hk) trivial (by omega) (by omega) (Below.refl _ _) (Nat.le_refl _) ?_; intro v1 w1 ho hb hg_ hnew_; clear hg_ hnew_; have n0_ := zA_ (below_step (zw0_ HB) hb); obtain ⟨g, cap, rest, rfl, hgb, hnc, hcr, hcm, hh⟩ := row_open_ (n := N) ho (by omega); have HH := zA_ hh; have GB := zA_ (Nat.le_trans (below_size (zw0_ HB)) hgb); have HCR := zA_ hcr; have HCM := zA_ hcm; have HNC := zA_ hnc; clear ho hb hh hgb HB hcr hcm hnc; have HB := n0_; clear n0_) | (refine gate_dst (N := 33) rfl ?_; refine wpList_copy_splice rfl (.tmp 31) (.tmp 32) 40 40 rfl 36 Tryz.underlying40 info36s_ (some ⟨g, 0, none⟩) A0 N cap 1 c0 rfl rfl g 0 (rrow_ 0 0 N rest) 36 HH.out [.int .i64 v] ?c1 ?c2 ?c3 ?c4 w.heap.size w HB.out GB.out ?_; (case c1 => show 1 = Nat.min 1 N; exact (Nat.min_eq_left (by omega)).symm); (case c2 => exact fun _ => ⟨rfl, one_cells_ (Kd.C_below HR0.out HB.out)⟩); (case c3 => rw [rrow_len _ _ _ _ (by omega)]; show 0 + 1 ≤ N + rest.length; omega); (case c4 => intro u hu; rw [List.mem_singleton.1 hu]; rfl); intro w2 hh2 hb2; have HH2 := zA_ (hh2.out); have HB2 := zA_ hb2; clear hh2 hb2; rw [rrow_one _ _ _ n1] at HH2; clear HH HB))
 go_loopg [8] (N - 1) (fun kq v8 w' => ∃ k : Nat, v8 = .int .i64 k ∧ Aside0 (1 ≤ k ∧ k ≤ N) ∧ Aside0 (kq = N - k) ∧ Aside0 (w'.heap[g]? = some (.cells (rrow_ v k N rest).toArray 36 (0, 0))) ∧ Aside0 (Below w.heap.size w w'))
 case atStart => exact ⟨1, rfl, ⟨by omega⟩, ⟨rfl⟩, HH2, HB2⟩
 case round =>
  obtain ⟨k, rfl, HK, HQ, HH3, HB3⟩ := hrel
  by_cases c : k < N
  case neg =>
   have kn : k = N := by have := HK.out; omega
   subst kn
   have hd : decide (k < k) = false := by simp
   clear c
   go_wp2
   go_ret
   exact ⟨_, rfl, row_shut_ HH3.out GB.out HNC.out HCM.out HCR.out, HB3.out⟩
  case pos =>
   have hd : decide (k < N) = true := by simp [c]
   have hkc : k ≤ cap := by have := HNC.out; omega
   have hk2 : k ≤ N := by omega
   have hck : (cap = k) = False := eq_false (by have := HNC.out; omega)
   have hp : 0 < min k (N - k) ∧ k + min k (N - k) ≤ N := by have := HK.out; omega
   have HP := zA_ hp
   clear c hp
   go_wp2
   go_region_law (refine step_copy_splice rfl (.tmp 41) (.tmp 44) 40 40 rfl 36 Tryz.underlying40 info36s_ (some ⟨g, k, none⟩) (some ⟨g, 0, none⟩) (N - k) (cap - k) k cap ?d1 ?d2 g k (rrow_ v k N rest) 36 (by first | exact HH3.out | exact blk_drew HH3.out | exact blk_drewN HH3.out _) (List.replicate (min k (N - k)) (.int .i64 v)) ?c1 ?c2 ?c3 ?c4 w.heap.size w (by repeat (first | exact HB3.out | apply below_drew1 | apply pw_below_drewN)) GB.out ?_; (case d1 => first | (go_simp; done) | (go_simp; rfl)); (case d2 => first | (go_simp; done) | (go_simp; rfl)); (case c1 => exact List.length_replicate ..); (case c2 => exact fun _ => ⟨rfl, _, rfl, rrow_cells_ (by first | exact HH3.out | exact blk_drew HH3.out | exact blk_drewN HH3.out _) (Nat.min_le_left _ _)⟩); (case c3 => rw [rrow_len _ _ _ _ hk2, List.length_replicate]; have := HP.out; omega); (case c4 => intro u hu; rw [(List.mem_replicate.1 hu).2]; rfl); intro w4 hh4 hb4; have HH4 := zA_ (hh4.out); have HB4 := zA_ hb4; clear hh4 hb4; rw [rrow_splice _ _ _ _ _ HP.out.2] at HH4)
   go_wp2
   go_roundg (N - (k + min k (N - k)))
   case measure => have := HQ.out; have := HP.out; omega
   case rel => exact ⟨k + min k (N - k), wrap_small_ (by have := HP.out; omega), ⟨by have := HP.out; omega⟩, ⟨rfl⟩, HH4, HB4⟩
def tens_New.f (k : Nat) (l0 : List Int) (a1 : Int) : Option (List Int × List Int × Int) := (shape_Good.f k l0).bind fun t428 => (if t428 = true then ((slices_Clone_int_int.f l0).bind fun t429 => ((shape_Size.f k l0).bind fun t435 => ((slices_Repeat_Fix.f (([a1] : List Int)) t435).bind fun t436 => (some (t429, t436, 0))))) else (none))
theorem tens_New.calls (k : Nat) (A0 : Option Addr) (c0 : Nat) (l0 : List Int) (a1 : Int) (r1 : List Int) (r2 : List Int) (r3 : Int) (w : World) (hr0 : Kd.C (Kd.int .i64) w A0 l0.length l0) (hc0 : l0.length ≤ c0) (h : tens_New.f k l0 a1 = some (r1, r2, r3)) :
  Calls Tryz.prog 250 #[.slice A0 l0.length c0, .int .i64 a1] w fun e w' => ∃ v0_ v1_ : Value, e = .returned (.tuple #[.agg #[v0_, v1_], .int .i64 r3]) ∧ Kd.R (Kd.int .i64) 3 w' w.heap.size (fun _ => True) v0_ r1 ∧ Kd.R (Kd.int .i64) 36 w' w.heap.size (fun _ => True) v1_ r2 ∧ Below w.heap.size w w' := by
 have hu273 := Tryz.underlying273
 have HR0 := zA_ hr0
 have HC0 := zA_ hc0
 clear hr0 hc0
 have HB := zA_ (Below.refl w.heap.size w)
 have H : ((shape_Good.f k l0).bind fun t428 => (if t428 = true then ((slices_Clone_int_int.f l0).bind fun t429 => ((shape_Size.f k l0).bind fun t435 => ((slices_Repeat_Fix.f (([a1] : List Int)) t435).bind fun t436 => (some (t429, t436, 0))))) else (none))) = some (r1, r2, r3) := h
 clear h
 replace H := zO_ H
 obtain ⟨t428, A30, H⟩ := H
 (try dsimp only at H)
 have A3 := zA_ A30
 clear A30
 by_cases c4 : t428 = true
 rotate_left
 ·replace c4 := Bool.eq_false_iff.mpr c4
  subst c4
  have H1 : (none) = some (r1, r2, r3) := by rw [if_neg (show ¬ (false = true) by decide)] at H; exact H
  clear H
  have H := H1
  clear H1
  exact zN_ H
 subst c4
 have H1 := H
 rw [if_pos rfl] at H1
 clear H
 have H := H1
 clear H1
 replace H := zO_ H
 obtain ⟨t429, A50, H⟩ := H
 (try dsimp only at H)
 have A5 := zA_ A50
 clear A50
 obtain ⟨y432, hy432⟩ : ∃ y_ : List Int, y_ = (([a1] : List Int)) := ⟨_, rfl⟩
 replace H : ((shape_Size.f k l0).bind fun t435 => ((slices_Repeat_Fix.f y432 t435).bind fun t436 => (some (t429, t436, 0)))) = some (r1, r2, r3) := by first | (rw [hy432]; with_reducible exact H) | (have H2_ := (Option.bind_some _ _).symm.trans H; rw [hy432]; with_reducible exact H2_) | (have H2_ := (Option.bind_some _ _).symm.trans H; with_reducible exact H2_) | with_reducible exact H | (rw [hy432]; exact H) | exact H
 have Ny432 := zA_ hy432
 clear hy432
 replace H := zO_ H
 obtain ⟨t435, A60, H⟩ := H
 replace H : ((slices_Repeat_Fix.f y432 t435).bind fun t436 => (some (t429, t436, 0))) = some (r1, r2, r3) := H
 have A6 := zA_ A60
 clear A60
 replace H := zO_ H
 obtain ⟨t436, A70, H⟩ := H
 replace H : (some (t429, t436, 0)) = some (r1, r2, r3) := H
 have A7 := zA_ A70
 clear A70
 simp only [Option.some.injEq, Prod.mk.injEq] at H
 obtain ⟨rfl, rfl, rfl⟩ := H
 go_enter Tryz.func250, Tryz.ntmps250
 go_wp2_with (first | ((with_reducible refine gate_dst (N := 4) rfl ?_); refine zB_ (#[.slice none 0 0, .slice none 0 0]) 273 ?_; intro gb427 hg w8 hbox hb; have BK427 := zA_ (hbox); have GW427 := zA_ (zs_ hg (zw0_ HB)); have GE427 := zA_ (zs_ hg (zw0_ HB)); replace HB := zA_ (below_step (zw0_ HB) hb); clear hb hbox hg) | ((with_reducible refine gate_callee (f := 242) rfl ?_); refine zg_ (some 7) Tryz.func242 #[.slice A0 l0.length c0] (h := ?_); (with_reducible refine (shape_Good.calls k _ _ l0 true _ ?side1 ?side2 A3.out).mono ?_); (case side1 => exact zk_ (Kd.C_below HR0.out HB.out)); (case side2 => exact HC0.out); rintro e w' ⟨rfl, ⟨nd, rfl⟩⟩; refine ⟨_, rfl, ?_⟩; (try (rw [drewN_self w8]; generalize hq_ : World.drewN w8 _ = w8; have n0_ : Aside0 (w8.heap[gb427]? = some (.cells #[.slice none 0 0, .slice none 0 0] 273 (0, 0))) := ⟨by rw [← hq_]; exact (zb_ BK427)⟩; have n1_ : Aside0 (Below w.heap.size w w8) := ⟨by rw [← hq_]; exact (zw1_ HB GE427)⟩; clear BK427 HB hq_; have BK427 := n0_; have HB := n1_; clear n0_ n1_))) | ((with_reducible refine gate_callee (f := 14) rfl ?_); refine zg_ (some 11) Tryz.func14 #[.slice A0 l0.length c0] (h := ?_); (with_reducible refine (slices_Clone_int_int.calls _ _ l0 t429 _ ?side1 ?side2 A5.out).mono ?_); (case side1 => exact zk_ (Kd.C_below HR0.out HB.out)); (case side2 => exact HC0.out); rintro e w9 ⟨v430, rfl, ho0, hb⟩; refine ⟨_, rfl, ?_⟩; have HO431 := zA_ (Kd.R_lower ho0 (below_size (zw1_ HB GE427))); replace BK427 := za_ BK427 hb; replace HB := zA_ (below_step (zw1_ HB GE427) hb); (try clear hb); (try clear ho0)) | ((with_reducible refine gate_dst (N := 13) rfl ?_); refine Kd.R_lit (Kd.int .i64) _ 36 ?hg (N := 13) ?hd (xs := ([a1] : List Int)) (inner := [.int .i64 a1]) (ok := fun _ => True) (okp := fun _ => True) ?hr ?hp (fun _ hk => hk) trivial (Below.refl _ _) (Nat.le_refl _) (by simp) ?_; (case hd => rfl); (case hg => rfl); (case hr => first | (go_simp; done) | (go_simp; rfl)); (case hp => exact (Reps.one (show Kd.M (Kd.int .i64) _ _ _ a1 [.int .i64 a1] from rfl) (Reps.none _ _))); intro v433 w10 ho11 hb hg_ hnew_; clear hg_ hnew_; (first | rw [← Ny432.out] at ho11 | (simp only [Int.reduceToNat] at ho11; rw [← Ny432.out] at ho11)); replace HO431 := zy_ HO431 hb; have HO434 := zA_ (Kd.R_lower ho11 (below_size (zw1_ HB GE427))); replace BK427 := za_ BK427 hb; replace HB := zA_ (below_step (zw1_ HB GE427) hb); clear hb ho11) | ((with_reducible refine gate_callee (f := 305) rfl ?_); refine zg_ (some 15) Tryz.func305 #[.slice A0 l0.length c0] (h := ?_); (with_reducible refine (shape_Size.calls k _ _ l0 t435 _ ?side1 ?side2 A6.out).mono ?_); (case side1 => exact zk_ (Kd.C_below HR0.out HB.out)); (case side2 => exact HC0.out); rintro e w' ⟨rfl, ⟨nd, rfl⟩⟩; refine ⟨_, rfl, ?_⟩; (try (rw [drewN_self w10]; generalize hq_ : World.drewN w10 _ = w10; have n0_ : Aside0 (Kd.R (Kd.int .i64) 3 w10 w.heap.size (fun _ => True) v430 t429) := ⟨by rw [← hq_]; exact (zr_ HO431.out)⟩; have n1_ : Aside0 (Kd.R (Kd.int .i64) 36 w10 w.heap.size (fun _ => True) v433 y432) := ⟨by rw [← hq_]; exact (zr_ HO434.out)⟩; have n2_ : Aside0 (w10.heap[gb427]? = some (.cells #[.slice none 0 0, .slice none 0 0] 273 (0, 0))) := ⟨by rw [← hq_]; exact (zb_ BK427)⟩; have n3_ : Aside0 (Below w.heap.size w w10) := ⟨by rw [← hq_]; exact (zw1_ HB GE427)⟩; clear HO431 HO434 BK427 HB hq_; have HO431 := n0_; have HO434 := n1_; have BK427 := n2_; have HB := n3_; clear n0_ n1_ n2_ n3_)); obtain ⟨Ao12, co12, eo12⟩ := Kd.R_slice HO434.out; subst eo12) | ((with_reducible refine gate_callee (f := 304) rfl ?_); refine zg_ (some 16) Tryz.func304 #[.slice Ao12 y432.length co12, .int .i64 t435] (h := ?_); (with_reducible refine (slices_Repeat_Fix.calls _ _ y432 t435 t436 _ ?side1 ?side2 A7.out).mono ?_); (case side1 => exact zk_ ((Kd.R_reads' HO434.out).2.2)); (case side2 => exact (Kd.R_reads' HO434.out).2.1); rintro e w13 ⟨v437, rfl, ho0, hb⟩; refine ⟨_, rfl, ?_⟩; replace HO431 := zy_ HO431 hb; have HO438 := zA_ (Kd.R_lower (Kd.R_new' ho0 (Kd.R_lt (zr_ HO434.out))) (below_size (zw1_ HB GE427))); replace HO434 := ze_ HO434 ho0 hb; replace BK427 := za_ BK427 hb; replace HB := zA_ (below_step (zw1_ HB GE427) hb); (try clear hb); (try clear ho0); obtain ⟨Ao14, co14, eo14⟩ := Kd.R_slice HO438.out; subst eo14; obtain ⟨Ao15, co15, eo15⟩ := Kd.R_slice HO431.out; subst eo15; have hcz16_0 := zx_ (v := .slice none 0 0) BK427 0; have hcz16_1 := zx_ (v := .slice none 0 0) BK427 1; have hfz16_0 := blk_frozen BK427.out 0; have hfz16_1 := blk_frozen BK427.out 1))
 refine bodyPost_ret (results_ct rfl _ _ gb427 273 #[.slice Ao15 t429.length co15, .slice Ao14 t436.length co14] (0, 0) _ rfl (zo2_ BK427) Tryz.underlying273 rfl (by kernel_rfl)) rfl ?_
 exact ⟨_, _, z0_, zr_ (Kd.R_mono (Kd.R_far (p := ⟨gb427, 1, none⟩) (Kd.R_far (p := ⟨gb427, 0, none⟩) (Kd.R_types HO431.out BK427.out (by decide)) (fun _ hk => hk.2) (.slice Ao15 t429.length co15)) (fun _ hk => hk.2) (.slice Ao14 t436.length co14)) (fun _ hk => trivial)), zr_ (Kd.R_mono (Kd.R_far (p := ⟨gb427, 1, none⟩) (Kd.R_far (p := ⟨gb427, 0, none⟩) (Kd.R_types HO438.out BK427.out (by decide)) (fun _ hk => hk.2) (.slice Ao15 t429.length co15)) (fun _ hk => hk.2) (.slice Ao14 t436.length co14)) (fun _ hk => trivial)), zw1_ HB GE427⟩
def shape_side.f (l0 : List Int) (a1 : Int) : Option (Int) := if a1 ≥ (l0.length : Int) then (some 1) else (if 0 ≤ (wrap64 ((wrap64 ((l0.length : Int) - 1)) - a1)) then (if (wrap64 ((wrap64 ((l0.length : Int) - 1)) - a1)) < (l0.length : Int) then (some (rd l0 (wrap64 ((wrap64 ((l0.length : Int) - 1)) - a1)))) else (none)) else (none))
theorem shape_side.calls (A0 : Option Addr) (c0 : Nat) (l0 : List Int) (a1 : Int) (r : Int) (w : World) (hr0 : Kd.C (Kd.int .i64) w A0 l0.length l0) (hc0 : l0.length ≤ c0) (h : shape_side.f l0 a1 = some r) :
  Calls Tryz.prog 392 #[.slice A0 l0.length c0, .int .i64 a1] w fun e w' => e = .returned (.int .i64 r) ∧ Drawn0 w w' := by
 have HR0 := zA_ hr0
 have HC0 := zA_ hc0
 clear hr0 hc0
 have H : (if a1 ≥ (l0.length : Int) then (some 1) else (if 0 ≤ (wrap64 ((wrap64 ((l0.length : Int) - 1)) - a1)) then (if (wrap64 ((wrap64 ((l0.length : Int) - 1)) - a1)) < (l0.length : Int) then (some (rd l0 (wrap64 ((wrap64 ((l0.length : Int) - 1)) - a1)))) else (none)) else (none))) = some r := h
 clear h
 by_cases c3 : a1 ≥ (l0.length : Int)
 ·rw [if_pos c3] at H
  have c3b0 : decide ((l0.length : Int) ≤ a1) = true := decide_eq_true c3
  clear c3
  obtain rfl := Option.some.inj H
  go_enter Tryz.func392, Tryz.ntmps392
  go_wp2
  go_ret
  exact ⟨z1_, zE_⟩
 rw [if_neg c3] at H
 have c3b0 : decide ((l0.length : Int) ≤ a1) = false := decide_eq_false c3
 clear c3
 obtain ⟨ji4, hji4⟩ : ∃ j_ : Int, (wrap64 ((wrap64 ((l0.length : Int) - 1)) - a1)) = j_ := ⟨_, rfl⟩
 replace H : (if 0 ≤ (ji4) then (if (ji4) < (l0.length : Int) then (some (rd l0 (ji4))) else (none)) else (none)) = some r := by first | (rw [hji4] at H; exact H) | (simp only [hji4] at H ⊢; exact H)
 have hji4w : (IntKind.i64.wrap ((wrap64 ((l0.length : Int) - 1)) - a1)) = ji4 := (i64_w _).trans hji4
 by_cases c5 : 0 ≤ (ji4)
 rotate_left
 ·rw [if_neg c5] at H
  exact zN_ H
 rw [if_pos c5] at H
 have c5b0 : decide (0 ≤ (ji4)) = true := decide_eq_true c5
 clear c5
 by_cases c6 : (ji4) < (l0.length : Int)
 rotate_left
 ·rw [if_neg c6] at H
  exact zN_ H
 rw [if_pos c6] at H
 have c6b0 : decide ((ji4) < (l0.length : Int)) = true := decide_eq_true c6
 clear c6
 obtain rfl := Option.some.inj H
 have p439 : 0 ≤ ((ji4) : Int) := zD_
 have q439 : (ji4) < (l0.length : Int) := zD_
 obtain ⟨ad439, e439, hx439_0⟩ := Kd.at_int HR0.out (ji4) p439 q439
 cases e439
 replace p439 := eq_true p439
 replace q439 := eq_true q439
 go_enter Tryz.func392, Tryz.ntmps392
 go_wp2
 go_ret
 exact ⟨by first | rfl | (simp; done) | (simp only [← hji4] <;> (first | rfl | simp)) | (simp [*]; done), by repeat (first | exact Drawn0.refl _ | apply Drawn0.step)⟩
end Go.Proofs.YtmddclifcgcpcaaGreatDoor.PTopNames
