/- Texts of the proof of TopNames, part 6: the walks through the program and what they lean on, pruned to what is used. Plain theorems and definitions. -/
import Derived.Test.YtmddclifcgcpcaaGreatDoorTN5
import Derived.Defers
import Derived.Laws.LoneSync
import Derived.Laws.Pointers
import Derived.RegionTactic
import Derived.RegionCalls
set_option linter.unusedVariables false
set_option linter.unusedSimpArgs false
set_option maxHeartbeats 8000000
set_option maxRecDepth 100000
namespace Go.Proofs.YtmddclifcgcpcaaGreatDoor.PTopNames
open Go.RowKit Go.Proofs.YtmddclifcgcpcaaGreatDoorW.PrintWords Go.Proofs.YtmddclifcgcpcaaGreatDoorW.PrintLast Go.Proofs.YtmddclifcgcpcaaGreatDoorW.PrintMore
def world_begin.T4 : Bool × List (List Nat × List Nat) := (true, [([], []), ([], []), ([], []), ([2], [2]), ([3], [3]), ([4], [4]), ([], []), ([0, 1, 5, 6], [0, 1, 5, 6]), ([7], [7]), ([8], [8]), ([8], [8]), ([9, 7, 0, 1, 2, 3, 4, 5, 6, 7, 8, 9], [9]), ([10, 11, 0, 1, 2, 3, 4, 5, 6, 7, 8, 9, 10, 11], [10])])
def world_begin.B4 : List Nat := [0, 0, 0, 4, 12, 28, 0, 127, 255, 511, 511, 1023, 4095]
theorem world_begin.tab4 : rtab .any (opsOf Tryz.f17 4) = world_begin.T4 := by kernel_rfl
theorem world_begin.bits4 : waitsOk world_begin.T4.2 world_begin.B4 = true := by kernel_rfl
structure JR (w : World) (A1 : Option Addr) (c1 : Nat) (a2 : Addr) (c2 g3 c3 : Nat) (A4 : Option Addr) (c4 : Nat) : Prop where
  i : Kd.R (Kd.int .i64) 3 w 0 (fun _ => True) (.slice A1 1 c1) [1]
  l : Kd.R k84 84 w 0 (fun _ => True) (.slice (some a2) 1 c2) lay1
  d : Kd.R k87 87 w 0 (fun _ => True) (.slice (some ⟨g3, 0, none⟩) 4 c3) exs4
  p : Kd.R (Kd.int .i64) 36 w 0 (fun _ => True) (.slice A4 2 c4) [0, 0]
theorem JR.jp {w : World} {A1 : Option Addr} {c1 : Nat} {a2 : Addr} {c2 g3 c3 : Nat} {A4 : Option Addr} {c4 : Nat} (h : JR w A1 c1 a2 c2 g3 c3 A4 c4) : JP w A1 c1 a2 c2 g3 c3 A4 c4 := ⟨(Kd.R_reads' h.i).2.2, (Kd.R_reads' h.i).2.1, (Kd.R_reads' h.l).2.2, (Kd.R_reads' h.l).2.1, (Kd.R_reads' h.d).2.2, (Kd.R_reads' h.d).2.1, (Kd.R_reads' h.p).2.2, (Kd.R_reads' h.p).2.1⟩
theorem JR.kp {S : Nat → Prop} {w w' : World} {A1 : Option Addr} {c1 : Nat} {a2 : Addr} {c2 g3 c3 : Nat} {A4 : Option Addr} {c4 : Nat} (h : JR w A1 c1 a2 c2 g3 c3 A4 c4) (hk : KP S w w') (hS : ∀ k, S k → ∀ q, q = 3 ∨ q = 84 ∨ q = 87 ∨ q = 36 → ∀ c, w.heap[k]? ≠ some (.cells c q (0, 0))) : JR w' A1 c1 a2 c2 g3 c3 A4 c4 :=
  ⟨KP.R hk h.i (fun k hs q hq c => hS k hs q (by have e : q = 3 := by simpa [Kd.int, Kd.scalar] using hq
                                                 exact Or.inl e) c),
   KP.R hk h.l (fun k hs q hq c => hS k hs q (by have e : q = 84 := by simpa [k84, Kd.iso, Kd.pair, Kd.string, Kd.int, Kd.scalar] using hq
                                                 exact Or.inr (Or.inl e)) c),
   KP.R hk h.d (fun k hs q hq c => hS k hs q (by have e : q = 87 ∨ q = 36 := by simpa [k87, Kd.iso, Kd.pair, Kd.slice, Kd.int, Kd.scalar] using hq
                                                 rcases e with e | e
                                                 · exact Or.inr (Or.inr (Or.inl e))
                                                 · exact Or.inr (Or.inr (Or.inr e))) c),
   KP.R hk h.p (fun k hs q hq c => hS k hs q (by have e : q = 36 := by simpa [Kd.int, Kd.scalar] using hq
                                                 exact Or.inr (Or.inr (Or.inr e))) c)⟩
theorem JR.below {w w' : World} {A1 : Option Addr} {c1 : Nat} {a2 : Addr} {c2 g3 c3 : Nat} {A4 : Option Addr} {c4 : Nat} (h : JR w A1 c1 a2 c2 g3 c3 A4 c4) (hb : Below w.heap.size w w') : JR w' A1 c1 a2 c2 g3 c3 A4 c4 := ⟨Kd.R_below h.i hb, Kd.R_below h.l hb, Kd.R_below h.d hb, Kd.R_below h.p hb⟩
theorem goodW.kp {S : Nat → Prop} {w w' : World} {v : Value} (h : goodW w v) (hk : KP S w w') (hS : ∀ k, S k → ∀ c, w.heap[k]? ≠ some (.cells c 155 (0, 0))) : goodW w' v := by
  rcases h with h | ⟨b, cs, h1, h2, h3⟩
  · exact Or.inl h
  · exact Or.inr ⟨b, cs, h1, hk.blk h2 (fun hs => hS b hs cs h2), h3⟩
theorem map_not {w : World} {b n : Nat} {good : Value → Prop} (h : WM w b n good) (c : Array Value) (q : Nat) : w.heap[b]? ≠ some (.cells c q (0, 0)) := fun e_ => by obtain ⟨es, cl, h⟩ := h.blk; rw [h] at e_; cases e_
theorem typ_not {w : World} {k e q : Nat} {cs : Array Value} (h : w.heap[k]? = some (.cells cs e (0, 0))) (he : e ≠ q) (c : Array Value) : w.heap[k]? ≠ some (.cells c q (0, 0)) := fun e_ => by rw [h] at e_; injection e_ with e_; injection e_ with _ e_; exact he e_
theorem net_New2 (w : World) :
  Calls Tryz.prog 31 #[.int .i64 4096] w fun e w' => ∃ g : Nat, e = .returned (.tuple #[.pointer (some ⟨g, 0, none⟩), .int .i64 0]) ∧ Below w.heap.size w w' := by
 have HB := zA_ (Below.refl w.heap.size w)
 have hnot : ∀ (x : Bool) (w : World), (Op.unary .not (.bool x)).run Tryz.prog w = .ok (.bool (!x)) w := fun _ _ => rfl
 have hmm := @run_makeMap Tryz.prog
 go_enter Tryz.func31, Tryz.ntmps31
 go_wp2
 go_ret2
 exact ⟨_, rfl, below_alloc (below_alloc HB.out _) _⟩
theorem world_begin (A1 : Option Addr) (c1 : Nat) (a2 : Addr) (c2 g3 c3 : Nat) (A4 : Option Addr) (c4 : Nat) (k lm gm cm : Nat) (x0 x1 x2 x5 x7 : Value) (w : World) (hG : GoodH) (hJ : JR w A1 c1 a2 c2 g3 c3 A4 c4) (hr : RM w (some ⟨gm, 0, none⟩) cm) (hk : w.heap[k]? = some (.cells #[x0, x1, x2, .slice (some ⟨gm, 0, none⟩) 3 cm, .map (some lm), x5, .pointer none, x7] 80 (0, 0))) (hm : WM w lm 0 (goodW w)) :
  Calls Tryz.prog 17 #[.pointer (some ⟨k, 0, none⟩), .agg #[.slice A1 1 c1, .slice (some a2) 1 c2, .int .i64 1, .int .i64 2, .int .i64 1073741824, .int .i64 2147483648, .int .i64 0, .slice (some ⟨g3, 0, none⟩) 4 c3, .slice A4 2 c4], .int .i64 8] w fun e w' => e = .returned (.int .i64 0) ∧ (∃ v, w'.heap[k]? = some (.cells #[x0, x1, x2, .slice (some ⟨gm, 0, none⟩) 3 cm, .map (some lm), x5, v, x7] 80 (0, 0))) ∧ WM w' lm 3 (goodW w') ∧ KP (fun q => q = k ∨ q = lm) w w' := by
 have HB := zA_ (Below.refl w.heap.size w)
 have HJ := zA_ hJ
 have HR := zA_ hr
 have HG := zA_ hG
 have BK := zA_ hk
 have HW := zA_ hm
 have KK := zA_ (KP.refl (fun q => q = k ∨ q = lm) w)
 have NK : Aside0 (k ≠ lm) := ⟨fun e => by subst e; obtain ⟨es, cl, h⟩ := hm.blk; rw [hk] at h; cases h⟩
 clear hJ hr hG hk hm
 go_enter Tryz.func17, Tryz.ntmps17
 go_wp2_with (first | ((with_reducible refine gate_dst (N := 4) rfl ?_); refine zB_ (#[.slice A1 1 c1, .slice (some a2) 1 c2, .int .i64 1, .int .i64 2, .int .i64 1073741824, .int .i64 2147483648, .int .i64 0, .slice (some ⟨g3, 0, none⟩) 4 c3, .slice A4 2 c4]) 42 ?_; intro g4 hg wg4 hbox hb; have BKg4 := zA_ (hbox); have GEg4 := zA_ (zs_ hg (zw0_ HB)); replace HB := zA_ (below_step (zw0_ HB) hb); have NG := zA_ (show g4 ≠ lm from by have := HW.out.lt; omega); replace BK := zA_ (blk_below BK.out hb); replace HR := zA_ (HR.out.below hb); replace HJ := zA_ (HJ.out.below hb); replace HW := zA_ ((HW.out.below hb).mono fun v hv => hv.below hb); replace KK := zA_ (KK.out.trans (KP.of_below hb)); have hz3 := (blk_cell BK.out 3).trans rfl; clear hb hbox hg))
 refine wp_loop_rounds 4 ?_
 rw [rounds_succ]
 obtain ⟨gm_, e_, _, _, _, _, m0_, m1_, m2_, _⟩ := mem3_row HR.out
 cases e_
 go_wp2_with (first | fail)
 clear m0_ m1_ m2_
 replace BKg4 := zA_ (blk_drew BKg4.out)
 replace BK := zA_ (blk_drew BK.out)
 replace HR := zA_ (HR.out.below (below_drew1 (Below.refl wg4.heap.size wg4)))
 replace HJ := zA_ (HJ.out.below (below_drew1 (Below.refl wg4.heap.size wg4)))
 replace HW := zA_ ((HW.out.below (below_drew1 (Below.refl wg4.heap.size wg4))).mono fun v hv => hv.below (below_drew1 (Below.refl wg4.heap.size wg4)))
 replace KK := zA_ (KK.out.trans (KP.of_below (below_drew1 (Below.refl wg4.heap.size wg4))))
 refine start_ (n := 13) (S := fun w' => w'.cell? ⟨g4, 0, none⟩ = some (.slice A1 1 c1) ∧ w'.cell? ⟨g4, 1, none⟩ = some (.slice (some a2) 1 c2) ∧ w'.cell? ⟨g4, 2, none⟩ = some (.int .i64 1) ∧ w'.cell? ⟨g4, 3, none⟩ = some (.int .i64 2) ∧ w'.cell? ⟨g4, 4, none⟩ = some (.int .i64 1073741824) ∧ w'.cell? ⟨g4, 5, none⟩ = some (.int .i64 2147483648) ∧ w'.cell? ⟨g4, 6, none⟩ = some (.int .i64 0) ∧ w'.cell? ⟨g4, 7, none⟩ = some (.slice (some ⟨g3, 0, none⟩) 4 c3) ∧ w'.cell? ⟨g4, 8, none⟩ = some (.slice A4 2 c4) ∧ w'.cell? ⟨k, 3, none⟩ = some (.slice (some ⟨gm, 0, none⟩) 3 cm)) (ds := []) #[false, false, false, false, false, false, false, false, false, false, false, false, false] (by kernel_rfl) rfl rfl ⟨(blk_cell BKg4.out 0).trans rfl, (blk_cell BKg4.out 1).trans rfl, (blk_cell BKg4.out 2).trans rfl, (blk_cell BKg4.out 3).trans rfl, (blk_cell BKg4.out 4).trans rfl, (blk_cell BKg4.out 5).trans rfl, (blk_cell BKg4.out 6).trans rfl, (blk_cell BKg4.out 7).trans rfl, (blk_cell BKg4.out 8).trans rfl, (blk_cell BK.out 3).trans rfl⟩ (fun hHeld => ?_); refine with_tabW world_begin.tab4 world_begin.bits4 (fun HT_ HW_ => ?_)
 generalize wg4.drew = wa0 at BKg4 BK HR HJ HW KK hHeld ⊢
 refine yp_ ?_ 1 24
 refine yp_ ?_ 2 25
 refine yp_ ?_ 3 26
 refine yp_ ?_ 4 27
 refine yp_ ?_ 6 29
 refine yt10_ ?_ 0 23
 refine yt10_ ?_ 5 28
 refine yo_ 7 (some 30) (fun K hK => ?_)
 refine yg_ Tryz.func30 #[.agg #[.slice A1 1 c1, .slice (some a2) 1 c2, .int .i64 1, .int .i64 2, .int .i64 1073741824, .int .i64 2147483648, .int .i64 0, .slice (some ⟨g3, 0, none⟩) 4 c3, .slice A4 2 c4], .int .i64 0, .slice (some ⟨gm, 0, none⟩) 3 cm, .int .i64 8] ?_
 refine (work_New A1 c1 a2 c2 g3 c3 A4 c4 (some ⟨gm, 0, none⟩) cm 0 _ HG.out HJ.out.jp HR.out (by decide)).mono ?_
 rintro e wb0 ⟨kk, cs, rfl, hcs, h14, hb⟩
 replace BKg4 := zA_ (blk_below BKg4.out hb)
 replace BK := zA_ (blk_below BK.out hb)
 replace HR := zA_ (HR.out.below hb)
 replace HJ := zA_ (HJ.out.below hb)
 replace HW := zA_ ((HW.out.below hb).mono fun v hv => hv.below hb)
 replace KK := zA_ (KK.out.trans (KP.of_below hb))
 have GW := zA_ (show goodW wb0 (.pointer (some ⟨kk, 0, none⟩)) from Or.inr ⟨kk, cs, rfl, hcs, h14⟩)
 clear hb hcs h14
 refine ⟨_, rfl, ?_⟩
 refine hK.out _ _ ⟨(blk_cell BKg4.out 0).trans rfl, (blk_cell BKg4.out 1).trans rfl, (blk_cell BKg4.out 2).trans rfl, (blk_cell BKg4.out 3).trans rfl, (blk_cell BKg4.out 4).trans rfl, (blk_cell BKg4.out 5).trans rfl, (blk_cell BKg4.out 6).trans rfl, (blk_cell BKg4.out 7).trans rfl, (blk_cell BKg4.out 8).trans rfl, (blk_cell BK.out 3).trans rfl⟩ (fun hHeld => ?_)
 clear hK K
 refine zq_ (some 30) (h := ?_)
 refine yp_ ?_ 8 22
 refine yp_ ?_ 9 31
 refine yp_ ?_ 10 32
 refine yp_ ?_ 11 9
 refine yp_ ?_ 12 10
 refine done_ (done_of HT_.out (by kernel_rfl)) ?_
 have hz4 := (blk_cell BK.out 4).trans rfl
 go_wp2_with (first | (at_mapUpdate; refine WM.put (w1 := wb0) (t := 61) (e := 102) HW.out rfl _ _ _ rfl Tryz.underlying61 (by first | rfl | (go_simp; done)) (by unfold maxLen; omega) 0 (.pointer (some ⟨kk, 0, none⟩)) (by first | rfl | (go_simp; done)) (by first | rfl | (go_simp; done)) (by decide) GW.out ?_; intro wc0 hm9 hg9; have LK := KP.grown (S := (fun q => q = k ∨ q = lm)) hg9 (Or.inr rfl); have LM_ := KP.grown (S := fun q => q = lm) hg9 rfl; replace BKg4 := zA_ (blk_grown BKg4.out hg9 (fun e => NG.out (by injection e))); replace HR := zA_ (HR.out.kp LM_ (fun q hq c => by subst hq; exact map_not HW.out c 3)); replace HJ := zA_ (HJ.out.kp LM_ (fun q hq t _ c => by subst hq; exact map_not HW.out c t)); replace BK := zA_ (blk_grown BK.out hg9 (fun e => NK.out (by injection e))); have HW2 := zA_ (hm9.mono fun v hv => hv.kp LM_ (fun q hq c => by subst hq; exact map_not HW.out c 155)); replace HW := HW2; replace KK := zA_ (KK.out.trans LK); clear hm9 hg9 LK LM_ HW2 hz4 GW))
 rw [rounds_succ]
 obtain ⟨gm_, e_, _, _, _, _, m0_, m1_, m2_, _⟩ := mem3_row HR.out
 cases e_
 go_wp2_with (first | fail)
 clear m0_ m1_ m2_
 replace BKg4 := zA_ (blk_drew BKg4.out)
 replace BK := zA_ (blk_drew BK.out)
 replace HR := zA_ (HR.out.below (below_drew1 (Below.refl wc0.heap.size wc0)))
 replace HJ := zA_ (HJ.out.below (below_drew1 (Below.refl wc0.heap.size wc0)))
 replace HW := zA_ ((HW.out.below (below_drew1 (Below.refl wc0.heap.size wc0))).mono fun v hv => hv.below (below_drew1 (Below.refl wc0.heap.size wc0)))
 replace KK := zA_ (KK.out.trans (KP.of_below (below_drew1 (Below.refl wc0.heap.size wc0))))
 refine start_ (n := 13) (S := fun w' => w'.cell? ⟨g4, 0, none⟩ = some (.slice A1 1 c1) ∧ w'.cell? ⟨g4, 1, none⟩ = some (.slice (some a2) 1 c2) ∧ w'.cell? ⟨g4, 2, none⟩ = some (.int .i64 1) ∧ w'.cell? ⟨g4, 3, none⟩ = some (.int .i64 2) ∧ w'.cell? ⟨g4, 4, none⟩ = some (.int .i64 1073741824) ∧ w'.cell? ⟨g4, 5, none⟩ = some (.int .i64 2147483648) ∧ w'.cell? ⟨g4, 6, none⟩ = some (.int .i64 0) ∧ w'.cell? ⟨g4, 7, none⟩ = some (.slice (some ⟨g3, 0, none⟩) 4 c3) ∧ w'.cell? ⟨g4, 8, none⟩ = some (.slice A4 2 c4) ∧ w'.cell? ⟨k, 3, none⟩ = some (.slice (some ⟨gm, 0, none⟩) 3 cm)) (ds := []) #[false, false, false, false, false, false, false, false, false, false, false, false, false] (by kernel_rfl) rfl rfl ⟨(blk_cell BKg4.out 0).trans rfl, (blk_cell BKg4.out 1).trans rfl, (blk_cell BKg4.out 2).trans rfl, (blk_cell BKg4.out 3).trans rfl, (blk_cell BKg4.out 4).trans rfl, (blk_cell BKg4.out 5).trans rfl, (blk_cell BKg4.out 6).trans rfl, (blk_cell BKg4.out 7).trans rfl, (blk_cell BKg4.out 8).trans rfl, (blk_cell BK.out 3).trans rfl⟩ (fun hHeld => ?_); refine with_tabW world_begin.tab4 world_begin.bits4 (fun HT_ HW_ => ?_)
 generalize wc0.drew = wa1 at BKg4 BK HR HJ HW KK hHeld ⊢
 refine yp_ ?_ 1 24
 refine yp_ ?_ 2 25
 refine yp_ ?_ 3 26
 refine yp_ ?_ 4 27
 refine yp_ ?_ 6 29
 refine yt10_ ?_ 0 23
 refine yt10_ ?_ 5 28
 refine yo_ 7 (some 30) (fun K hK => ?_)
 refine yg_ Tryz.func30 #[.agg #[.slice A1 1 c1, .slice (some a2) 1 c2, .int .i64 1, .int .i64 2, .int .i64 1073741824, .int .i64 2147483648, .int .i64 0, .slice (some ⟨g3, 0, none⟩) 4 c3, .slice A4 2 c4], .int .i64 1, .slice (some ⟨gm, 0, none⟩) 3 cm, .int .i64 8] ?_
 refine (work_New A1 c1 a2 c2 g3 c3 A4 c4 (some ⟨gm, 0, none⟩) cm 1 _ HG.out HJ.out.jp HR.out (by decide)).mono ?_
 rintro e wb1 ⟨kk, cs, rfl, hcs, h14, hb⟩
 replace BKg4 := zA_ (blk_below BKg4.out hb)
 replace BK := zA_ (blk_below BK.out hb)
 replace HR := zA_ (HR.out.below hb)
 replace HJ := zA_ (HJ.out.below hb)
 replace HW := zA_ ((HW.out.below hb).mono fun v hv => hv.below hb)
 replace KK := zA_ (KK.out.trans (KP.of_below hb))
 have GW := zA_ (show goodW wb1 (.pointer (some ⟨kk, 0, none⟩)) from Or.inr ⟨kk, cs, rfl, hcs, h14⟩)
 clear hb hcs h14
 refine ⟨_, rfl, ?_⟩
 refine hK.out _ _ ⟨(blk_cell BKg4.out 0).trans rfl, (blk_cell BKg4.out 1).trans rfl, (blk_cell BKg4.out 2).trans rfl, (blk_cell BKg4.out 3).trans rfl, (blk_cell BKg4.out 4).trans rfl, (blk_cell BKg4.out 5).trans rfl, (blk_cell BKg4.out 6).trans rfl, (blk_cell BKg4.out 7).trans rfl, (blk_cell BKg4.out 8).trans rfl, (blk_cell BK.out 3).trans rfl⟩ (fun hHeld => ?_)
 clear hK K
 refine zq_ (some 30) (h := ?_)
 refine yp_ ?_ 8 22
 refine yp_ ?_ 9 31
 refine yp_ ?_ 10 32
 refine yp_ ?_ 11 9
 refine yp_ ?_ 12 10
 refine done_ (done_of HT_.out (by kernel_rfl)) ?_
 have hz4 := (blk_cell BK.out 4).trans rfl
 go_wp2_with (first | (at_mapUpdate; refine WM.put (w1 := wb1) (t := 61) (e := 102) HW.out rfl _ _ _ rfl Tryz.underlying61 (by first | rfl | (go_simp; done)) (by unfold maxLen; omega) 1 (.pointer (some ⟨kk, 0, none⟩)) (by first | rfl | (go_simp; done)) (by first | rfl | (go_simp; done)) (by decide) GW.out ?_; intro wc1 hm9 hg9; have LK := KP.grown (S := (fun q => q = k ∨ q = lm)) hg9 (Or.inr rfl); have LM_ := KP.grown (S := fun q => q = lm) hg9 rfl; replace BKg4 := zA_ (blk_grown BKg4.out hg9 (fun e => NG.out (by injection e))); replace HR := zA_ (HR.out.kp LM_ (fun q hq c => by subst hq; exact map_not HW.out c 3)); replace HJ := zA_ (HJ.out.kp LM_ (fun q hq t _ c => by subst hq; exact map_not HW.out c t)); replace BK := zA_ (blk_grown BK.out hg9 (fun e => NK.out (by injection e))); have HW2 := zA_ (hm9.mono fun v hv => hv.kp LM_ (fun q hq c => by subst hq; exact map_not HW.out c 155)); replace HW := HW2; replace KK := zA_ (KK.out.trans LK); clear hm9 hg9 LK LM_ HW2 hz4 GW))
 rw [rounds_succ]
 obtain ⟨gm_, e_, _, _, _, _, m0_, m1_, m2_, _⟩ := mem3_row HR.out
 cases e_
 go_wp2_with (first | fail)
 clear m0_ m1_ m2_
 replace BKg4 := zA_ (blk_drew BKg4.out)
 replace BK := zA_ (blk_drew BK.out)
 replace HR := zA_ (HR.out.below (below_drew1 (Below.refl wc1.heap.size wc1)))
 replace HJ := zA_ (HJ.out.below (below_drew1 (Below.refl wc1.heap.size wc1)))
 replace HW := zA_ ((HW.out.below (below_drew1 (Below.refl wc1.heap.size wc1))).mono fun v hv => hv.below (below_drew1 (Below.refl wc1.heap.size wc1)))
 replace KK := zA_ (KK.out.trans (KP.of_below (below_drew1 (Below.refl wc1.heap.size wc1))))
 refine start_ (n := 13) (S := fun w' => w'.cell? ⟨g4, 0, none⟩ = some (.slice A1 1 c1) ∧ w'.cell? ⟨g4, 1, none⟩ = some (.slice (some a2) 1 c2) ∧ w'.cell? ⟨g4, 2, none⟩ = some (.int .i64 1) ∧ w'.cell? ⟨g4, 3, none⟩ = some (.int .i64 2) ∧ w'.cell? ⟨g4, 4, none⟩ = some (.int .i64 1073741824) ∧ w'.cell? ⟨g4, 5, none⟩ = some (.int .i64 2147483648) ∧ w'.cell? ⟨g4, 6, none⟩ = some (.int .i64 0) ∧ w'.cell? ⟨g4, 7, none⟩ = some (.slice (some ⟨g3, 0, none⟩) 4 c3) ∧ w'.cell? ⟨g4, 8, none⟩ = some (.slice A4 2 c4) ∧ w'.cell? ⟨k, 3, none⟩ = some (.slice (some ⟨gm, 0, none⟩) 3 cm)) (ds := []) #[false, false, false, false, false, false, false, false, false, false, false, false, false] (by kernel_rfl) rfl rfl ⟨(blk_cell BKg4.out 0).trans rfl, (blk_cell BKg4.out 1).trans rfl, (blk_cell BKg4.out 2).trans rfl, (blk_cell BKg4.out 3).trans rfl, (blk_cell BKg4.out 4).trans rfl, (blk_cell BKg4.out 5).trans rfl, (blk_cell BKg4.out 6).trans rfl, (blk_cell BKg4.out 7).trans rfl, (blk_cell BKg4.out 8).trans rfl, (blk_cell BK.out 3).trans rfl⟩ (fun hHeld => ?_); refine with_tabW world_begin.tab4 world_begin.bits4 (fun HT_ HW_ => ?_)
 generalize wc1.drew = wa2 at BKg4 BK HR HJ HW KK hHeld ⊢
 refine yp_ ?_ 1 24
 refine yp_ ?_ 2 25
 refine yp_ ?_ 3 26
 refine yp_ ?_ 4 27
 refine yp_ ?_ 6 29
 refine yt10_ ?_ 0 23
 refine yt10_ ?_ 5 28
 refine yo_ 7 (some 30) (fun K hK => ?_)
 refine yg_ Tryz.func30 #[.agg #[.slice A1 1 c1, .slice (some a2) 1 c2, .int .i64 1, .int .i64 2, .int .i64 1073741824, .int .i64 2147483648, .int .i64 0, .slice (some ⟨g3, 0, none⟩) 4 c3, .slice A4 2 c4], .int .i64 2, .slice (some ⟨gm, 0, none⟩) 3 cm, .int .i64 8] ?_
 refine (work_New A1 c1 a2 c2 g3 c3 A4 c4 (some ⟨gm, 0, none⟩) cm 2 _ HG.out HJ.out.jp HR.out (by decide)).mono ?_
 rintro e wb2 ⟨kk, cs, rfl, hcs, h14, hb⟩
 replace BKg4 := zA_ (blk_below BKg4.out hb)
 replace BK := zA_ (blk_below BK.out hb)
 replace HR := zA_ (HR.out.below hb)
 replace HJ := zA_ (HJ.out.below hb)
 replace HW := zA_ ((HW.out.below hb).mono fun v hv => hv.below hb)
 replace KK := zA_ (KK.out.trans (KP.of_below hb))
 have GW := zA_ (show goodW wb2 (.pointer (some ⟨kk, 0, none⟩)) from Or.inr ⟨kk, cs, rfl, hcs, h14⟩)
 clear hb hcs h14
 refine ⟨_, rfl, ?_⟩
 refine hK.out _ _ ⟨(blk_cell BKg4.out 0).trans rfl, (blk_cell BKg4.out 1).trans rfl, (blk_cell BKg4.out 2).trans rfl, (blk_cell BKg4.out 3).trans rfl, (blk_cell BKg4.out 4).trans rfl, (blk_cell BKg4.out 5).trans rfl, (blk_cell BKg4.out 6).trans rfl, (blk_cell BKg4.out 7).trans rfl, (blk_cell BKg4.out 8).trans rfl, (blk_cell BK.out 3).trans rfl⟩ (fun hHeld => ?_)
 clear hK K
 refine zq_ (some 30) (h := ?_)
 refine yp_ ?_ 8 22
 refine yp_ ?_ 9 31
 refine yp_ ?_ 10 32
 refine yp_ ?_ 11 9
 refine yp_ ?_ 12 10
 refine done_ (done_of HT_.out (by kernel_rfl)) ?_
 have hz4 := (blk_cell BK.out 4).trans rfl
 go_wp2_with (first | (at_mapUpdate; refine WM.put (w1 := wb2) (t := 61) (e := 102) HW.out rfl _ _ _ rfl Tryz.underlying61 (by first | rfl | (go_simp; done)) (by unfold maxLen; omega) 2 (.pointer (some ⟨kk, 0, none⟩)) (by first | rfl | (go_simp; done)) (by first | rfl | (go_simp; done)) (by decide) GW.out ?_; intro wc2 hm9 hg9; have LK := KP.grown (S := (fun q => q = k ∨ q = lm)) hg9 (Or.inr rfl); have LM_ := KP.grown (S := fun q => q = lm) hg9 rfl; replace BKg4 := zA_ (blk_grown BKg4.out hg9 (fun e => NG.out (by injection e))); replace HR := zA_ (HR.out.kp LM_ (fun q hq c => by subst hq; exact map_not HW.out c 3)); replace HJ := zA_ (HJ.out.kp LM_ (fun q hq t _ c => by subst hq; exact map_not HW.out c t)); replace BK := zA_ (blk_grown BK.out hg9 (fun e => NK.out (by injection e))); have HW2 := zA_ (hm9.mono fun v hv => hv.kp LM_ (fun q hq c => by subst hq; exact map_not HW.out c 155)); replace HW := HW2; replace KK := zA_ (KK.out.trans LK); clear hm9 hg9 LK LM_ HW2 hz4 GW))
 rw [rounds_succ]
 go_wp2_with (first | (go_at_call 31; refine (net_New2 _).mono ?_; rintro e we ⟨ng, rfl, hb⟩; replace BK := zA_ (blk_below BK.out hb); replace HW := zA_ ((HW.out.below hb).mono fun v hv => hv.below hb); replace KK := zA_ (KK.out.trans (KP.of_below hb)); clear hb; have hz6 := (blk_cell BK.out 6).trans rfl; have hf6 := blk_frozen BK.out 6))
 go_ret
 have BK2 := zA_ (blk_put BK.out 6 (.pointer (some ⟨ng, 0, none⟩)) rfl)
 exact ⟨rfl, ⟨_, BK2.out⟩, (HW.out.set ⟨k, 6, none⟩ (Ne.symm NK.out) (.pointer (some ⟨ng, 0, none⟩))).mono fun v hv => hv.kp (KP.set (S := fun q => q = k) (b := k) _ rfl 6 (.pointer (some ⟨ng, 0, none⟩))) (fun q hq c => by subst hq; exact typ_not BK.out (by decide) c), KK.out.trans (KP.set _ (Or.inl rfl) 6 (.pointer (some ⟨ng, 0, none⟩)))⟩
theorem s_disable (w : World) : (callFunc 157 #[]).run Tryz.prog w = .ok (.value (.tuple #[])) w := run_call_mark0 Tryz.func157 (by kernel_rfl) (by kernel_rfl) (by kernel_rfl) .disable (by kernel_rfl) w
theorem s_enable (w : World) : (callFunc 159 #[]).run Tryz.prog w = .ok (.value (.tuple #[])) w := run_call_mark0 Tryz.func159 (by kernel_rfl) (by kernel_rfl) (by kernel_rfl) .enable (by kernel_rfl) w
theorem s_acquire (a : Addr) (w : World) : (callFunc 160 #[.pointer (some a)]).run Tryz.prog w = .ok (.value (.tuple #[])) w := run_call_marked Tryz.func160 (by kernel_rfl) (by kernel_rfl) (by kernel_rfl) .acquire (by kernel_rfl) a w
theorem s_releaseMerge (a : Addr) (w : World) : (callFunc 162 #[.pointer (some a)]).run Tryz.prog w = .ok (.value (.tuple #[])) w := run_call_marked Tryz.func162 (by kernel_rfl) (by kernel_rfl) (by kernel_rfl) .releaseMerge (by kernel_rfl) a w
theorem s_store_deferred (a : Addr) (x : Value) (u : FrameMode) (w : World) (hc : w.cell? a = some x) (hz : w.frozen? a = false) :
    CallsD Tryz.prog 56 #[.pointer (some a), .bool true] u w fun e u' w' => u' = u ∧ (e = .returned (.tuple #[]) ∧ w' = w.drew.setCell a (.int .u32 1)) := by
  have hc' : w.drew.cell? a = some x := by go_simp
  have hz' : w.drew.frozen? a = false := by go_simp
  have hst := run_call_store (P := Tryz.prog) Tryz.func103 (by kernel_rfl) (by kernel_rfl) (by kernel_rfl) (by kernel_rfl) (k := .u32) (y := 1) hc' hz'
  go_enter_d Tryz.func56, Tryz.ntmps56
  go_wp2
  go_region_calls
  all_goals (go_end0; exact ⟨rfl, rfl⟩)
theorem s_unlock_deferred (a : Addr) (u : FrameMode) (w : World) (hc : w.cell? a = some (.int .i32 1)) (hz : w.frozen? a = false) :
    CallsD Tryz.prog 55 #[.pointer (some a)] u w fun e u' w' => u' = u ∧ (e = .returned (.tuple #[]) ∧ w' = w.setCell a (.int .i32 0)) := by
  have hd := s_disable
  have he := s_enable
  have hr := s_releaseMerge
  have hadd := run_call_add (P := Tryz.prog) Tryz.func163 (by kernel_rfl) (by kernel_rfl) (by kernel_rfl) .i32 (by kernel_rfl) (y := -1) (s := 0) hc hz (by simp [go_sem]; rfl)
  have hcv := run_convert_to_unsafe (P := Tryz.prog) (src := 254) (dst := 108) Tryz.underlying254 Tryz.underlying108 (by kernel_rfl) hc
  go_enter_d Tryz.func55, Tryz.ntmps55
  go_wp2
  go_end0
  go_wp2
  go_end0
  exact ⟨rfl, rfl⟩
theorem s_lock_free (a : Addr) (w : World) (hc : w.cell? a = some (.int .i32 0)) (hz : w.frozen? a = false) :
    Calls Tryz.prog 54 #[.pointer (some a)] w fun e w' => e = .returned (.tuple #[]) ∧ w' = w.setCell a (.int .i32 1) := by
  have hd := s_disable
  have he := s_enable
  have ha := s_acquire
  have hcas := run_call_cas_hit (P := Tryz.prog) Tryz.func158 (by kernel_rfl) (by kernel_rfl) (by kernel_rfl) .i32 (by kernel_rfl) (y := 1) hc hz
  have hc' : (w.setCell a (.int .i32 1)).cell? a = some (.int .i32 1) := World.cell?_setCell_same w a _ hc
  have hcv := run_convert_to_unsafe (P := Tryz.prog) (src := 254) (dst := 108) Tryz.underlying254 Tryz.underlying108 (by kernel_rfl) hc'
  go_enter Tryz.func54, Tryz.ntmps54
  go_wp2
  first | go_end0 | (simp only [Exit.inBlock, Exit.then]; refine bodyPost_ret (results_none rfl _ _ _) rfl ?_) | refine bodyPost_ret (results_none rfl _ _ _) rfl ?_
  go_wp2
  go_end0
  exact ⟨rfl, rfl⟩
theorem once_slow (b : Nat) (p0 p1 p2 p3 : Value) (Q : World → Prop) (w : World) (h0 : w.cell? ⟨b, 0, none⟩ = some (.int .u32 0)) (h1 : w.cell? ⟨b, 1, none⟩ = some (.int .i32 0)) (f0 : w.frozen? ⟨b, 0, none⟩ = false) (f1 : w.frozen? ⟨b, 1, none⟩ = false)
    (HF : Calls Tryz.prog 16 #[p0, p1, p2, p3] (w.setCell ⟨b, 1, none⟩ (.int .i32 1)) fun e w' => e = .returned (.tuple #[]) ∧ Q w' ∧ w'.cell? ⟨b, 0, none⟩ = some (.int .u32 0) ∧ w'.cell? ⟨b, 1, none⟩ = some (.int .i32 1) ∧ w'.frozen? ⟨b, 0, none⟩ = false ∧ w'.frozen? ⟨b, 1, none⟩ = false) :
    Calls Tryz.prog 29 #[.pointer (some ⟨b, 0, none⟩), .func (.func 16) #[] #[p0, p1, p2, p3]] w fun e w' => e = .returned (.tuple #[]) ∧ ∃ w1, Q w1 ∧ w' = (w1.drew.setCell ⟨b, 0, none⟩ (.int .u32 1)).setCell ⟨b, 1, none⟩ (.int .i32 0) := by
  have hl := run_call_load (P := Tryz.prog) Tryz.func53 (by kernel_rfl) (by kernel_rfl) (by kernel_rfl) .u32 (by kernel_rfl) (w := w.setCell ⟨b, 1, none⟩ (.int .i32 1)) (a := ⟨b, 0, none⟩) (x := 0) ((World.cell?_setCell_other _ ⟨b, 1, none⟩ ⟨b, 0, none⟩ _ (by simp)).trans h0)
  have hnot : ∀ (x : Bool) (w : World), (Op.unary .not (.bool x)).run Tryz.prog w = .ok (.bool (!x)) w := fun _ _ => rfl
  have HFA := zA_ HF
  clear HF
  go_enter_defers Tryz.func29, Tryz.ntmps29
  go_wp2_with (first | (go_at_call 54; refine (s_lock_free ⟨b, 1, none⟩ _ (by go_simp) (by go_simp)).mono ?_; rintro e w' ⟨rfl, rfl⟩) | (go_at_call 28; go_in) | (go_at_call 16; refine HFA.out.mono ?_; rintro e w1 ⟨rfl, hQ, k0, k1, z0, z1⟩))
  -- THE DOOR
  refine leaves_cons (f := 56) (args := #[.pointer (some ⟨b, 0, none⟩), .bool true]) (by simp) (by simp [go_sem]) ?_
  refine (s_store_deferred ⟨b, 0, none⟩ (.int .u32 0) .returning _ k0 z0).mono ?_
  rintro e u' w'' ⟨rfl, rfl, rfl⟩
  refine leaves_cons (f := 55) (args := #[.pointer (some ⟨b, 1, none⟩)]) (by simp [settle]) (by simp [go_sem]) ?_
  refine (s_unlock_deferred ⟨b, 1, none⟩ _ _ ?_ (by simp [z1])).mono ?_
  · refine (World.cell?_setCell_other _ ⟨b, 0, none⟩ ⟨b, 1, none⟩ _ (by simp)).trans ?_
    rw [World.cell?_drew]
    exact k1
  rintro e u' w'' ⟨rfl, rfl, rfl⟩
  have hQ' := hQ
  simp [Leaves, settle, results, Tryz.results29]
  exact ⟨_, hQ, rfl⟩
theorem once_do (b : Nat) (p0 p1 p2 p3 : Value) (Q : World → Prop) (w : World) (h0 : w.cell? ⟨b, 0, none⟩ = some (.int .u32 0)) (h1 : w.cell? ⟨b, 1, none⟩ = some (.int .i32 0)) (f0 : w.frozen? ⟨b, 0, none⟩ = false) (f1 : w.frozen? ⟨b, 1, none⟩ = false)
    (HF : Calls Tryz.prog 16 #[p0, p1, p2, p3] (w.setCell ⟨b, 1, none⟩ (.int .i32 1)) fun e w' => e = .returned (.tuple #[]) ∧ Q w' ∧ w'.cell? ⟨b, 0, none⟩ = some (.int .u32 0) ∧ w'.cell? ⟨b, 1, none⟩ = some (.int .i32 1) ∧ w'.frozen? ⟨b, 0, none⟩ = false ∧ w'.frozen? ⟨b, 1, none⟩ = false) :
    Calls Tryz.prog 15 #[.pointer (some ⟨b, 0, none⟩), .func (.func 16) #[] #[p0, p1, p2, p3]] w fun e w' => e = .returned (.tuple #[]) ∧ ∃ w1, Q w1 ∧ w' = (w1.drew.setCell ⟨b, 0, none⟩ (.int .u32 1)).setCell ⟨b, 1, none⟩ (.int .i32 0) := by
  have hl := run_call_load (P := Tryz.prog) Tryz.func53 (by kernel_rfl) (by kernel_rfl) (by kernel_rfl) .u32 (by kernel_rfl) h0
  have hnot : ∀ (x : Bool) (w : World), (Op.unary .not (.bool x)).run Tryz.prog w = .ok (.bool (!x)) w := fun _ _ => rfl
  have HFA := zA_ HF
  clear HF
  go_enter Tryz.func15, Tryz.ntmps15
  go_wp2_with (first | (go_at_call 29; refine (once_slow b p0 p1 p2 p3 Q _ h0 h1 f0 f1 HFA.out).mono ?_; rintro e w' ⟨rfl, hx⟩) | (go_at_call 28; go_in))
  go_end0
  exact ⟨rfl, hx⟩
theorem new_closure (A1 : Option Addr) (c1 : Nat) (a2 : Addr) (c2 g3 c3 : Nat) (A4 : Option Addr) (c4 : Nat) (k lm dl gm cm gw gj gg ge : Nat) (w : World) (hG : GoodH) (hJ : JR w A1 c1 a2 c2 g3 c3 A4 c4) (hr : RM w (some ⟨gm, 0, none⟩) cm) (hk : w.heap[k]? = some (.cells #[.int .u32 0, .int .i32 1, .int .u32 0, .slice (some ⟨gm, 0, none⟩) 3 cm, .map (some lm), .map (some dl), .pointer none, .int .i64 0] 80 (0, 0))) (hm : WM w lm 0 (goodW w))
  (hw : w.heap[gw]? = some (.cells #[.pointer (some ⟨k, 0, none⟩)] 29 (0, 0))) (hj : w.heap[gj]? = some (.cells #[.slice A1 1 c1, .slice (some a2) 1 c2, .int .i64 1, .int .i64 2, .int .i64 1073741824, .int .i64 2147483648, .int .i64 0, .slice (some ⟨g3, 0, none⟩) 4 c3, .slice A4 2 c4] 42 (0, 0))) (hg : w.heap[gg]? = some (.cells #[.int .i64 8] 2 (0, 0))) (he : w.heap[ge]? = some (.cells #[.int .i64 1] 23 (0, 0))) :
  Calls Tryz.prog 16 #[.pointer (some ⟨gw, 0, none⟩), .pointer (some ⟨gj, 0, none⟩), .pointer (some ⟨gg, 0, none⟩), .pointer (some ⟨ge, 0, none⟩)] w fun e w' => e = .returned (.tuple #[]) ∧ (∃ v, w'.heap[k]? = some (.cells #[.int .u32 0, .int .i32 1, .int .u32 0, .slice (some ⟨gm, 0, none⟩) 3 cm, .map (some lm), .map (some dl), v, .int .i64 0] 80 (0, 0))) ∧ w'.heap[ge]? = some (.cells #[.int .i64 0] 23 (0, 0)) ∧ w'.heap[gw]? = some (.cells #[.pointer (some ⟨k, 0, none⟩)] 29 (0, 0)) ∧ WM w' lm 3 (goodW w') ∧ KP (fun q => q = k ∨ q = lm ∨ q = ge) w w' := by
 have hz0 := (blk_cell hj 0).trans rfl
 have hz1 := (blk_cell hj 1).trans rfl
 have hz2 := (blk_cell hj 2).trans rfl
 have hz3 := (blk_cell hj 3).trans rfl
 have hz4 := (blk_cell hj 4).trans rfl
 have hz5 := (blk_cell hj 5).trans rfl
 have hz6 := (blk_cell hj 6).trans rfl
 have hz7 := (blk_cell hj 7).trans rfl
 have hz8 := (blk_cell hj 8).trans rfl
 have hza := (blk_cell hw 0).trans rfl
 have hzb := (blk_cell hg 0).trans rfl
 have HJ := zA_ hJ
 have HR := zA_ hr
 have BK := zA_ hk
 have HM := zA_ hm
 have BE := zA_ he
 have BW := zA_ hw
 have HG := zA_ hG
 have NE : Aside0 (ge ≠ k ∧ ge ≠ lm ∧ gw ≠ k ∧ gw ≠ lm ∧ gw ≠ ge) := ⟨⟨fun e => by subst e; exact typ_not he (by decide) _ hk, fun e => by subst e; exact map_not hm _ _ he, fun e => by subst e; exact typ_not hw (by decide) _ hk, fun e => by subst e; exact map_not hm _ _ hw, fun e => by subst e; exact typ_not hw (by decide) _ he⟩⟩
 clear hJ hr hk hm hw hj hg he hG
 go_enter Tryz.func16, Tryz.ntmps16
 go_wp2_with (first | (go_at_call 17; refine (world_begin A1 c1 a2 c2 g3 c3 A4 c4 k lm gm cm _ _ _ _ _ _ HG.out HJ.out HR.out BK.out HM.out).mono ?_; rintro e w2 ⟨rfl, ⟨v, hk2⟩, hm2, hkp⟩; have BK2 := zA_ hk2; have HM2 := zA_ hm2; have HK := zA_ hkp; replace BE := zA_ (hkp.blk BE.out (fun h => by have ne := NE.out; rcases h with h | h; exact ne.1 h; exact ne.2.1 h)); replace BW := zA_ (hkp.blk BW.out (fun h => by have ne := NE.out; rcases h with h | h; exact ne.2.2.1 h; exact ne.2.2.2.1 h)); clear hk2 hm2 hkp hz0 hz1 hz2 hz3 hz4 hz5 hz6 hz7 hz8 hza hzb; have hy := (blk_cell BE.out 0).trans rfl; have hf := blk_frozen BE.out 0))
 first | go_end0 | go_ret
 have K3 := KP.set (S := fun q => q = ge) (b := ge) w2 rfl 0 (.int .i64 0)
 refine ⟨rfl, ⟨v, K3.blk BK2.out (Ne.symm NE.out.1)⟩, blk_put BE.out 0 _ rfl, K3.blk BW.out NE.out.2.2.2.2, (HM2.out.kp K3 (Ne.symm NE.out.2.1)).mono fun v hv => hv.kp K3 (fun q hq c => by subst hq; exact typ_not BE.out (by decide) c), (HK.out.mono (fun q hq => by rcases hq with h | h; exact Or.inl h; exact Or.inr (Or.inl h))).trans (KP.set _ (Or.inr (Or.inr rfl)) 0 _)⟩
theorem world_New (A1 : Option Addr) (c1 : Nat) (a2 : Addr) (c2 g3 c3 : Nat) (A4 : Option Addr) (c4 : Nat) (A : Option Addr) (c : Nat) (w : World) (hG : GoodH) (hJ : JR w A1 c1 a2 c2 g3 c3 A4 c4) (hr : RM w A c) :
  Calls Tryz.prog 7 #[.agg #[.slice A1 1 c1, .slice (some a2) 1 c2, .int .i64 1, .int .i64 2, .int .i64 1073741824, .int .i64 2147483648, .int .i64 0, .slice (some ⟨g3, 0, none⟩) 4 c3, .slice A4 2 c4], .slice A 3 c, .int .i64 8] w fun e w' => ∃ k, e = .returned (.tuple #[.pointer (some ⟨k, 0, none⟩), .int .i64 0]) ∧ WF w' k ∧ Below w.heap.size w w' := by
 have HB := zA_ (Below.refl w.heap.size w)
 have HJ := zA_ hJ
 have HR := zA_ hr
 have HG := zA_ hG
 have hmm := @run_makeMap Tryz.prog
 have hmf : ∀ (fn : Fn) (first cap : Array Value) (w : World), (Instr.makeFunc fn first cap).run Tryz.prog w = .ok (.func fn first cap) w := fun _ _ _ _ => rfl
 clear hJ hr hG
 go_enter Tryz.func7, Tryz.ntmps7
 go_wp2_with (first | ((with_reducible refine gate_dst (N := 3) rfl ?_); refine zB_ (#[.slice A1 1 c1, .slice (some a2) 1 c2, .int .i64 1, .int .i64 2, .int .i64 1073741824, .int .i64 2147483648, .int .i64 0, .slice (some ⟨g3, 0, none⟩) 4 c3, .slice A4 2 c4]) 42 ?_; intro gj hg wgj hbox hb; have BKgj := zA_ (hbox); have GEgj := zA_ (zs_ hg (zw0_ HB)); replace HB := zA_ (below_step (zw0_ HB) hb);  clear hb hbox hg) | ((with_reducible refine gate_dst (N := 5) rfl ?_); refine zB_ (#[.int .i64 8]) 2 ?_; intro gg hg wgg hbox hb; have BKgg := zA_ (hbox); have GEgg := zA_ (zs_ hg (zw0_ HB)); replace HB := zA_ (below_step (zw0_ HB) hb); replace BKgj := zA_ (blk_below BKgj.out hb); clear hb hbox hg) | (go_at_call 14; refine (c_clone A c _ (HR.out.below (by exact zw0_ HB))).mono ?_; rintro e w7 ⟨A9, c9, rfl, hR9, hr9, hb⟩; replace BKgj := zA_ (blk_below BKgj.out hb); replace BKgg := zA_ (blk_below BKgg.out hb); replace HB := zA_ (below_step (zw0_ HB) hb); have HR9 := zA_ hr9; clear hb hr9 hR9))
 refine calls_named (fun w8 hw_ => ?_)
 have n4 : ∀ (A B C D : Obj), ((((w7.alloc A).alloc B).alloc C).alloc D).heap[w7.heap.size + 1 + 1 + 1]? = some D := fun A B C D => by
  have h := new3 (w7.alloc A) B C D
  rw [size2 w7 A] at h
  exact h
 have n5 : ∀ (A B C D E : Obj), (((((w7.alloc A).alloc B).alloc C).alloc D).alloc E).heap[w7.heap.size + 1 + 1 + 1 + 1]? = some E := fun A B C D E => by
  have h := new3 ((w7.alloc A).alloc B) C D E
  rw [size2 (w7.alloc A) B, size2 w7 A] at h
  exact h
 have e1 : w8.heap[w7.heap.size + 1 + 1]? = some (.cells #[.int .u32 0, .int .i32 0, .int .u32 0, .slice A9 3 c9, .map (some w7.heap.size), .map (some (w7.heap.size + 1)), .pointer none, .int .i64 0] 80 (0, 0)) := by rw [hw_]; exact blk_alloc (blk_alloc (new3 w7 _ _ _) _) _
 have e2 : w8.heap[w7.heap.size + 1 + 1 + 1]? = some (.cells #[.pointer (some ⟨w7.heap.size + 1 + 1, 0, none⟩)] 29 (0, 0)) := by rw [hw_]; exact blk_alloc (n4 _ _ _ _) _
 have e3 : w8.heap[w7.heap.size + 1 + 1 + 1 + 1]? = some (.cells #[.int .i64 1] 23 (0, 0)) := by rw [hw_]; exact n5 _ _ _ _ _
 have e4 : WM w8 w7.heap.size 0 (goodW w8) := by rw [hw_]; exact (WM.made w7 _).below (below_alloc (below_alloc (below_alloc (below_alloc (Below.refl _ _) _) _) _) _)
 have hb : Below w7.heap.size w7 w8 := by rw [hw_]; exact below_alloc (below_alloc (below_alloc (below_alloc (below_alloc (Below.refl _ _) _) _) _) _) _
 have hs := below_size HB.out
 have SZ : Aside0 (w.heap.size ≤ w7.heap.size ∧ w.heap.size ≤ w7.heap.size + 1 + 1 ∧ w.heap.size ≤ w7.heap.size + 1 + 1 + 1 + 1 ∧ w7.heap.size ≠ w7.heap.size + 1 + 1 ∧ w7.heap.size + 1 + 1 + 1 + 1 ≠ w7.heap.size + 1 + 1 ∧ w7.heap.size + 1 + 1 + 1 ≠ w7.heap.size + 1 + 1) := ⟨by omega⟩
 replace BKgj := zA_ (blk_below BKgj.out hb)
 replace BKgg := zA_ (blk_below BKgg.out hb)
 replace HR9 := zA_ (HR9.out.below hb)
 replace HB := zA_ (below_step HB.out hb)
 replace HJ := zA_ (HJ.out.below HB.out)
 clear hw_ n4 n5 hb hs
 obtain ⟨gm, ea_, _⟩ := mem3_row HR9.out
 subst ea_
 generalize w7.heap.size + 1 + 1 + 1 + 1 = ge at e3 SZ ⊢
 generalize w7.heap.size + 1 + 1 + 1 = gw at e2 SZ ⊢
 generalize w7.heap.size + 1 + 1 = k at e1 e2 SZ ⊢
 generalize w7.heap.size + 1 = dl at e1 ⊢
 generalize w7.heap.size = lm at e1 e4 SZ ⊢
 have K1 := KP.set (S := fun q => q = k) (b := k) w8 rfl 1 (.int .i32 1)
 have NJ : Aside0 (gj ≠ k ∧ gg ≠ k ∧ gw ≠ k ∧ ge ≠ k) := ⟨⟨fun e => by subst e; exact typ_not BKgj.out (by decide) _ e1, fun e => by subst e; exact typ_not BKgg.out (by decide) _ e1, fun e => by subst e; exact typ_not e2 (by decide) _ e1, fun e => by subst e; exact typ_not e3 (by decide) _ e1⟩⟩
 have HF := new_closure A1 c1 a2 c2 g3 c3 A4 c4 k lm dl gm c9 gw gj gg ge (w8.setCell ⟨k, 1, none⟩ (.int .i32 1)) HG.out (HJ.out.kp K1 (fun q hq t ht c => by subst hq; exact typ_not e1 (by rcases ht with h | h | h | h <;> rw [h] <;> decide) c)) (HR9.out.kp K1 (fun q hq c => by subst hq; exact typ_not e1 (by decide) c)) (blk_put e1 1 _ rfl) ((e4.kp K1 SZ.out.2.2.2.1).mono fun v hv => hv.kp K1 (fun q hq c => by subst hq; exact typ_not e1 (by decide) c)) (K1.blk e2 NJ.out.2.2.1) (K1.blk BKgj.out NJ.out.1) (K1.blk BKgg.out NJ.out.2.1) (K1.blk e3 NJ.out.2.2.2)
 refine (once_do k _ _ _ _ (fun w' => (∃ v, w'.heap[k]? = some (.cells #[.int .u32 0, .int .i32 1, .int .u32 0, .slice (some ⟨gm, 0, none⟩) 3 c9, .map (some lm), .map (some dl), v, .int .i64 0] 80 (0, 0))) ∧ w'.heap[ge]? = some (.cells #[.int .i64 0] 23 (0, 0)) ∧ w'.heap[gw]? = some (.cells #[.pointer (some ⟨k, 0, none⟩)] 29 (0, 0)) ∧ WM w' lm 3 (goodW w') ∧ KP (fun q => q = k ∨ q = lm ∨ q = ge) (w8.setCell ⟨k, 1, none⟩ (.int .i32 1)) w') w8 ((blk_cell e1 0).trans rfl) ((blk_cell e1 1).trans rfl) (blk_frozen e1 0) (blk_frozen e1 1) (HF.mono fun e w' h => ⟨h.1, h.2, by obtain ⟨v, hv⟩ := h.2.1; exact ⟨(blk_cell hv 0).trans rfl, (blk_cell hv 1).trans rfl, blk_frozen hv 0, blk_frozen hv 1⟩⟩)).mono ?_
 rintro e w9 ⟨rfl, w10, ⟨⟨v, hk⟩, he, hw, hm, hkp⟩, hw9⟩
 have K2 : KP (fun q => q = k) w10 w9 := by rw [hw9]; exact KP.setc (KP.setc (KP.drewc (KP.refl _ _)) rfl) rfl
 have BK9 : w9.heap[k]? = some (.cells #[.int .u32 1, .int .i32 0, .int .u32 0, .slice (some ⟨gm, 0, none⟩) 3 c9, .map (some lm), .map (some dl), v, .int .i64 0] 80 (0, 0)) := by rw [hw9]; exact blk_put (blk_put (blk_drew hk) 0 _ rfl) 1 _ rfl
 have BE := zA_ (K2.blk he NJ.out.2.2.2)
 have BW := zA_ (K2.blk hw NJ.out.2.2.1)
 have HM := zA_ ((hm.kp K2 SZ.out.2.2.2.1).mono fun v hv => hv.kp K2 (fun q hq c => by subst hq; exact typ_not hk (by decide) c))
 have KK := (K1.mono (S' := fun q => q = k ∨ q = lm ∨ q = ge) (fun q hq => Or.inl hq)).trans (hkp.trans (K2.mono (fun q hq => Or.inl hq)))
 replace HB := zA_ (HB.out.trans (KK.below HB.out.size (fun q _ hq => by have := SZ.out; rcases hq with h | h | h <;> omega)))
 replace BK9 := zA_ BK9
 clear HF K1 K2 KK hk he hw hm hkp hw9 e1 e2 e3 e4
 have hy := (blk_cell BE.out 0).trans rfl
 have hz := (blk_cell BW.out 0).trans rfl
 go_wp2
 go_ret2
 exact ⟨_, rfl, ⟨_, _, _, _, _, _, _, _, _, BK9.out, HM.out⟩, HB.out⟩
theorem bcell_ {w w' : World} {a : Addr} {v : Value} (h : Below w.heap.size w w') (hc : w.cell? a = some v) : w'.cell? a = some v := (KP.of_below (S := fun _ => False) h).cell hc (fun e => e)
theorem below_alloc_step_ {w w' : World} {o : Obj} (h : Below (w.alloc o).heap.size (w.alloc o) w') : Below w.heap.size w w' := below_step (below_alloc (Below.refl _ _) o) h
theorem R_some {α : Type} {d : Kd α} {e base : Nat} {ok : Nat → Prop} {w : World} {v : Value} {xs : List α} (h : d.R e w base ok v xs) (hn : xs ≠ []) : ∃ g c, v = .slice (some ⟨g, 0, none⟩) xs.length c := by
  obtain ⟨A, c, rfl⟩ := Kd.R_slice h
  obtain ⟨_, inner, hown, _⟩ := h
  obtain ⟨_, ⟨h2, h3⟩ | ⟨g, cap, cur, a1, _⟩⟩ := hown
  · exact absurd (List.length_eq_zero_iff.1 h3) hn
  · injection a1 with a1 a2 a3
    subst a1
    exact ⟨g, c, rfl⟩
theorem script_job_ok (w : World) : Calls Tryz.prog 8 #[] w fun e w' => ∃ (A1 : Option Addr) (c1 : Nat) (a2 : Addr) (c2 g3 c3 : Nat) (A4 : Option Addr) (c4 : Nat), e = .returned (.agg #[.slice A1 1 c1, .slice (some a2) 1 c2, .int .i64 1, .int .i64 2, .int .i64 1073741824, .int .i64 2147483648, .int .i64 0, .slice (some ⟨g3, 0, none⟩) 4 c3, .slice A4 2 c4]) ∧ JR w' A1 c1 a2 c2 g3 c3 A4 c4 ∧ Below w.heap.size w w' :=
  (script_job.calls 100 [1] lay1 1 2 1073741824 2147483648 0 exs4 [0, 0] w (by kernel_rfl)).mono fun e w' h => by
    obtain ⟨v0, v1, v7, v8, rfl, r0, r1, r7, r8, hb⟩ := h
    have r7 := Kd.S_R r7
    obtain ⟨A1, c1, rfl⟩ := Kd.R_slice r0
    obtain ⟨g2, c2, rfl⟩ := R_some r1 (by decide)
    obtain ⟨g3, c3, rfl⟩ := R_some r7 (by decide)
    obtain ⟨A4, c4, rfl⟩ := Kd.R_slice r8
    exact ⟨A1, c1, ⟨g2, 0, none⟩, c2, g3, c3, A4, c4, rfl, ⟨Kd.R_lower r0 (Nat.zero_le _), Kd.R_lower r1 (Nat.zero_le _), Kd.R_lower (Kd.R_mono r7 (fun _ _ => trivial)) (Nat.zero_le _), Kd.R_lower r8 (Nat.zero_le _)⟩, hb⟩
theorem script_play (k : Nat) (w : World) (hW : WF w k) :
  Calls Tryz.prog 10 #[.pointer (some ⟨k, 0, none⟩), .agg #[(.string ⟨#[115, 116, 101, 112, 115]⟩), .slice none 0 0]] w fun e w' => e = .returned (.string ⟨#[48, 32, 48, 32, 48]⟩) ∧ Below w.heap.size w w' := by
 have HB := zA_ (Below.refl w.heap.size w)
 have HW := zA_ hW
 clear hW
 go_enter Tryz.func10, Tryz.ntmps10
 go_wp2_with (first | (go_at_call 24; refine (script_steps k _ (HW.out.below (by exact zw0_ HB))).mono ?_; rintro e w2 ⟨rfl, hb⟩; replace HB := zA_ (below_step (zw0_ HB) hb); clear hb))
 go_ret
 exact ⟨rfl, HB.out⟩
theorem script_Run (w : World) (hG : GoodH) :
  Calls Tryz.prog 5 #[(.string ⟨#[115, 116, 101, 112, 115]⟩)] w fun e w' => e = .returned (.tuple #[.string ⟨#[48, 32, 48, 32, 48, 10]⟩, .int .i64 0]) ∧ Below w.heap.size w w' := by
 have HB := zA_ (Below.refl w.heap.size w)
 have HG := zA_ hG
 clear hG
 have hadd : ∀ w, (binOp .add 9 (.string ⟨#[48, 32, 48, 32, 48]⟩) (.string ⟨#[10]⟩)).run Tryz.prog w = .ok (.string ⟨#[48, 32, 48, 32, 48, 10]⟩) w := fun w => by kernel_rfl
 go_enter Tryz.func5, Tryz.ntmps5
 go_wp2_with (first | (go_at_call 6; refine (script_parse _).mono ?_; rintro e w1 ⟨gl, cl, rfl, h0, h1, hb⟩; have H0 := zA_ h0; have H1 := zA_ h1; replace HB := zA_ (below_step (zw0_ HB) hb); clear h0 h1 hb) | (go_at_call 8; refine (script_job_ok _).mono ?_; rintro e w2 ⟨A1, c1, a2, c2, g3, c3, A4, c4, rfl, hj, hb⟩; have HJ := zA_ hj; replace H0 := zA_ (bcell_ hb H0.out); replace H1 := zA_ (bcell_ hb H1.out); replace HB := zA_ (below_step (zw0_ HB) hb); clear hj hb) | ((with_reducible refine gate_dst (N := 20) rfl ?_); refine Kd.R_lit (Kd.int .i64) (w0 := w) 0 3 ?hg (N := 20) ?hd (xs := mem3) (inner := [.int .i64 0, .int .i64 1, .int .i64 2]) (ok := fun _ => True) (okp := fun _ => True) ?hr ?hp (fun _ hk => hk) trivial (by exact below_le HB.out (Nat.zero_le _)) (Nat.zero_le _) (by decide) ?_; (case hd => rfl); (case hg => rfl); (case hr => first | (go_simp; done) | (go_simp; rfl)); (case hp => exact (Reps.one (show Kd.M (Kd.int .i64) _ _ _ 0 [.int .i64 0] from rfl) (Reps.one (show Kd.M (Kd.int .i64) _ _ _ 1 [.int .i64 1] from rfl) (Reps.one (show Kd.M (Kd.int .i64) _ _ _ 2 [.int .i64 2] from rfl) (Reps.none _ _))))); intro vm w3 ho _ hg_ _; have hb := below_of_grown_ hg_; have HM := zA_ ho; obtain ⟨Am, cm, em⟩ := Kd.R_slice ho; subst em; replace HJ := zA_ (HJ.out.below hb); replace H0 := zA_ (bcell_ hb H0.out); replace H1 := zA_ (bcell_ hb H1.out); replace HB := zA_ (below_step HB.out hb); clear ho hg_ hb) | (go_at_call 7; refine (world_New A1 c1 a2 c2 g3 c3 A4 c4 Am cm _ HG.out HJ.out HM.out).mono ?_; rintro e w4 ⟨k, rfl, hw, hb⟩; have HW := zA_ hw; replace H0 := zA_ (bcell_ hb H0.out); replace H1 := zA_ (bcell_ hb H1.out); replace HB := zA_ (below_step (zw0_ HB) hb); clear hw hb) | ((with_reducible refine gate_dst (N := 7) rfl ?_); refine zB_ (#[.pointer none, .slice none 0 0]) 47 ?_; intro gb hg wgb hbox hb; have BKgb := zA_ (hbox); have GEgb := zA_ (zs_ hg (zw0_ HB)); replace HB := zA_ (below_step (zw0_ HB) hb); replace H0 := zA_ (bcell_ hb H0.out); replace H1 := zA_ (bcell_ hb H1.out); replace HW := zA_ (HW.out.below hb); clear hb hbox hg))
 refine wp_loop_rounds 2 ?_
 rw [rounds_succ]
 have hx0 := H0.out
 have hx1 := H1.out
 go_wp2_with (first | (go_at_call 10; refine (script_play k _ (HW.out.below (by exact below_alloc (Below.refl _ _) _))).mono ?_; rintro e w6 ⟨rfl, hb⟩; replace BKgb := zA_ (blk_below BKgb.out (below_alloc_step_ hb)); replace HB := zA_ (below_step HB.out (below_alloc_step_ hb)); clear hb hx0 hx1) | (go_at_call 9; refine (sb_WriteString w.heap.size gb [] ⟨#[48, 32, 48, 32, 48, 10]⟩ _ (Or.inl ⟨GEgb.out, _, BKgb.out, ⟨by simp, Or.inl ⟨rfl, rfl⟩⟩, by simp [Value.ownBlock]⟩) (by decide) (below_size HB.out)).mono ?_; rintro e w7 ⟨rfl, hbd, hb⟩; have HD := zA_ hbd; replace HB := zA_ (HB.out.trans hb); clear hbd hb))
 rw [rounds_succ]
 go_wp2_with (first | (go_at_call 11; refine (Tryz.Builder_String_any w.heap.size gb [48, 32, 48, 32, 48, 10] _ (Or.inr HD.out) (below_size HB.out)).mono ?_; rintro e w8 ⟨rfl, hb⟩; replace HB := zA_ (HB.out.trans hb); clear hb))
 go_ret2
 exact ⟨rfl, HB.out⟩
theorem top_awake (w : World) (hG : GoodH) : Calls Tryz.prog 4 #[] w fun e w' => e = .returned (.bool true) ∧ Below w.heap.size w w' := by
 go_enter Tryz.func4, Tryz.ntmps4
 go_wp2_with (first | (go_at_call 5; refine (script_Run _ hG).mono ?_; rintro e w2 ⟨rfl, hb⟩; have HB := zA_ hb; clear hb))
 go_ret
 exact ⟨rfl, HB.out⟩
theorem top_Names (w : World) (hG : GoodH) : Calls Tryz.prog 3 #[] w fun e w' => e = .returned (.bool true) ∧ Below w.heap.size w w' := by
 go_enter Tryz.func3, Tryz.ntmps3
 go_wp2_with (first | (go_at_call 4; refine (top_awake _ hG).mono ?_; rintro e w2 ⟨rfl, hb⟩; have HB := zA_ hb; clear hb))
 go_ret
 exact ⟨rfl, HB.out⟩
end Go.Proofs.YtmddclifcgcpcaaGreatDoor.PTopNames
namespace Go.Proofs.YtmddclifcgcpcaaGreatDoor.PTopNames.TX
open Go.RowKit Go.Proofs.YtmddclifcgcpcaaGreatDoorW.PrintWords Go.Proofs.YtmddclifcgcpcaaGreatDoorW.PrintLast Go.Proofs.YtmddclifcgcpcaaGreatDoorW.PrintMore
def runner_params.T5 : Bool × List (List Nat × List Nat) := (true, [([], []), ([], []), ([], []), ([2], [2]), ([3], [3]), ([4], [4]), ([], []), ([6], [6]), ([5, 7], [5, 7]), ([0, 1, 8, 7], [0, 1, 8]), ([9, 9, 0, 1, 2, 3, 4, 5, 6, 7, 8, 9], [9])])
def runner_params.B5 : List Nat := [0, 0, 0, 4, 12, 28, 0, 64, 252, 511, 1023]
theorem runner_params.tab5 : rtab .any (opsOf Tryz.f297 5) = runner_params.T5 := by kernel_rfl
theorem runner_params.bits5 : waitsOk runner_params.T5.2 runner_params.B5 = true := by kernel_rfl
def runner_params.T6 : Bool × List (List Nat × List Nat) := (true, [([], []), ([], []), ([1], [1]), ([2], [2]), ([3], [3]), ([], []), ([5], [5]), ([4, 6], [4, 6]), ([0, 0, 1, 2, 3, 4, 5, 6, 7], [0]), ([8, 0, 1, 2, 3, 4, 5, 6, 7], [8]), ([9, 7, 6, 0, 1, 2, 3, 4, 5, 6, 7], [7, 9])])
def runner_params.B6 : List Nat := [0, 0, 2, 6, 14, 0, 32, 126, 255, 511, 1023]
theorem runner_params.tab6 : rtab .any (opsOf Tryz.f297 6) = runner_params.T6 := by kernel_rfl
theorem runner_params.bits6 : waitsOk runner_params.T6.2 runner_params.B6 = true := by kernel_rfl
def TG (w w' : World) : Prop := ∀ (k t : Nat) (c : Array Value), t ≠ 3 → t ≠ 344 → t ≠ 347 → t ≠ 358 → w.heap[k]? = some (.cells c t (0, 0)) → w'.heap[k]? = some (.cells c t (0, 0))
theorem TG.refl (w : World) : TG w w := fun _ _ _ _ _ _ _ h => h
theorem TG.trans {a b c : World} (h : TG a b) (k : TG b c) : TG a c := fun q t x h1 h2 h3 h4 hb => k q t x h1 h2 h3 h4 (h q t x h1 h2 h3 h4 hb)
theorem TG.of_below {w w' : World} (h : Below w.heap.size w w') : TG w w' := fun _ _ _ _ _ _ _ hb => blk_below hb h
theorem TG.of_tf {w w' : World} (h : TF w w') : TG w w' := fun _ _ _ _ h2 _ h4 hb => h.blk hb h2 h4
theorem TG.of_kp {w w' : World} {q : Nat} {cs : Array Value} (h : KP (fun k => k = q) w w') (hq : w.heap[q]? = some (.cells cs 347 (0, 0))) : TG w w' := fun k t c _ _ h3 _ hb => h.blk hb (fun e => by have e' : k = q := e; subst e'; exact typ_not hq (Ne.symm h3) _ hb)
theorem TG.of_grown {w w' : World} {b : Nat} (h : w.grownBy w' (some b)) (hb : ∃ cs, w.heap[b]? = some (.cells cs 3 (0, 0))) : TG w w' := fun k t c h1 _ _ _ hk => blk_grown hk h (fun e => by injection e with e; obtain ⟨cs, hb⟩ := hb; subst e; exact typ_not hb (Ne.symm h1) _ hk)
theorem TP.rebase {w w' : World} {base g xb b : Nat} {v : Value} {ns : List S358} (h : TP w base g xb v ns) (hb : Below w.heap.size w w') (hx : w.heap.size ≤ b) (hl : b < w'.heap.size) : TP w' base g b v ns :=
  ⟨blk_below h.blk hb, hl, Kd.R_mono (Kd.R_below (Kd.R_bound h.row) hb) (fun k hk => ⟨hk.1.1, by have := hk.2.2.1; omega⟩)⟩
theorem TP.grown {w w' : World} {base g xb : Nat} {v : Value} {ns : List S358} (h : TP w base g xb v ns) (hg : w.grownBy w' (some xb)) (hne : g ≠ xb) : TP w' base g xb v ns :=
  ⟨blk_grown h.blk hg (fun e => hne (by injection e)), Nat.lt_of_lt_of_le h.xlt hg.size, Kd.R_grown h.row hg (fun k hk e => hk.2 (by injection e))⟩
theorem TP.setq {w : World} {base g xb q t : Nat} {v : Value} {ns : List S358} {cs : Array Value} (h : TP w base g xb v ns) (hq : w.heap[q]? = some (.cells cs t (0, 0))) (ht : ∀ e, e ∈ 358 :: k358.E → e ≠ t) (hg : t ≠ 344) (i : Nat) (u : Value) : TP (w.setCell ⟨q, i, none⟩ u) base g xb v ns :=
  ⟨(Below.heap_setCell _ ⟨q, i, none⟩ u g (fun e => by subst e; have h1 := h.blk; rw [hq] at h1; injection h1 with h1; injection h1 with _ h1; exact hg h1)).trans h.blk, (by rw [World.size_setCell]; exact h.xlt), Kd.R_mono (Kd.R_far (p := ⟨q, i, none⟩) (Kd.R_types h.row hq ht) (fun _ h => h.2) _) (fun _ h => h.1)⟩
theorem C_two_ {w : World} {b t : Nat} {x y : Int} (h : w.heap[b]? = some (.cells #[.int .i64 x, .int .i64 y] t (0, 0))) : Kd.C (Kd.int .i64) w (some ⟨b, 0, none⟩) 2 [x, y] := by
  refine ⟨rfl, by decide, fun _ => ⟨_, rfl, fun j p hj => ?_⟩⟩
  match j, hj with
  | 0, hj =>
    obtain rfl := Option.some.inj hj
    refine ⟨[.int .i64 x], rfl, rfl, fun i u hu => ?_⟩
    match i, hu with
    | 0, hu =>
      obtain rfl := Option.some.inj hu
      exact (blk_cell h 0).trans rfl
  | 1, hj =>
    obtain rfl := Option.some.inj hj
    refine ⟨[.int .i64 y], rfl, rfl, fun i u hu => ?_⟩
    match i, hu with
    | 0, hu =>
      obtain rfl := Option.some.inj hu
      exact (blk_cell h 1).trans rfl
theorem runner_params (q g base xb : Nat) (Ap : Option Addr) (cp ho h1 h2 : Nat) (ns : List S358) (v : Value) (w0 w : World) (hw0 : w0.heap.size = base) (hB0 : Below base w0 w) (hP : Kd.C (Kd.int .i64) w0 Ap 2 [0, 0]) (hcp : 2 ≤ cp) (hQ : w.heap[q]? = some (.cells #[.pointer (some ⟨g, 0, none⟩), .int .i64 0, .slice Ap 2 cp, .slice none 0 0] 347 (0, 0))) (hT : TP w base g xb v ns) (hbg : base ≤ g) (hbq : base ≤ q) (hl : ns.length < 400)
  (b1 : w.heap[h1]? = some (.cells #[.int .i64 1, .int .i64 1] 3 (0, 0))) (b2 : w.heap[h2]? = some (.cells #[.int .i64 1] 3 (0, 0))) (bo : w.heap[ho]? = some (.cells #[.slice (some ⟨h1, 0, none⟩) 2 2, .slice (some ⟨h2, 0, none⟩) 1 1] 32 (0, 0))) :
  Calls Tryz.prog 297 #[.pointer (some ⟨q, 0, none⟩), .slice (some ⟨ho, 0, none⟩) 2 2] w fun e w' => e = .returned (.tuple #[.int .i64 ns.length, .int .i64 ((ns.length + 1 : Nat) : Int)]) ∧ (∃ vp A c, w'.heap[q]? = some (.cells #[.pointer (some ⟨g, 0, none⟩), .int .i64 0, vp, .slice A 2 c] 347 (0, 0)) ∧ Kd.R (Kd.int .i64) 3 w' 0 (fun _ => True) (.slice A 2 c) [(ns.length : Int), ((ns.length + 1 : Nat) : Int)]) ∧ (∃ v' xb', TP w' base g xb' v' (ns ++ [(⟨1, -1, -1, 0, ⟨[1, 1], [0]⟩⟩ : S358)] ++ [(⟨1, -1, -1, 0, ⟨[1], [0]⟩⟩ : S358)])) ∧ Below base w w' ∧ TG w w' := by
 have HT := zA_ hT
 have BQ := zA_ hQ
 have B1 := zA_ b1
 have B2 := zA_ b2
 have BO := zA_ bo
 have HP := zA_ hP
 have HB := zA_ hB0
 have HBw := zA_ (Below.refl base w)
 have HG := zA_ (TG.refl w)
 have HW := zA_ hw0
 have HO := zA_ (Kd.R_nil (Kd.int .i64) 3 w 0 (fun _ => True))
 have c1e : (1 ≤ (cp : Int)) = True := eq_true (by omega)
 have c2e : (cp = 1) = False := eq_false (by omega)
 have c3e : (2 ≤ (cp : Int)) = True := eq_true (by omega)
 clear hT hQ b1 b2 bo hP hB0 hw0
 go_enter Tryz.func297, Tryz.ntmps297
 go_wp2_with (first | fail)
 refine wp_loop_rounds 3 ?_
 rw [rounds_succ]
 have hx := (blk_cell BO.out 0).trans rfl
 go_wp2_with (first | fail)
 clear hx
 have hb := below_drew1 (Below.refl w.heap.size w)
 replace HT := zA_ (HT.out.below hb)
 replace BQ := zA_ (blk_below BQ.out hb)
 replace B1 := zA_ (blk_below B1.out hb)
 replace B2 := zA_ (blk_below B2.out hb)
 replace BO := zA_ (blk_below BO.out hb)
 replace HO := zA_ (Kd.R_below HO.out hb)
 have hb_ := below_le hb (Nat.le_trans (Nat.le_of_eq HW.out.symm) (Nat.le_trans (by exact HB.out.size) (Nat.le_refl _)))
 replace HB := zA_ (HB.out.trans hb_)
 replace HBw := zA_ (HBw.out.trans hb_)
 replace HG := zA_ (HG.out.trans (TG.of_below hb))
 clear hb hb_
 refine start_ (n := 11) (S := fun w' => w'.cell? ⟨q, 1, none⟩ = some (.int .i64 0) ∧ w'.cell? ⟨q, 2, none⟩ = some (.slice Ap 2 cp)) (ds := []) #[false, false, false, false, false, false, false, false, false, false, false] (by kernel_rfl) rfl rfl ⟨(blk_cell BQ.out 1).trans rfl, (blk_cell BQ.out 2).trans rfl⟩ (fun hHeld => ?_); refine with_tabW runner_params.tab5 runner_params.bits5 (fun HT_ HW_ => ?_)
 generalize w.drew = wa0 at HT BQ B1 B2 BO HO HB HBw HG hHeld ⊢
 refine yp_ ?_ 0 17
 refine yp_ ?_ 1 18
 refine yp_ ?_ 2 19
 refine yp_ ?_ 3 20
 refine yp_ ?_ 4 21
 refine yp_ ?_ 6 23
 refine yt2_ ?_ 5 22
 refine yo_ 7 (some 24) (fun K hK => ?_)
 refine yg_ Tryz.func241 #[.slice (some ⟨h1, 0, none⟩) 2 2] ?_
 refine (model_product.calls 100 (some ⟨h1, 0, none⟩) 2 [1, 1] 1 _ (C_two_ B1.out) (by decide) (by decide +kernel)).mono ?_
 rintro e wb0 ⟨rfl, hd⟩
 have hb := below_dr hd
 replace HT := zA_ (HT.out.below hb)
 replace BQ := zA_ (blk_below BQ.out hb)
 replace B1 := zA_ (blk_below B1.out hb)
 replace B2 := zA_ (blk_below B2.out hb)
 replace BO := zA_ (blk_below BO.out hb)
 replace HO := zA_ (Kd.R_below HO.out hb)
 have hb_ := below_le hb (Nat.le_trans (Nat.le_of_eq HW.out.symm) (Nat.le_trans (by exact HB.out.size) (Nat.le_refl _)))
 replace HB := zA_ (HB.out.trans hb_)
 replace HBw := zA_ (HBw.out.trans hb_)
 replace HG := zA_ (HG.out.trans (TG.of_below hb))
 clear hb hb_
 clear hd
 refine ⟨_, rfl, ?_⟩
 refine hK.out _ _ ⟨(blk_cell BQ.out 1).trans rfl, (blk_cell BQ.out 2).trans rfl⟩ (fun hHeld => ?_)
 clear hK K
 refine zq_ (some 24) (h := ?_)
 refine yp_ ?_ 8 25
 refine yo_ 9 (some 26) (fun K hK => ?_)
 refine yg_ Tryz.func244 #[.pointer (some ⟨q, 0, none⟩), .slice (some ⟨h1, 0, none⟩) 2 2, .slice Ap 1 cp] ?_
 refine (runner_leaf q g base 100 (.slice Ap 2 cp) _ ns _ (some ⟨h1, 0, none⟩) 2 [1, 1] Ap cp [0] _ BQ.out HT.out hbg hbq (by first | omega | (simp; omega)) (C_two_ B1.out) (by decide) (Kd.C_below (Kd.C_take (m := 1) (show Kd.C (Kd.int .i64) w0 Ap ([0, 0] : List Int).length [0, 0] from HP.out) (by decide)) (below_le HB.out (Nat.le_of_eq HW.out))) (by first | omega | (simp; omega)) (by decide +kernel) (by decide) (by decide)).mono ?_
 rintro e wc0 ⟨rfl, bq, ⟨v0, ht⟩, hb, hf⟩
 replace BQ := zA_ bq
 replace HT := zA_ ht
 replace B1 := zA_ (TF.blk hf B1.out (by decide) (by decide))
 replace B2 := zA_ (TF.blk hf B2.out (by decide) (by decide))
 replace BO := zA_ (TF.blk hf BO.out (by decide) (by decide))
 replace HO := zA_ (TF.R hf HO.out (by decide) (by decide))
 replace HB := zA_ (HB.out.trans hb)
 replace HBw := zA_ (HBw.out.trans hb)
 replace HG := zA_ (HG.out.trans (TG.of_tf hf))
 clear bq ht hb hf
 refine ⟨_, rfl, ?_⟩
 refine hK.out _ _ ⟨(blk_cell BQ.out 1).trans rfl, (blk_cell BQ.out 2).trans rfl⟩ (fun hHeld => ?_)
 clear hK K
 refine zq_ (some 26) (h := ?_)
 refine yp_ ?_ 10 7
 refine done_ (done_of HT_.out (by kernel_rfl)) ?_
 go_wp2_with (first | fail)
 have hb := below_drew1 (Below.refl wc0.heap.size wc0)
 replace HT := zA_ (HT.out.below hb)
 replace BQ := zA_ (blk_below BQ.out hb)
 replace B1 := zA_ (blk_below B1.out hb)
 replace B2 := zA_ (blk_below B2.out hb)
 replace BO := zA_ (blk_below BO.out hb)
 replace HO := zA_ (Kd.R_below HO.out hb)
 have hb_ := below_le hb (Nat.le_trans (Nat.le_of_eq HW.out.symm) (Nat.le_trans (by exact HB.out.size) (Nat.le_refl _)))
 replace HB := zA_ (HB.out.trans hb_)
 replace HBw := zA_ (HBw.out.trans hb_)
 replace HG := zA_ (HG.out.trans (TG.of_below hb))
 clear hb hb_
 refine start_ (n := 11) (S := fun w' => w'.cell? ⟨q, 1, none⟩ = some (.int .i64 0) ∧ w'.cell? ⟨q, 2, none⟩ = some (.slice Ap 2 cp)) (ds := [10]) #[false, false, false, false, false, false, false, false, false, false, false] (by kernel_rfl) rfl rfl ⟨(blk_cell BQ.out 1).trans rfl, (blk_cell BQ.out 2).trans rfl⟩ (fun hHeld => ?_); refine with_tabW runner_params.tab6 runner_params.bits6 (fun HT_ HW_ => ?_)
 generalize wc0.drew = wd0 at HT BQ B1 B2 BO HO HB HBw HG hHeld ⊢
 refine yp_ ?_ 0 27
 refine yp_ ?_ 1 28
 refine yp_ ?_ 2 29
 refine yp_ ?_ 3 30
 refine yp_ ?_ 5 32
 refine yt2_ ?_ 4 31
 refine yo_ 6 (some 33) (fun K hK => ?_)
 refine yg_ Tryz.func241 #[.slice (some ⟨h1, 0, none⟩) 2 2] ?_
 refine (model_product.calls 100 (some ⟨h1, 0, none⟩) 2 [1, 1] 1 _ (C_two_ B1.out) (by decide) (by decide +kernel)).mono ?_
 rintro e we0 ⟨rfl, hd⟩
 have hb := below_dr hd
 replace HT := zA_ (HT.out.below hb)
 replace BQ := zA_ (blk_below BQ.out hb)
 replace B1 := zA_ (blk_below B1.out hb)
 replace B2 := zA_ (blk_below B2.out hb)
 replace BO := zA_ (blk_below BO.out hb)
 replace HO := zA_ (Kd.R_below HO.out hb)
 have hb_ := below_le hb (Nat.le_trans (Nat.le_of_eq HW.out.symm) (Nat.le_trans (by exact HB.out.size) (Nat.le_refl _)))
 replace HB := zA_ (HB.out.trans hb_)
 replace HBw := zA_ (HBw.out.trans hb_)
 replace HG := zA_ (HG.out.trans (TG.of_below hb))
 clear hb hb_
 clear hd
 refine ⟨_, rfl, ?_⟩
 refine hK.out _ _ ⟨(blk_cell BQ.out 1).trans rfl, (blk_cell BQ.out 2).trans rfl⟩ (fun hHeld => ?_)
 clear hK K
 refine zq_ (some 33) (h := ?_)
 refine yp_ ?_ 7 34
 generalize hA2 : Option.map _ Ap = Ap2
 have HP2 : Aside0 (Kd.C (Kd.int .i64) w0 Ap2 1 [0]) := ⟨by
  have h := Kd.C_drop (m := 1) (c := cp) (show Kd.C (Kd.int .i64) w0 Ap ([0, 0] : List Int).length [0, 0] from HP.out) (by decide) hcp
  rw [if_neg (by omega)] at h
  have e : Ap.map (fun x => x.add (1 * (Kd.int .i64).sz)) = Ap2 := hA2
  rw [e] at h
  exact h⟩
 clear hA2
 generalize hcq : cp - 1 = cq
 have c4e : (1 ≤ (cq : Int)) = True := eq_true (by omega)
 refine yp_ ?_ 8 35
 refine yp_ ?_ 9 36
 refine yl_ 10 none (fun K hK => ?_)
 have hz2 := (blk_cell BQ.out 2).trans rfl
 have hf2 := blk_frozen BQ.out 2
 refine skip_ (w1 := ?_) (by rfl) rfl ?_ ?_
 rotate_left
 · go_simp
   rfl
 refine hK.out _ _ ?_
 clear hK K hz2 hf2
 refine done_ (done_of HT_.out (by kernel_rfl)) ?_
 refine exit_named (fun wf0 hw_ => ?_)
 have K_ : KP (fun k => k = q) we0 wf0 := by rw [hw_]; exact KP.setc (KP.refl _ _) rfl
 have n_ : ∀ e, e ≠ 347 → ∀ k, k = q → ∀ c, we0.heap[k]? ≠ some (.cells c e (0, 0)) := fun e he k hk c => by subst hk; exact typ_not BQ.out (Ne.symm he) c
 replace HT := zA_ (show TP wf0 base g _ _ _ from by rw [hw_]; exact HT.out.setq BQ.out (by decide) (by decide) 2 _)
 replace B1 := zA_ (K_.blk B1.out (fun e => n_ 3 (by decide) _ e _ B1.out))
 replace B2 := zA_ (K_.blk B2.out (fun e => n_ 3 (by decide) _ e _ B2.out))
 replace BO := zA_ (K_.blk BO.out (fun e => n_ 32 (by decide) _ e _ BO.out))
 replace HO := Aside0.mk (KP.R K_ HO.out (fun k hk t ht c => n_ t (by have e : t = 3 := by simpa [Kd.int, Kd.scalar] using ht
                                                                      rw [e]; decide) k hk c))
 have hb_ : Below base we0 wf0 := K_.below (Nat.le_trans (Nat.le_of_eq HW.out.symm) HB.out.size) (fun k _ hk => by rw [hk]; exact hbq)
 replace HG := zA_ (HG.out.trans (TG.of_kp K_ BQ.out))
 have BQ_ : wf0.heap[q]? = some (.cells #[.pointer (some ⟨g, 0, none⟩), .int .i64 0, .slice Ap2 1 cq, .slice none 0 0] 347 (0, 0)) := by rw [hw_]; exact blk_put BQ.out 2 _ rfl
 replace BQ := zA_ BQ_
 replace HB := zA_ (HB.out.trans hb_)
 replace HBw := zA_ (HBw.out.trans hb_)
 clear hw_ K_ n_ hb_ BQ_
 have hq3 := (blk_cell BQ.out 3).trans rfl
 have hf3 := blk_frozen BQ.out 3
 go_wp2_with (first | ((with_reducible refine gate_builtin (b := .append) (xs := #[.tmp 41, .tmp 43]) rfl ?_); at_builtin; refine Kd.R_append (Kd.int .i64) (w0 := wf0) 0 rfl (.tmp 41) (.tmp 43) 32 3 (.int .i64 0) 8 rfl Tryz.underlying32 (by kernel_rfl) rfl (by decide) (by decide) (.slice none 0 0) [] (ns.length : Int) [.int .i64 (ns.length : Int)] (fun _ => True) (fun _ => False) (by first | rfl | (go_simp; done)) (by first | rfl | (go_simp; done)) rfl (fun _ hk => hk.elim) (fun _ _ => trivial) HO.out (Below.refl _ _) (Nat.zero_le _) (by simp) ?_; intro v1 wg0 hO hbx hg hat; obtain ⟨bl, l0, e1⟩ := R_some hO (by simp); subst e1; refine Aside0.out ?_))
 refine zA_ ?_
 have hb := below_of_grown_ hg
 have NB : Aside0 (base ≤ bl ∧ wf0.heap.size ≤ bl) := by
  have h1_ := HB.out.size
  have h2_ := HW.out
  have h3_ : wf0.heap.size ≤ bl := by
   rcases hat with h | ⟨b, h, hb_⟩
   · cases h
   · have h' : bl = b := Option.some.inj h
     subst h'
     exact hb_
  exact ⟨⟨by omega, h3_⟩⟩
 replace HT := zA_ (HT.out.rebase hb NB.out.2 (Kd.R_lt hO bl rfl))
 replace BQ := zA_ (blk_below BQ.out hb)
 replace B1 := zA_ (blk_below B1.out hb)
 replace B2 := zA_ (blk_below B2.out hb)
 replace BO := zA_ (blk_below BO.out hb)
 replace HO := zA_ hO
 have hb_ := below_le hb (Nat.le_trans (Nat.le_of_eq HW.out.symm) HB.out.size)
 replace HB := zA_ (HB.out.trans hb_)
 replace HBw := zA_ (HBw.out.trans hb_)
 replace HG := zA_ (HG.out.trans (TG.of_below hb))
 clear hb hb_ hO hbx hg hat hq3 hf3
 have hq3 := (blk_cell BQ.out 3).trans rfl
 have hf3 := blk_frozen BQ.out 3
 go_wp2_with (first | fail)
 clear hq3 hf3
 rw [rounds_succ]
 refine wp_named (fun wn0 hw_ => ?_)
 have K_ : KP (fun k => k = q) wg0 wn0 := by rw [hw_]; exact KP.setc (KP.refl _ _) rfl
 have n_ : ∀ e, e ≠ 347 → ∀ k, k = q → ∀ c, wg0.heap[k]? ≠ some (.cells c e (0, 0)) := fun e he k hk c => by subst hk; exact typ_not BQ.out (Ne.symm he) c
 replace HT := zA_ (show TP wn0 base g _ _ _ from by rw [hw_]; exact HT.out.setq BQ.out (by decide) (by decide) 3 _)
 replace B1 := zA_ (K_.blk B1.out (fun e => n_ 3 (by decide) _ e _ B1.out))
 replace B2 := zA_ (K_.blk B2.out (fun e => n_ 3 (by decide) _ e _ B2.out))
 replace BO := zA_ (K_.blk BO.out (fun e => n_ 32 (by decide) _ e _ BO.out))
 replace HO := Aside0.mk (KP.R K_ HO.out (fun k hk t ht c => n_ t (by have e : t = 3 := by simpa [Kd.int, Kd.scalar] using ht
                                                                      rw [e]; decide) k hk c))
 have hb_ : Below base wg0 wn0 := K_.below (Nat.le_trans (Nat.le_of_eq HW.out.symm) HB.out.size) (fun k _ hk => by rw [hk]; exact hbq)
 replace HG := zA_ (HG.out.trans (TG.of_kp K_ BQ.out))
 have BQ_ : wn0.heap[q]? = some (.cells #[.pointer (some ⟨g, 0, none⟩), .int .i64 0, .slice Ap2 1 cq, .slice (some ⟨bl, 0, none⟩) 1 l0] 347 (0, 0)) := by rw [hw_]; exact blk_put BQ.out 3 _ rfl
 replace BQ := zA_ BQ_
 replace HB := zA_ (HB.out.trans hb_)
 replace HBw := zA_ (HBw.out.trans hb_)
 clear hw_ K_ n_ hb_ BQ_
 have hx := (blk_cell BO.out 1).trans rfl
 go_wp2_with (first | fail)
 clear hx
 have hb := below_drew1 (Below.refl wn0.heap.size wn0)
 replace HT := zA_ (HT.out.below hb)
 replace BQ := zA_ (blk_below BQ.out hb)
 replace B1 := zA_ (blk_below B1.out hb)
 replace B2 := zA_ (blk_below B2.out hb)
 replace BO := zA_ (blk_below BO.out hb)
 replace HO := zA_ (Kd.R_below HO.out hb)
 have hb_ := below_le hb (Nat.le_trans (Nat.le_of_eq HW.out.symm) (Nat.le_trans (by exact HB.out.size) (Nat.le_refl _)))
 replace HB := zA_ (HB.out.trans hb_)
 replace HBw := zA_ (HBw.out.trans hb_)
 replace HG := zA_ (HG.out.trans (TG.of_below hb))
 clear hb hb_
 refine start_ (n := 11) (S := fun w' => w'.cell? ⟨q, 1, none⟩ = some (.int .i64 0) ∧ w'.cell? ⟨q, 2, none⟩ = some (.slice Ap2 1 cq)) (ds := []) #[false, false, false, false, false, false, false, false, false, false, false] (by kernel_rfl) rfl rfl ⟨(blk_cell BQ.out 1).trans rfl, (blk_cell BQ.out 2).trans rfl⟩ (fun hHeld => ?_); refine with_tabW runner_params.tab5 runner_params.bits5 (fun HT_ HW_ => ?_)
 generalize wn0.drew = wa1 at HT BQ B1 B2 BO HO HB HBw HG hHeld ⊢
 refine yp_ ?_ 0 17
 refine yp_ ?_ 1 18
 refine yp_ ?_ 2 19
 refine yp_ ?_ 3 20
 refine yp_ ?_ 4 21
 refine yp_ ?_ 6 23
 refine yt2_ ?_ 5 22
 refine yo_ 7 (some 24) (fun K hK => ?_)
 refine yg_ Tryz.func241 #[.slice (some ⟨h2, 0, none⟩) 1 1] ?_
 refine (model_product.calls 100 (some ⟨h2, 0, none⟩) 1 [1] 1 _ (C_one_ B2.out) (by decide) (by decide +kernel)).mono ?_
 rintro e wb1 ⟨rfl, hd⟩
 have hb := below_dr hd
 replace HT := zA_ (HT.out.below hb)
 replace BQ := zA_ (blk_below BQ.out hb)
 replace B1 := zA_ (blk_below B1.out hb)
 replace B2 := zA_ (blk_below B2.out hb)
 replace BO := zA_ (blk_below BO.out hb)
 replace HO := zA_ (Kd.R_below HO.out hb)
 have hb_ := below_le hb (Nat.le_trans (Nat.le_of_eq HW.out.symm) (Nat.le_trans (by exact HB.out.size) (Nat.le_refl _)))
 replace HB := zA_ (HB.out.trans hb_)
 replace HBw := zA_ (HBw.out.trans hb_)
 replace HG := zA_ (HG.out.trans (TG.of_below hb))
 clear hb hb_
 clear hd
 refine ⟨_, rfl, ?_⟩
 refine hK.out _ _ ⟨(blk_cell BQ.out 1).trans rfl, (blk_cell BQ.out 2).trans rfl⟩ (fun hHeld => ?_)
 clear hK K
 refine zq_ (some 24) (h := ?_)
 refine yp_ ?_ 8 25
 refine yo_ 9 (some 26) (fun K hK => ?_)
 refine yg_ Tryz.func244 #[.pointer (some ⟨q, 0, none⟩), .slice (some ⟨h2, 0, none⟩) 1 1, .slice Ap2 1 cq] ?_
 refine (runner_leaf q g base 100 (.slice Ap2 1 cq) _ (ns ++ [(⟨1, -1, -1, 0, ⟨[1, 1], [0]⟩⟩ : S358)]) _ (some ⟨h2, 0, none⟩) 1 [1] Ap2 cq [0] _ BQ.out HT.out hbg hbq (by first | omega | (simp; omega)) (C_one_ B2.out) (by decide) (Kd.C_below HP2.out (below_le HB.out (Nat.le_of_eq HW.out))) (by first | omega | (simp; omega)) (by decide +kernel) (by decide) (by decide)).mono ?_
 rintro e wc1 ⟨rfl, bq, ⟨v1, ht⟩, hb, hf⟩
 replace BQ := zA_ bq
 replace HT := zA_ ht
 replace B1 := zA_ (TF.blk hf B1.out (by decide) (by decide))
 replace B2 := zA_ (TF.blk hf B2.out (by decide) (by decide))
 replace BO := zA_ (TF.blk hf BO.out (by decide) (by decide))
 replace HO := zA_ (TF.R hf HO.out (by decide) (by decide))
 replace HB := zA_ (HB.out.trans hb)
 replace HBw := zA_ (HBw.out.trans hb)
 replace HG := zA_ (HG.out.trans (TG.of_tf hf))
 clear bq ht hb hf
 refine ⟨_, rfl, ?_⟩
 refine hK.out _ _ ⟨(blk_cell BQ.out 1).trans rfl, (blk_cell BQ.out 2).trans rfl⟩ (fun hHeld => ?_)
 clear hK K
 refine zq_ (some 26) (h := ?_)
 refine yp_ ?_ 10 7
 refine done_ (done_of HT_.out (by kernel_rfl)) ?_
 go_wp2_with (first | fail)
 have hb := below_drew1 (Below.refl wc1.heap.size wc1)
 replace HT := zA_ (HT.out.below hb)
 replace BQ := zA_ (blk_below BQ.out hb)
 replace B1 := zA_ (blk_below B1.out hb)
 replace B2 := zA_ (blk_below B2.out hb)
 replace BO := zA_ (blk_below BO.out hb)
 replace HO := zA_ (Kd.R_below HO.out hb)
 have hb_ := below_le hb (Nat.le_trans (Nat.le_of_eq HW.out.symm) (Nat.le_trans (by exact HB.out.size) (Nat.le_refl _)))
 replace HB := zA_ (HB.out.trans hb_)
 replace HBw := zA_ (HBw.out.trans hb_)
 replace HG := zA_ (HG.out.trans (TG.of_below hb))
 clear hb hb_
 refine start_ (n := 11) (S := fun w' => w'.cell? ⟨q, 1, none⟩ = some (.int .i64 0) ∧ w'.cell? ⟨q, 2, none⟩ = some (.slice Ap2 1 cq)) (ds := [10]) #[false, false, false, false, false, false, false, false, false, false, false] (by kernel_rfl) rfl rfl ⟨(blk_cell BQ.out 1).trans rfl, (blk_cell BQ.out 2).trans rfl⟩ (fun hHeld => ?_); refine with_tabW runner_params.tab6 runner_params.bits6 (fun HT_ HW_ => ?_)
 generalize wc1.drew = wd1 at HT BQ B1 B2 BO HO HB HBw HG hHeld ⊢
 refine yp_ ?_ 0 27
 refine yp_ ?_ 1 28
 refine yp_ ?_ 2 29
 refine yp_ ?_ 3 30
 refine yp_ ?_ 5 32
 refine yt2_ ?_ 4 31
 refine yo_ 6 (some 33) (fun K hK => ?_)
 refine yg_ Tryz.func241 #[.slice (some ⟨h2, 0, none⟩) 1 1] ?_
 refine (model_product.calls 100 (some ⟨h2, 0, none⟩) 1 [1] 1 _ (C_one_ B2.out) (by decide) (by decide +kernel)).mono ?_
 rintro e we1 ⟨rfl, hd⟩
 have hb := below_dr hd
 replace HT := zA_ (HT.out.below hb)
 replace BQ := zA_ (blk_below BQ.out hb)
 replace B1 := zA_ (blk_below B1.out hb)
 replace B2 := zA_ (blk_below B2.out hb)
 replace BO := zA_ (blk_below BO.out hb)
 replace HO := zA_ (Kd.R_below HO.out hb)
 have hb_ := below_le hb (Nat.le_trans (Nat.le_of_eq HW.out.symm) (Nat.le_trans (by exact HB.out.size) (Nat.le_refl _)))
 replace HB := zA_ (HB.out.trans hb_)
 replace HBw := zA_ (HBw.out.trans hb_)
 replace HG := zA_ (HG.out.trans (TG.of_below hb))
 clear hb hb_
 clear hd
 refine ⟨_, rfl, ?_⟩
 refine hK.out _ _ ⟨(blk_cell BQ.out 1).trans rfl, (blk_cell BQ.out 2).trans rfl⟩ (fun hHeld => ?_)
 clear hK K
 refine zq_ (some 33) (h := ?_)
 refine yp_ ?_ 7 34
 generalize hA3 : (ite (cq = 1) _ _ : Option Addr) = A3
 have el_ : (ns ++ [(⟨1, -1, -1, 0, ⟨[1, 1], [0]⟩⟩ : S358)]).length = ns.length + 1 := by simp
 rw [el_]
 clear el_
 refine yp_ ?_ 8 35
 refine yp_ ?_ 9 36
 refine yl_ 10 none (fun K hK => ?_)
 have hz2 := (blk_cell BQ.out 2).trans rfl
 have hf2 := blk_frozen BQ.out 2
 refine skip_ (w1 := ?_) (by rfl) rfl ?_ ?_
 rotate_left
 · go_simp
   rfl
 refine hK.out _ _ ?_
 clear hK K hz2 hf2
 refine done_ (done_of HT_.out (by kernel_rfl)) ?_
 refine exit_named (fun wf1 hw_ => ?_)
 have K_ : KP (fun k => k = q) we1 wf1 := by rw [hw_]; exact KP.setc (KP.refl _ _) rfl
 have n_ : ∀ e, e ≠ 347 → ∀ k, k = q → ∀ c, we1.heap[k]? ≠ some (.cells c e (0, 0)) := fun e he k hk c => by subst hk; exact typ_not BQ.out (Ne.symm he) c
 replace HT := zA_ (show TP wf1 base g _ _ _ from by rw [hw_]; exact HT.out.setq BQ.out (by decide) (by decide) 2 _)
 replace B1 := zA_ (K_.blk B1.out (fun e => n_ 3 (by decide) _ e _ B1.out))
 replace B2 := zA_ (K_.blk B2.out (fun e => n_ 3 (by decide) _ e _ B2.out))
 replace BO := zA_ (K_.blk BO.out (fun e => n_ 32 (by decide) _ e _ BO.out))
 replace HO := Aside0.mk (KP.R K_ HO.out (fun k hk t ht c => n_ t (by have e : t = 3 := by simpa [Kd.int, Kd.scalar] using ht
                                                                      rw [e]; decide) k hk c))
 have hb_ : Below base we1 wf1 := K_.below (Nat.le_trans (Nat.le_of_eq HW.out.symm) HB.out.size) (fun k _ hk => by rw [hk]; exact hbq)
 replace HG := zA_ (HG.out.trans (TG.of_kp K_ BQ.out))
 have BQ_ : wf1.heap[q]? = some (.cells #[.pointer (some ⟨g, 0, none⟩), .int .i64 0, .slice A3 0 (cq - 1), .slice (some ⟨bl, 0, none⟩) 1 l0] 347 (0, 0)) := by rw [hw_]; exact blk_put BQ.out 2 _ rfl
 replace BQ := zA_ BQ_
 replace HB := zA_ (HB.out.trans hb_)
 replace HBw := zA_ (HBw.out.trans hb_)
 clear hw_ K_ n_ hb_ BQ_
 have hq3 := (blk_cell BQ.out 3).trans rfl
 have hf3 := blk_frozen BQ.out 3
 go_wp2_with (first | ((with_reducible refine gate_builtin (b := .append) (xs := #[.tmp 41, .tmp 43]) rfl ?_); at_builtin; refine Kd.R_append (Kd.int .i64) (w0 := wf1) 0 rfl (.tmp 41) (.tmp 43) 32 3 (.int .i64 0) 8 rfl Tryz.underlying32 (by kernel_rfl) rfl (by decide) (by decide) (.slice (some ⟨bl, 0, none⟩) 1 l0) [(ns.length : Int)] ((ns.length : Int) + 1) [.int .i64 ((ns.length : Int) + 1)] (fun _ => True) (fun _ => False) (by first | rfl | (go_simp; done)) (by first | rfl | (go_simp; done)) rfl (fun _ hk => hk.elim) (fun _ _ => trivial) HO.out (Below.refl _ _) (Nat.zero_le _) (by simp) ?_; intro v1 wg1 hO hbx hg hat; obtain ⟨AE, cE, eE⟩ := Kd.R_slice hO; subst eE; refine Aside0.out ?_))
 refine zA_ ?_
 have tl := Kd.R_typed HO.out bl rfl
 replace HG := zA_ (HG.out.trans (TG.of_grown hg tl))
 have n1_ : q ≠ bl := (fun e => by obtain ⟨c_, tl⟩ := tl; subst e; exact typ_not BQ.out (by decide) _ tl)
 have n2_ : g ≠ bl := (fun e => by obtain ⟨c_, tl⟩ := tl; subst e; exact typ_not HT.out.blk (by decide) _ tl)
 replace HT := zA_ (HT.out.grown hg n2_)
 replace BQ := zA_ (blk_grown BQ.out hg (fun e => n1_ (by injection e)))
 have hb_ : Below base wf1 wg1 := (Below.refl base wf1).grown hg (Nat.le_trans (Nat.le_of_eq HW.out.symm) HB.out.size) (fun k hk => by injection hk with hk; rw [← hk]; exact NB.out.1)
 replace HB := zA_ (HB.out.trans hb_)
 replace HBw := zA_ (HBw.out.trans hb_)
 replace HO := zA_ hO
 clear hb_ hO hbx hg hat hq3 hf3 tl n1_ n2_ B1 B2 BO
 have hq3 := (blk_cell BQ.out 3).trans rfl
 have hf3 := blk_frozen BQ.out 3
 go_wp2_with (first | fail)
 clear hq3 hf3
 rw [rounds_succ]
 refine wp_named (fun wn1 hw_ => ?_)
 have K_ : KP (fun k => k = q) wg1 wn1 := by rw [hw_]; exact KP.setc (KP.refl _ _) rfl
 have n_ : ∀ e, e ≠ 347 → ∀ k, k = q → ∀ c, wg1.heap[k]? ≠ some (.cells c e (0, 0)) := fun e he k hk c => by subst hk; exact typ_not BQ.out (Ne.symm he) c
 replace HT := zA_ (show TP wn1 base g _ _ _ from by rw [hw_]; exact HT.out.setq BQ.out (by decide) (by decide) 3 _)
 replace HO := Aside0.mk (KP.R K_ HO.out (fun k hk t ht c => n_ t (by have e : t = 3 := by simpa [Kd.int, Kd.scalar] using ht
                                                                      rw [e]; decide) k hk c))
 have hb_ : Below base wg1 wn1 := K_.below (Nat.le_trans (Nat.le_of_eq HW.out.symm) HB.out.size) (fun k _ hk => by rw [hk]; exact hbq)
 replace HG := zA_ (HG.out.trans (TG.of_kp K_ BQ.out))
 have BQ_ : wn1.heap[q]? = some (.cells #[.pointer (some ⟨g, 0, none⟩), .int .i64 0, .slice A3 0 (cq - 1), .slice AE 2 cE] 347 (0, 0)) := by rw [hw_]; exact blk_put BQ.out 3 _ rfl
 replace BQ := zA_ BQ_
 replace HB := zA_ (HB.out.trans hb_)
 replace HBw := zA_ (HBw.out.trans hb_)
 clear hw_ K_ n_ hb_ BQ_
 go_wp2_with (first | fail)
 go_ret2
 exact ⟨rfl, ⟨_, AE, cE, BQ.out, HO.out⟩, ⟨_, _, HT.out⟩, HBw.out, HG.out⟩
def PairOk (op : Int) (x y : S273) (k : Int) (d r : List Int) : Prop := ∀ (A4 A5 B4 B5 : Option Addr) (c4 c5 e4 e5 : Nat) (w1 : World), Kd.C (Kd.int .i64) w1 A4 x.f0.length x.f0 → x.f0.length ≤ c4 → Kd.C (Kd.int .i64) w1 A5 x.f1.length x.f1 → x.f1.length ≤ c5 → Kd.C (Kd.int .i64) w1 B4 y.f0.length y.f0 → y.f0.length ≤ e4 → Kd.C (Kd.int .i64) w1 B5 y.f1.length y.f1 → y.f1.length ≤ e5 → Calls Tryz.prog 360 #[.int .i64 op, .agg #[.slice A4 x.f0.length c4, .slice A5 x.f1.length c5], .agg #[.slice B4 y.f0.length e4, .slice B5 y.f1.length e5], .int .i64 k] w1 fun e w' => ∃ v0_ v1_ : Value, e = .returned (.tuple #[.agg #[v0_, v1_], .int .i64 0]) ∧ Kd.R (Kd.int .i64) 3 w' w1.heap.size (fun _ => True) v0_ d ∧ Kd.R (Kd.int .i64) 36 w' w1.heap.size (fun _ => True) v1_ r ∧ Below w1.heap.size w1 w'
def OneOk (op : Int) (x : S273) (k : Int) (d r : List Int) : Prop := ∀ (A4 A5 : Option Addr) (c4 c5 : Nat) (w1 : World), Kd.C (Kd.int .i64) w1 A4 x.f0.length x.f0 → x.f0.length ≤ c4 → Kd.C (Kd.int .i64) w1 A5 x.f1.length x.f1 → x.f1.length ≤ c5 → Calls Tryz.prog 361 #[.int .i64 op, .agg #[.slice A4 x.f0.length c4, .slice A5 x.f1.length c5], .int .i64 k] w1 fun e w' => ∃ v0_ v1_ : Value, e = .returned (.tuple #[.agg #[v0_, v1_], .int .i64 0]) ∧ Kd.R (Kd.int .i64) 3 w' w1.heap.size (fun _ => True) v0_ d ∧ Kd.R (Kd.int .i64) 36 w' w1.heap.size (fun _ => True) v1_ r ∧ Below w1.heap.size w1 w'
def nsL (X : Int) : List S358 := [(⟨1, -1, -1, 0, ⟨[1], [X]⟩⟩ : S358)] ++ [(⟨1, -1, -1, 0, ⟨[1, 1], [0]⟩⟩ : S358)] ++ [(⟨1, -1, -1, 0, ⟨[1], [0]⟩⟩ : S358)] ++ [(⟨4, 1, 0, 0, ⟨[1, 1], [0]⟩⟩ : S358)] ++ [(⟨8, 3, -1, 1, ⟨[1], [0]⟩⟩ : S358)] ++ [(⟨2, 4, 2, 0, ⟨[1], [0]⟩⟩ : S358)]
theorem runner_layer (X last : Int) (hm : PairOk 4 ⟨[1, 1], [0]⟩ ⟨[1], [X]⟩ 0 [1, 1] [0]) (hs : OneOk 8 ⟨[1, 1], [0]⟩ 1 [1] [0]) (ha : PairOk 2 ⟨[1], [0]⟩ ⟨[1], [0]⟩ 0 [1] [0]) (q g base xb : Nat) (Ap A : Option Addr) (cp c : Nat) (v : Value) (w0 w : World) (hw0 : w0.heap.size = base) (hB0 : Below base w0 w) (hP : Kd.C (Kd.int .i64) w0 Ap 2 [0, 0]) (hcp : 2 ≤ cp) (hQ : w.heap[q]? = some (.cells #[.pointer (some ⟨g, 0, none⟩), .int .i64 0, .slice Ap 2 cp, .slice none 0 0] 347 (0, 0))) (hT : TP w base g xb v [(⟨1, -1, -1, 0, ⟨[1], [X]⟩⟩ : S358)]) (hbg : base ≤ g) (hbq : base ≤ q)
  (hC : Kd.C (Kd.int .i64) w A 1 [1]) (hc : 1 ≤ c) :
  Calls Tryz.prog 245 #[.pointer (some ⟨q, 0, none⟩), .agg #[.string ⟨#[100, 101, 110, 115, 101]⟩, .int .i64 1, .int .i64 0], .slice A 1 c, .int .i64 0, .int .i64 last] w fun e w' => e = .returned (.int .i64 5) ∧ (∃ vp Al cl, w'.heap[q]? = some (.cells #[.pointer (some ⟨g, 0, none⟩), .int .i64 0, vp, .slice Al 2 cl] 347 (0, 0)) ∧ Kd.R (Kd.int .i64) 3 w' 0 (fun _ => True) (.slice Al 2 cl) [1, 2]) ∧ (∃ v' xb', TP w' base g xb' v' (nsL X)) ∧ Below base w w' ∧ TG w w' := by
 have HT := zA_ hT
 have BQ := zA_ hQ
 have HP := zA_ hP
 have HB := zA_ (Below.refl w.heap.size w)
 have HB0 := zA_ hB0
 have HW := zA_ hw0
 have HC := zA_ hC
 have HM := zA_ hm
 have HS := zA_ hs
 have HA := zA_ ha
 have NW : Aside0 (base ≤ w.heap.size) := ⟨Nat.le_trans (Nat.le_of_eq hw0.symm) hB0.size⟩
 clear hT hQ hP hB0 hw0 hC hm hs ha
 go_enter Tryz.func245, Tryz.ntmps245
 go_wp2_with (first | ((with_reducible refine gate_dst (N := 6) rfl ?_); refine zB_ (#[.string ⟨#[100, 101, 110, 115, 101]⟩, .int .i64 1, .int .i64 0]) 84 ?_; intro bx hg wbx hbox hb; have BKbx := zA_ (hbox); have GEbx := zA_ (zs_ hg (zw0_ HB)); replace HB := zA_ (below_step (zw0_ HB) hb); have hbz0 := (blk_cell BKbx.out 0).trans rfl; have hbz1 := (blk_cell BKbx.out 1).trans rfl; have hbz2 := (blk_cell BKbx.out 2).trans rfl; clear hb hbox hg))
 go_at_call 240
 refine (layer_params_ok A c _ (Kd.C_below HC.out HB.out) hc).mono ?_
 rintro e wp ⟨h1, h2, ho, rfl, b1, b2, bo, hd⟩
 have HBx := zA_ (below_step HB.out hd)
 replace BKbx := zA_ (blk_below BKbx.out hd)
 have B1 := zA_ b1
 have B2 := zA_ b2
 have BO := zA_ bo
 clear b1 b2 bo hd hbz0 hbz1 hbz2
 go_wp2_with (first | fail)
 go_at_call 297
 refine (runner_params q g base xb Ap cp ho h1 h2 [(⟨1, -1, -1, 0, ⟨[1], [X]⟩⟩ : S358)] v w0 _ HW.out (HB0.out.trans (below_le HBx.out NW.out)) HP.out hcp (blk_below BQ.out HBx.out) (HT.out.below HBx.out) hbg hbq (by simp) B1.out B2.out BO.out).mono ?_
 rintro e w1 ⟨rfl, ⟨vp, Al, cl, bq, hl⟩, ⟨v1, xb1, ht⟩, hb, hf⟩
 have HB1 := zA_ ((below_le HBx.out NW.out).trans hb)
 have HG1 := zA_ ((TG.of_below HBx.out).trans hf)
 replace BKbx := zA_ (hf _ _ _ (by decide) (by decide) (by decide) (by decide) BKbx.out)
 have BQ1 := zA_ bq
 have HL1 := zA_ hl
 have HT1 := zA_ ht
 clear bq hl ht hb hf HB HBx HT BQ B1 B2 BO
 have hz0 := (blk_cell BKbx.out 0).trans rfl
 go_wp2_with (first | fail)
 go_at_call 298
 refine (runner_do q g base vp (.slice Al 2 cl) ([(⟨1, -1, -1, 0, ⟨[1], [X]⟩⟩ : S358)] ++ [(⟨1, -1, -1, 0, ⟨[1, 1], [0]⟩⟩ : S358)] ++ [(⟨1, -1, -1, 0, ⟨[1], [0]⟩⟩ : S358)]) _ 4 1 0 0 (⟨4, 1, 0, 0, ⟨[1, 1], [0]⟩⟩ : S358) _ BQ1.out HT1.out hbq (fun wx hx => tape_Do_two4 g base ([(⟨1, -1, -1, 0, ⟨[1], [X]⟩⟩ : S358)] ++ [(⟨1, -1, -1, 0, ⟨[1, 1], [0]⟩⟩ : S358)] ++ [(⟨1, -1, -1, 0, ⟨[1], [0]⟩⟩ : S358)]) _ 1 0 0 [1, 1] [0] wx hx hbg (by simp) (by decide) (by simp) (by decide) (by simp) (fun A4 A5 B4 B5 c4 c5 e4 e5 w2 a b c_ d e f g_ h => HM.out A4 A5 B4 B5 c4 c5 e4 e5 w2 a b c_ d e f g_ h))).mono ?_
 rintro e w2 ⟨rfl, bq, ⟨v2, ht⟩, hb, hf⟩
 have BQ2 := zA_ bq
 have HT2 := zA_ ht
 have HB2 := zA_ (HB1.out.trans hb)
 have HG2 := zA_ (HG1.out.trans (TG.of_tf hf))
 have HL2 := zA_ (TF.R hf HL1.out (by decide) (by decide))
 clear bq ht hb hf BQ1 HT1 HB1 HL1 hz0
 go_wp2_with (first | fail)
 go_at_call 298
 refine (runner_do q g base vp (.slice Al 2 cl) ([(⟨1, -1, -1, 0, ⟨[1], [X]⟩⟩ : S358)] ++ [(⟨1, -1, -1, 0, ⟨[1, 1], [0]⟩⟩ : S358)] ++ [(⟨1, -1, -1, 0, ⟨[1], [0]⟩⟩ : S358)] ++ [(⟨4, 1, 0, 0, ⟨[1, 1], [0]⟩⟩ : S358)]) _ 8 3 0 1 (⟨8, 3, -1, 1, ⟨[1], [0]⟩⟩ : S358) _ BQ2.out HT2.out hbq (fun wx hx => tape_Do_sum g base ([(⟨1, -1, -1, 0, ⟨[1], [X]⟩⟩ : S358)] ++ [(⟨1, -1, -1, 0, ⟨[1, 1], [0]⟩⟩ : S358)] ++ [(⟨1, -1, -1, 0, ⟨[1], [0]⟩⟩ : S358)] ++ [(⟨4, 1, 0, 0, ⟨[1, 1], [0]⟩⟩ : S358)]) _ 3 0 1 [1] [0] wx hx hbg (by simp) (by decide) (by simp) (fun A4 A5 c4 c5 w2 a b c_ d => HS.out A4 A5 c4 c5 w2 a b c_ d))).mono ?_
 rintro e w3 ⟨rfl, bq, ⟨v3, ht⟩, hb, hf⟩
 have BQ3 := zA_ bq
 have HT3 := zA_ ht
 have HB3 := zA_ (HB2.out.trans hb)
 have HG3 := zA_ (HG2.out.trans (TG.of_tf hf))
 have HL3 := zA_ (TF.R hf HL2.out (by decide) (by decide))
 clear bq ht hb hf BQ2 HT2 HB2 HL2
 go_wp2_with (first | fail)
 go_at_call 298
 refine (runner_do q g base vp (.slice Al 2 cl) ([(⟨1, -1, -1, 0, ⟨[1], [X]⟩⟩ : S358)] ++ [(⟨1, -1, -1, 0, ⟨[1, 1], [0]⟩⟩ : S358)] ++ [(⟨1, -1, -1, 0, ⟨[1], [0]⟩⟩ : S358)] ++ [(⟨4, 1, 0, 0, ⟨[1, 1], [0]⟩⟩ : S358)] ++ [(⟨8, 3, -1, 1, ⟨[1], [0]⟩⟩ : S358)]) _ 2 4 2 0 (⟨2, 4, 2, 0, ⟨[1], [0]⟩⟩ : S358) _ BQ3.out HT3.out hbq (fun wx hx => tape_Do_two2 g base ([(⟨1, -1, -1, 0, ⟨[1], [X]⟩⟩ : S358)] ++ [(⟨1, -1, -1, 0, ⟨[1, 1], [0]⟩⟩ : S358)] ++ [(⟨1, -1, -1, 0, ⟨[1], [0]⟩⟩ : S358)] ++ [(⟨4, 1, 0, 0, ⟨[1, 1], [0]⟩⟩ : S358)] ++ [(⟨8, 3, -1, 1, ⟨[1], [0]⟩⟩ : S358)]) _ 4 2 0 [1] [0] wx hx hbg (by simp) (by decide) (by simp) (by decide) (by simp) (fun A4 A5 B4 B5 c4 c5 e4 e5 w2 a b c_ d e f g_ h => HA.out A4 A5 B4 B5 c4 c5 e4 e5 w2 a b c_ d e f g_ h))).mono ?_
 rintro e w4 ⟨rfl, bq, ⟨v4, ht⟩, hb, hf⟩
 have BQ4 := zA_ bq
 have HT4 := zA_ ht
 have HB4 := zA_ (HB3.out.trans hb)
 have HG4 := zA_ (HG3.out.trans (TG.of_tf hf))
 have HL4 := zA_ (TF.R hf HL3.out (by decide) (by decide))
 clear bq ht hb hf BQ3 HT3 HB3 HL3
 go_wp2_with (first | fail)
 go_ret
 exact ⟨rfl, ⟨vp, Al, cl, BQ4.out, HL4.out⟩, ⟨_, _, HT4.out⟩, HB4.out, HG4.out⟩
end Go.Proofs.YtmddclifcgcpcaaGreatDoor.PTopNames.TX
namespace Go.Proofs.YtmddclifcgcpcaaGreatDoor.PTopNames
open Go.RowKit Go.Proofs.YtmddclifcgcpcaaGreatDoorW.PrintWords Go.Proofs.YtmddclifcgcpcaaGreatDoorW.PrintLast Go.Proofs.YtmddclifcgcpcaaGreatDoorW.PrintMore
def net_walk.T5 : Bool × List (List Nat × List Nat) := (true, [([], []), ([], []), ([], []), ([1, 2], [1, 2]), ([3], [3]), ([0, 4], [0, 4]), ([5], [5]), ([6], [6]), ([6], [6]), ([7, 5, 0, 1, 2, 3, 4, 5, 6, 7], [7]), ([8, 9, 0, 1, 2, 3, 4, 5, 6, 7, 8, 9], [8])])
def net_walk.B5 : List Nat := [0, 0, 0, 6, 14, 31, 63, 127, 127, 255, 1023]
theorem net_walk.tab5 : rtab .any (opsOf Tryz.f239 5) = net_walk.T5 := by kernel_rfl
theorem net_walk.bits5 : waitsOk net_walk.T5.2 net_walk.B5 = true := by kernel_rfl
theorem net_walk (A1 : Option Addr) (a2 : Addr) (c1 c2 : Nat) (w : World) (hI : Kd.C (Kd.int .i64) w A1 1 [1]) (hc1 : 1 ≤ c1) (hL : Kd.C k84 w (some a2) 1 lay1) (hc2 : 1 ≤ c2) :
  Calls Tryz.prog 239 #[.agg #[.slice A1 1 c1, .slice (some a2) 1 c2]] w fun e w' => ∃ v0_ : Value, e = .returned (.tuple #[v0_, .bool true]) ∧ Kd.R (Kd.slice 3 (Kd.int .i64)) 32 w' w.heap.size (fun _ => True) v0_ [[1], [1]] ∧ Below w.heap.size w w' := by
 have HI := zA_ hI
 have HL := zA_ hL
 have HB := zA_ (Below.refl w.heap.size w)
 clear hI hL
 obtain ⟨b2, o2, s2⟩ := a2
 go_enter Tryz.func239, Tryz.ntmps239
 go_wp2_with (first | ((with_reducible refine gate_dst (N := 1) rfl ?_); refine zB_ (#[.slice A1 1 c1, .slice (some ⟨b2, o2, s2⟩) 1 c2]) 35 ?_; intro bx hg wbx hbox hb; have BKbx := zA_ (hbox); have GEbx := zA_ (zs_ hg (zw0_ HB)); replace HB := zA_ (below_step (zw0_ HB) hb); have hbz0 := (blk_cell BKbx.out 0).trans rfl; have hbz1 := (blk_cell BKbx.out 1).trans rfl; clear hb hbox hg))
 go_at_call 14
 refine (slices_Clone_int_int.calls A1 c1 [1] [1] _ (Kd.C_below HI.out HB.out) hc1 (by decide +kernel)).mono ?_
 rintro e w1 ⟨v0, rfl, ho, hb⟩
 replace BKbx := zA_ (blk_below BKbx.out hb)
 have HO := zA_ (Kd.R_lower ho HB.out.size)
 replace HB := zA_ (below_step HB.out hb)
 clear ho hb hbz0 hbz1
 obtain ⟨Ao, co, eo⟩ := Kd.R_slice HO.out
 subst eo
 have hbz0 := (blk_cell BKbx.out 0).trans rfl
 have hbz1 := (blk_cell BKbx.out 1).trans rfl
 go_wp2_with (first | ((with_reducible refine gate_dst (N := 12) rfl ?_); refine Kd.R_lit (Kd.slice 3 (Kd.int .i64)) w.heap.size 32 ?hg (N := 12) ?hd (w0 := w1) (xs := [([1] : List Int)]) (inner := [.slice Ao 1 co]) (ok := fun _ => True) (okp := fun _ => True) ?hr (Reps.one (show Kd.M (Kd.slice 3 (Kd.int .i64)) w1 w.heap.size (fun _ => True) [1] [.slice Ao 1 co] from ⟨_, rfl, HO.out⟩) (Reps.none _ _)) (fun _ _ => trivial) trivial (Below.refl _ _) HB.out.size (by simp) ?_; (case hd => rfl); (case hg => rfl); (case hr => first | (go_simp; done) | (go_simp; rfl)); intro v1 w2 hS hb_ hg_ hn_; refine Aside0.out ?_))
 refine zA_ ?_
 obtain ⟨sb, cs, e_⟩ := R_some hS (by simp)
 subst e_
 have hb := below_of_grown_ hg_
 replace BKbx := zA_ (blk_below BKbx.out hb)
 have HS := zA_ hS
 replace HB := zA_ (below_step HB.out hb)
 clear hS hb_ hg_ hn_ hb HO hbz0 hbz1
 have hbz0 := (blk_cell BKbx.out 0).trans rfl
 have hbz1 := (blk_cell BKbx.out 1).trans rfl
 go_wp2_with (first | fail)
 refine wp_loop_rounds 3 ?_
 rw [rounds_succ]
 obtain ⟨ad_, e_, hx0, hx1, hx2⟩ := at_T84 (Kd.C_below HL.out HB.out) 0 (by decide) (by decide)
 cases e_
 replace hx0 : w2.cell? ⟨b2, o2, s2⟩ = some (.string ⟨#[100, 101, 110, 115, 101]⟩) := hx0
 replace hx1 : w2.cell? ⟨b2, o2 + 1, none⟩ = some (.int .i64 1) := hx1
 replace hx2 : w2.cell? ⟨b2, o2 + 2, none⟩ = some (.int .i64 0) := hx2
 go_wp2_with (first | fail)
 clear hx0 hx1 hx2 hbz0 hbz1
 have hb := (Below.refl w2.heap.size w2).alloc (Nat.le_refl _) (.cells #[.string ⟨#[100, 101, 110, 115, 101]⟩, .int .i64 1, .int .i64 0] 84)
 have BY := zA_ (heap_alloc_new w2 (.cells #[.string ⟨#[100, 101, 110, 115, 101]⟩, .int .i64 1, .int .i64 0] 84))
 obtain ⟨y, e_⟩ : ∃ y, y = w2.heap.size := ⟨_, rfl⟩
 rw [← e_] at BY ⊢
 generalize hgw_ : w2.alloc (.cells #[.string ⟨#[100, 101, 110, 115, 101]⟩, .int .i64 1, .int .i64 0] 84) = w3 at hb BY ⊢
 clear hgw_ e_
 have hb2 := hb.trans (below_le (below_drew1 (Below.refl w3.heap.size w3)) hb.size)
 replace HS := zA_ (Kd.R_below HS.out hb2)
 replace HB := zA_ (below_step HB.out hb2)
 replace BY := zA_ (blk_drew BY.out)
 clear hb hb2 BKbx
 obtain ⟨ad_, A0, c0, e_, hx, hc0, HC⟩ := at_L13 (Kd.R_reads' HS.out).2.2 0 (by decide) (by decide)
 cases e_
 replace hx : w3.drew.cell? ⟨sb, 0, none⟩ = some (.slice A0 1 c0) := hx
 replace HC : Kd.C (Kd.int .i64) w3.drew A0 1 [1] := HC
 have HC := zA_ HC
 replace hc0 : 1 ≤ c0 := hc0
 refine start_ (n := 11) (S := fun w' => w'.cell? ⟨y, 0, none⟩ = some (.string ⟨#[100, 101, 110, 115, 101]⟩) ∧ w'.cell? ⟨y, 1, none⟩ = some (.int .i64 1) ∧ w'.cell? ⟨y, 2, none⟩ = some (.int .i64 0) ∧ w'.cell? ⟨sb, 0, none⟩ = some (.slice A0 1 c0)) (ds := []) #[false, false, false, false, false, false, false, false, false, false, false] (by kernel_rfl) rfl rfl ⟨(blk_cell BY.out 0).trans rfl, (blk_cell BY.out 1).trans rfl, (blk_cell BY.out 2).trans rfl, hx⟩ (fun hHeld => ?_); refine with_tabW net_walk.tab5 net_walk.bits5 (fun HT_ HW_ => ?_)
 generalize w3.drew = w4 at HS HB BY HC hx hHeld ⊢
 refine yp_ ?_ 1 23
 refine yp_ ?_ 2 24
 refine yp_ ?_ 3 25
 refine yt4_ ?_ 0 22
 refine yt4_ ?_ 4 26
 refine yo_ 5 (some 27) (fun K hK => ?_)
 refine yg_ Tryz.func293 #[.agg #[.string ⟨#[100, 101, 110, 115, 101]⟩, .int .i64 1, .int .i64 0], .slice A0 1 c0] ?_
 refine (model_Layer_out.calls ⟨#[100, 101, 110, 115, 101]⟩ 1 0 A0 c0 [1] [1] true _ HC.out hc0 (by decide +kernel)).mono ?_
 rintro e w5 ⟨v5, rfl, ho, hb⟩
 refine ⟨_, rfl, ?_⟩
 have hx5 := (hb.cell (World.block_lt_of_cell? _ _ hx)).trans hx
 replace BY := zA_ (blk_below BY.out hb)
 replace HS := zA_ (Kd.R_below HS.out hb)
 have HV := zA_ (Kd.R_lower ho HB.out.size)
 replace HB := zA_ (below_step HB.out hb)
 clear hb ho hx HC
 refine hK.out _ _ ⟨(blk_cell BY.out 0).trans rfl, (blk_cell BY.out 1).trans rfl, (blk_cell BY.out 2).trans rfl, hx5⟩ (fun hHeld => ?_)
 clear hK K
 refine zq_ (some 27) (h := ?_)
 refine yp_ ?_ 6 21
 refine yp_ ?_ 7 28
 refine yp_ ?_ 8 29
 refine yp_ ?_ 9 7
 refine yp_ ?_ 10 8
 refine done_ (done_of HT_.out (by kernel_rfl)) ?_
 clear hx5 hHeld
 obtain ⟨Av, cv, e_⟩ := Kd.R_slice HV.out
 subst e_
 have hyz0 := (blk_cell BY.out 0).trans rfl
 have hyz1 := (blk_cell BY.out 1).trans rfl
 have hyz2 := (blk_cell BY.out 2).trans rfl
 go_wp2_with (first | ((with_reducible refine gate_builtin (b := .append) (xs := #[.tmp 44, .tmp 46]) rfl ?_); at_builtin; refine Kd.R_append (Kd.slice 3 (Kd.int .i64)) (w0 := w5) w.heap.size rfl (.tmp 44) (.tmp 46) 260 32 (.slice none 0 0) 24 rfl Tryz.underlying260 info32 rfl (by decide) (by decide) (.slice (some ⟨sb, 0, none⟩) 1 cs) [[1]] ([1] : List Int) [.slice Av 1 cv] (fun _ => True) (fun k => some k ≠ (Value.slice (some ⟨sb, 0, none⟩) 1 cs).ownBlock) (by first | rfl | (go_simp; done)) (by first | rfl | (go_simp; done)) ⟨_, rfl, Kd.R_mono (Kd.R_apart' HV.out (Kd.R_typed HS.out) (by decide)) (fun _ hk => hk.2)⟩ (fun _ hk => ⟨trivial, hk⟩) (fun _ _ => trivial) HS.out (Below.refl _ _) HB.out.size (by simp) ?_; intro v6 w6 hS hb_ hg_ hat_; obtain ⟨As6, cs6, e6_⟩ := Kd.R_slice hS; subst e6_; refine Aside0.out ?_))
 refine zA_ ?_
 replace HB := zA_ (HB.out.trans hb_)
 have HS6 := zA_ hS
 clear hS hb_ hg_ hat_ HS HV BY hyz0 hyz1 hyz2
 go_wp2_with (first | fail)
 rw [rounds_succ]
 go_wp2_with (first | fail)
 go_ret2
 exact ⟨_, rfl, HS6.out, HB.out⟩
theorem model_shapes (A1 : Option Addr) (a2 : Addr) (c1 c2 : Nat) (w : World) (hI : Kd.C (Kd.int .i64) w A1 1 [1]) (hc1 : 1 ≤ c1) (hL : Kd.C k84 w (some a2) 1 lay1) (hc2 : 1 ≤ c2) :
  Calls Tryz.prog 165 #[.agg #[.slice A1 1 c1, .slice (some a2) 1 c2]] w fun e w' => ∃ v0_ : Value, e = .returned (.tuple #[v0_, .int .i64 0]) ∧ Kd.R (Kd.slice 3 (Kd.int .i64)) 32 w' w.heap.size (fun _ => True) v0_ [[1], [1]] ∧ Below w.heap.size w w' := by
 have HI := zA_ hI
 have HL := zA_ hL
 have HB := zA_ (Below.refl w.heap.size w)
 clear hI hL
 go_enter Tryz.func165, Tryz.ntmps165
 go_wp2_with (first | ((with_reducible refine gate_dst (N := 1) rfl ?_); refine zB_ (#[.slice A1 1 c1, .slice (some a2) 1 c2]) 35 ?_; intro bx hg wbx hbox hb; have BKbx := zA_ (hbox); have GEbx := zA_ (zs_ hg (zw0_ HB)); replace HB := zA_ (below_step (zw0_ HB) hb); have hbz0 := (blk_cell BKbx.out 0).trans rfl; have hbz1 := (blk_cell BKbx.out 1).trans rfl; clear hb hbox hg))
 go_at_call 238
 refine (model_Net_good.calls 100 A1 c1 [1] (some a2) c2 lay1 true _ (Kd.C_below HI.out HB.out) hc1 (Kd.C_below HL.out HB.out) hc2 (by decide +kernel)).mono ?_
 rintro e w1 ⟨rfl, hd⟩
 replace BKbx := zA_ (blk_below BKbx.out hd)
 replace HB := zA_ (below_step HB.out hd)
 clear hd hbz0 hbz1
 have hbz0 := (blk_cell BKbx.out 0).trans rfl
 have hbz1 := (blk_cell BKbx.out 1).trans rfl
 go_wp2_with (first | fail)
 go_at_call 239
 refine (net_walk A1 a2 c1 c2 _ (Kd.C_below HI.out HB.out) hc1 (Kd.C_below HL.out HB.out) hc2).mono ?_
 rintro e w2 ⟨v2, rfl, ho, hd⟩
 obtain ⟨As, cs, e_⟩ := Kd.R_slice ho
 subst e_
 have HO := zA_ (Kd.R_lower ho HB.out.size)
 clear ho
 replace BKbx := zA_ (blk_below BKbx.out hd)
 replace HB := zA_ (below_step HB.out hd)
 clear hd hbz0 hbz1
 have hbz0 := (blk_cell BKbx.out 0).trans rfl
 have hbz1 := (blk_cell BKbx.out 1).trans rfl
 go_wp2_with (first | fail)
 go_at_call 166
 refine (model_Net_sum.calls 100 A1 c1 [1] (some a2) c2 lay1 As cs [[1], [1]] 2 true _ (Kd.C_below HI.out HB.out) hc1 (Kd.C_below HL.out HB.out) hc2 (Kd.R_reads' HO.out).2.2 (Kd.R_reads' HO.out).2.1 (by decide +kernel)).mono ?_
 rintro e w3 ⟨rfl, hd⟩
 replace HO := zA_ (Kd.R_below HO.out hd)
 replace BKbx := zA_ (blk_below BKbx.out hd)
 replace HB := zA_ (below_step HB.out hd)
 clear hd hbz0 hbz1
 have hbz0 := (blk_cell BKbx.out 0).trans rfl
 have hbz1 := (blk_cell BKbx.out 1).trans rfl
 go_wp2_with (first | fail)
 go_ret2
 exact ⟨_, z0_, HO.out, HB.out⟩
end Go.Proofs.YtmddclifcgcpcaaGreatDoor.PTopNames
namespace Go.Proofs.YtmddclifcgcpcaaGreatDoor.PTopNames.TX
open Go.RowKit Go.Proofs.YtmddclifcgcpcaaGreatDoorW.PrintWords Go.Proofs.YtmddclifcgcpcaaGreatDoorW.PrintLast Go.Proofs.YtmddclifcgcpcaaGreatDoorW.PrintMore
def model_Run.T12 : Bool × List (List Nat × List Nat) := (true, [([], []), ([], []), ([], []), ([], []), ([2, 3], [2, 3]), ([4], [4]), ([], []), ([], []), ([0, 1, 5, 6, 7], [0, 1, 5, 6, 7]), ([8, 8, 0, 1, 2, 3, 4, 5, 6, 7, 8], [8])])
def model_Run.B12 : List Nat := [0, 0, 0, 0, 12, 28, 0, 0, 255, 511]
theorem model_Run.tab12 : rtab .any (opsOf Tryz.f168 12) = model_Run.T12 := by kernel_rfl
theorem model_Run.bits12 : waitsOk model_Run.T12.2 model_Run.B12 = true := by kernel_rfl
def model_Run.T18 : Bool × List (List Nat × List Nat) := (true, [([], []), ([], []), ([1], [1]), ([2], [2]), ([3], [3]), ([0, 0], [0]), ([4, 5, 0, 1, 2, 3, 4, 5], [4]), ([6, 0, 1, 2, 3, 4, 5, 6], [])])
def model_Run.B18 : List Nat := [0, 0, 2, 6, 14, 1, 63, 127]
theorem model_Run.tab18 : rtab .any (opsOf Tryz.f168 18) = model_Run.T18 := by kernel_rfl
theorem model_Run.bits18 : waitsOk model_Run.T18.2 model_Run.B18 = true := by kernel_rfl
theorem model_Run (X : Int) (hX : ∃ k, tens_Good.f k [1] [X] = some true) (hm : PairOk 4 ⟨[1, 1], [0]⟩ ⟨[1], [X]⟩ 0 [1, 1] [0]) (hs : OneOk 8 ⟨[1, 1], [0]⟩ 1 [1] [0]) (ha : PairOk 2 ⟨[1], [0]⟩ ⟨[1], [0]⟩ 0 [1] [0]) (g base xb : Nat) (A1 Ap Ax : Option Addr) (a2 : Addr) (c1 c2 cp cx : Nat) (v : Value) (w0 w : World) (hw0 : w0.heap.size = base) (hB0 : Below base w0 w) (hI : Kd.C (Kd.int .i64) w0 A1 1 [1]) (hc1 : 1 ≤ c1) (hL : Kd.C k84 w0 (some a2) 1 lay1) (hc2 : 1 ≤ c2) (hP : Kd.C (Kd.int .i64) w0 Ap 2 [0, 0]) (hcp : 2 ≤ cp) (hX0 : Kd.C (Kd.int .i64) w0 Ax 1 [X]) (hcx : 1 ≤ cx) (hT : TP w base g xb v []) (hbg : base ≤ g) :
  Calls Tryz.prog 168 #[.pointer (some ⟨g, 0, none⟩), .agg #[.slice A1 1 c1, .slice (some a2) 1 c2], .slice Ap 2 cp, .slice Ax 1 cx] w fun e w' => ∃ Al cl, e = .returned (.tuple #[.int .i64 5, .slice Al 2 cl, .int .i64 0]) ∧ Kd.R (Kd.int .i64) 3 w' 0 (fun _ => True) (.slice Al 2 cl) [1, 2] ∧ (∃ v' xb', TP w' base g xb' v' (nsL X)) ∧ Below base w w' := by
 have HT := zA_ hT
 have HP := zA_ hP
 have HI := zA_ hI
 have HL := zA_ hL
 have HX := zA_ hX0
 have HB := zA_ (Below.refl w.heap.size w)
 have HB0 := zA_ hB0
 have HW := zA_ hw0
 have HM := zA_ hm
 have HS := zA_ hs
 have HA := zA_ ha
 have HG := zA_ hX
 have NW : Aside0 (base ≤ w.heap.size) := ⟨Nat.le_trans (Nat.le_of_eq hw0.symm) hB0.size⟩
 clear hT hP hB0 hw0 hI hL hX0 hm hs ha hX
 obtain ⟨b2, o2, s2⟩ := a2
 go_enter Tryz.func168, Tryz.ntmps168
 go_wp2_with (first | ((with_reducible refine gate_dst (N := 5) rfl ?_); refine zB_ (#[.slice A1 1 c1, .slice (some ⟨b2, o2, s2⟩) 1 c2]) 35 ?_; intro bx hg wbx hbox hb; have BKbx := zA_ (hbox); have GEbx := zA_ (zs_ hg (zw0_ HB)); replace HB := zA_ (below_step (zw0_ HB) hb); have hbz0 := (blk_cell BKbx.out 0).trans rfl; have hbz1 := (blk_cell BKbx.out 1).trans rfl; clear hb hbox hg))
 go_at_call 165
 refine (model_shapes A1 ⟨b2, o2, s2⟩ c1 c2 _ (Kd.C_below HI.out (below_le (HB0.out.trans (below_le (by exact HB.out) NW.out)) (Nat.le_of_eq HW.out))) hc1 (Kd.C_below HL.out (below_le (HB0.out.trans (below_le (by exact HB.out) NW.out)) (Nat.le_of_eq HW.out))) hc2).mono ?_
 rintro e w1 ⟨v0, rfl, ho, hd⟩
 obtain ⟨sb, cs, e_⟩ := R_some ho (by simp)
 subst e_
 replace BKbx := zA_ (blk_below BKbx.out hd)
 have HO := zA_ (Kd.R_lower ho HB.out.size)
 replace HB := zA_ (below_step HB.out hd)
 clear ho hd hbz0 hbz1
 have hbz0 := (blk_cell BKbx.out 0).trans rfl
 have hbz1 := (blk_cell BKbx.out 1).trans rfl
 go_wp2_with (first | fail)
 go_at_call 166
 refine (model_Net_sum.calls 100 A1 c1 [1] (some ⟨b2, o2, s2⟩) c2 lay1 (some ⟨sb, 0, none⟩) cs [[1], [1]] 2 true _ (Kd.C_below HI.out (below_le (HB0.out.trans (below_le (by exact HB.out) NW.out)) (Nat.le_of_eq HW.out))) hc1 (Kd.C_below HL.out (below_le (HB0.out.trans (below_le (by exact HB.out) NW.out)) (Nat.le_of_eq HW.out))) hc2 (Kd.R_reads' HO.out).2.2 (Kd.R_reads' HO.out).2.1 (by decide +kernel)).mono ?_
 rintro e w2 ⟨rfl, hd⟩
 replace BKbx := zA_ (blk_below BKbx.out hd)
 replace HO := zA_ (Kd.R_below HO.out hd)
 replace HB := zA_ (below_step HB.out hd)
 clear hd hbz0 hbz1
 have hbz0 := (blk_cell BKbx.out 0).trans rfl
 have hbz1 := (blk_cell BKbx.out 1).trans rfl
 go_wp2_with (first | fail)
 go_at_call 241
 refine (model_product.calls 100 A1 c1 [1] 1 _ (Kd.C_below HI.out (below_le (HB0.out.trans (below_le (by exact HB.out) NW.out)) (Nat.le_of_eq HW.out))) hc1 (by decide +kernel)).mono ?_
 rintro e w3 ⟨rfl, hd0⟩
 have hd := below_dr hd0
 clear hd0
 replace BKbx := zA_ (blk_below BKbx.out hd)
 replace HO := zA_ (Kd.R_below HO.out hd)
 replace HB := zA_ (below_step HB.out hd)
 clear hd hbz0 hbz1
 have hbz0 := (blk_cell BKbx.out 0).trans rfl
 have hbz1 := (blk_cell BKbx.out 1).trans rfl
 go_wp2_with (first | fail)
 obtain ⟨q, e_⟩ : ∃ q, q = w3.heap.size := ⟨_, rfl⟩
 have hb := (Below.refl w3.heap.size w3).alloc (Nat.le_refl _) (.cells #[.pointer (some ⟨g, 0, none⟩), .int .i64 0, .slice Ap 2 cp, .slice none 0 0] 347)
 have BQ := zA_ (heap_alloc_new w3 (.cells #[.pointer (some ⟨g, 0, none⟩), .int .i64 0, .slice Ap 2 cp, .slice none 0 0] 347))
 have NQ : Aside0 (base ≤ q) := ⟨by have h1 := HB.out.size; have h2 := NW.out; omega⟩
 rw [← e_] at BQ ⊢
 generalize hgw_ : w3.alloc (.cells #[.pointer (some ⟨g, 0, none⟩), .int .i64 0, .slice Ap 2 cp, .slice none 0 0] 347) = w4 at hb BQ ⊢
 clear hgw_ e_
 replace BKbx := zA_ (blk_below BKbx.out hb)
 replace HO := zA_ (Kd.R_below HO.out hb)
 replace HB := zA_ (below_step HB.out hb)
 clear hb hbz0 hbz1
 refine (tape_Len g base [] v _ (HT.out.below HB.out)).mono ?_
 rintro e w5 ⟨rfl, hd⟩
 replace BQ := zA_ (blk_below BQ.out hd)
 have hbz0 := 0
 have hbz1 := 0
 replace BKbx := zA_ (blk_below BKbx.out hd)
 replace HO := zA_ (Kd.R_below HO.out hd)
 replace HB := zA_ (below_step HB.out hd)
 clear hd hbz0 hbz1
 have hbz0 := (blk_cell BKbx.out 0).trans rfl
 have hbz1 := (blk_cell BKbx.out 1).trans rfl
 go_wp2_with (first | fail)
 go_at_call 244
 obtain ⟨kg, hg⟩ := HG.out
 refine (runner_leaf q g base kg _ _ [] v A1 c1 [1] Ax cx [X] _ BQ.out (HT.out.below HB.out) hbg NQ.out (by decide) (Kd.C_below HI.out (below_le (HB0.out.trans (below_le (by exact HB.out) NW.out)) (Nat.le_of_eq HW.out))) hc1 (Kd.C_below HX.out (below_le (HB0.out.trans (below_le (by exact HB.out) NW.out)) (Nat.le_of_eq HW.out))) hcx hg (by decide) (by simp)).mono ?_
 rintro e w6 ⟨rfl, bq, ⟨v6, ht⟩, hb, hf⟩
 replace BKbx := zA_ (TF.blk hf BKbx.out (by decide) (by decide))
 replace HO := zA_ (TF.R hf HO.out (by decide) (by decide))
 have HB6 := zA_ ((below_le HB.out NW.out).trans hb)
 have BQ6 := zA_ bq
 have HT6 := zA_ ht
 clear hb hf bq ht BQ HT HB hbz0 hbz1 hg kg
 have hbz0 := (blk_cell BKbx.out 0).trans rfl
 have hbz1 := (blk_cell BKbx.out 1).trans rfl
 go_wp2_with (first | fail)
 refine wp_loop_rounds 3 ?_
 rw [rounds_succ]
 obtain ⟨ad_, e_, hx0, hx1, hx2⟩ := at_T84 (Kd.C_below HL.out (below_le (HB0.out.trans HB6.out) (Nat.le_of_eq HW.out))) 0 (by decide) (by decide)
 cases e_
 replace hx0 : w6.cell? ⟨b2, o2, s2⟩ = some (.string ⟨#[100, 101, 110, 115, 101]⟩) := hx0
 replace hx1 : w6.cell? ⟨b2, o2 + 1, none⟩ = some (.int .i64 1) := hx1
 replace hx2 : w6.cell? ⟨b2, o2 + 2, none⟩ = some (.int .i64 0) := hx2
 go_wp2_with (first | fail)
 clear hx0 hx1 hx2 hbz0 hbz1
 have hb := (Below.refl w6.heap.size w6).alloc (Nat.le_refl _) (.cells #[.string ⟨#[100, 101, 110, 115, 101]⟩, .int .i64 1, .int .i64 0] 84)
 have BY := zA_ (heap_alloc_new w6 (.cells #[.string ⟨#[100, 101, 110, 115, 101]⟩, .int .i64 1, .int .i64 0] 84))
 obtain ⟨y, e_⟩ : ∃ y, y = w6.heap.size := ⟨_, rfl⟩
 rw [← e_] at BY ⊢
 generalize hgw_ : w6.alloc (.cells #[.string ⟨#[100, 101, 110, 115, 101]⟩, .int .i64 1, .int .i64 0] 84) = w7 at hb BY ⊢
 clear hgw_ e_
 have hb2 := hb.trans (below_le (below_drew1 (Below.refl w7.heap.size w7)) hb.size)
 have hb3 := below_le hb2 (Nat.le_trans NW.out HB6.out.size)
 have HB7 := zA_ (HB6.out.trans hb3)
 have BQ7 := zA_ (blk_below BQ6.out hb2)
 have HT7 := zA_ (HT6.out.below hb2)
 replace HO := zA_ (Kd.R_below HO.out hb2)
 replace BY := zA_ (blk_drew BY.out)
 clear hb hb2 hb3 BKbx BQ6 HT6 HB6
 obtain ⟨ad_, A0, c0, e_, hx, hc0, HC⟩ := at_L13 (Kd.R_reads' HO.out).2.2 0 (by decide) (by decide)
 cases e_
 replace hx : w7.drew.cell? ⟨sb, 0, none⟩ = some (.slice A0 1 c0) := hx
 replace HC : Kd.C (Kd.int .i64) w7.drew A0 1 [1] := HC
 have HC := zA_ HC
 replace hc0 : 1 ≤ c0 := hc0
 obtain ⟨tl, hsb⟩ := Kd.R_typed HO.out sb rfl
 have HSB := zA_ hsb
 have SC : Aside0 (tl[0]? = some (.slice A0 1 c0)) := ⟨(by have h1 := hx; unfold World.cell? at h1; rw [hsb] at h1; exact h1)⟩
 clear hsb
 refine start_ (n := 10) (S := fun w' => w'.cell? ⟨y, 0, none⟩ = some (.string ⟨#[100, 101, 110, 115, 101]⟩) ∧ w'.cell? ⟨y, 1, none⟩ = some (.int .i64 1) ∧ w'.cell? ⟨y, 2, none⟩ = some (.int .i64 0) ∧ w'.cell? ⟨sb, 0, none⟩ = some (.slice A0 1 c0)) (ds := []) #[false, false, false, false, false, false, false, false, false, false] (by kernel_rfl) rfl rfl ⟨(blk_cell BY.out 0).trans rfl, (blk_cell BY.out 1).trans rfl, (blk_cell BY.out 2).trans rfl, hx⟩ (fun hHeld => ?_); refine with_tabW model_Run.tab12 model_Run.bits12 (fun HT_ HW_ => ?_)
 generalize w7.drew = w8 at HO HB7 BY HC hx HT7 BQ7 HSB hHeld ⊢
 refine yp_ ?_ 0 67
 refine yp_ ?_ 2 69
 refine yp_ ?_ 3 70
 refine yp_ ?_ 4 71
 refine yp_ ?_ 6 73
 refine yp_ ?_ 7 74
 refine yt4_ ?_ 1 68
 refine yt4_ ?_ 5 72
 refine yo_ 8 (some 75) (fun K hK => ?_)
 refine yg_ Tryz.func245 #[.pointer (some ⟨q, 0, none⟩), .agg #[.string ⟨#[100, 101, 110, 115, 101]⟩, .int .i64 1, .int .i64 0], .slice A0 1 c0, .int .i64 0, .int .i64 0] ?_
 refine (runner_layer X 0 HM.out HS.out HA.out q g base xb Ap A0 cp c0 _ w0 _ HW.out (HB0.out.trans HB7.out) HP.out hcp BQ7.out HT7.out hbg NQ.out HC.out hc0).mono ?_
 rintro e w9 ⟨rfl, ⟨vp, Al, cl, bq, hl⟩, ⟨v9, xb9, ht⟩, hb, hf⟩
 refine ⟨_, rfl, ?_⟩
 have hx9 : w9.cell? ⟨sb, 0, none⟩ = some (.slice A0 1 c0) := (blk_cell (hf _ _ _ (by decide) (by decide) (by decide) (by decide) HSB.out) 0).trans SC.out
 replace BY := zA_ (hf _ _ _ (by decide) (by decide) (by decide) (by decide) BY.out)
 have HB9 := zA_ (HB7.out.trans hb)
 have BQ9 := zA_ bq
 have HL9 := zA_ hl
 have HT9 := zA_ ht
 clear bq hl ht hb hf hx HC HO HB7 BQ7 HT7
 refine hK.out _ _ ⟨(blk_cell BY.out 0).trans rfl, (blk_cell BY.out 1).trans rfl, (blk_cell BY.out 2).trans rfl, hx9⟩ (fun hHeld => ?_)
 clear hK K
 refine zq_ (some 75) (h := ?_)
 refine yp_ ?_ 9 21
 refine done_ (done_of HT_.out (by kernel_rfl)) ?_
 clear hx9 hHeld HSB SC BY
 go_wp2_with (first | fail)
 rw [rounds_succ]
 have hq1 := (blk_cell BQ9.out 1).trans rfl
 go_wp2_with (first | fail)
 clear hq1
 have hb := below_drew1 (Below.refl w9.heap.size w9)
 have hb3 := below_le hb (Nat.le_trans NW.out HB9.out.size)
 replace HB9 := zA_ (HB9.out.trans hb3)
 replace BQ9 := zA_ (blk_below BQ9.out hb)
 replace HT9 := zA_ (HT9.out.below hb)
 replace HL9 := zA_ (Kd.R_below HL9.out hb)
 clear hb hb3
 refine start_ (n := 8) (S := fun w' => w'.cell? ⟨q, 1, none⟩ = some (.int .i64 0) ∧ w'.cell? ⟨q, 3, none⟩ = some (.slice Al 2 cl)) (ds := []) #[false, false, false, false, false, false, false, false] (by kernel_rfl) rfl rfl ⟨(blk_cell BQ9.out 1).trans rfl, (blk_cell BQ9.out 3).trans rfl⟩ (fun hHeld => ?_); refine with_tabW model_Run.tab18 model_Run.bits18 (fun HT_ HW_ => ?_)
 generalize w9.drew = w10 at HB9 BQ9 HT9 HL9 hHeld ⊢
 refine yp_ ?_ 0 91
 refine yp_ ?_ 1 92
 refine yp_ ?_ 2 93
 refine yp_ ?_ 3 94
 refine yt2_ ?_ 4 95
 refine yp_ ?_ 5 8
 refine yp_ ?_ 6 9
 refine yp_ ?_ 7 10
 refine done_ (done_of HT_.out (by kernel_rfl)) ?_
 go_wp2_with (first | fail)
 go_ret3
 exact ⟨Al, cl, z0_, HL9.out, ⟨_, _, HT9.out⟩, HB9.out⟩
theorem loss_may {xb : Nat} (g base : Nat) (ns : List S358) (v : Value) (i x : Int) (Ay : Option Addr) (cy : Nat) (w : World) (hT : TP w base g xb v ns) (h0 : 0 ≤ i) (h1 : i < (ns.length : Int)) (hd : (rd_T358 ns i).f4 = ⟨[1], [x]⟩) :
  Calls Tryz.prog 299 #[.pointer (some ⟨g, 0, none⟩), .int .i64 i, .slice Ay 1 cy] w fun e w' => e = .returned (.int .i64 0) ∧ Below w.heap.size w w' := by
 have HT := zA_ hT
 have HB := zA_ (Below.refl w.heap.size w)
 have HD := zA_ hd
 clear hT hd
 go_enter Tryz.func299, Tryz.ntmps299
 go_wp2_with (first | fail)
 go_at_call 171
 refine (tape_Value_yes g base ns v i w HT.out h0 h1 (by rw [HD.out]; simp) (by rw [HD.out]; simp)).mono ?_
 rw [HD.out]
 rintro e w1 ⟨v4, v5, rfl, hr4, hr5, hb⟩
 obtain ⟨A4, c4, e_⟩ := Kd.R_slice hr4
 subst e_
 obtain ⟨A5, c5, e_⟩ := Kd.R_slice hr5
 subst e_
 replace HB := zA_ hb
 clear hr4 hr5 hb
 go_wp2_with (first | fail)
 go_ret
 exact ⟨rfl, below_step HB.out ((Below.refl _ _).alloc (Nat.le_refl _) _)⟩
def nsS (X Y D Q M : Int) : List S358 := nsL X ++ [(⟨1, -1, -1, 0, ⟨[1], [Y]⟩⟩ : S358)] ++ [(⟨3, 5, 6, 0, ⟨[1], [D]⟩⟩ : S358)] ++ [(⟨4, 7, 7, 0, ⟨[1], [Q]⟩⟩ : S358)] ++ [(⟨10, 8, -1, 0, ⟨[], [M]⟩⟩ : S358)]
theorem loss_Square (X Y D Q M : Int) {xb : Nat} (h3 : PairOk 3 ⟨[1], [0]⟩ ⟨[1], [Y]⟩ 0 [1] [D]) (h4 : PairOk 4 ⟨[1], [D]⟩ ⟨[1], [D]⟩ 0 [1] [Q]) (hm : OneOk 10 ⟨[1], [Q]⟩ 0 [] [M]) (hY : ∃ k, tens_Good.f k [1] [Y] = some true) (g base : Nat) (v : Value) (Ay : Option Addr) (cy : Nat) (w : World) (hT : TP w base g xb v (nsL X)) (hbg : base ≤ g) (hbw : base ≤ w.heap.size) (hC : Kd.C (Kd.int .i64) w Ay 1 [Y]) (hcy : 1 ≤ cy) :
  Calls Tryz.prog 247 #[.pointer (some ⟨g, 0, none⟩), .int .i64 5, .slice Ay 1 cy] w fun e w' => e = .returned (.tuple #[.int .i64 9, .int .i64 0]) ∧ (∃ v', TP w' base g xb v' (nsS X Y D Q M)) ∧ Below base w w' ∧ TF w w' := by
 have HT := zA_ hT
 have HC := zA_ hC
 have H3 := zA_ h3
 have H4 := zA_ h4
 have HM := zA_ hm
 have HY := zA_ hY
 clear hT hC h3 h4 hm hY
 go_enter Tryz.func247, Tryz.ntmps247
 go_wp2_with (first | fail)
 go_at_call 299
 refine (loss_may g base (nsL X) v 5 0 Ay cy w HT.out (by decide) (by simp [nsL]) rfl).mono ?_
 rintro e w1 ⟨rfl, hb⟩
 have HB := zA_ hb
 replace HT := zA_ (HT.out.below hb)
 clear hb
 go_wp2_with (first | fail)
 go_at_call 300
 refine (loss_begin g base (nsL X) v w1 HT.out).mono ?_
 rintro e w2 ⟨q, rfl, hq, bq, hb⟩
 have NQ : Aside0 (base ≤ q) := ⟨by have := HB.out.size; omega⟩
 have BQ := zA_ bq
 replace HB := zA_ (below_step HB.out hb)
 replace HT := zA_ (HT.out.below hb)
 clear hb bq hq
 go_wp2_with (first | fail)
 go_at_call 302
 obtain ⟨ky, hy⟩ := HY.out
 refine (steps_leaf q g base ky _ (nsL X) v Ay cy [Y] w2 BQ.out HT.out hbg NQ.out (by simp [nsL]) (Kd.C_below HC.out HB.out) hcy hy (by simp)).mono ?_
 rintro e w3 ⟨rfl, bq, ⟨v3, ht⟩, hb, hf⟩
 clear hy ky
 have HB3 := zA_ ((below_le HB.out hbw).trans hb)
 have HG3 := zA_ ((TF.of_below HB.out).trans (hf))
 replace BQ := zA_ bq
 replace HT := zA_ ht
 clear bq ht hb hf HB
 go_wp2_with (first | fail)
 go_at_call 301
 refine (steps_do q g base _ (nsL X ++ [(⟨1, -1, -1, 0, ⟨[1], [Y]⟩⟩ : S358)]) _ 3 5 6 0 (⟨3, 5, 6, 0, ⟨[1], [D]⟩⟩ : S358) _ BQ.out HT.out NQ.out (fun wx hx => tape_Do_two3 g base (nsL X ++ [(⟨1, -1, -1, 0, ⟨[1], [Y]⟩⟩ : S358)]) _ 5 6 0 [1] [D] wx hx hbg (by simp [nsL]) (by decide) (by simp [nsL]) (by decide) (by simp [nsL]) (fun A4 A5 B4 B5 c4 c5 e4 e5 w2 a b c_ d e f g_ h => H3.out A4 A5 B4 B5 c4 c5 e4 e5 w2 a b c_ d e f g_ h))).mono ?_
 rintro e w4 ⟨rfl, bq, ⟨v4, ht⟩, hb, hf⟩
 have HB4 := zA_ (HB3.out.trans hb)
 have HG4 := zA_ (HG3.out.trans (hf))
 replace BQ := zA_ bq
 replace HT := zA_ ht
 clear bq ht hb hf
 go_wp2_with (first | fail)
 go_at_call 301
 refine (steps_do q g base _ (nsL X ++ [(⟨1, -1, -1, 0, ⟨[1], [Y]⟩⟩ : S358)] ++ [(⟨3, 5, 6, 0, ⟨[1], [D]⟩⟩ : S358)]) _ 4 7 7 0 (⟨4, 7, 7, 0, ⟨[1], [Q]⟩⟩ : S358) _ BQ.out HT.out NQ.out (fun wx hx => tape_Do_two4 g base (nsL X ++ [(⟨1, -1, -1, 0, ⟨[1], [Y]⟩⟩ : S358)] ++ [(⟨3, 5, 6, 0, ⟨[1], [D]⟩⟩ : S358)]) _ 7 7 0 [1] [Q] wx hx hbg (by simp [nsL]) (by decide) (by simp [nsL]) (by decide) (by simp [nsL]) (fun A4 A5 B4 B5 c4 c5 e4 e5 w2 a b c_ d e f g_ h => H4.out A4 A5 B4 B5 c4 c5 e4 e5 w2 a b c_ d e f g_ h))).mono ?_
 rintro e w5 ⟨rfl, bq, ⟨v5, ht⟩, hb, hf⟩
 have HB5 := zA_ (HB4.out.trans hb)
 have HG5 := zA_ (HG4.out.trans (hf))
 replace BQ := zA_ bq
 replace HT := zA_ ht
 clear bq ht hb hf
 go_wp2_with (first | fail)
 go_at_call 301
 refine (steps_do q g base _ (nsL X ++ [(⟨1, -1, -1, 0, ⟨[1], [Y]⟩⟩ : S358)] ++ [(⟨3, 5, 6, 0, ⟨[1], [D]⟩⟩ : S358)] ++ [(⟨4, 7, 7, 0, ⟨[1], [Q]⟩⟩ : S358)]) _ 10 8 0 0 (⟨10, 8, -1, 0, ⟨[], [M]⟩⟩ : S358) _ BQ.out HT.out NQ.out (fun wx hx => tape_Do_mean g base (nsL X ++ [(⟨1, -1, -1, 0, ⟨[1], [Y]⟩⟩ : S358)] ++ [(⟨3, 5, 6, 0, ⟨[1], [D]⟩⟩ : S358)] ++ [(⟨4, 7, 7, 0, ⟨[1], [Q]⟩⟩ : S358)]) _ 8 0 0 [] [M] wx hx hbg (by simp [nsL]) (by decide) (by simp [nsL]) (fun A4 A5 c4 c5 w2 a b c_ d => HM.out A4 A5 c4 c5 w2 a b c_ d))).mono ?_
 rintro e w6 ⟨rfl, bq, ⟨v6, ht⟩, hb, hf⟩
 have HB6 := zA_ (HB5.out.trans hb)
 have HG6 := zA_ (HG5.out.trans (hf))
 replace BQ := zA_ bq
 replace HT := zA_ ht
 clear bq ht hb hf
 go_wp2_with (first | fail)
 go_at_call 303
 refine (steps_told q g _ 9 _ BQ.out).mono ?_
 rintro e w7 ⟨rfl, hb⟩
 go_wp2_with (first | fail)
 go_ret2
 exact ⟨rfl, ⟨_, HT.out.below hb⟩, HB6.out.trans (below_le hb (Nat.le_trans hbw HB6.out.size)), HG6.out.trans (TF.of_below hb)⟩
theorem grad_far (X Y D Q M : Int) {xb : Nat} (h3 : PairOk 3 ⟨[1], [0]⟩ ⟨[1], [Y]⟩ 0 [1] [D]) (h4 : PairOk 4 ⟨[1], [D]⟩ ⟨[1], [D]⟩ 0 [1] [Q]) (hm : OneOk 10 ⟨[1], [Q]⟩ 0 [] [M]) (hY : ∃ k, tens_Good.f k [1] [Y] = some true) (g base : Nat) (v : Value) (Ax Ay : Option Addr) (cx cy : Nat) (w : World) (hT : TP w base g xb v (nsL X)) (hbg : base ≤ g) (hbw : base ≤ w.heap.size) (hC : Kd.C (Kd.int .i64) w Ay 1 [Y]) (hcy : 1 ≤ cy) :
  Calls Tryz.prog 169 #[.pointer (some ⟨g, 0, none⟩), .int .i64 1, .int .i64 5, .agg #[.slice Ax 1 cx, .slice Ay 1 cy, .int .i64 0]] w fun e w' => e = .returned (.tuple #[.int .i64 9, .int .i64 0]) ∧ (∃ v', TP w' base g xb v' (nsS X Y D Q M)) ∧ Below base w w' ∧ TF w w' := by
 have HT := zA_ hT
 have HC := zA_ hC
 have H3 := zA_ h3
 have H4 := zA_ h4
 have HM := zA_ hm
 have HY := zA_ hY
 have HB := zA_ (Below.refl w.heap.size w)
 clear hT hC h3 h4 hm hY
 go_enter Tryz.func169, Tryz.ntmps169
 go_wp2_with (first | ((with_reducible refine gate_dst (N := 7) rfl ?_); refine zB_ (#[.slice Ax 1 cx, .slice Ay 1 cy, .int .i64 0]) 87 ?_; intro bx hg wbx hbox hb; have BKbx := zA_ (hbox); have GEbx := zA_ (zs_ hg (zw0_ HB)); replace HB := zA_ (below_step (zw0_ HB) hb); have hbz1 := (blk_cell BKbx.out 1).trans rfl; clear hb hbox hg))
 go_at_call 247
 refine (loss_Square X Y D Q M H3.out H4.out HM.out HY.out g base v Ay cy _ (HT.out.below HB.out) hbg (Nat.le_trans hbw HB.out.size) (Kd.C_below HC.out HB.out) hcy).mono ?_
 rintro e w7 ⟨rfl, ⟨v', ht⟩, hb, hg⟩
 have HT7 := zA_ ht
 have HB7 := zA_ ((below_le HB.out hbw).trans hb)
 have HG7 := zA_ ((TF.of_below HB.out).trans hg)
 clear ht hb hg hbz1
 go_wp2_with (first | fail)
 go_ret2
 exact ⟨rfl, ⟨_, HT7.out⟩, HB7.out, HG7.out⟩
theorem results_cct {P : Program} {fn : Func} {p p' u : Tmp} {ty ty' : TypeId} (h : fn.results = #[.cell p ty, .cell p' ty', .tmp u]) (tmps : Array Value) (w : World) (g g' : Nat) (t t' : TypeId) (cs cs' : Array Value) (fr fr' : Nat × Nat) (d d' : TypeDesc)
    (hp : tmps.getD p undef = .pointer (some ⟨g, 0, none⟩)) (hp' : tmps.getD p' undef = .pointer (some ⟨g', 0, none⟩)) (hg : w.heap[g]? = some (.cells cs t fr)) (hg' : w.heap[g']? = some (.cells cs' t' fr'))
    (hu : P.underlying ty = some d) (hu' : P.underlying ty' = some d') (hd : (match d with | .struct _ | .array _ _ => true | _ => false) = true) (hd' : (match d' with | .struct _ | .array _ _ => true | _ => false) = true) (hi : (P.info? ty).map (·.size) = some cs.size) (hi' : (P.info? ty').map (·.size) = some cs'.size) :
    (results fn tmps).run P w = .ok (.tuple #[.agg cs, .agg cs', tmps.getD u undef]) w := by
  have h1 : tmps[p]?.getD undef = .pointer (some ⟨g, 0, none⟩) := by simpa using hp
  have h2 : tmps[p']?.getD undef = .pointer (some ⟨g', 0, none⟩) := by simpa using hp'
  simp [results, h, h1, h2, asAddr, run_loadVar_row w g t ty cs fr d hg hu hd hi, run_loadVar_row w g' t' ty' cs' fr' d' hg' hu' hd' hi']
def vO (ns : List S358) (i : Int) : S273 := if i < 0 then ⟨[], []⟩ else (rd_T358 ns i).f4
theorem tape_Value_any {xb : Nat} (g base : Nat) (ns : List S358) (v : Value) (i : Int) (w : World) (hT : TP w base g xb v ns) (h1 : i < (ns.length : Int)) (hn0 : (vO ns i).f0.length < 1000) (hn1 : (vO ns i).f1.length < 1000) :
  Calls Tryz.prog 171 #[.pointer (some ⟨g, 0, none⟩), .int .i64 i] w fun e w' => ∃ (v4 v5 : Value) (b : Bool), e = .returned (.tuple #[.agg #[v4, v5], .bool b]) ∧ Kd.R (Kd.int .i64) 3 w' w.heap.size (fun _ => True) v4 (vO ns i).f0 ∧ Kd.R (Kd.int .i64) 36 w' w.heap.size (fun _ => True) v5 (vO ns i).f1 ∧ Below w.heap.size w w' := by
 unfold vO at hn0 hn1 ⊢
 by_cases h0 : i < 0
 · rw [if_pos h0]
   refine (tape_Value_no g i w h0).mono ?_
   rintro e w1 ⟨rfl, hb⟩
   exact ⟨_, _, _, rfl, Kd.R_nil _ _ _ _ _, Kd.R_nil _ _ _ _ _, hb⟩
 · rw [if_neg h0] at hn0 hn1 ⊢
   refine (tape_Value_yes g base ns v i w hT (by omega) h1 (by omega) (by omega)).mono ?_
   rintro e w1 ⟨v4, v5, rfl, hr, hr', hb⟩
   exact ⟨_, _, _, rfl, hr, hr', hb⟩
def back_One.T12 : Bool × List (List Nat × List Nat) := (true, [([], []), ([], []), ([0, 0], [0]), ([1, 2, 0, 1, 2], [1]), ([3, 0, 1, 2, 3], [])])
def back_One.B12 : List Nat := [0, 0, 1, 7, 15]
theorem back_One.tab12 : rtab .any (opsOf Tryz.f252 12) = back_One.T12 := by kernel_rfl
theorem back_One.bits12 : waitsOk back_One.T12.2 back_One.B12 = true := by kernel_rfl
theorem back_One (k : Nat) (g base : Nat) {xb : Nat} (ns : List S358) (v : Value) (i op a b kk : Int) (d r : List Int) (s x y : S273) (A0 A1 : Option Addr) (c0 c1 : Nat) (w : World) (hT : TP w base g xb v ns) (hnd : rd_T358 ns i = ⟨op, a, b, kk, ⟨d, r⟩⟩) (h0 : 0 ≤ i) (h1 : i < (ns.length : Int)) (ha : a < (ns.length : Int)) (hb : b < (ns.length : Int)) (hn : ∀ j, (vO ns j).f0.length < 1000 ∧ (vO ns j).f1.length < 1000) (hs0 : Kd.C (Kd.int .i64) w A0 s.f0.length s.f0) (hc0 : s.f0.length ≤ c0) (hs1 : Kd.C (Kd.int .i64) w A1 s.f1.length s.f1) (hc1 : s.f1.length ≤ c1)
  (hg : tens_Good.f k s.f0 s.f1 = some true) (hs : shape_Same.f k s.f0 d = some true) (hA : back_forA.f k op a b kk d r (vO ns a).f0 (vO ns a).f1 (vO ns b).f0 (vO ns b).f1 s.f0 s.f1 = some (x.f0, x.f1, 0)) (hB : back_forB.f k op a b kk d r (vO ns a).f0 (vO ns a).f1 (vO ns b).f0 (vO ns b).f1 s.f0 s.f1 = some (y.f0, y.f1, 0)) :
  Calls Tryz.prog 252 #[.pointer (some ⟨g, 0, none⟩), .int .i64 i, .agg #[.slice A0 s.f0.length c0, .slice A1 s.f1.length c1]] w fun e w' => ∃ v0 v1 v2 v3, e = .returned (.tuple #[.agg #[v0, v1], .agg #[v2, v3], .int .i64 0]) ∧ Kd.R (Kd.int .i64) 3 w' w.heap.size (fun _ => True) v0 x.f0 ∧ Kd.R (Kd.int .i64) 36 w' w.heap.size (fun _ => True) v1 x.f1 ∧ Kd.R (Kd.int .i64) 3 w' w.heap.size (fun _ => True) v2 y.f0 ∧ Kd.R (Kd.int .i64) 36 w' w.heap.size (fun _ => True) v3 y.f1 ∧ Below w.heap.size w w' := by
 have HT := zA_ hT
 have HB := zA_ (Below.refl w.heap.size w)
 have HS0 := zA_ hs0
 have HS1 := zA_ hs1
 have HG := zA_ hg
 have HSM := zA_ hs
 have HFA := zA_ hA
 have HFB := zA_ hB
 have HN := zA_ hn
 have HI := zA_ (And.intro h0 (And.intro h1 (And.intro ha hb)))
 have HC0 := zA_ hc0
 have HC1 := zA_ hc1
 have HND := zA_ hnd
 have HNI : Aside0 (d.length < 1000 ∧ r.length < 1000) := ⟨(by have h := hn i; unfold vO at h; rw [if_neg (by omega), hnd] at h; exact h)⟩
 clear hT hs0 hs1 hg hs hA hB hn h0 h1 ha hb hc0 hc1 hnd
 go_enter Tryz.func252, Tryz.ntmps252
 go_wp2_with (first | ((with_reducible refine gate_dst (N := 5) rfl ?_); refine zB_ (#[.slice A0 s.f0.length c0, .slice A1 s.f1.length c1]) 273 ?_; intro b5 hg wb5 hbox hb; have BKb5 := zA_ (hbox); have GEb5 := zA_ (zs_ hg (zw0_ HB)); replace HB := zA_ (below_step (zw0_ HB) hb);  clear hb hbox hg) | ((with_reducible refine gate_dst (N := 6) rfl ?_); refine zB_ (#[.slice none 0 0, .slice none 0 0]) 273 ?_; intro b6 hg wb6 hbox hb; have BKb6 := zA_ (hbox); have GEb6 := zA_ (zs_ hg (zw0_ HB)); replace HB := zA_ (below_step (zw0_ HB) hb); replace BKb5 := zA_ (blk_below BKb5.out hb); clear hb hbox hg) | ((with_reducible refine gate_dst (N := 7) rfl ?_); refine zB_ (#[.slice none 0 0, .slice none 0 0]) 273 ?_; intro b7 hg wb7 hbox hb; have BKb7 := zA_ (hbox); have GEb7 := zA_ (zs_ hg (zw0_ HB)); replace HB := zA_ (below_step (zw0_ HB) hb); replace BKb5 := zA_ (blk_below BKb5.out hb); have NE67 : Aside0 (b6 ≠ b7) := ⟨(by have h1_ := blk_lt BKb6.out; omega)⟩; replace BKb6 := zA_ (blk_below BKb6.out hb); clear hb hbox hg))
 replace HT := zA_ (HT.out.below HB.out)
 go_at_call 251
 refine (tape_At_yes g base ns v i _ HT.out HI.out.1 HI.out.2.1 (by rw [HND.out]; exact Nat.lt_trans HNI.out.1 (by decide)) (by rw [HND.out]; exact Nat.lt_trans HNI.out.2 (by decide))).mono ?_
 rw [HND.out]
 rintro e w1 ⟨v4, v5, rfl, hr4, hr5, hb⟩
 obtain ⟨A4, c4, e_⟩ := Kd.R_slice hr4
 subst e_
 obtain ⟨A5, c5, e_⟩ := Kd.R_slice hr5
 subst e_
 have HR4 := zA_ hr4
 have HR5 := zA_ hr5
 clear hr4 hr5
 replace BKb5 := zA_ (blk_below BKb5.out hb)
 replace BKb6 := zA_ (blk_below BKb6.out hb)
 replace BKb7 := zA_ (blk_below BKb7.out hb)
 replace HT := zA_ (HT.out.below hb)
 replace HB := zA_ (below_step HB.out hb)
 clear hb
 have hb := (Below.refl w1.heap.size w1).alloc (Nat.le_refl _) (.cells #[.int .i64 op, .int .i64 a, .int .i64 b, .int .i64 kk, .slice A4 d.length c4, .slice A5 r.length c5] 358)
 have B9 := zA_ (heap_alloc_new w1 (.cells #[.int .i64 op, .int .i64 a, .int .i64 b, .int .i64 kk, .slice A4 d.length c4, .slice A5 r.length c5] 358))
 have hyBKb50 := (blk_cell (blk_below BKb5.out hb) 0).trans rfl
 have hyBKb51 := (blk_cell (blk_below BKb5.out hb) 1).trans rfl
 have hyB90 := (blk_cell B9.out 0).trans rfl
 have hyB91 := (blk_cell B9.out 1).trans rfl
 have hyB92 := (blk_cell B9.out 2).trans rfl
 have hyB93 := (blk_cell B9.out 3).trans rfl
 have hyB94 := (blk_cell B9.out 4).trans rfl
 have hyB95 := (blk_cell B9.out 5).trans rfl
 go_wp2_with (first | fail)
 clear hyBKb50 hyBKb51 hyB90 hyB91 hyB92 hyB93 hyB94 hyB95
 obtain ⟨p9, e_⟩ : ∃ p9, p9 = w1.heap.size := ⟨_, rfl⟩
 rw [← e_] at B9 ⊢
 generalize hgw_ : w1.alloc (.cells #[.int .i64 op, .int .i64 a, .int .i64 b, .int .i64 kk, .slice A4 d.length c4, .slice A5 r.length c5] 358) = w2 at hb B9 ⊢
 clear hgw_
 clear e_
 replace BKb5 := zA_ (blk_below BKb5.out hb)
 replace BKb6 := zA_ (blk_below BKb6.out hb)
 replace BKb7 := zA_ (blk_below BKb7.out hb)
 replace HR4 := zA_ (Kd.R_below HR4.out hb)
 replace HR5 := zA_ (Kd.R_below HR5.out hb)
 replace HT := zA_ (HT.out.below hb)
 replace HB := zA_ (below_step HB.out hb)
 clear hb
 have hzBKb50 := (blk_cell BKb5.out 0).trans rfl
 have hzBKb51 := (blk_cell BKb5.out 1).trans rfl
 have hzB90 := (blk_cell B9.out 0).trans rfl
 have hzB91 := (blk_cell B9.out 1).trans rfl
 have hzB92 := (blk_cell B9.out 2).trans rfl
 have hzB93 := (blk_cell B9.out 3).trans rfl
 have hzB94 := (blk_cell B9.out 4).trans rfl
 have hzB95 := (blk_cell B9.out 5).trans rfl
 go_at_call 308
 refine (tens_Good.calls k A0 c0 s.f0 A1 c1 s.f1 true _ (Kd.C_below HS0.out HB.out) HC0.out (Kd.C_below HS1.out HB.out) HC1.out HG.out).mono ?_
 rintro e w3 ⟨rfl, hb⟩
 replace BKb5 := zA_ (blk_below BKb5.out hb)
 replace BKb6 := zA_ (blk_below BKb6.out hb)
 replace BKb7 := zA_ (blk_below BKb7.out hb)
 replace B9 := zA_ (blk_below B9.out hb)
 replace HR4 := zA_ (Kd.R_below HR4.out hb)
 replace HR5 := zA_ (Kd.R_below HR5.out hb)
 replace HT := zA_ (HT.out.below hb)
 replace HB := zA_ (below_step HB.out hb)
 clear hb
 clear hzBKb50 hzBKb51 hzB90 hzB91 hzB92 hzB93 hzB94 hzB95
 have hzBKb50 := (blk_cell BKb5.out 0).trans rfl
 have hzBKb51 := (blk_cell BKb5.out 1).trans rfl
 have hzB90 := (blk_cell B9.out 0).trans rfl
 have hzB91 := (blk_cell B9.out 1).trans rfl
 have hzB92 := (blk_cell B9.out 2).trans rfl
 have hzB93 := (blk_cell B9.out 3).trans rfl
 have hzB94 := (blk_cell B9.out 4).trans rfl
 have hzB95 := (blk_cell B9.out 5).trans rfl
 go_wp2_with (first | fail)
 go_at_call 309
 refine (shape_Same.calls k A0 c0 s.f0 A4 c4 d true _ (Kd.C_below HS0.out HB.out) HC0.out (Kd.R_reads' HR4.out).2.2 (Kd.R_reads' HR4.out).2.1 HSM.out).mono ?_
 rintro e w4 ⟨rfl, hd⟩
 have hb := below_dr hd
 replace BKb5 := zA_ (blk_below BKb5.out hb)
 replace BKb6 := zA_ (blk_below BKb6.out hb)
 replace BKb7 := zA_ (blk_below BKb7.out hb)
 replace B9 := zA_ (blk_below B9.out hb)
 replace HR4 := zA_ (Kd.R_below HR4.out hb)
 replace HR5 := zA_ (Kd.R_below HR5.out hb)
 replace HT := zA_ (HT.out.below hb)
 replace HB := zA_ (below_step HB.out hb)
 clear hb hd
 clear hzBKb50 hzBKb51 hzB90 hzB91 hzB92 hzB93 hzB94 hzB95
 have hzBKb50 := (blk_cell BKb5.out 0).trans rfl
 have hzBKb51 := (blk_cell BKb5.out 1).trans rfl
 have hzB90 := (blk_cell B9.out 0).trans rfl
 have hzB91 := (blk_cell B9.out 1).trans rfl
 have hzB92 := (blk_cell B9.out 2).trans rfl
 have hzB93 := (blk_cell B9.out 3).trans rfl
 have hzB94 := (blk_cell B9.out 4).trans rfl
 have hzB95 := (blk_cell B9.out 5).trans rfl
 go_wp2_with (first | fail)
 go_at_call 171
 refine (tape_Value_any g base ns v a _ HT.out HI.out.2.2.1 (HN.out a).1 (HN.out a).2).mono ?_
 rintro e w5 ⟨u0, u1, ba, rfl, hr0, hr1, hb⟩
 obtain ⟨Aa0, ca0, e_⟩ := Kd.R_slice hr0
 subst e_
 obtain ⟨Aa1, ca1, e_⟩ := Kd.R_slice hr1
 subst e_
 have HRa0 := zA_ hr0
 have HRa1 := zA_ hr1
 clear hr0 hr1
 replace BKb5 := zA_ (blk_below BKb5.out hb)
 replace BKb6 := zA_ (blk_below BKb6.out hb)
 replace BKb7 := zA_ (blk_below BKb7.out hb)
 replace B9 := zA_ (blk_below B9.out hb)
 replace HR4 := zA_ (Kd.R_below HR4.out hb)
 replace HR5 := zA_ (Kd.R_below HR5.out hb)
 replace HT := zA_ (HT.out.below hb)
 replace HB := zA_ (below_step HB.out hb)
 clear hb
 clear hzBKb50 hzBKb51 hzB90 hzB91 hzB92 hzB93 hzB94 hzB95
 have hb := (Below.refl w5.heap.size w5).alloc (Nat.le_refl _) (.cells #[.slice Aa0 (vO ns a).f0.length ca0, .slice Aa1 (vO ns a).f1.length ca1] 273)
 have Ba := zA_ (heap_alloc_new w5 (.cells #[.slice Aa0 (vO ns a).f0.length ca0, .slice Aa1 (vO ns a).f1.length ca1] 273))
 have hyBKb50 := (blk_cell (blk_below BKb5.out hb) 0).trans rfl
 have hyBKb51 := (blk_cell (blk_below BKb5.out hb) 1).trans rfl
 have hyB90 := (blk_cell (blk_below B9.out hb) 0).trans rfl
 have hyB91 := (blk_cell (blk_below B9.out hb) 1).trans rfl
 have hyB92 := (blk_cell (blk_below B9.out hb) 2).trans rfl
 have hyB93 := (blk_cell (blk_below B9.out hb) 3).trans rfl
 have hyB94 := (blk_cell (blk_below B9.out hb) 4).trans rfl
 have hyB95 := (blk_cell (blk_below B9.out hb) 5).trans rfl
 have hyBa0 := (blk_cell Ba.out 0).trans rfl
 have hyBa1 := (blk_cell Ba.out 1).trans rfl
 go_wp2_with (first | fail)
 clear hyBKb50 hyBKb51 hyB90 hyB91 hyB92 hyB93 hyB94 hyB95 hyBa0 hyBa1
 obtain ⟨pa, e_⟩ : ∃ pa, pa = w5.heap.size := ⟨_, rfl⟩
 rw [← e_] at Ba ⊢
 generalize hgw_ : w5.alloc (.cells #[.slice Aa0 (vO ns a).f0.length ca0, .slice Aa1 (vO ns a).f1.length ca1] 273) = w6 at hb Ba ⊢
 clear hgw_
 clear e_
 replace BKb5 := zA_ (blk_below BKb5.out hb)
 replace BKb6 := zA_ (blk_below BKb6.out hb)
 replace BKb7 := zA_ (blk_below BKb7.out hb)
 replace B9 := zA_ (blk_below B9.out hb)
 replace HR4 := zA_ (Kd.R_below HR4.out hb)
 replace HR5 := zA_ (Kd.R_below HR5.out hb)
 replace HRa0 := zA_ (Kd.R_below HRa0.out hb)
 replace HRa1 := zA_ (Kd.R_below HRa1.out hb)
 replace HT := zA_ (HT.out.below hb)
 replace HB := zA_ (below_step HB.out hb)
 clear hb
 go_at_call 171
 refine (tape_Value_any g base ns v b _ HT.out HI.out.2.2.2 (HN.out b).1 (HN.out b).2).mono ?_
 rintro e w7 ⟨u0, u1, bb, rfl, hr0, hr1, hb⟩
 obtain ⟨Ab0, cb0, e_⟩ := Kd.R_slice hr0
 subst e_
 obtain ⟨Ab1, cb1, e_⟩ := Kd.R_slice hr1
 subst e_
 have HRb0 := zA_ hr0
 have HRb1 := zA_ hr1
 clear hr0 hr1
 replace BKb5 := zA_ (blk_below BKb5.out hb)
 replace BKb6 := zA_ (blk_below BKb6.out hb)
 replace BKb7 := zA_ (blk_below BKb7.out hb)
 replace B9 := zA_ (blk_below B9.out hb)
 replace Ba := zA_ (blk_below Ba.out hb)
 replace HR4 := zA_ (Kd.R_below HR4.out hb)
 replace HR5 := zA_ (Kd.R_below HR5.out hb)
 replace HRa0 := zA_ (Kd.R_below HRa0.out hb)
 replace HRa1 := zA_ (Kd.R_below HRa1.out hb)
 replace HT := zA_ (HT.out.below hb)
 replace HB := zA_ (below_step HB.out hb)
 clear hb
 have hb := (Below.refl w7.heap.size w7).alloc (Nat.le_refl _) (.cells #[.slice Ab0 (vO ns b).f0.length cb0, .slice Ab1 (vO ns b).f1.length cb1] 273)
 have Bb := zA_ (heap_alloc_new w7 (.cells #[.slice Ab0 (vO ns b).f0.length cb0, .slice Ab1 (vO ns b).f1.length cb1] 273))
 have hyBKb50 := (blk_cell (blk_below BKb5.out hb) 0).trans rfl
 have hyBKb51 := (blk_cell (blk_below BKb5.out hb) 1).trans rfl
 have hyB90 := (blk_cell (blk_below B9.out hb) 0).trans rfl
 have hyB91 := (blk_cell (blk_below B9.out hb) 1).trans rfl
 have hyB92 := (blk_cell (blk_below B9.out hb) 2).trans rfl
 have hyB93 := (blk_cell (blk_below B9.out hb) 3).trans rfl
 have hyB94 := (blk_cell (blk_below B9.out hb) 4).trans rfl
 have hyB95 := (blk_cell (blk_below B9.out hb) 5).trans rfl
 have hyBa0 := (blk_cell (blk_below Ba.out hb) 0).trans rfl
 have hyBa1 := (blk_cell (blk_below Ba.out hb) 1).trans rfl
 have hyBb0 := (blk_cell Bb.out 0).trans rfl
 have hyBb1 := (blk_cell Bb.out 1).trans rfl
 go_wp2_with (first | fail)
 clear hyBKb50 hyBKb51 hyB90 hyB91 hyB92 hyB93 hyB94 hyB95 hyBa0 hyBa1 hyBb0 hyBb1
 obtain ⟨pb, e_⟩ : ∃ pb, pb = w7.heap.size := ⟨_, rfl⟩
 rw [← e_] at Bb ⊢
 generalize hgw_ : w7.alloc (.cells #[.slice Ab0 (vO ns b).f0.length cb0, .slice Ab1 (vO ns b).f1.length cb1] 273) = w8 at hb Bb ⊢
 clear hgw_
 clear e_
 replace BKb5 := zA_ (blk_below BKb5.out hb)
 replace BKb6 := zA_ (blk_below BKb6.out hb)
 replace BKb7 := zA_ (blk_below BKb7.out hb)
 replace B9 := zA_ (blk_below B9.out hb)
 replace Ba := zA_ (blk_below Ba.out hb)
 replace HR4 := zA_ (Kd.R_below HR4.out hb)
 replace HR5 := zA_ (Kd.R_below HR5.out hb)
 replace HRa0 := zA_ (Kd.R_below HRa0.out hb)
 replace HRa1 := zA_ (Kd.R_below HRa1.out hb)
 replace HRb0 := zA_ (Kd.R_below HRb0.out hb)
 replace HRb1 := zA_ (Kd.R_below HRb1.out hb)
 replace HT := zA_ (HT.out.below hb)
 replace HB := zA_ (below_step HB.out hb)
 clear hb
 go_at_call 310
 refine (back_forA.calls k op a b kk  A4 c4 d A5 c5 r Aa0 ca0 (vO ns a).f0 Aa1 ca1 (vO ns a).f1 Ab0 cb0 (vO ns b).f0 Ab1 cb1 (vO ns b).f1 A0 c0 s.f0 A1 c1 s.f1 x.f0 x.f1 0 _ (Kd.R_reads' HR4.out).2.2 (Kd.R_reads' HR4.out).2.1 (Kd.R_reads' HR5.out).2.2 (Kd.R_reads' HR5.out).2.1 (Kd.R_reads' HRa0.out).2.2 (Kd.R_reads' HRa0.out).2.1 (Kd.R_reads' HRa1.out).2.2 (Kd.R_reads' HRa1.out).2.1 (Kd.R_reads' HRb0.out).2.2 (Kd.R_reads' HRb0.out).2.1 (Kd.R_reads' HRb1.out).2.2 (Kd.R_reads' HRb1.out).2.1 (Kd.C_below HS0.out HB.out) HC0.out (Kd.C_below HS1.out HB.out) HC1.out HFA.out).mono ?_
 rintro e w9 ⟨u0, u1, rfl, hr0, hr1, hb⟩
 obtain ⟨Ax0, cx0, e_⟩ := Kd.R_slice hr0
 subst e_
 obtain ⟨Ax1, cx1, e_⟩ := Kd.R_slice hr1
 subst e_
 have HRx0 := zA_ (Kd.R_lower hr0 HB.out.size)
 have HRx1 := zA_ (Kd.R_lower hr1 HB.out.size)
 clear hr0 hr1
 replace BKb5 := zA_ (blk_below BKb5.out hb)
 replace BKb6 := zA_ (blk_below BKb6.out hb)
 replace BKb7 := zA_ (blk_below BKb7.out hb)
 replace B9 := zA_ (blk_below B9.out hb)
 replace Ba := zA_ (blk_below Ba.out hb)
 replace Bb := zA_ (blk_below Bb.out hb)
 replace HR4 := zA_ (Kd.R_below HR4.out hb)
 replace HR5 := zA_ (Kd.R_below HR5.out hb)
 replace HRa0 := zA_ (Kd.R_below HRa0.out hb)
 replace HRa1 := zA_ (Kd.R_below HRa1.out hb)
 replace HRb0 := zA_ (Kd.R_below HRb0.out hb)
 replace HRb1 := zA_ (Kd.R_below HRb1.out hb)
 replace HT := zA_ (HT.out.below hb)
 replace HB := zA_ (below_step HB.out hb)
 clear hb
 have hb := (Below.refl w9.heap.size w9).alloc (Nat.le_refl _) (.cells #[.slice Ax0 x.f0.length cx0, .slice Ax1 x.f1.length cx1] 273)
 have Bx := zA_ (heap_alloc_new w9 (.cells #[.slice Ax0 x.f0.length cx0, .slice Ax1 x.f1.length cx1] 273))
 have hyBKb50 := (blk_cell (blk_below BKb5.out hb) 0).trans rfl
 have hyBKb51 := (blk_cell (blk_below BKb5.out hb) 1).trans rfl
 have hyB90 := (blk_cell (blk_below B9.out hb) 0).trans rfl
 have hyB91 := (blk_cell (blk_below B9.out hb) 1).trans rfl
 have hyB92 := (blk_cell (blk_below B9.out hb) 2).trans rfl
 have hyB93 := (blk_cell (blk_below B9.out hb) 3).trans rfl
 have hyB94 := (blk_cell (blk_below B9.out hb) 4).trans rfl
 have hyB95 := (blk_cell (blk_below B9.out hb) 5).trans rfl
 have hyBa0 := (blk_cell (blk_below Ba.out hb) 0).trans rfl
 have hyBa1 := (blk_cell (blk_below Ba.out hb) 1).trans rfl
 have hyBb0 := (blk_cell (blk_below Bb.out hb) 0).trans rfl
 have hyBb1 := (blk_cell (blk_below Bb.out hb) 1).trans rfl
 have hyBx0 := (blk_cell Bx.out 0).trans rfl
 have hyBx1 := (blk_cell Bx.out 1).trans rfl
 go_wp2_with (first | fail)
 clear hyBKb50 hyBKb51 hyB90 hyB91 hyB92 hyB93 hyB94 hyB95 hyBa0 hyBa1 hyBb0 hyBb1 hyBx0 hyBx1
 obtain ⟨px, e_⟩ : ∃ px, px = w9.heap.size := ⟨_, rfl⟩
 rw [← e_] at Bx ⊢
 generalize hgw_ : w9.alloc (.cells #[.slice Ax0 x.f0.length cx0, .slice Ax1 x.f1.length cx1] 273) = w10 at hb Bx ⊢
 clear hgw_
 have NEpx_b6 := zA_ (show px ≠ b6 from by have h1_ := blk_lt BKb6.out; omega)
 have NEpx_b7 := zA_ (show px ≠ b7 from by have h1_ := blk_lt BKb7.out; omega)
 clear e_
 replace BKb5 := zA_ (blk_below BKb5.out hb)
 replace BKb6 := zA_ (blk_below BKb6.out hb)
 replace BKb7 := zA_ (blk_below BKb7.out hb)
 replace B9 := zA_ (blk_below B9.out hb)
 replace Ba := zA_ (blk_below Ba.out hb)
 replace Bb := zA_ (blk_below Bb.out hb)
 replace HR4 := zA_ (Kd.R_below HR4.out hb)
 replace HR5 := zA_ (Kd.R_below HR5.out hb)
 replace HRa0 := zA_ (Kd.R_below HRa0.out hb)
 replace HRa1 := zA_ (Kd.R_below HRa1.out hb)
 replace HRb0 := zA_ (Kd.R_below HRb0.out hb)
 replace HRb1 := zA_ (Kd.R_below HRb1.out hb)
 replace HRx0 := zA_ (Kd.R_below HRx0.out hb)
 replace HRx1 := zA_ (Kd.R_below HRx1.out hb)
 replace HT := zA_ (HT.out.below hb)
 replace HB := zA_ (below_step HB.out hb)
 clear hb
 go_at_call 311
 refine (back_forB.calls k op a b kk  A4 c4 d A5 c5 r Aa0 ca0 (vO ns a).f0 Aa1 ca1 (vO ns a).f1 Ab0 cb0 (vO ns b).f0 Ab1 cb1 (vO ns b).f1 A0 c0 s.f0 A1 c1 s.f1 y.f0 y.f1 0 _ (Kd.R_reads' HR4.out).2.2 (Kd.R_reads' HR4.out).2.1 (Kd.R_reads' HR5.out).2.2 (Kd.R_reads' HR5.out).2.1 (Kd.R_reads' HRa0.out).2.2 (Kd.R_reads' HRa0.out).2.1 (Kd.R_reads' HRa1.out).2.2 (Kd.R_reads' HRa1.out).2.1 (Kd.R_reads' HRb0.out).2.2 (Kd.R_reads' HRb0.out).2.1 (Kd.R_reads' HRb1.out).2.2 (Kd.R_reads' HRb1.out).2.1 (Kd.C_below HS0.out HB.out) HC0.out (Kd.C_below HS1.out HB.out) HC1.out HFB.out).mono ?_
 rintro e w11 ⟨u0, u1, rfl, hr0, hr1, hb⟩
 obtain ⟨Ay0, cy0, e_⟩ := Kd.R_slice hr0
 subst e_
 obtain ⟨Ay1, cy1, e_⟩ := Kd.R_slice hr1
 subst e_
 have HRy0 := zA_ (Kd.R_lower hr0 HB.out.size)
 have HRy1 := zA_ (Kd.R_lower hr1 HB.out.size)
 clear hr0 hr1
 replace BKb5 := zA_ (blk_below BKb5.out hb)
 replace BKb6 := zA_ (blk_below BKb6.out hb)
 replace BKb7 := zA_ (blk_below BKb7.out hb)
 replace B9 := zA_ (blk_below B9.out hb)
 replace Ba := zA_ (blk_below Ba.out hb)
 replace Bb := zA_ (blk_below Bb.out hb)
 replace Bx := zA_ (blk_below Bx.out hb)
 replace HR4 := zA_ (Kd.R_below HR4.out hb)
 replace HR5 := zA_ (Kd.R_below HR5.out hb)
 replace HRa0 := zA_ (Kd.R_below HRa0.out hb)
 replace HRa1 := zA_ (Kd.R_below HRa1.out hb)
 replace HRb0 := zA_ (Kd.R_below HRb0.out hb)
 replace HRb1 := zA_ (Kd.R_below HRb1.out hb)
 replace HRx0 := zA_ (Kd.R_below HRx0.out hb)
 replace HRx1 := zA_ (Kd.R_below HRx1.out hb)
 replace HT := zA_ (HT.out.below hb)
 replace HB := zA_ (below_step HB.out hb)
 clear hb
 have hb := (Below.refl w11.heap.size w11).alloc (Nat.le_refl _) (.cells #[.slice Ay0 y.f0.length cy0, .slice Ay1 y.f1.length cy1] 273)
 have By := zA_ (heap_alloc_new w11 (.cells #[.slice Ay0 y.f0.length cy0, .slice Ay1 y.f1.length cy1] 273))
 have hyBKb50 := (blk_cell (blk_below BKb5.out hb) 0).trans rfl
 have hyBKb51 := (blk_cell (blk_below BKb5.out hb) 1).trans rfl
 have hyB90 := (blk_cell (blk_below B9.out hb) 0).trans rfl
 have hyB91 := (blk_cell (blk_below B9.out hb) 1).trans rfl
 have hyB92 := (blk_cell (blk_below B9.out hb) 2).trans rfl
 have hyB93 := (blk_cell (blk_below B9.out hb) 3).trans rfl
 have hyB94 := (blk_cell (blk_below B9.out hb) 4).trans rfl
 have hyB95 := (blk_cell (blk_below B9.out hb) 5).trans rfl
 have hyBa0 := (blk_cell (blk_below Ba.out hb) 0).trans rfl
 have hyBa1 := (blk_cell (blk_below Ba.out hb) 1).trans rfl
 have hyBb0 := (blk_cell (blk_below Bb.out hb) 0).trans rfl
 have hyBb1 := (blk_cell (blk_below Bb.out hb) 1).trans rfl
 have hyBx0 := (blk_cell (blk_below Bx.out hb) 0).trans rfl
 have hyBx1 := (blk_cell (blk_below Bx.out hb) 1).trans rfl
 have hyBy0 := (blk_cell By.out 0).trans rfl
 have hyBy1 := (blk_cell By.out 1).trans rfl
 go_wp2_with (first | fail)
 clear hyBKb50 hyBKb51 hyB90 hyB91 hyB92 hyB93 hyB94 hyB95 hyBa0 hyBa1 hyBb0 hyBb1 hyBx0 hyBx1 hyBy0 hyBy1
 obtain ⟨py, e_⟩ : ∃ py, py = w11.heap.size := ⟨_, rfl⟩
 rw [← e_] at By ⊢
 generalize hgw_ : w11.alloc (.cells #[.slice Ay0 y.f0.length cy0, .slice Ay1 y.f1.length cy1] 273) = w12 at hb By ⊢
 clear hgw_
 have NEpy_b6 := zA_ (show py ≠ b6 from by have h1_ := blk_lt BKb6.out; omega)
 have NEpy_b7 := zA_ (show py ≠ b7 from by have h1_ := blk_lt BKb7.out; omega)
 clear e_
 replace BKb5 := zA_ (blk_below BKb5.out hb)
 replace BKb6 := zA_ (blk_below BKb6.out hb)
 replace BKb7 := zA_ (blk_below BKb7.out hb)
 replace B9 := zA_ (blk_below B9.out hb)
 replace Ba := zA_ (blk_below Ba.out hb)
 replace Bb := zA_ (blk_below Bb.out hb)
 replace Bx := zA_ (blk_below Bx.out hb)
 replace HR4 := zA_ (Kd.R_below HR4.out hb)
 replace HR5 := zA_ (Kd.R_below HR5.out hb)
 replace HRa0 := zA_ (Kd.R_below HRa0.out hb)
 replace HRa1 := zA_ (Kd.R_below HRa1.out hb)
 replace HRb0 := zA_ (Kd.R_below HRb0.out hb)
 replace HRb1 := zA_ (Kd.R_below HRb1.out hb)
 replace HRx0 := zA_ (Kd.R_below HRx0.out hb)
 replace HRx1 := zA_ (Kd.R_below HRx1.out hb)
 replace HRy0 := zA_ (Kd.R_below HRy0.out hb)
 replace HRy1 := zA_ (Kd.R_below HRy1.out hb)
 replace HT := zA_ (HT.out.below hb)
 replace HB := zA_ (below_step HB.out hb)
 clear hb
 have hb := below_drew1 (Below.refl w12.heap.size w12)
 replace BKb5 := zA_ (blk_below BKb5.out hb)
 replace BKb6 := zA_ (blk_below BKb6.out hb)
 replace BKb7 := zA_ (blk_below BKb7.out hb)
 replace B9 := zA_ (blk_below B9.out hb)
 replace Ba := zA_ (blk_below Ba.out hb)
 replace Bb := zA_ (blk_below Bb.out hb)
 replace Bx := zA_ (blk_below Bx.out hb)
 replace By := zA_ (blk_below By.out hb)
 replace HR4 := zA_ (Kd.R_below HR4.out hb)
 replace HR5 := zA_ (Kd.R_below HR5.out hb)
 replace HRa0 := zA_ (Kd.R_below HRa0.out hb)
 replace HRa1 := zA_ (Kd.R_below HRa1.out hb)
 replace HRb0 := zA_ (Kd.R_below HRb0.out hb)
 replace HRb1 := zA_ (Kd.R_below HRb1.out hb)
 replace HRx0 := zA_ (Kd.R_below HRx0.out hb)
 replace HRx1 := zA_ (Kd.R_below HRx1.out hb)
 replace HRy0 := zA_ (Kd.R_below HRy0.out hb)
 replace HRy1 := zA_ (Kd.R_below HRy1.out hb)
 replace HT := zA_ (HT.out.below hb)
 replace HB := zA_ (below_step HB.out hb)
 clear hb
 refine start_ (n := 5) (S := fun w' => w'.cell? ⟨px, 0, none⟩ = some (.slice Ax0 x.f0.length cx0) ∧ w'.cell? ⟨px, 1, none⟩ = some (.slice Ax1 x.f1.length cx1) ∧ w'.cell? ⟨py, 0, none⟩ = some (.slice Ay0 y.f0.length cy0) ∧ w'.cell? ⟨py, 1, none⟩ = some (.slice Ay1 y.f1.length cy1)) (ds := []) #[false, false, false, false, false] (by kernel_rfl) rfl rfl ⟨(blk_cell Bx.out 0).trans rfl, (blk_cell Bx.out 1).trans rfl, (blk_cell By.out 0).trans rfl, (blk_cell By.out 1).trans rfl⟩ (fun hHeld => ?_); refine with_tabW back_One.tab12 back_One.bits12 (fun HT_ HW_ => ?_)
 generalize w12.drew = w13 at BKb5 BKb6 BKb7 B9 Ba Bb Bx By HR4 HR5 HRa0 HRa1 HRb0 HRb1 HRx0 HRx1 HRy0 HRy1 HT HB hHeld ⊢
 refine yt4_ ?_ 0 82
 refine yt4_ ?_ 1 83
 refine yo_ 2 none (fun K hK => ?_)
 have hs0 := (blk_cell BKb6.out 0).trans rfl
 have hs1 := (blk_cell BKb6.out 1).trans rfl
 have hf0 := blk_frozen BKb6.out 0
 have hf1 := blk_frozen BKb6.out 1
 clear HT BKb5 B9 Ba Bb
 refine skip_ (w1 := (w13.setCell ⟨b6, 0, none⟩ (.slice Ax0 x.f0.length cx0)).setCell ⟨b6, 1, none⟩ (.slice Ax1 x.f1.length cx1)) (by rfl) rfl ?_ ?_
 · first | (go_simp; done) | (go_simp; rfl)
 clear hs0 hs1 hf0 hf1
 have hb_ := (HB.out.setCell (p := ⟨b6, 0, none⟩) GEb6.out (.slice Ax0 x.f0.length cx0)).setCell (p := ⟨b6, 1, none⟩) GEb6.out (.slice Ax1 x.f1.length cx1)
 replace HB := zA_ hb_
 clear hb_
 replace HRx0 := zA_ (Kd.R_set (Kd.R_set HRx0.out BKb6.out (by decide) 0 (.slice Ax0 x.f0.length cx0)) (blk_put BKb6.out 0 (.slice Ax0 x.f0.length cx0) rfl) (by decide) 1 (.slice Ax1 x.f1.length cx1))
 replace HRx1 := zA_ (Kd.R_set (Kd.R_set HRx1.out BKb6.out (by decide) 0 (.slice Ax0 x.f0.length cx0)) (blk_put BKb6.out 0 (.slice Ax0 x.f0.length cx0) rfl) (by decide) 1 (.slice Ax1 x.f1.length cx1))
 replace HRy0 := zA_ (Kd.R_set (Kd.R_set HRy0.out BKb6.out (by decide) 0 (.slice Ax0 x.f0.length cx0)) (blk_put BKb6.out 0 (.slice Ax0 x.f0.length cx0) rfl) (by decide) 1 (.slice Ax1 x.f1.length cx1))
 replace HRy1 := zA_ (Kd.R_set (Kd.R_set HRy1.out BKb6.out (by decide) 0 (.slice Ax0 x.f0.length cx0)) (blk_put BKb6.out 0 (.slice Ax0 x.f0.length cx0) rfl) (by decide) 1 (.slice Ax1 x.f1.length cx1))
 replace BKb7 := zA_ ((Below.heap_setCell _ ⟨b6, 1, none⟩ (.slice Ax1 x.f1.length cx1) b7 (Ne.symm NE67.out)).trans ((Below.heap_setCell _ ⟨b6, 0, none⟩ (.slice Ax0 x.f0.length cx0) b7 (Ne.symm NE67.out)).trans BKb7.out))
 replace Bx := zA_ ((Below.heap_setCell _ ⟨b6, 1, none⟩ (.slice Ax1 x.f1.length cx1) px NEpx_b6.out).trans ((Below.heap_setCell _ ⟨b6, 0, none⟩ (.slice Ax0 x.f0.length cx0) px NEpx_b6.out).trans Bx.out))
 replace By := zA_ ((Below.heap_setCell _ ⟨b6, 1, none⟩ (.slice Ax1 x.f1.length cx1) py NEpy_b6.out).trans ((Below.heap_setCell _ ⟨b6, 0, none⟩ (.slice Ax0 x.f0.length cx0) py NEpy_b6.out).trans By.out))
 replace BKb6 := zA_ (blk_put (blk_put BKb6.out 0 (.slice Ax0 x.f0.length cx0) rfl) 1 (.slice Ax1 x.f1.length cx1) rfl)
 generalize (w13.setCell ⟨b6, 0, none⟩ (.slice Ax0 x.f0.length cx0)).setCell ⟨b6, 1, none⟩ (.slice Ax1 x.f1.length cx1) = w14 at HRx0 HRx1 HRy0 HRy1 BKb7 Bx By BKb6 HB ⊢
 refine hK.out _ _ ⟨(blk_cell Bx.out 0).trans rfl, (blk_cell Bx.out 1).trans rfl, (blk_cell By.out 0).trans rfl, (blk_cell By.out 1).trans rfl⟩ (fun hHeld => ?_)
 clear hK K
 refine yo_ 3 none (fun K hK => ?_)
 have hs0 := (blk_cell BKb7.out 0).trans rfl
 have hs1 := (blk_cell BKb7.out 1).trans rfl
 have hf0 := blk_frozen BKb7.out 0
 have hf1 := blk_frozen BKb7.out 1
 refine skip_ (w1 := (w14.setCell ⟨b7, 0, none⟩ (.slice Ay0 y.f0.length cy0)).setCell ⟨b7, 1, none⟩ (.slice Ay1 y.f1.length cy1)) (by rfl) rfl ?_ ?_
 · first | (go_simp; done) | (go_simp; rfl)
 clear hs0 hs1 hf0 hf1
 have hb_ := (HB.out.setCell (p := ⟨b7, 0, none⟩) GEb7.out (.slice Ay0 y.f0.length cy0)).setCell (p := ⟨b7, 1, none⟩) GEb7.out (.slice Ay1 y.f1.length cy1)
 replace HB := zA_ hb_
 clear hb_
 replace HRx0 := zA_ (Kd.R_set (Kd.R_set HRx0.out BKb7.out (by decide) 0 (.slice Ay0 y.f0.length cy0)) (blk_put BKb7.out 0 (.slice Ay0 y.f0.length cy0) rfl) (by decide) 1 (.slice Ay1 y.f1.length cy1))
 replace HRx1 := zA_ (Kd.R_set (Kd.R_set HRx1.out BKb7.out (by decide) 0 (.slice Ay0 y.f0.length cy0)) (blk_put BKb7.out 0 (.slice Ay0 y.f0.length cy0) rfl) (by decide) 1 (.slice Ay1 y.f1.length cy1))
 replace HRy0 := zA_ (Kd.R_set (Kd.R_set HRy0.out BKb7.out (by decide) 0 (.slice Ay0 y.f0.length cy0)) (blk_put BKb7.out 0 (.slice Ay0 y.f0.length cy0) rfl) (by decide) 1 (.slice Ay1 y.f1.length cy1))
 replace HRy1 := zA_ (Kd.R_set (Kd.R_set HRy1.out BKb7.out (by decide) 0 (.slice Ay0 y.f0.length cy0)) (blk_put BKb7.out 0 (.slice Ay0 y.f0.length cy0) rfl) (by decide) 1 (.slice Ay1 y.f1.length cy1))
 replace BKb6 := zA_ ((Below.heap_setCell _ ⟨b7, 1, none⟩ (.slice Ay1 y.f1.length cy1) b6 NE67.out).trans ((Below.heap_setCell _ ⟨b7, 0, none⟩ (.slice Ay0 y.f0.length cy0) b6 NE67.out).trans BKb6.out))
 replace Bx := zA_ ((Below.heap_setCell _ ⟨b7, 1, none⟩ (.slice Ay1 y.f1.length cy1) px NEpx_b7.out).trans ((Below.heap_setCell _ ⟨b7, 0, none⟩ (.slice Ay0 y.f0.length cy0) px NEpx_b7.out).trans Bx.out))
 replace By := zA_ ((Below.heap_setCell _ ⟨b7, 1, none⟩ (.slice Ay1 y.f1.length cy1) py NEpy_b7.out).trans ((Below.heap_setCell _ ⟨b7, 0, none⟩ (.slice Ay0 y.f0.length cy0) py NEpy_b7.out).trans By.out))
 replace BKb7 := zA_ (blk_put (blk_put BKb7.out 0 (.slice Ay0 y.f0.length cy0) rfl) 1 (.slice Ay1 y.f1.length cy1) rfl)
 generalize (w14.setCell ⟨b7, 0, none⟩ (.slice Ay0 y.f0.length cy0)).setCell ⟨b7, 1, none⟩ (.slice Ay1 y.f1.length cy1) = w15 at HRx0 HRx1 HRy0 HRy1 BKb6 Bx By BKb7 HB ⊢
 refine hK.out _ _ ⟨(blk_cell Bx.out 0).trans rfl, (blk_cell Bx.out 1).trans rfl, (blk_cell By.out 0).trans rfl, (blk_cell By.out 1).trans rfl⟩ (fun hHeld => ?_)
 clear hK K
 refine yp_ ?_ 4 8
 refine done_ (done_of HT_.out (by kernel_rfl)) ?_
 go_wp2_with (first | fail)
 (try simp only [Exit.inBlock, Exit.then])
 refine bodyPost_ret (results_cct rfl _ _ b6 b7 273 273 #[.slice Ax0 x.f0.length cx0, .slice Ax1 x.f1.length cx1] #[.slice Ay0 y.f0.length cy0, .slice Ay1 y.f1.length cy1] (0, 0) (0, 0) _ _ rfl rfl BKb6.out BKb7.out Tryz.underlying273 Tryz.underlying273 rfl rfl (by kernel_rfl) (by kernel_rfl)) rfl ?_
 exact ⟨_, _, _, _, rfl, HRx0.out, HRx1.out, HRy0.out, HRy1.out, HB.out⟩
def gT (k : Nat) (gs : List S273) (i : Int) (t : S273) : Option (List S273) :=
  if i < 0 then some gs else
  match tens_Add.f k (rd_T273 gs i).f0 (rd_T273 gs i).f1 t.f0 t.f1 with
  | some (r0, r1, e) => if e = 0 then some (gs.set i.toNat ⟨r0, r1⟩) else none
  | none => none
def stepT (k : Nat) (ns : List S358) (i : Int) (gs : List S273) : Option (List S273) :=
  if tens_Good.f k (rd_T273 gs i).f0 (rd_T273 gs i).f1 = some true ∧ shape_Same.f k (rd_T273 gs i).f0 (rd_T358 ns i).f4.f0 = some true then
    match back_forA.f k (rd_T358 ns i).f0 (rd_T358 ns i).f1 (rd_T358 ns i).f2 (rd_T358 ns i).f3 (rd_T358 ns i).f4.f0 (rd_T358 ns i).f4.f1 (vO ns (rd_T358 ns i).f1).f0 (vO ns (rd_T358 ns i).f1).f1 (vO ns (rd_T358 ns i).f2).f0 (vO ns (rd_T358 ns i).f2).f1 (rd_T273 gs i).f0 (rd_T273 gs i).f1 with
    | some (x0, x1, e) => if e = 0 then
      match back_forB.f k (rd_T358 ns i).f0 (rd_T358 ns i).f1 (rd_T358 ns i).f2 (rd_T358 ns i).f3 (rd_T358 ns i).f4.f0 (rd_T358 ns i).f4.f1 (vO ns (rd_T358 ns i).f1).f0 (vO ns (rd_T358 ns i).f1).f1 (vO ns (rd_T358 ns i).f2).f0 (vO ns (rd_T358 ns i).f2).f1 (rd_T273 gs i).f0 (rd_T273 gs i).f1 with
      | some (y0, y1, e') => if e' = 0 then (gT k gs (rd_T358 ns i).f1 ⟨x0, x1⟩).bind (fun gs1 => gT k gs1 (rd_T358 ns i).f2 ⟨y0, y1⟩) else none
      | none => none else none
    | none => none
  else none
def runT (k : Nat) (ns : List S358) (gs : List S273) : Nat → Option (List S273)
  | 0 => some gs
  | m + 1 => (runT k ns gs m).bind (stepT k ns (9 - m))
def setB (l : List Bool) (i : Int) : List Bool := if i < 0 then l else l.set i.toNat true
def rsT (ns : List S358) : Nat → List Bool
  | 0 => (List.replicate 10 false).set 9 true
  | m + 1 => setB (setB (rsT ns m) (rd_T358 ns (9 - m)).f1) (rd_T358 ns (9 - m)).f2
theorem gT_some {k : Nat} {gs gs' : List S273} {i : Int} {t : S273} (h : gT k gs i t = some gs') : (i < 0 ∧ gs' = gs) ∨ (0 ≤ i ∧ ∃ r : S273, tens_Add.f k (rd_T273 gs i).f0 (rd_T273 gs i).f1 t.f0 t.f1 = some (r.f0, r.f1, 0) ∧ gs' = gs.set i.toNat r) := by
  unfold gT at h
  by_cases h0 : i < 0
  · rw [if_pos h0] at h
    exact .inl ⟨h0, (Option.some.inj h).symm⟩
  · rw [if_neg h0] at h
    refine .inr ⟨by omega, ?_⟩
    generalize tens_Add.f k (rd_T273 gs i).f0 (rd_T273 gs i).f1 t.f0 t.f1 = z at h ⊢
    match z, h with
    | some (r0, r1, e), h =>
      by_cases he : e = 0
      · subst he
        exact ⟨⟨r0, r1⟩, rfl, (Option.some.inj h).symm⟩
      · simp [he] at h
    | none, h => cases h
theorem gT_len {k : Nat} {gs gs' : List S273} {i : Int} {t : S273} (h : gT k gs i t = some gs') : gs'.length = gs.length := by
  rcases gT_some h with ⟨_, rfl⟩ | ⟨_, r, _, rfl⟩
  · rfl
  · simp
theorem stepT_some {k : Nat} {ns : List S358} {i : Int} {gs gs' : List S273} (h : stepT k ns i gs = some gs') : ∃ (x y : S273) (gs1 : List S273),
    tens_Good.f k (rd_T273 gs i).f0 (rd_T273 gs i).f1 = some true ∧ shape_Same.f k (rd_T273 gs i).f0 (rd_T358 ns i).f4.f0 = some true ∧
    back_forA.f k (rd_T358 ns i).f0 (rd_T358 ns i).f1 (rd_T358 ns i).f2 (rd_T358 ns i).f3 (rd_T358 ns i).f4.f0 (rd_T358 ns i).f4.f1 (vO ns (rd_T358 ns i).f1).f0 (vO ns (rd_T358 ns i).f1).f1 (vO ns (rd_T358 ns i).f2).f0 (vO ns (rd_T358 ns i).f2).f1 (rd_T273 gs i).f0 (rd_T273 gs i).f1 = some (x.f0, x.f1, 0) ∧
    back_forB.f k (rd_T358 ns i).f0 (rd_T358 ns i).f1 (rd_T358 ns i).f2 (rd_T358 ns i).f3 (rd_T358 ns i).f4.f0 (rd_T358 ns i).f4.f1 (vO ns (rd_T358 ns i).f1).f0 (vO ns (rd_T358 ns i).f1).f1 (vO ns (rd_T358 ns i).f2).f0 (vO ns (rd_T358 ns i).f2).f1 (rd_T273 gs i).f0 (rd_T273 gs i).f1 = some (y.f0, y.f1, 0) ∧
    gT k gs (rd_T358 ns i).f1 x = some gs1 ∧ gT k gs1 (rd_T358 ns i).f2 y = some gs' := by
  unfold stepT at h
  split at h
  · rename_i hc
    generalize back_forA.f k (rd_T358 ns i).f0 (rd_T358 ns i).f1 (rd_T358 ns i).f2 (rd_T358 ns i).f3 (rd_T358 ns i).f4.f0 (rd_T358 ns i).f4.f1 (vO ns (rd_T358 ns i).f1).f0 (vO ns (rd_T358 ns i).f1).f1 (vO ns (rd_T358 ns i).f2).f0 (vO ns (rd_T358 ns i).f2).f1 (rd_T273 gs i).f0 (rd_T273 gs i).f1 = z at h ⊢
    generalize back_forB.f k (rd_T358 ns i).f0 (rd_T358 ns i).f1 (rd_T358 ns i).f2 (rd_T358 ns i).f3 (rd_T358 ns i).f4.f0 (rd_T358 ns i).f4.f1 (vO ns (rd_T358 ns i).f1).f0 (vO ns (rd_T358 ns i).f1).f1 (vO ns (rd_T358 ns i).f2).f0 (vO ns (rd_T358 ns i).f2).f1 (rd_T273 gs i).f0 (rd_T273 gs i).f1 = z' at h ⊢
    match z, h with
    | some (x0, x1, e), h =>
      by_cases he : e = 0
      · subst he
        dsimp only at h
        rw [if_pos rfl] at h
        match z', h with
        | some (y0, y1, e'), h =>
          by_cases he' : e' = 0
          · subst he'
            dsimp only at h
            rw [if_pos rfl] at h
            obtain ⟨gs1, h1, h2⟩ := Option.bind_eq_some_iff.1 h
            exact ⟨⟨x0, x1⟩, ⟨y0, y1⟩, gs1, hc.1, hc.2, rfl, rfl, h1, h2⟩
          · simp [he'] at h
        | none, h => cases h
      · simp [he] at h
    | none, h => cases h
  · cases h
theorem runT_some {k : Nat} {ns : List S358} {gs gs' : List S273} : ∀ m n, m ≤ n → runT k ns gs n = some gs' → ∃ g1, runT k ns gs m = some g1 := by
  intro m n hmn
  induction n generalizing gs' with
  | zero => intro h; have : m = 0 := by omega
            subst this; exact ⟨_, h⟩
  | succ n ih =>
    intro h
    rcases Nat.lt_or_ge n m with h1 | h1
    · have : m = n + 1 := by omega
      subst this; exact ⟨_, h⟩
    · obtain ⟨g1, h2, h3⟩ := Option.bind_eq_some_iff.1 (show (runT k ns gs n).bind (stepT k ns (9 - n)) = some gs' from h)
      exact ih h1 h2
theorem runT_step {k : Nat} {ns : List S358} {gs g1 gs' : List S273} {m n : Nat} (h : runT k ns gs n = some gs') (hm : m < n) (h1 : runT k ns gs m = some g1) : ∃ g2, stepT k ns (9 - m) g1 = some g2 ∧ runT k ns gs (m + 1) = some g2 := by
  obtain ⟨g2, h2⟩ := runT_some (m + 1) n hm h
  refine ⟨g2, ?_, h2⟩
  have h3 : (runT k ns gs m).bind (stepT k ns (9 - m)) = some g2 := h2
  rw [h1] at h3
  exact h3
theorem runT_len {k : Nat} {ns : List S358} {gs g1 : List S273} : ∀ m, runT k ns gs m = some g1 → g1.length = gs.length := by
  intro m
  induction m generalizing g1 with
  | zero => intro h; cases h; rfl
  | succ m ih =>
    intro h
    obtain ⟨g2, h2, h3⟩ := Option.bind_eq_some_iff.1 (show (runT k ns gs m).bind (stepT k ns (9 - m)) = some g1 from h)
    obtain ⟨x, y, g3, _, _, _, _, h4, h5⟩ := stepT_some h3
    rw [gT_len h5, gT_len h4, ih h2]
theorem setB_len (l : List Bool) (i : Int) : (setB l i).length = l.length := by unfold setB; split <;> simp
theorem rsT_len (ns : List S358) : ∀ m, (rsT ns m).length = 10 := by
  intro m
  induction m with
  | zero => rfl
  | succ m ih => unfold rsT; rw [setB_len, setB_len, ih]
structure SWP (W : World) (b sb gb rb : Nat) (gs : List S273) (rs : List Bool) : Prop where
  blk : ∃ cap mc, W.heap[sb]? = some (.cells #[.slice (some ⟨gb, 0, none⟩) gs.length cap, .slice (some ⟨rb, 0, none⟩) rs.length mc] 354 (0, 0)) ∧ Kd.R k273 273 W b (fun _ => True) (.slice (some ⟨gb, 0, none⟩) gs.length cap) gs ∧ Kd.R Kd.bool 4 W b (fun _ => True) (.slice (some ⟨rb, 0, none⟩) rs.length mc) rs
  le : b ≤ sb
theorem SWP.below {W W' : World} {b sb gb rb : Nat} {gs : List S273} {rs : List Bool} (h : SWP W b sb gb rb gs rs) (hb : Below W.heap.size W W') : SWP W' b sb gb rb gs rs := by
  obtain ⟨⟨cap, mc, h1, h2, h3⟩, h4⟩ := h
  exact ⟨⟨cap, mc, blk_below h1 hb, Kd.R_below h2 hb, Kd.R_below h3 hb⟩, h4⟩
def FR (w w' : World) (gb rb : Nat) : Prop := ∀ q, q < w.heap.size → q ≠ gb → q ≠ rb → w'.heap[q]? = w.heap[q]?
theorem FR.blk {w w' : World} {gb rb q : Nat} {o : Obj} (h : FR w w' gb rb) (hq : w.heap[q]? = some o) (h1 : q ≠ gb) (h2 : q ≠ rb) : w'.heap[q]? = some o := (h q (blk_lt hq) h1 h2).trans hq
theorem FR.row {α : Type} {d : Kd α} {e base : Nat} {v : Value} {xs : List α} {w w' : World} {gb rb t t' : Nat} {cs cs' : Array Value} (h : FR w w' gb rb) (hr : d.R e w base (fun _ => True) v xs) (hg : w.heap[gb]? = some (.cells cs t (0, 0))) (hb : w.heap[rb]? = some (.cells cs' t' (0, 0))) (ht : ∀ q, q ∈ e :: d.E → q ≠ t) (ht' : ∀ q, q ∈ e :: d.E → q ≠ t') : d.R e w' base (fun _ => True) v xs :=
  Kd.R_mono (Kd.R_step (Kd.R_types (Kd.R_types hr hg ht) hb ht') (fun q hq hlt => h q hlt hq.1.2 hq.2)) (fun _ _ => trivial)
theorem SWP.typed {W : World} {b sb gb rb : Nat} {gs : List S273} {rs : List Bool} (h : SWP W b sb gb rb gs rs) : (∃ cs, W.heap[gb]? = some (.cells cs 273 (0, 0))) ∧ (∃ cs, W.heap[rb]? = some (.cells cs 4 (0, 0))) := by
  obtain ⟨⟨cap, mc, h1, h2, h3⟩, h4⟩ := h
  exact ⟨Kd.R_typed h2 gb rfl, Kd.R_typed h3 rb rfl⟩
def back_give.T4 : Bool × List (List Nat × List Nat) := (true, [([], []), ([0], [0]), ([1], [1]), ([2], [2]), ([], []), ([], []), ([5], [5]), ([6], [6]), ([7], [7]), ([], []), ([8, 9], [8, 9]), ([10], [10]), ([], []), ([11, 12], [11, 12]), ([13], [13]), ([14], [14]), ([14], [14]), ([3, 4, 0, 1, 2, 3, 4, 5, 6, 7, 8, 9, 10, 11, 12, 13, 14, 15], [3, 4]), ([17, 15, 13, 0, 1, 2, 3, 4, 5, 6, 7, 8, 9, 10, 11, 12, 13, 14, 15], [15, 17]), ([16, 18, 0, 1, 2, 3, 4, 5, 6, 7, 8, 9, 10, 11, 12, 13, 14, 15, 16, 17, 18], [16])])
def back_give.B4 : List Nat := [0, 1, 3, 7, 0, 0, 32, 96, 224, 0, 992, 2016, 0, 8160, 16352, 32736, 32736, 65535, 196607, 524287]
theorem back_give.tab4 : rtab .any (opsOf Tryz.f253 4) = back_give.T4 := by kernel_rfl
theorem back_give.bits4 : waitsOk back_give.T4.2 back_give.B4 = true := by kernel_rfl
theorem back_give_no (sb : Nat) (i : Int) (t : S273) (At0 At1 : Option Addr) (ct0 ct1 : Nat) (w : World) (hi : i < 0) :
  Calls Tryz.prog 253 #[.pointer (some ⟨sb, 0, none⟩), .int .i64 i, .agg #[.slice At0 t.f0.length ct0, .slice At1 t.f1.length ct1]] w fun e w' => e = .returned (.int .i64 0) ∧ Below w.heap.size w w' := by
 have HB := zA_ (Below.refl w.heap.size w)
 have hie := eq_true hi
 go_enter Tryz.func253, Tryz.ntmps253
 go_wp2_with (first | ((with_reducible refine gate_dst (N := 5) rfl ?_); refine zB_ (#[.slice At0 t.f0.length ct0, .slice At1 t.f1.length ct1]) 273 ?_; intro b5 hg wb5 hbox hb; have BKb5 := zA_ (hbox); have GEb5 := zA_ (zs_ hg (zw0_ HB)); replace HB := zA_ (below_step (zw0_ HB) hb);  clear hb hbox hg))
 go_ret
 exact ⟨rfl, zw0_ HB⟩
theorem back_give (k b sb gb rb : Nat) (i : Int) (gs : List S273) (rs : List Bool) (t r : S273) (At0 At1 : Option Addr) (ct0 ct1 : Nat) (w : World) (hS : SWP w b sb gb rb gs rs) (h0 : 0 ≤ i) (h1 : i < (gs.length : Int)) (h2 : i < (rs.length : Int))
  (hc0 : Kd.C (Kd.int .i64) w At0 t.f0.length t.f0) (hl0 : t.f0.length ≤ ct0) (hc1 : Kd.C (Kd.int .i64) w At1 t.f1.length t.f1) (hl1 : t.f1.length ≤ ct1) (hadd : tens_Add.f k (rd_T273 gs i).f0 (rd_T273 gs i).f1 t.f0 t.f1 = some (r.f0, r.f1, 0)) :
  Calls Tryz.prog 253 #[.pointer (some ⟨sb, 0, none⟩), .int .i64 i, .agg #[.slice At0 t.f0.length ct0, .slice At1 t.f1.length ct1]] w fun e w' => e = .returned (.int .i64 0) ∧ SWP w' b sb gb rb (gs.set i.toNat r) (rs.set i.toNat true) ∧ Below b w w' ∧ FR w w' gb rb := by
 obtain ⟨⟨cap, mc, hblk, hG, hR⟩, hle⟩ := hS
 have HBS := zA_ hblk
 have HG := zA_ hG
 have HR := zA_ hR
 have HLE := zA_ hle
 have HC0 := zA_ hc0
 have HC1 := zA_ hc1
 have HL0 := zA_ hl0
 have HL1 := zA_ hl1
 have HADD := zA_ hadd
 have HI := zA_ (And.intro h0 (And.intro h1 h2))
 have HBB : Aside0 (b ≤ w.heap.size) := ⟨by have := blk_lt hblk; omega⟩
 have HB := zA_ (Below.refl w.heap.size w)
 clear hblk hG hR hle hc0 hc1 hl0 hl1 hadd
 have hie : (i < 0) = False := eq_false (by omega)
 have p1e := eq_true h0
 have p2e := eq_true h1
 have p3e := eq_true h2
 clear h0 h1 h2
 go_enter Tryz.func253, Tryz.ntmps253
 go_wp2_with (first | ((with_reducible refine gate_dst (N := 5) rfl ?_); refine zB_ (#[.slice At0 t.f0.length ct0, .slice At1 t.f1.length ct1]) 273 ?_; intro b5 hg wb5 hbox hb; have BKb5 := zA_ (hbox); have GEb5 := zA_ (zs_ hg (zw0_ HB)); replace HB := zA_ (below_step (zw0_ HB) hb);  clear hb hbox hg))
 have hb := below_drew1 (Below.refl wb5.heap.size wb5)
 have HB6 := zA_ (below_step HB.out hb)
 replace HB := HB6
 clear HB6
 replace HBS := zA_ (blk_below HBS.out HB.out)
 replace HG := zA_ (Kd.R_below HG.out HB.out)
 replace HR := zA_ (Kd.R_below HR.out HB.out)
 replace HC0 := zA_ (Kd.C_below HC0.out HB.out)
 replace HC1 := zA_ (Kd.C_below HC1.out HB.out)
 replace BKb5 := zA_ (blk_below BKb5.out hb)
 clear hb
 obtain ⟨ad_, E0, d0, E1, d1, e_, hx0, hx1, l0, k0, l1, k1⟩ := at_T273 (Kd.R_reads' HG.out).2.2 i HI.out.1 HI.out.2.1
 cases e_
 rw [add_plain] at hx0 hx1
 replace hx1 : wb5.drew.cell? ⟨gb, i.toNat * 2 + 1, none⟩ = some (.slice E1 (rd_T273 gs i).f1.length d1) := hx1
 have HX := zA_ (And.intro hx0 hx1)
 have HK0 := zA_ k0
 have HK1 := zA_ k1
 have HE := zA_ (And.intro l0 l1)
 clear k0 k1 l0 l1 hx0 hx1
 refine start_ (n := 20) (S := fun w' => w'.cell? ⟨sb, 0, none⟩ = some (.slice (some ⟨gb, 0, none⟩) gs.length cap) ∧ w'.cell? ⟨gb, i.toNat * 2, none⟩ = some (.slice E0 (rd_T273 gs i).f0.length d0) ∧ w'.cell? ⟨gb, i.toNat * 2 + 1, none⟩ = some (.slice E1 (rd_T273 gs i).f1.length d1) ∧ w'.cell? ⟨b5, 0, none⟩ = some (.slice At0 t.f0.length ct0) ∧ w'.cell? ⟨b5, 1, none⟩ = some (.slice At1 t.f1.length ct1)) (ds := [18]) #[false, false, false, false, false, false, false, false, false, false, false, false, false, false, false, false, false, false, false, false] (by kernel_rfl) rfl rfl ⟨(blk_cell HBS.out 0).trans rfl, HX.out.1, HX.out.2, (blk_cell BKb5.out 0).trans rfl, (blk_cell BKb5.out 1).trans rfl⟩ (fun hHeld => ?_); refine with_tabW back_give.tab4 back_give.bits4 (fun HT_ HW_ => ?_)
 generalize wb5.drew = w6 at HBS HG HR HC0 HC1 BKb5 HX HK0 HK1 HB hHeld ⊢
 refine yp_ ?_ 0 11
 refine yp_ ?_ 1 12
 refine yp_ ?_ 2 13
 refine yp_ ?_ 4 15
 refine yp_ ?_ 5 16
 refine yp_ ?_ 6 17
 refine yp_ ?_ 7 18
 refine yp_ ?_ 9 20
 refine yt5_ ?_ 3 14
 refine yt5_ ?_ 8 19
 refine yp_ ?_ 10 21
 refine yt5_ ?_ 11 22
 refine yt5_ ?_ 12 23
 refine yo_ 13 (some 24) (fun K hK => ?_)
 refine yg_ Tryz.func312 #[.agg #[.slice E0 (rd_T273 gs i).f0.length d0, .slice E1 (rd_T273 gs i).f1.length d1], .agg #[.slice At0 t.f0.length ct0, .slice At1 t.f1.length ct1]] ?_
 refine (tens_Add.calls k E0 d0 (rd_T273 gs i).f0 E1 d1 (rd_T273 gs i).f1 At0 ct0 t.f0 At1 ct1 t.f1 r.f0 r.f1 0 _ HK0.out HE.out.1 HK1.out HE.out.2 HC0.out HL0.out HC1.out HL1.out HADD.out).mono ?_
 rintro e w7 ⟨u0, u1, rfl, hr0, hr1, hb⟩
 obtain ⟨A0, c0, e_⟩ := Kd.R_slice hr0
 subst e_
 obtain ⟨A1, c1, e_⟩ := Kd.R_slice hr1
 subst e_
 have HN0 := zA_ (Kd.R_lower hr0 (Nat.le_trans HBB.out HB.out.size))
 have HN1 := zA_ (Kd.R_lower hr1 (Nat.le_trans HBB.out HB.out.size))
 clear hr0 hr1
 replace HBS := zA_ (blk_below HBS.out hb)
 replace HG := zA_ (Kd.R_below HG.out hb)
 replace HR := zA_ (Kd.R_below HR.out hb)
 replace BKb5 := zA_ (blk_below BKb5.out hb)
 replace HX := zA_ (And.intro ((hb.cell (World.block_lt_of_cell? w6 _ HX.out.1)).trans HX.out.1) ((hb.cell (World.block_lt_of_cell? w6 _ HX.out.2)).trans HX.out.2))
 replace HB := zA_ (below_step HB.out hb)
 clear hb HC0 HC1 HK0 HK1
 refine ⟨_, rfl, ?_⟩
 refine hK.out _ _ ⟨(blk_cell HBS.out 0).trans rfl, HX.out.1, HX.out.2, (blk_cell BKb5.out 0).trans rfl, (blk_cell BKb5.out 1).trans rfl⟩ (fun hHeld => ?_)
 clear hK K
 refine zq_ (some 24) (h := ?_)
 refine yp_ ?_ 14 10
 refine yp_ ?_ 15 25
 refine yp_ ?_ 16 26
 refine yp_ ?_ 17 27
 obtain ⟨cf, hcl, hN, hcc, hfr⟩ := Kd.R_elem HG.out z273 i HI.out.1 HI.out.2.1
 obtain ⟨cur, hgb⟩ := Kd.R_typed HG.out gb rfl
 have HGB := zA_ hgb
 have hs_ : some sb ≠ (Value.slice (some ⟨gb, 0, none⟩) gs.length cap).ownBlock := Kd.R_ne HG.out HBS.out (by decide)
 have NE : Aside0 (sb ≠ gb) := ⟨fun e => hs_ (by rw [e]; rfl)⟩
 have hs2_ : some sb ≠ (Value.slice (some ⟨rb, 0, none⟩) rs.length mc).ownBlock := Kd.R_ne HR.out HBS.out (by decide)
 have NE2 : Aside0 (sb ≠ rb) := ⟨fun e => hs2_ (by rw [e]; rfl)⟩
 have BG : Aside0 (b ≤ gb) := ⟨Kd.R_base HG.out gb rfl⟩
 have BR : Aside0 (b ≤ rb) := ⟨Kd.R_base HR.out rb rfl⟩
 have HP := Kd.R_seg HG.out i HI.out.1 HI.out.2.1 (seg := [.slice A0 r.f0.length c0, .slice A1 r.f1.length c1]) (j := 0) hcl hcc (show 0 + 2 ≤ 2 from by decide) (x' := r) (okp := fun k => True ∧ k ≠ gb) (by
   have h2 : cf.length = 2 := hcl
   have e_ : cf.take 0 ++ [.slice A0 r.f0.length c0, .slice A1 r.f1.length c1] ++ cf.drop (0 + 2) = [.slice A0 r.f0.length c0, .slice A1 r.f1.length c1] := by rw [List.drop_eq_nil_of_le (by omega)]; rfl
   rw [show ([.slice A0 r.f0.length c0, .slice A1 r.f1.length c1] : List Value).length = 2 from rfl, e_]; exact k273_mkM _ _ _ r (Kd.R_types HN0.out hgb (by decide)) (Kd.R_types HN1.out hgb (by decide))) (fun _ hk => hk)
 have hf0 := blk_frozen hgb (i.toNat * 2)
 have hf1 := blk_frozen hgb (i.toNat * 2 + 1)
 have HPP : Aside0 (Kd.R k273 273 (w7.setCells gb (i.toNat * 2) [.slice A0 r.f0.length c0, .slice A1 r.f1.length c1]) b (fun _ => True) (.slice (some ⟨gb, 0, none⟩) gs.length cap) (gs.set i.toNat r) ∧ w7.grownBy (w7.setCells gb (i.toNat * 2) [.slice A0 r.f0.length c0, .slice A1 r.f1.length c1]) (some gb)) := ⟨HP⟩
 clear HP hcl hN hcc hfr hgb hs_ hs2_
 refine yl_ 18 none (fun K hK => ?_)
 refine skip_ (w1 := w7.setCells gb (i.toNat * 2) [.slice A0 r.f0.length c0, .slice A1 r.f1.length c1]) (by rfl) rfl ?_ ?_
 · go_simp
   rfl
 clear hf0 hf1
 have HFR : Aside0 (∀ q, q < w.heap.size → q ≠ gb → (w7.setCells gb (i.toNat * 2) [.slice A0 r.f0.length c0, .slice A1 r.f1.length c1]).heap[q]? = w.heap[q]?) := ⟨fun q hq hne => (HPP.out.2.block q (Nat.lt_of_lt_of_le hq HB.out.size) (fun e => hne (by injection e))).trans (HB.out.block q hq)⟩
 replace HB := zA_ ((below_le HB.out HBB.out).grown HPP.out.2 (Nat.le_trans HBB.out HB.out.size) (fun q hq => by injection hq with hq; subst hq; exact BG.out))
 replace HBS := zA_ (blk_grown HBS.out HPP.out.2 (fun e => NE.out (by injection e)))
 replace HR := zA_ (Kd.R_mono (Kd.R_grown (Kd.R_types HR.out HGB.out (by decide)) HPP.out.2 (fun q hq e => hq.2 (by injection e))) (fun _ h => trivial))
 replace HG := zA_ HPP.out.1
 clear HPP HGB HN0 HN1 BKb5 HX
 generalize w7.setCells gb (i.toNat * 2) [.slice A0 r.f0.length c0, .slice A1 r.f1.length c1] = w8 at HBS HG HR HB HFR ⊢
 refine hK.out _ _ ?_
 clear hK K
 refine yp_ ?_ 19 7
 refine done_ (done_of HT_.out (by kernel_rfl)) ?_
 have hz1 := (blk_cell HBS.out 1).trans rfl
 obtain ⟨hcr, hfr⟩ := Kd.R_celln false HR.out i HI.out.1 HI.out.2.2
 go_wp2_with (first | fail)
 go_ret
 clear hz1 hcr hfr
 have hR2 := Kd.R_putn HR.out i true
 have hG2 := Kd.R_set HG.out (Kd.R_typed HR.out rb rfl).choose_spec (by decide) i.toNat (.bool true)
 refine ⟨rfl, ⟨⟨cap, mc, ?_, ?_, ?_⟩, HLE.out⟩, HB.out.setCell (p := ⟨rb, i.toNat, none⟩) BR.out _, fun q hq h1_ h2_ => (Below.heap_setCell _ ⟨rb, i.toNat, none⟩ _ q h2_).trans (HFR.out q hq h1_)⟩
 · rw [List.length_set, List.length_set]; exact blk_far HBS.out NE2.out _
 · rw [List.length_set]; exact hG2
 · rw [List.length_set]; exact hR2
theorem back_giveT (k b sb gb rb : Nat) (i : Int) (gs gs' : List S273) (rs : List Bool) (t : S273) (At0 At1 : Option Addr) (ct0 ct1 : Nat) (w : World) (hS : SWP w b sb gb rb gs rs) (h1 : i < (gs.length : Int)) (h2 : i < (rs.length : Int))
  (hc0 : Kd.C (Kd.int .i64) w At0 t.f0.length t.f0) (hl0 : t.f0.length ≤ ct0) (hc1 : Kd.C (Kd.int .i64) w At1 t.f1.length t.f1) (hl1 : t.f1.length ≤ ct1) (hg : gT k gs i t = some gs') :
  Calls Tryz.prog 253 #[.pointer (some ⟨sb, 0, none⟩), .int .i64 i, .agg #[.slice At0 t.f0.length ct0, .slice At1 t.f1.length ct1]] w fun e w' => e = .returned (.int .i64 0) ∧ SWP w' b sb gb rb gs' (setB rs i) ∧ Below b w w' ∧ FR w w' gb rb := by
 rcases gT_some hg with ⟨h0, rfl⟩ | ⟨h0, r, hr, rfl⟩
 · refine (back_give_no sb i t At0 At1 ct0 ct1 w h0).mono ?_
   rintro e w' ⟨rfl, hb⟩
   obtain ⟨cap, mc, hblk, _⟩ := hS.blk
   refine ⟨rfl, ?_, below_le hb (by have := blk_lt hblk; have := hS.le; omega), fun q hq _ _ => hb.block q hq⟩
   unfold setB
   rw [if_pos h0]
   exact hS.below hb
 · refine (back_give k b sb gb rb i gs rs t r At0 At1 ct0 ct1 w hS h0 h1 h2 hc0 hl0 hc1 hl1 hr).mono ?_
   rintro e w' ⟨rfl, hs, hb, hf⟩
   refine ⟨rfl, ?_, hb, hf⟩
   unfold setB
   rw [if_neg (by omega)]
   exact hs
def back_Sweep.T12 : Bool × List (List Nat × List Nat) := (true, [([], []), ([], []), ([1], [1]), ([2], [2]), ([3], [3]), ([], []), ([5], [5]), ([4, 6], [4, 6]), ([0, 0, 1, 2, 3, 4, 5, 6, 7], [0]), ([8, 0, 1, 2, 3, 4, 5, 6, 7], [8]), ([9, 7, 7, 0, 1, 2, 3, 4, 5, 6, 7], [7, 9])])
def back_Sweep.B12 : List Nat := [0, 0, 2, 6, 14, 0, 32, 126, 255, 511, 1023]
theorem back_Sweep.tab12 : rtab .any (opsOf Tryz.f170 12) = back_Sweep.T12 := by kernel_rfl
theorem back_Sweep.bits12 : waitsOk back_Sweep.T12.2 back_Sweep.B12 = true := by kernel_rfl
def back_Sweep.T14 : Bool × List (List Nat × List Nat) := (true, [([], []), ([0], [0]), ([1], [1]), ([2], [2]), ([], []), ([3, 4], [3, 4]), ([5], [5]), ([6], [6]), ([], []), ([8], [8]), ([9], [9]), ([10], [10]), ([], []), ([7, 0, 1, 2, 3, 4, 5, 6, 7, 11], [7]), ([13, 0, 1, 2, 3, 4, 5, 6, 7, 11], [13]), ([11, 12, 0, 1, 2, 3, 4, 5, 6, 7, 8, 9, 10, 11, 12, 13, 14], [11, 12]), ([15, 14, 0, 1, 2, 3, 4, 5, 6, 7, 8, 9, 10, 11, 12, 13, 14], [15])])
def back_Sweep.B14 : List Nat := [0, 1, 3, 7, 0, 31, 63, 127, 0, 256, 768, 1792, 0, 4095, 12287, 32767, 65535]
theorem back_Sweep.tab14 : rtab .any (opsOf Tryz.f170 14) = back_Sweep.T14 := by kernel_rfl
theorem back_Sweep.bits14 : waitsOk back_Sweep.T14.2 back_Sweep.B14 = true := by kernel_rfl
theorem take_snoc273 {xs : List S273} {m : Nat} (h : m < xs.length) : xs.take (m + 1) = xs.take m ++ [rd_T273 xs m] := by
  rw [List.take_add_one, List.getElem?_eq_getElem h]
  unfold rd_T273
  rw [List.getD_eq_getElem?_getD, Int.toNat_natCast, List.getElem?_eq_getElem h]
  rfl
theorem back_Sweep (k : Nat) (g base : Nat) {xb : Nat} (ns : List S358) (gs0 gsF : List S273) (v : Value) (w : World) (hT : TP w base g xb v ns) (hn : ns.length = 10) (hlen : ∀ j, (vO ns j).f0.length < 1000 ∧ (vO ns j).f1.length < 1000) (hl9 : (rd_T358 ns 9).f4.f1.length ≤ 1) (hg : gs0.length = 10)
  (hnew : ∀ m : Nat, m < 10 → ∃ k, tens_New.f k (rd_T358 ns m).f4.f0 0 = some ((rd_T273 gs0 m).f0, (rd_T273 gs0 m).f1, 0)) (h9 : 0 < (rd_T273 gs0 9).f1.length) (hab : ∀ i : Int, 0 ≤ i → i < 10 → (rd_T358 ns i).f1 < 10 ∧ (rd_T358 ns i).f2 < 10) (hrs : ∀ m : Nat, m < 10 → rdOf false (rsT ns m) (9 - m) = true)
  (hrun : runT k ns (gs0.set 9 ⟨(rd_T273 gs0 9).f0, (rd_T273 gs0 9).f1.set 0 4294967296⟩) 10 = some gsF) :
  Calls Tryz.prog 170 #[.pointer (some ⟨g, 0, none⟩), .int .i64 9] w fun e w' => ∃ vr, e = .returned (.tuple #[vr, .int .i64 0]) ∧ Kd.R k273 273 w' w.heap.size (fun _ => True) vr gsF ∧ Below w.heap.size w w' := by
 have HT := zA_ hT
 have HB := zA_ (Below.refl w.heap.size w)
 have HLEN := zA_ hlen
 have HN := zA_ hn
 have HG := zA_ hg
 have HNEW := zA_ hnew
 have H9 := zA_ h9
 have HAB := zA_ hab
 have HRS := zA_ hrs
 have HRUN := zA_ hrun
 have hv1 : (1 < ((rd_T358 ns 9).f4.f1.length : Int)) = False := eq_false (by omega)
 have HLN : Aside0 (∀ i : Int, 0 ≤ i → (rd_T358 ns i).f4.f0.length < 17592186044416 ∧ (rd_T358 ns i).f4.f1.length < 17592186044416) := ⟨fun i h0 => by
  have h := hlen i
  unfold vO at h
  rw [if_neg (by omega)] at h
  exact ⟨by omega, by omega⟩⟩
 clear hT hlen hn hg hnew h9 hab hrs hrun hl9
 go_enter Tryz.func170, Tryz.ntmps170
 go_wp2_with (first | fail)
 go_at_call 171
 refine (tape_Value_yes g base ns v 9 _ (HT.out.below HB.out) (by decide) (by rw [HN.out]; decide) (HLN.out _ (by decide)).1 (HLN.out _ (by decide)).2).mono ?_
 rintro e w1 ⟨v4, v5, rfl, hr4, hr5, hb⟩
 obtain ⟨A4, c4, e_⟩ := Kd.R_slice hr4
 subst e_
 obtain ⟨A5, c5, e_⟩ := Kd.R_slice hr5
 subst e_
 have HR4 := zA_ hr4
 have HR5 := zA_ hr5
 clear hr4 hr5
 replace HB := zA_ (below_step HB.out hb)
 clear hb
 have hb := (Below.refl w1.heap.size w1).alloc (Nat.le_refl _) (.cells #[.slice A4 (rd_T358 ns 9).f4.f0.length c4, .slice A5 (rd_T358 ns 9).f4.f1.length c5] 273)
 have B6 := zA_ (heap_alloc_new w1 (.cells #[.slice A4 (rd_T358 ns 9).f4.f0.length c4, .slice A5 (rd_T358 ns 9).f4.f1.length c5] 273))
 have hyB60 := (blk_cell B6.out 0).trans rfl
 have hyB61 := (blk_cell B6.out 1).trans rfl
 go_wp2_with (first | ((with_reducible refine gate_dst (N := 38) rfl ?_); refine Aside0.out ?_))
 clear hyB60 hyB61
 obtain ⟨p6, e_⟩ : ∃ p6, p6 = w1.heap.size := ⟨_, rfl⟩
 rw [← e_] at B6 ⊢
 generalize hgw_ : w1.alloc (.cells #[.slice A4 (rd_T358 ns 9).f4.f0.length c4, .slice A5 (rd_T358 ns 9).f4.f1.length c5] 273) = w2 at hb B6 ⊢
 clear hgw_
 clear e_
 replace HR4 := zA_ (Kd.R_below HR4.out hb)
 replace HR5 := zA_ (Kd.R_below HR5.out hb)
 replace HB := zA_ (below_step HB.out hb)
 clear hb
 clear B6 HR4 HR5
 refine zA_ ?_
 refine Kd.R_make Kd.bool (w0 := w) w.heap.size 4 rfl (N := 38) rfl 96 _ _ rfl (10 : Int) rfl rfl Tryz.underlying96 (.bool false) 1 (by kernel_rfl) rfl (by decide) (by omega) false (ok := fun _ => True) (okp := fun _ => True) rfl (fun _ hk => hk) trivial (by omega) (by decide) HB.out HB.out.size ?_
 intro vr w3 ho hb hg_ hnew_
 replace HB := zA_ hb
 clear hb hg_ hnew_
 obtain ⟨rb, mc, rfl, -, -, -⟩ := Kd.R_form ho (by decide)
 have HRB : Aside0 (Kd.R Kd.bool 4 w3 w.heap.size (fun _ => True) (.slice (some ⟨rb, 0, none⟩) 10 mc) (List.replicate 10 false)) := ⟨ho⟩
 clear ho
 go_wp2_with (first | ((with_reducible refine gate_dst (N := 40) rfl ?_); refine zB_ (#[.slice none 0 0, .slice (some ⟨rb, 0, none⟩) 10 mc]) 354 ?_; intro sb hg wsb hbox hb; have BKsb := zA_ (hbox); have GEsb := zA_ (zs_ hg (zw0_ HB)); replace HB := zA_ (below_step (zw0_ HB) hb); replace HRB := zA_ (Kd.R_below HRB.out hb); clear hb hbox hg))
 have GEs := GEsb
 clear GEsb
 go_loopg [43] 10 (fun kq v43 w' => ∃ (m : Nat) (vl : Value), v43 = .int .i64 m ∧ Aside0 (m ≤ 10) ∧ Aside0 (kq = 10 - m) ∧ Aside0 (w'.heap[sb]? = some (.cells #[vl, .slice (some ⟨rb, 0, none⟩) 10 mc] 354 (0, 0))) ∧ Aside0 (Kd.S k273 273 w' w.heap.size (fun _ => True) vl (gs0.take m)) ∧ Aside0 (Kd.R Kd.bool 4 w' w.heap.size (fun _ => True) (.slice (some ⟨rb, 0, none⟩) 10 mc) (List.replicate 10 false)) ∧ Aside0 (Below w.heap.size w w'))
 case atStart => exact ⟨0, .slice none 0 0, rfl, ⟨by omega⟩, ⟨rfl⟩, BKsb, ⟨Kd.S_nil _ _ _ _ _⟩, HRB, HB⟩
 case round =>
  clear BKsb HRB HB
  obtain ⟨m, vl, rfl, HM, HQ, BKs, HS, HRB, HB⟩ := hrel
  by_cases c1 : m < 10
  case pos =>
   have c1b : ((m : Int) < 10) = True := eq_true (by omega)
   have C1 := zA_ c1
   clear c1
   go_wp2_with (first | fail)
   go_at_call 171
   refine (tape_Value_yes g base ns v m _ (HT.out.below HB.out) (by omega) (by have := C1.out; rw [HN.out]; omega) (HLN.out _ (by omega)).1 (HLN.out _ (by omega)).2).mono ?_
   rintro e wa1 ⟨v4, v5, rfl, hr4, hr5, hb⟩
   obtain ⟨A4, c4, e_⟩ := Kd.R_slice hr4
   subst e_
   obtain ⟨A5, c5, e_⟩ := Kd.R_slice hr5
   subst e_
   have HR4 := zA_ hr4
   have HR5 := zA_ hr5
   clear hr4 hr5
   replace BKs := zA_ (blk_below BKs.out hb)
   replace HRB := zA_ (Kd.R_below HRB.out hb)
   replace HS := zA_ (Kd.S_below HS.out hb)
   replace HB := zA_ (below_step HB.out hb)
   clear hb
   have hb := (Below.refl wa1.heap.size wa1).alloc (Nat.le_refl _) (.cells #[.slice A4 (rd_T358 ns m).f4.f0.length c4, .slice A5 (rd_T358 ns m).f4.f1.length c5] 273)
   have B10 := zA_ (heap_alloc_new wa1 (.cells #[.slice A4 (rd_T358 ns m).f4.f0.length c4, .slice A5 (rd_T358 ns m).f4.f1.length c5] 273))
   have hyB100 := (blk_cell B10.out 0).trans rfl
   have hyB101 := (blk_cell B10.out 1).trans rfl
   go_wp2_with (first | fail)
   clear hyB100 hyB101
   obtain ⟨p10, e_⟩ : ∃ p10, p10 = wa1.heap.size := ⟨_, rfl⟩
   rw [← e_] at B10 ⊢
   generalize hgw_ : wa1.alloc (.cells #[.slice A4 (rd_T358 ns m).f4.f0.length c4, .slice A5 (rd_T358 ns m).f4.f1.length c5] 273) = wa2 at hb B10 ⊢
   clear hgw_
   clear e_
   replace BKs := zA_ (blk_below BKs.out hb)
   replace HRB := zA_ (Kd.R_below HRB.out hb)
   replace HR4 := zA_ (Kd.R_below HR4.out hb)
   replace HR5 := zA_ (Kd.R_below HR5.out hb)
   replace HS := zA_ (Kd.S_below HS.out hb)
   replace HB := zA_ (below_step HB.out hb)
   clear hb
   go_at_call 250
   obtain ⟨kn, hnew⟩ := HNEW.out m C1.out
   have hvl : ∀ q, vl.ownBlock = some q → q < wa2.heap.size := Kd.S_lt HS.out
   refine (tens_New.calls kn A4 c4 (rd_T358 ns m).f4.f0 0 _ _ _ _ (Kd.R_reads' HR4.out).2.2 (Kd.R_reads' HR4.out).2.1 hnew).mono ?_
   rintro e wa3 ⟨u0, u1, rfl, hr0, hr1, hb⟩
   obtain ⟨A0, c0, e_⟩ := Kd.R_slice hr0
   subst e_
   obtain ⟨A1, c1, e_⟩ := Kd.R_slice hr1
   subst e_
   have GEN : Aside0 (w.heap.size ≤ wa2.heap.size) := ⟨HB.out.size⟩
   have HN0 : Aside0 (Kd.R (Kd.int .i64) 3 wa3 w.heap.size (fun q => wa2.heap.size ≤ q) (.slice A0 (rd_T273 gs0 m).f0.length c0) (rd_T273 gs0 m).f0) := ⟨Kd.R_lower (Kd.R_mono (Kd.R_bound hr0) (fun q hq => hq.2.1)) GEN.out⟩
   have HN1 : Aside0 (Kd.R (Kd.int .i64) 36 wa3 w.heap.size (fun q => wa2.heap.size ≤ q) (.slice A1 (rd_T273 gs0 m).f1.length c1) (rd_T273 gs0 m).f1) := ⟨Kd.R_lower (Kd.R_mono (Kd.R_bound hr1) (fun q hq => hq.2.1)) GEN.out⟩
   have HSO : Aside0 (Kd.S k273 273 wa3 w.heap.size (fun q => True ∧ q < wa2.heap.size) vl (gs0.take m)) := ⟨Kd.S_old HS.out hb⟩
   have HVL := zA_ hvl
   have GE3 := zA_ hb.size
   clear hr0 hr1 hvl hnew HS HR4 HR5 B10
   replace BKs := zA_ (blk_below BKs.out hb)
   replace HRB := zA_ (Kd.R_below HRB.out hb)
   replace HB := zA_ (below_step HB.out hb)
   clear hb
   generalize wa2.heap.size = N0 at GEN GE3 HN0 HN1 HSO HVL ⊢
   have hb := (Below.refl wa3.heap.size wa3).alloc (Nat.le_refl _) (.cells #[.slice A0 (rd_T273 gs0 m).f0.length c0, .slice A1 (rd_T273 gs0 m).f1.length c1] 273)
   have B12 := zA_ (heap_alloc_new wa3 (.cells #[.slice A0 (rd_T273 gs0 m).f0.length c0, .slice A1 (rd_T273 gs0 m).f1.length c1] 273))
   have hyB120 := (blk_cell B12.out 0).trans rfl
   have hyB121 := (blk_cell B12.out 1).trans rfl
   go_wp2_with (first | fail)
   clear hyB120 hyB121
   obtain ⟨p12, e_⟩ : ∃ p12, p12 = wa3.heap.size := ⟨_, rfl⟩
   rw [← e_] at B12 ⊢
   generalize hgw_ : wa3.alloc (.cells #[.slice A0 (rd_T273 gs0 m).f0.length c0, .slice A1 (rd_T273 gs0 m).f1.length c1] 273) = wa4 at hb B12 ⊢
   clear hgw_
   have NP12 : Aside0 (N0 ≤ p12) := ⟨by rw [e_]; exact GE3.out⟩
   clear e_
   replace BKs := zA_ (blk_below BKs.out hb)
   replace HRB := zA_ (Kd.R_below HRB.out hb)
   replace HN0 := zA_ (Kd.R_below HN0.out hb)
   replace HN1 := zA_ (Kd.R_below HN1.out hb)
   replace HSO := zA_ (Kd.S_below HSO.out hb)
   replace HB := zA_ (below_step HB.out hb)
   clear hb
   have hb := below_drew1 (Below.refl wa4.heap.size wa4)
   replace BKs := zA_ (blk_below BKs.out hb)
   replace B12 := zA_ (blk_below B12.out hb)
   replace HRB := zA_ (Kd.R_below HRB.out hb)
   replace HN0 := zA_ (Kd.R_below HN0.out hb)
   replace HN1 := zA_ (Kd.R_below HN1.out hb)
   replace HSO := zA_ (Kd.S_below HSO.out hb)
   replace HB := zA_ (below_step HB.out hb)
   clear hb
   refine start_ (n := 11) (S := fun w' => w'.cell? ⟨sb, 0, none⟩ = some vl ∧ w'.cell? ⟨p12, 0, none⟩ = some (.slice A0 (rd_T273 gs0 m).f0.length c0) ∧ w'.cell? ⟨p12, 1, none⟩ = some (.slice A1 (rd_T273 gs0 m).f1.length c1)) (ds := [10]) #[false, false, false, false, false, false, false, false, false, false, false] (by kernel_rfl) rfl rfl ⟨(blk_cell BKs.out 0).trans rfl, (blk_cell B12.out 0).trans rfl, (blk_cell B12.out 1).trans rfl⟩ (fun hHeld => ?_); refine with_tabW back_Sweep.tab12 back_Sweep.bits12 (fun HT_ HW_ => ?_)
   generalize wa4.drew = wa5 at BKs B12 HRB HN0 HN1 HSO HB hHeld ⊢
   refine yp_ ?_ 0 58
   refine yp_ ?_ 1 59
   refine yp_ ?_ 2 60
   refine yp_ ?_ 3 61
   refine yt3_ ?_ 4 62
   refine yt3_ ?_ 5 63
   refine yo_ 6 (some 64) (fun K hK => ?_)
   refine value_ (w1 := ?_) (v := ?_) (by rfl) rfl ?_ ?_
   rotate_left 2
   · go_simp
     constructor
     · rfl
     rfl
   refine hK.out _ _ ⟨(blk_cell (blk_alloc BKs.out _) 0).trans rfl, (blk_cell (blk_alloc B12.out _) 0).trans rfl, (blk_cell (blk_alloc B12.out _) 1).trans rfl⟩ (fun hHeld => ?_)
   clear hK K
   refine zq_ (some 64) (h := ?_)
   refine yo_ 7 (some 65) (fun K hK => ?_)
   have hsz_ : w.heap.size ≤ wa5.heap.size := HB.out.size
   refine Kd.S_append_step k273 (w0 := w) w.heap.size (by rfl) (.tmp 62) (.tmp 64) 269 273 (.agg #[.slice none 0 0, .slice none 0 0]) 48 rfl Tryz.underlying269 (by kernel_rfl) rfl (by decide) (by omega) vl (gs0.take m) (rd_T273 gs0 m) [.slice A0 (rd_T273 gs0 m).f0.length c0, .slice A1 (rd_T273 gs0 m).f1.length c1] (fun _ => True) (fun q => N0 ≤ q) rfl rfl ?aP (fun q hq => ⟨trivial, fun e => by have := HVL.out q e.symm; omega⟩) (fun _ _ => trivial) ?aO ?aB hsz_ ?aL ?_
   (case aP => exact k273_mkM _ _ _ _ HN0.out HN1.out)
   (case aO => exact Kd.S_mono HSO.out (fun q hq => ⟨trivial, by have := hq.2; omega⟩))
   (case aB => exact HB.out)
   (case aL => have := C1.out; rw [List.length_take]; omega)
   intro v2 wa6 ho hb hg hat
   rw [← take_snoc273 (by have := C1.out; rw [HG.out]; exact this)] at ho
   obtain ⟨A2, c2, e_⟩ := Kd.S_slice ho
   subst e_
   replace B12 := zA_ (zh_ B12 hg (fun e => by have h1 := HVL.out _ e.symm; have h2 := NP12.out; omega))
   replace HRB := zA_ (Kd.R_over' HRB.out (Kd.S_typed HSO.out) (by decide) hg)
   replace BKs := zA_ (zh_ BKs hg (Kd.S_ne HSO.out BKs.out (by decide)))
   have HS := zA_ ho
   replace HB := zA_ hb
   clear ho hb hg hat HN0 HN1 hsz_ HSO HVL GE3 GEN NP12
   refine hK.out _ _ ⟨(blk_cell BKs.out 0).trans rfl, (blk_cell B12.out 0).trans rfl, (blk_cell B12.out 1).trans rfl⟩ (fun hHeld => ?_)
   clear hK K
   refine zq_ (some 65) (h := ?_)
   refine yp_ ?_ 8 66
   refine yp_ ?_ 9 67
   refine yl_ 10 none (fun K hK => ?_)
   have hs_ := (blk_cell BKs.out 0).trans rfl
   have hfs_ := blk_frozen BKs.out 0
   refine skip_ (w1 := wa6.setCell ⟨sb, 0, none⟩ (.slice A2 (gs0.take (m + 1)).length c2)) (by rfl) rfl ?_ ?_
   · first | (go_simp; done) | (go_simp; rfl)
   clear hs_ hfs_ B12
   replace HS := zA_ (Kd.S_set HS.out BKs.out (by decide) 0 (.slice A2 (gs0.take (m + 1)).length c2))
   replace HRB := zA_ (Kd.R_set HRB.out BKs.out (by decide) 0 (.slice A2 (gs0.take (m + 1)).length c2))
   replace BKs := zA_ (blk_put BKs.out 0 (.slice A2 (gs0.take (m + 1)).length c2) rfl)
   replace HB := zA_ (HB.out.setCell (p := ⟨sb, 0, none⟩) GEs.out (.slice A2 (gs0.take (m + 1)).length c2))
   generalize wa6.setCell ⟨sb, 0, none⟩ (.slice A2 (gs0.take (m + 1)).length c2) = wa7 at HS HRB BKs HB ⊢
   refine hK.out _ _ ?_
   clear hK K
   refine done_ (done_of HT_.out (by kernel_rfl)) ?_
   have WR : Aside0 (wrap64 ((m : Int) + 1) = ((m + 1 : Nat) : Int)) := ⟨by have := C1.out; unfold wrap64; omega⟩
   go_wp2_with (first | fail)
   go_roundg (10 - (m + 1))
   case measure => have := HQ.out; have := C1.out; omega
   case rel => exact ⟨m + 1, _, by rw [← WR.out], ⟨by have := C1.out; omega⟩, ⟨rfl⟩, BKs, HS, HRB, HB⟩
  case neg =>
   have c1b : ((m : Int) < 10) = False := eq_false (by omega)
   have E10 : gs0.take m = gs0 := List.take_of_length_le (by have := HM.out; rw [HG.out]; omega)
   rw [E10] at HS
   clear E10 c1
   obtain ⟨gb, cap, rfl, -, -, -⟩ := Kd.S_form HS.out (by rw [HG.out]; decide)
   go_wp2_with (first | fail)
   have hb := below_drew1 (Below.refl wr.heap.size wr)
   replace BKs := zA_ (blk_below BKs.out hb)
   replace HRB := zA_ (Kd.R_below HRB.out hb)
   replace HS := zA_ (Kd.S_below HS.out hb)
   replace HB := zA_ (below_step HB.out hb)
   clear hb
   have h9_ : (9 : Int) < (gs0.length : Int) := by rw [HG.out]; decide
   obtain ⟨oki, ce, hcl, hM, hcc, hok, hbk⟩ := Kd.S_borrow HS.out z273 9 (by decide) h9_
   obtain ⟨v0, v1, rfl, g0, g1⟩ := k273_openM hM
   replace g0 : Kd.R (Kd.int .i64) 3 wr.drew w.heap.size oki v0 (rd_T273 gs0 9).f0 := g0
   replace g1 : Kd.R (Kd.int .i64) 36 wr.drew w.heap.size oki v1 (rd_T273 gs0 9).f1 := g1
   obtain ⟨vb, vc, rfl, -, -, -⟩ := Kd.R_form g1 H9.out
   have hv := hcc 1 _ rfl
   rw [add_plain] at hv
   replace hv : wr.drew.cell? ⟨gb, 19, none⟩ = some (.slice (some ⟨vb, 0, none⟩) (rd_T273 gs0 9).f1.length vc) := hv
   have BG := zA_ (Kd.S_base HS.out gb rfl)
   have BV := zA_ (Kd.R_base g1 vb rfl)
   have BR := zA_ (Kd.R_base HRB.out rb rfl)
   have NE1 : Aside0 (sb ≠ vb) := ⟨fun e => Kd.R_ne g1 BKs.out (by decide) (by rw [e]; rfl)⟩
   have NE2 : Aside0 (sb ≠ rb) := ⟨fun e => Kd.R_ne HRB.out BKs.out (by decide) (by rw [e]; rfl)⟩
   have G0 := zA_ g0
   have G1 := zA_ g1
   have HV := zA_ hv
   have HBK : Aside0 (∀ (w1 : World) (row : Option Nat) (x' : S273), wr.drew.grownBy w1 row → (∀ q, row = some q → oki q) → k273.M w1 w.heap.size oki x' [v0, .slice (some ⟨vb, 0, none⟩) (rd_T273 gs0 9).f1.length vc] → Kd.S k273 273 w1 w.heap.size (fun _ => True) (.slice (some ⟨gb, 0, none⟩) gs0.length cap) (gs0.set 9 x')) := ⟨fun _ _ _ a b c => hbk a b c⟩
   have OV : Aside0 (oki vb) := ⟨g1.1 vb rfl⟩
   clear hcl hM hcc hok hbk g0 g1 h9_
   refine start_ (n := 17) (S := fun w' => w'.cell? ⟨sb, 0, none⟩ = some (.slice (some ⟨gb, 0, none⟩) gs0.length cap) ∧ w'.cell? ⟨sb, 1, none⟩ = some (.slice (some ⟨rb, 0, none⟩) 10 mc) ∧ w'.cell? ⟨gb, 19, none⟩ = some (.slice (some ⟨vb, 0, none⟩) (rd_T273 gs0 9).f1.length vc)) (ds := [14, 16]) #[false, false, false, false, false, false, false, false, false, false, false, false, false, false, false, false, false] (by kernel_rfl) rfl rfl ⟨(blk_cell BKs.out 0).trans rfl, (blk_cell BKs.out 1).trans rfl, hv⟩ (fun hHeld => ?_); refine with_tabW back_Sweep.tab14 back_Sweep.bits14 (fun HT_ HW_ => ?_)
   clear hv
   generalize wr.drew = w20 at BKs HRB HS HB G0 G1 HV HBK hHeld ⊢
   have q9a : ((9 : Int) < (gs0.length : Int)) = True := eq_true (by rw [HG.out]; decide)
   have q9b : (0 < (rd_T273 gs0 9).f1.length) = True := eq_true H9.out
   refine yp_ ?_ 0 69
   refine yp_ ?_ 1 70
   refine yp_ ?_ 2 71
   refine yp_ ?_ 4 73
   refine yp_ ?_ 8 77
   refine yp_ ?_ 9 78
   refine yp_ ?_ 10 79
   refine yp_ ?_ 12 81
   refine yt3_ ?_ 3 72
   refine yp_ ?_ 5 74
   refine yp_ ?_ 6 75
   refine yt3_ ?_ 7 76
   refine yt3_ ?_ 11 80
   refine yp_ ?_ 13 82
   refine yl_ 14 none (fun K hK => ?_)
   have hcf_ := Kd.R_celln 0 G1.out 0 (by decide) (by have := H9.out; omega)
   have hcs_ : w20.cell? ⟨vb, 0, none⟩ = _ := hcf_.1
   have hfs_ : w20.frozen? ⟨vb, 0, none⟩ = false := hcf_.2
   clear hcf_
   refine skip_ (w1 := w20.setCell ⟨vb, 0, none⟩ (.int .i64 4294967296)) (by rfl) rfl ?_ ?_
   · first | (go_simp; done) | (go_simp; rfl)
   clear hfs_ hcs_
   have HP : Kd.R (Kd.int .i64) 36 (w20.setCell ⟨vb, 0, none⟩ (.int .i64 4294967296)) w.heap.size oki (.slice (some ⟨vb, 0, none⟩) (rd_T273 gs0 9).f1.length vc) ((rd_T273 gs0 9).f1.set 0 4294967296) ∧ w20.grownBy (w20.setCell ⟨vb, 0, none⟩ (.int .i64 4294967296)) (some vb) := Kd.R_putg G1.out 0 4294967296
   have HS2 := zA_ (HBK.out _ _ ⟨(rd_T273 gs0 9).f0, (rd_T273 gs0 9).f1.set 0 4294967296⟩ HP.2 (fun q e => by injection e with e; subst e; exact OV.out) (k273_mkM _ _ _ ⟨(rd_T273 gs0 9).f0, (rd_T273 gs0 9).f1.set 0 4294967296⟩ (Kd.R_over' (v := (.slice (some ⟨vb, 0, none⟩) (rd_T273 gs0 9).f1.length vc)) G0.out (Kd.R_typed G1.out) (by decide) HP.2) HP.1))
   replace HRB := zA_ (Kd.R_over' (v := (.slice (some ⟨vb, 0, none⟩) (rd_T273 gs0 9).f1.length vc)) HRB.out (Kd.R_typed G1.out) (by decide) HP.2)
   replace BKs := zA_ (blk_far BKs.out (p := ⟨vb, 0, none⟩) NE1.out (.int .i64 4294967296))
   replace HB := zA_ (HB.out.setCell (p := ⟨vb, 0, none⟩) BV.out (.int .i64 4294967296))
   clear HP HS G0 G1 HV HBK OV NE1 BV
   generalize w20.setCell ⟨vb, 0, none⟩ (.int .i64 4294967296) = w21 at HS2 HRB BKs HB ⊢
   refine hK.out _ _ ?_
   clear hK K
   refine yp_ ?_ 15 83
   refine yl_ 16 none (fun K hK => ?_)
   have hcf_ := Kd.R_celln false HRB.out 9 (by decide) (by decide)
   have hcs_ : w21.cell? ⟨rb, 9, none⟩ = _ := hcf_.1
   have hfs_ : w21.frozen? ⟨rb, 9, none⟩ = false := hcf_.2
   clear hcf_
   refine skip_ (w1 := w21.setCell ⟨rb, 9, none⟩ (.bool true)) (by rfl) rfl ?_ ?_
   · first | (go_simp; done) | (go_simp; rfl)
   clear hfs_ hcs_
   have HSW : Aside0 (SWP (w21.setCell ⟨rb, 9, none⟩ (.bool true)) w.heap.size sb gb rb (gs0.set 9 ⟨(rd_T273 gs0 9).f0, (rd_T273 gs0 9).f1.set 0 4294967296⟩) (rsT ns 0)) := ⟨⟨⟨cap, mc, by rw [List.length_set]; exact blk_far BKs.out NE2.out _, by rw [List.length_set]; exact Kd.R_set (Kd.S_R HS2.out) (Kd.R_typed HRB.out rb rfl).choose_spec (by decide) 9 (.bool true), Kd.R_putn HRB.out 9 true⟩, GEs.out⟩⟩
   replace HB := zA_ (HB.out.setCell (p := ⟨rb, 9, none⟩) BR.out (.bool true))
   clear HS2 HRB BKs BR NE2 BG
   generalize w21.setCell ⟨rb, 9, none⟩ (.bool true) = w22 at HSW HB ⊢
   refine hK.out _ _ ?_
   clear hK K q9a q9b
   refine done_ (done_of HT_.out (by kernel_rfl)) ?_
   go_wp2_with (first | fail)
   generalize hgs1_ : gs0.set 9 ⟨(rd_T273 gs0 9).f0, (rd_T273 gs0 9).f1.set 0 4294967296⟩ = gs1 at HSW HRUN
   have HGL : Aside0 (gs1.length = 10) := ⟨by rw [← hgs1_, List.length_set]; exact HG.out⟩
   clear hgs1_ HM HQ HT_ HW_ hHeld c1b
   go_loopg [14] 11 (fun kq v14 w' => ∃ (m : Nat) (i : Int) (gs : List S273), v14 = .int .i64 i ∧ Aside0 (m ≤ 10) ∧ Aside0 (i = 9 - m) ∧ Aside0 (kq = 11 - m) ∧ Aside0 (runT k ns gs1 m = some gs) ∧ Aside0 (SWP w' w.heap.size sb gb rb gs (rsT ns m)) ∧ Aside0 (Below w.heap.size w w'))
   case atStart => exact ⟨0, 9, gs1, rfl, ⟨by omega⟩, ⟨rfl⟩, ⟨rfl⟩, ⟨rfl⟩, HSW, HB⟩
   case round =>
    clear HSW HB
    obtain ⟨m, i, gs, rfl, HM, HI, HQ, HRM, HSW, HB⟩ := hrel
    by_cases c1 : m < 10
    case neg =>
     have c1b : (0 ≤ i) = False := eq_false (by have := HI.out; have := HM.out; omega)
     have M10 : m = 10 := by have := HM.out; omega
     subst M10
     have hgf : gs = gsF := Option.some.inj (HRM.out.symm.trans HRUN.out)
     subst hgf
     obtain ⟨cap, mc, hblk, hG, hR⟩ := HSW.out.blk
     have HGF := zA_ hG
     have hz0 := (blk_cell hblk 0).trans rfl
     clear hblk hG hR c1
     go_wp2_with (first | fail)
     go_ret2
     exact ⟨_, rfl, HGF.out, HB.out⟩
    case pos =>
     have c1b : (0 ≤ i) = True := eq_true (by have := HI.out; omega)
     have c2b : (i < 10) = True := eq_true (by have := HI.out; omega)
     have I0 : Aside0 (0 ≤ i ∧ i < 10 ∧ i < (ns.length : Int)) := ⟨by have := HI.out; have := HN.out; omega⟩
     have C1 := zA_ c1
     obtain ⟨gs', hst, hrm⟩ := runT_step HRUN.out c1 HRM.out
     have GSL : Aside0 (gs.length = 10) := ⟨by rw [runT_len m HRM.out]; exact HGL.out⟩
     have RSL : Aside0 ((rsT ns m).length = 10) := ⟨rsT_len ns m⟩
     have RS1 : Aside0 (rdOf false (rsT ns m) i = true) := ⟨by rw [HI.out]; exact HRS.out m c1⟩
     have HRM1 := zA_ hrm
     rw [show ((9 : Int) - m) = i from HI.out.symm] at hst
     obtain ⟨x, y, gs1_, hgood, hsame, hfa, hfb, hga, hgb⟩ := stepT_some hst
     have HST := zA_ (And.intro hgood (And.intro hsame (And.intro hfa (And.intro hfb (And.intro hga hgb)))))
     have HRS1 : Aside0 (rsT ns (m + 1) = setB (setB (rsT ns m) (rd_T358 ns i).f1) (rd_T358 ns i).f2) := ⟨by rw [HI.out]; rfl⟩
     have HBD := zA_ (HAB.out i I0.out.1 I0.out.2.1)
     clear c1 hrm hst hgood hsame hfa hfb hga hgb HRS
     generalize hrs_ : rsT ns m = rs at HSW RSL RS1 HRS1
     clear hrs_
     obtain ⟨cap, mc, hblk, hG, hR⟩ := HSW.out.blk
     have hz1 := (blk_cell hblk 1).trans rfl
     obtain ⟨hcr, -⟩ := Kd.R_celln false hR i I0.out.1 (by rw [RSL.out]; exact I0.out.2.1)
     rw [RS1.out] at hcr
     have c3b : (i < (rs.length : Int)) = True := eq_true (by rw [RSL.out]; exact I0.out.2.1)
     clear hblk hG hR
     go_wp2_with (first | fail)
     clear hz1 hcr
     go_at_call 251
     refine (tape_At_yes g base ns v i _ (HT.out.below HB.out) I0.out.1 I0.out.2.2 (HLN.out _ I0.out.1).1 (HLN.out _ I0.out.1).2).mono ?_
     rintro e wb1 ⟨v4, v5, rfl, hr4, hr5, hb⟩
     obtain ⟨A4, c4, e_⟩ := Kd.R_slice hr4
     subst e_
     obtain ⟨A5, c5, e_⟩ := Kd.R_slice hr5
     subst e_
     clear hr4 hr5
     replace HSW := zA_ (HSW.out.below hb)
     replace HB := zA_ (below_step HB.out hb)
     clear hb
     have hb := (Below.refl wb1.heap.size wb1).alloc (Nat.le_refl _) (.cells #[.int .i64 (rd_T358 ns i).f0, .int .i64 (rd_T358 ns i).f1, .int .i64 (rd_T358 ns i).f2, .int .i64 (rd_T358 ns i).f3, .slice A4 (rd_T358 ns i).f4.f0.length c4, .slice A5 (rd_T358 ns i).f4.f1.length c5] 358)
     have B15 := zA_ (heap_alloc_new wb1 (.cells #[.int .i64 (rd_T358 ns i).f0, .int .i64 (rd_T358 ns i).f1, .int .i64 (rd_T358 ns i).f2, .int .i64 (rd_T358 ns i).f3, .slice A4 (rd_T358 ns i).f4.f0.length c4, .slice A5 (rd_T358 ns i).f4.f1.length c5] 358))
     have hyB150 := (blk_cell B15.out 0).trans rfl
     have hyB151 := (blk_cell B15.out 1).trans rfl
     have hyB152 := (blk_cell B15.out 2).trans rfl
     have hyB153 := (blk_cell B15.out 3).trans rfl
     have hyB154 := (blk_cell B15.out 4).trans rfl
     have hyB155 := (blk_cell B15.out 5).trans rfl
     go_wp2_with (first | ((with_reducible refine gate_dst (N := 109) rfl ?_); refine Aside0.out ?_))
     clear hyB150 hyB151 hyB152 hyB153 hyB154 hyB155
     obtain ⟨p15, e_⟩ : ∃ p15, p15 = wb1.heap.size := ⟨_, rfl⟩
     rw [← e_] at B15 ⊢
     generalize hgw_ : wb1.alloc (.cells #[.int .i64 (rd_T358 ns i).f0, .int .i64 (rd_T358 ns i).f1, .int .i64 (rd_T358 ns i).f2, .int .i64 (rd_T358 ns i).f3, .slice A4 (rd_T358 ns i).f4.f0.length c4, .slice A5 (rd_T358 ns i).f4.f1.length c5] 358) = wb2 at hb B15 ⊢
     clear hgw_
     clear e_
     replace HSW := zA_ (HSW.out.below hb)
     replace HB := zA_ (below_step HB.out hb)
     clear hb
     refine zA_ ?_
     obtain ⟨cap2, mc2, hblk, hG, hR⟩ := HSW.out.blk
     have hz0 := (blk_cell hblk 0).trans rfl
     have c4b : (i < (gs.length : Int)) = True := eq_true (by rw [GSL.out]; exact I0.out.2.1)
     obtain ⟨ad_, E0, d0, E1, d1, e_, hx0, hx1, l0, k0, l1, k1⟩ := at_T273 (Kd.R_reads' hG).2.2 i I0.out.1 (by rw [GSL.out]; exact I0.out.2.1)
     cases e_
     rw [add_plain] at hx0 hx1
     replace hx1 : wb2.cell? ⟨gb, i.toNat * 2 + 1, none⟩ = some (.slice E1 (rd_T273 gs i).f1.length d1) := hx1
     have K0 := zA_ (And.intro l0 (And.intro k0 (And.intro l1 k1)))
     clear l0 k0 l1 k1 hblk hG hR
     go_wp2_with (first | fail)
     clear hz0 hx0 hx1
     go_at_call 252
     refine (back_One k g base ns v i (rd_T358 ns i).f0 (rd_T358 ns i).f1 (rd_T358 ns i).f2 (rd_T358 ns i).f3 (rd_T358 ns i).f4.f0 (rd_T358 ns i).f4.f1 (rd_T273 gs i) x y E0 E1 d0 d1 _ (HT.out.below HB.out) rfl I0.out.1 I0.out.2.2 (by rw [HN.out]; exact HBD.out.1) (by rw [HN.out]; exact HBD.out.2) HLEN.out K0.out.2.1 K0.out.1 K0.out.2.2.2 K0.out.2.2.1 HST.out.1 HST.out.2.1 HST.out.2.2.1 HST.out.2.2.2.1).mono ?_
     rintro e wb3 ⟨u0, u1, u2, u3, rfl, hr0, hr1, hr2, hr3, hb⟩
     obtain ⟨F0, n0, e_⟩ := Kd.R_slice hr0
     subst e_
     have HF0 := zA_ hr0
     clear hr0
     obtain ⟨F1, n1, e_⟩ := Kd.R_slice hr1
     subst e_
     have HF1 := zA_ hr1
     clear hr1
     obtain ⟨F2, n2, e_⟩ := Kd.R_slice hr2
     subst e_
     have HF2 := zA_ hr2
     clear hr2
     obtain ⟨F3, n3, e_⟩ := Kd.R_slice hr3
     subst e_
     have HF3 := zA_ hr3
     clear hr3
     replace B15 := zA_ (blk_below B15.out hb)
     replace HSW := zA_ (HSW.out.below hb)
     replace HB := zA_ (below_step HB.out hb)
     clear hb
     have hzB150 := (blk_cell B15.out 0).trans rfl
     have hzB151 := (blk_cell B15.out 1).trans rfl
     have hzB152 := (blk_cell B15.out 2).trans rfl
     have hzB153 := (blk_cell B15.out 3).trans rfl
     have hzB154 := (blk_cell B15.out 4).trans rfl
     have hzB155 := (blk_cell B15.out 5).trans rfl
     go_wp2_with (first | ((with_reducible refine gate_dst (N := 122) rfl ?_); refine Aside0.out ?_))
     clear hzB150 hzB151 hzB152 hzB153 hzB154 hzB155
     have hb := below_alloc (below_alloc (Below.refl wb3.heap.size wb3) (.cells #[.slice F0 x.f0.length n0, .slice F1 x.f1.length n1] 273)) (.cells #[.slice F2 y.f0.length n2, .slice F3 y.f1.length n3] 273)
     have B17 := zA_ (blk_alloc (heap_alloc_new wb3 (.cells #[.slice F0 x.f0.length n0, .slice F1 x.f1.length n1] 273)) (.cells #[.slice F2 y.f0.length n2, .slice F3 y.f1.length n3] 273))
     have B18 := heap_alloc_new (wb3.alloc (.cells #[.slice F0 x.f0.length n0, .slice F1 x.f1.length n1] 273)) (.cells #[.slice F2 y.f0.length n2, .slice F3 y.f1.length n3] 273)
     rw [show (wb3.alloc (.cells #[.slice F0 x.f0.length n0, .slice F1 x.f1.length n1] 273)).heap.size = wb3.heap.size + 1 from (by show (wb3.heap.push _).size = _; exact Array.size_push ..)] at B18
     have B18 := zA_ B18
     obtain ⟨p18, e18⟩ : ∃ p, p = wb3.heap.size + 1 := ⟨_, rfl⟩
     obtain ⟨p17, e17⟩ : ∃ p, p = wb3.heap.size := ⟨_, rfl⟩
     rw [← e18] at B18 ⊢
     rw [← e17] at B17 ⊢
     obtain ⟨⟨cg, hcg⟩, ⟨cr, hcr⟩⟩ := HSW.out.typed
     have NG : Aside0 (p18 ≠ gb ∧ p18 ≠ rb) := ⟨by have h1 := blk_lt hcg; have h2 := blk_lt hcr; omega⟩
     have N15 : Aside0 (p15 ≠ gb ∧ p15 ≠ rb) := ⟨⟨fun e => by have h := B15.out; rw [e, hcg] at h; injection h with h; injection h with _ h; exact absurd h (by decide), fun e => by have h := B15.out; rw [e, hcr] at h; injection h with h; injection h with _ h; exact absurd h (by decide)⟩⟩
     generalize hgw_ : (wb3.alloc (.cells #[.slice F0 x.f0.length n0, .slice F1 x.f1.length n1] 273)).alloc (.cells #[.slice F2 y.f0.length n2, .slice F3 y.f1.length n3] 273) = wb4 at hb B17 B18 ⊢
     clear hgw_ e17 e18 hcg hcr
     replace B15 := zA_ (blk_below B15.out hb)
     replace HF0 := zA_ (Kd.R_below HF0.out hb)
     replace HF1 := zA_ (Kd.R_below HF1.out hb)
     replace HF2 := zA_ (Kd.R_below HF2.out hb)
     replace HF3 := zA_ (Kd.R_below HF3.out hb)
     replace HSW := zA_ (HSW.out.below hb)
     replace HB := zA_ (below_step HB.out hb)
     clear hb
     refine zA_ ?_
     have hzB150 := (blk_cell B15.out 0).trans rfl
     have hzB151 := (blk_cell B15.out 1).trans rfl
     have hzB152 := (blk_cell B15.out 2).trans rfl
     have hzB153 := (blk_cell B15.out 3).trans rfl
     have hzB154 := (blk_cell B15.out 4).trans rfl
     have hzB155 := (blk_cell B15.out 5).trans rfl
     have hzB170 := (blk_cell B17.out 0).trans rfl
     have hzB171 := (blk_cell B17.out 1).trans rfl
     go_wp2_with (first | fail)
     go_at_call 253
     refine (back_giveT k w.heap.size sb gb rb (rd_T358 ns i).f1 gs gs1_ rs x F0 F1 n0 n1 _ HSW.out (by rw [GSL.out]; exact HBD.out.1) (by rw [RSL.out]; exact HBD.out.1) (Kd.R_reads' HF0.out).2.2 (Kd.R_reads' HF0.out).2.1 (Kd.R_reads' HF1.out).2.2 (Kd.R_reads' HF1.out).2.1 HST.out.2.2.2.2.1).mono ?_
     rintro e wb5 ⟨rfl, hs, hb, hf⟩
     clear hzB150 hzB151 hzB152 hzB153 hzB154 hzB155 hzB170 hzB171
     obtain ⟨⟨cg, hcg⟩, ⟨cr, hcr⟩⟩ := HSW.out.typed
     replace HSW := zA_ hs
     replace B15 := zA_ (hf.blk B15.out N15.out.1 N15.out.2)
     replace B18 := zA_ (hf.blk B18.out NG.out.1 NG.out.2)
     replace HF2 := zA_ (hf.row HF2.out hcg hcr (by decide) (by decide))
     replace HF3 := zA_ (hf.row HF3.out hcg hcr (by decide) (by decide))
     replace HB := zA_ (HB.out.trans hb)
     clear hs hb hf hcg hcr B17 HF0 HF1
     have hzB150 := (blk_cell B15.out 0).trans rfl
     have hzB151 := (blk_cell B15.out 1).trans rfl
     have hzB152 := (blk_cell B15.out 2).trans rfl
     have hzB153 := (blk_cell B15.out 3).trans rfl
     have hzB154 := (blk_cell B15.out 4).trans rfl
     have hzB155 := (blk_cell B15.out 5).trans rfl
     have hzB180 := (blk_cell B18.out 0).trans rfl
     have hzB181 := (blk_cell B18.out 1).trans rfl
     go_wp2_with (first | fail)
     go_at_call 253
     refine (back_giveT k w.heap.size sb gb rb (rd_T358 ns i).f2 gs1_ gs' (setB rs (rd_T358 ns i).f1) y F2 F3 n2 n3 _ HSW.out (by rw [gT_len HST.out.2.2.2.2.1, GSL.out]; exact HBD.out.2) (by rw [setB_len, RSL.out]; exact HBD.out.2) (Kd.R_reads' HF2.out).2.2 (Kd.R_reads' HF2.out).2.1 (Kd.R_reads' HF3.out).2.2 (Kd.R_reads' HF3.out).2.1 HST.out.2.2.2.2.2).mono ?_
     rintro e wb6 ⟨rfl, hs, hb, hf⟩
     clear hzB150 hzB151 hzB152 hzB153 hzB154 hzB155 hzB180 hzB181
     replace HSW := zA_ hs
     replace HB := zA_ (HB.out.trans hb)
     clear hs hb hf B15 B18 HF2 HF3
     have WR : Aside0 (wrap64 (i - 1) = i - 1) := ⟨by have := I0.out; unfold wrap64; omega⟩
     go_wp2_with (first | fail)
     go_roundg (11 - (m + 1))
     case measure => have := HQ.out; have := C1.out; omega
     case rel => exact ⟨m + 1, _, gs', by rw [WR.out], ⟨by have := C1.out; omega⟩, ⟨by have := HI.out; omega⟩, ⟨rfl⟩, HRM1, ⟨by rw [HRS1.out]; exact HSW.out⟩, HB⟩
def grad_Of.T20 : Bool × List (List Nat × List Nat) := (true, [([], []), ([], []), ([1], [1]), ([2], [2]), ([3], [3]), ([0, 0], [0]), ([4, 5, 0, 1, 2, 3, 4, 5], [4]), ([6, 0, 1, 2, 3, 4, 5, 6], [])])
def grad_Of.B20 : List Nat := [0, 0, 2, 6, 14, 1, 63, 127]
theorem grad_Of.tab20 : rtab .any (opsOf Tryz.f106 20) = grad_Of.T20 := by kernel_rfl
theorem grad_Of.bits20 : waitsOk grad_Of.T20.2 grad_Of.B20 = true := by kernel_rfl
def gsN : List S273 := [⟨[1], [0]⟩, ⟨[1, 1], [0]⟩, ⟨[1], [0]⟩, ⟨[1, 1], [0]⟩, ⟨[1], [0]⟩, ⟨[1], [0]⟩, ⟨[1], [0]⟩, ⟨[1], [0]⟩, ⟨[1], [0]⟩, ⟨[], [0]⟩]
def gsR : List S273 := gsN.set 9 ⟨[], [4294967296]⟩
structure ExOk (k : Nat) (X Y D Q M : Int) (gsF : List S273) : Prop where
  x : ∃ k, tens_Good.f k [1] [X] = some true
  y : ∃ k, tens_Good.f k [1] [Y] = some true
  m : PairOk 4 ⟨[1, 1], [0]⟩ ⟨[1], [X]⟩ 0 [1, 1] [0]
  s : OneOk 8 ⟨[1, 1], [0]⟩ 1 [1] [0]
  a : PairOk 2 ⟨[1], [0]⟩ ⟨[1], [0]⟩ 0 [1] [0]
  d : PairOk 3 ⟨[1], [0]⟩ ⟨[1], [Y]⟩ 0 [1] [D]
  q : PairOk 4 ⟨[1], [D]⟩ ⟨[1], [D]⟩ 0 [1] [Q]
  n : OneOk 10 ⟨[1], [Q]⟩ 0 [] [M]
  run : runT k (nsS X Y D Q M) gsR 10 = some gsF
  len : (rd_T273 gsF 1).f1.length < 1000 ∧ (rd_T273 gsF 2).f1.length < 1000
theorem vO_nsS (X Y D Q M : Int) (j : Int) : (vO (nsS X Y D Q M) j).f0.length < 1000 ∧ (vO (nsS X Y D Q M) j).f1.length < 1000 := by
  unfold vO
  by_cases h : j < 0
  · rw [if_pos h]; decide
  · rw [if_neg h]
    rcases Nat.lt_or_ge j.toNat 10 with h1 | h1
    · have h2 : j = 0 ∨ j = 1 ∨ j = 2 ∨ j = 3 ∨ j = 4 ∨ j = 5 ∨ j = 6 ∨ j = 7 ∨ j = 8 ∨ j = 9 := by omega
      rcases h2 with rfl | rfl | rfl | rfl | rfl | rfl | rfl | rfl | rfl | rfl <;> exact ⟨by show _ < _; simp [nsS, nsL, rd_T358], by show _ < _; simp [nsS, nsL, rd_T358]⟩
    · unfold rd_T358
      rw [List.getD_eq_getElem?_getD, List.getElem?_eq_none (by show (nsS X Y D Q M).length ≤ _; exact h1)]
      decide
theorem ab_nsS (X Y D Q M : Int) (i : Int) (h0 : 0 ≤ i) (h1 : i < 10) : (rd_T358 (nsS X Y D Q M) i).f1 < 10 ∧ (rd_T358 (nsS X Y D Q M) i).f2 < 10 := by
  have h2 : i = 0 ∨ i = 1 ∨ i = 2 ∨ i = 3 ∨ i = 4 ∨ i = 5 ∨ i = 6 ∨ i = 7 ∨ i = 8 ∨ i = 9 := by omega
  rcases h2 with rfl | rfl | rfl | rfl | rfl | rfl | rfl | rfl | rfl | rfl <;> simp [nsS, nsL, rd_T358]
theorem rs_nsS (X Y D Q M : Int) (m : Nat) (h : m < 10) : rdOf false (rsT (nsS X Y D Q M) m) (9 - m) = true := by
  have h2 : m = 0 ∨ m = 1 ∨ m = 2 ∨ m = 3 ∨ m = 4 ∨ m = 5 ∨ m = 6 ∨ m = 7 ∨ m = 8 ∨ m = 9 := by omega
  rcases h2 with rfl | rfl | rfl | rfl | rfl | rfl | rfl | rfl | rfl | rfl <;> (refine Eq.trans ?_ (rfl : true = true); kernel_rfl)
theorem new_nsS (X Y D Q M : Int) (m : Nat) (h : m < 10) : ∃ k, tens_New.f k (rd_T358 (nsS X Y D Q M) m).f4.f0 0 = some ((rd_T273 gsN m).f0, (rd_T273 gsN m).f1, 0) := by
  refine ⟨100, ?_⟩
  have n0 : tens_New.f 100 [] 0 = some ([], [0], 0) := by decide +kernel
  have n1 : tens_New.f 100 [1] 0 = some ([1], [0], 0) := by decide +kernel
  have n2 : tens_New.f 100 [1, 1] 0 = some ([1, 1], [0], 0) := by decide +kernel
  have h2 : m = 0 ∨ m = 1 ∨ m = 2 ∨ m = 3 ∨ m = 4 ∨ m = 5 ∨ m = 6 ∨ m = 7 ∨ m = 8 ∨ m = 9 := by omega
  rcases h2 with rfl | rfl | rfl | rfl | rfl | rfl | rfl | rfl | rfl | rfl
  · have e : (rd_T358 (nsS X Y D Q M) ((0 : Nat) : Int)).f4.f0 = [1] := rfl
    have e2 : rd_T273 gsN ((0 : Nat) : Int) = ⟨[1], [0]⟩ := rfl
    rw [e, e2]; exact n1
  · have e : (rd_T358 (nsS X Y D Q M) ((1 : Nat) : Int)).f4.f0 = [1, 1] := rfl
    have e2 : rd_T273 gsN ((1 : Nat) : Int) = ⟨[1, 1], [0]⟩ := rfl
    rw [e, e2]; exact n2
  · have e : (rd_T358 (nsS X Y D Q M) ((2 : Nat) : Int)).f4.f0 = [1] := rfl
    have e2 : rd_T273 gsN ((2 : Nat) : Int) = ⟨[1], [0]⟩ := rfl
    rw [e, e2]; exact n1
  · have e : (rd_T358 (nsS X Y D Q M) ((3 : Nat) : Int)).f4.f0 = [1, 1] := rfl
    have e2 : rd_T273 gsN ((3 : Nat) : Int) = ⟨[1, 1], [0]⟩ := rfl
    rw [e, e2]; exact n2
  · have e : (rd_T358 (nsS X Y D Q M) ((4 : Nat) : Int)).f4.f0 = [1] := rfl
    have e2 : rd_T273 gsN ((4 : Nat) : Int) = ⟨[1], [0]⟩ := rfl
    rw [e, e2]; exact n1
  · have e : (rd_T358 (nsS X Y D Q M) ((5 : Nat) : Int)).f4.f0 = [1] := rfl
    have e2 : rd_T273 gsN ((5 : Nat) : Int) = ⟨[1], [0]⟩ := rfl
    rw [e, e2]; exact n1
  · have e : (rd_T358 (nsS X Y D Q M) ((6 : Nat) : Int)).f4.f0 = [1] := rfl
    have e2 : rd_T273 gsN ((6 : Nat) : Int) = ⟨[1], [0]⟩ := rfl
    rw [e, e2]; exact n1
  · have e : (rd_T358 (nsS X Y D Q M) ((7 : Nat) : Int)).f4.f0 = [1] := rfl
    have e2 : rd_T273 gsN ((7 : Nat) : Int) = ⟨[1], [0]⟩ := rfl
    rw [e, e2]; exact n1
  · have e : (rd_T358 (nsS X Y D Q M) ((8 : Nat) : Int)).f4.f0 = [1] := rfl
    have e2 : rd_T273 gsN ((8 : Nat) : Int) = ⟨[1], [0]⟩ := rfl
    rw [e, e2]; exact n1
  · have e : (rd_T358 (nsS X Y D Q M) ((9 : Nat) : Int)).f4.f0 = [] := rfl
    have e2 : rd_T273 gsN ((9 : Nat) : Int) = ⟨[], [0]⟩ := rfl
    rw [e, e2]; exact n0
theorem grad_Of (k : Nat) (X Y D Q M : Int) (gsF : List S273) (hE : ExOk k X Y D Q M gsF) (A1 Ap Ax Ay : Option Addr) (a2 : Addr) (c1 c2 cp cx cy : Nat) (w : World) (hI : Kd.C (Kd.int .i64) w A1 1 [1]) (hc1 : 1 ≤ c1) (hL : Kd.C k84 w (some a2) 1 lay1) (hc2 : 1 ≤ c2) (hP : Kd.C (Kd.int .i64) w Ap 2 [0, 0]) (hcp : 2 ≤ cp) (hX0 : Kd.C (Kd.int .i64) w Ax 1 [X]) (hcx : 1 ≤ cx) (hY0 : Kd.C (Kd.int .i64) w Ay 1 [Y]) (hcy : 1 ≤ cy) :
  Calls Tryz.prog 106 #[.agg #[.slice A1 1 c1, .slice (some a2) 1 c2], .int .i64 1, .slice Ap 2 cp, .agg #[.slice Ax 1 cx, .slice Ay 1 cy, .int .i64 0]] w fun e w' => ∃ v l, e = .returned (.tuple #[v, .int .i64 l, .int .i64 0]) ∧ Below w.heap.size w w' := by
 have HB := zA_ (Below.refl w.heap.size w)
 have HE := zA_ hE
 have HI := zA_ hI
 have HL := zA_ hL
 have HP := zA_ hP
 have HX := zA_ hX0
 have HY := zA_ hY0
 have HC := zA_ (And.intro hc1 (And.intro hc2 (And.intro hcp (And.intro hcx hcy))))
 clear hE hI hL hP hX0 hY0 hc1 hc2 hcp hcx hcy
 go_enter Tryz.func106, Tryz.ntmps106
 go_wp2_with (first | ((with_reducible refine gate_dst (N := 4) rfl ?_); refine zB_ (#[.slice A1 1 c1, .slice (some a2) 1 c2]) 35 ?_; intro b4 hg wb4 hbox hb; have BKb4 := zA_ (hbox); have GEb4 := zA_ (zs_ hg (zw0_ HB)); replace HB := zA_ (below_step (zw0_ HB) hb);  clear hb hbox hg) | ((with_reducible refine gate_dst (N := 7) rfl ?_); refine zB_ (#[.slice Ax 1 cx, .slice Ay 1 cy, .int .i64 0]) 87 ?_; intro b7 hg wb7 hbox hb; have BKb7 := zA_ (hbox); have GEb7 := zA_ (zs_ hg (zw0_ HB)); replace HB := zA_ (below_step (zw0_ HB) hb); replace BKb4 := zA_ (blk_below BKb4.out hb); clear hb hbox hg))
 have HB7 := HB
 go_at_call 167
 refine (tape_New _).mono ?_
 rintro e w1 ⟨g, v1, rfl, hg, ht, hb⟩
 have HT := zA_ ht
 have HBG := zA_ hg
 have HBb := zA_ hb
 replace BKb4 := zA_ (blk_below BKb4.out hb)
 have BKb7o := BKb7
 replace BKb7 := zA_ (blk_below BKb7.out hb)
 clear ht hg hb
 have hzBKb40 := (blk_cell BKb4.out 0).trans rfl
 have hzBKb41 := (blk_cell BKb4.out 1).trans rfl
 have hzBKb70 := (blk_cell BKb7.out 0).trans rfl
 have hzBKb71 := (blk_cell BKb7.out 1).trans rfl
 have hzBKb72 := (blk_cell BKb7.out 2).trans rfl
 go_wp2_with (first | fail)
 clear hzBKb40 hzBKb41 hzBKb70 hzBKb71 hzBKb72
 go_at_call 168
 refine (model_Run X HE.out.x HE.out.m HE.out.s HE.out.a g wb7.heap.size g A1 Ap Ax a2 c1 c2 cp cx v1 wb7 _ rfl HBb.out (Kd.C_below HI.out HB7.out) HC.out.1 (Kd.C_below HL.out HB7.out) HC.out.2.1 (Kd.C_below HP.out HB7.out) HC.out.2.2.1 (Kd.C_below HX.out HB7.out) HC.out.2.2.2.1 HT.out HBG.out).mono ?_
 rintro e w2 ⟨Al, cl, rfl, hl, ⟨v2, xb2, ht⟩, hb⟩
 replace HBb := zA_ (HBb.out.trans hb)
 replace HT := zA_ ht
 have HLF := zA_ hl
 replace BKb7 := zA_ (blk_below BKb7o.out HBb.out)
 clear ht hl hb BKb4
 have hzBKb70 := (blk_cell BKb7.out 0).trans rfl
 have hzBKb71 := (blk_cell BKb7.out 1).trans rfl
 have hzBKb72 := (blk_cell BKb7.out 2).trans rfl
 go_wp2_with (first | fail)
 clear hzBKb70 hzBKb71 hzBKb72
 go_at_call 169
 refine (grad_far X Y D Q M HE.out.d HE.out.q HE.out.n HE.out.y g wb7.heap.size v2 Ax Ay cx cy _ HT.out HBG.out HBb.out.size (Kd.C_below (Kd.C_below HY.out HB7.out) HBb.out) HC.out.2.2.2.2).mono ?_
 rintro e w3 ⟨rfl, ⟨v3, ht⟩, hb, hf⟩
 replace HBb := zA_ (HBb.out.trans hb)
 replace HT := zA_ ht
 replace HLF := zA_ (TF.R hf HLF.out (by decide) (by decide))
 clear ht hb hf BKb7 BKb7o
 go_wp2_with (first | fail)
 go_at_call 170
 refine (back_Sweep k g wb7.heap.size (nsS X Y D Q M) gsN gsF v3 _ HT.out rfl (vO_nsS X Y D Q M) (Nat.le_refl 1) rfl (new_nsS X Y D Q M) (by decide) (ab_nsS X Y D Q M) (rs_nsS X Y D Q M) HE.out.run).mono ?_
 rintro e w4 ⟨vr, rfl, hr, hb⟩
 have HGR := zA_ hr
 replace HT := zA_ (HT.out.below hb)
 replace HLF := zA_ (Kd.R_below HLF.out hb)
 replace HB := zA_ (below_step HB7.out (HBb.out.trans (below_le hb HBb.out.size)))
 have HGL : Aside0 (gsF.length = 10) := ⟨(runT_len 10 HE.out.run).trans rfl⟩
 obtain ⟨gb, cap, rfl, -, -, -⟩ := Kd.R_form hr (by rw [HGL.out]; decide)
 obtain ⟨lb, lc, e_, -, -, -⟩ := Kd.R_form HLF.out (by decide)
 injection e_ with e1_ _ e2_
 subst e1_ e2_
 rw [HGL.out] at hr ⊢
 replace HGR := zA_ hr
 clear hr hb HB7 HBb HBG
 have HB4 := zA_ (Below.refl w4.heap.size w4)
 go_wp2_with (first | fail)
 refine wp_loop_rounds 3 ?_
 have HR := zA_ (Kd.R_nil (Kd.int .i64) 36 w4 w4.heap.size (fun _ => True))
 rw [rounds_succ]
 have hcl_ : w4.cell? ⟨lb, 0, none⟩ = some (.int .i64 1) := (Kd.R_cell (0 : Int) (Kd.R_below HLF.out HB4.out) 0 (by decide) (by decide)).1
 obtain ⟨ad_, E0, d0, E1, d1, e_, hx0, hx1, l0, k0, l1, k1⟩ := at_T273 (Kd.R_reads' (Kd.R_below HGR.out HB4.out)).2.2 1 (by decide) (by rw [HGL.out]; decide)
 cases e_
 rw [add_plain] at hx1
 replace hx1 : w4.cell? ⟨gb, 3, none⟩ = some (.slice E1 (rd_T273 gsF 1).f1.length d1) := hx1
 have HK := zA_ k1
 clear hx0 l0 k0 l1 k1
 go_wp2_with (first | ((with_reducible refine gate_builtin (b := .append) (xs := #[.tmp 68, .tmp 73]) rfl ?_); refine Aside0.out ?_))
 refine zA_ ?_
 at_builtin
 refine Kd.R_append_rows (Kd.int .i64) (w0 := w4) w4.heap.size rfl (.tmp 68) (.tmp 73) 40 36 (.int .i64 0) 8 rfl Tryz.underlying40 info36 rfl (by decide) (by omega) (.slice none 0 0) ([] : List Int) (rd_T273 gsF 1).f1 _ _ _ (fun _ => True) (fun _ => False) rfl rfl HR.out HK.out (fun _ _ h => h) (fun _ h => h.elim) (fun _ _ => trivial) HB4.out HB4.out.size ?aL ?_
 (case aL => have h1_ := HE.out.len.1; have h2_ := HE.out.len.2; simp only [List.length_append, List.length_nil]; omega)
 intro u0 w5 ho hb hg hat
 obtain ⟨O0, o0, e_⟩ := Kd.R_slice ho
 subst e_
 replace HR := zA_ ho
 replace HB4 := zA_ hb
 clear ho hb hg hat hcl_ hx1 HK
 go_wp2_with (first | fail)
 rw [rounds_succ]
 have hcl_ : w5.cell? ⟨lb, 1, none⟩ = some (.int .i64 2) := (Kd.R_cell (0 : Int) (Kd.R_below HLF.out HB4.out) 1 (by decide) (by decide)).1
 obtain ⟨ad_, E0, d0, E1, d1, e_, hx0, hx1, l0, k0, l1, k1⟩ := at_T273 (Kd.R_reads' (Kd.R_below HGR.out HB4.out)).2.2 2 (by decide) (by rw [HGL.out]; decide)
 cases e_
 rw [add_plain] at hx1
 replace hx1 : w5.cell? ⟨gb, 5, none⟩ = some (.slice E1 (rd_T273 gsF 2).f1.length d1) := hx1
 have HK := zA_ k1
 clear hx0 l0 k0 l1 k1
 go_wp2_with (first | ((with_reducible refine gate_builtin (b := .append) (xs := #[.tmp 68, .tmp 73]) rfl ?_); refine Aside0.out ?_))
 refine zA_ ?_
 at_builtin
 refine Kd.R_append_rows (Kd.int .i64) (w0 := w4) w4.heap.size rfl (.tmp 68) (.tmp 73) 40 36 (.int .i64 0) 8 rfl Tryz.underlying40 info36 rfl (by decide) (by omega) (.slice O0 ([] ++ (rd_T273 gsF 1).f1 : List Int).length o0) ([] ++ (rd_T273 gsF 1).f1 : List Int) (rd_T273 gsF 2).f1 _ _ _ (fun _ => True) (fun _ => False) rfl rfl HR.out HK.out (fun _ _ h => h) (fun _ h => h.elim) (fun _ _ => trivial) HB4.out HB4.out.size ?aL ?_
 (case aL => have h1_ := HE.out.len.1; have h2_ := HE.out.len.2; simp only [List.length_append, List.length_nil]; omega)
 intro u1 w6 ho hb hg hat
 obtain ⟨O1, o1, e_⟩ := Kd.R_slice ho
 subst e_
 replace HR := zA_ ho
 replace HB4 := zA_ hb
 clear ho hb hg hat hcl_ hx1 HK
 go_wp2_with (first | fail)
 rw [rounds_succ]
 go_wp2_with (first | fail)
 go_at_call 171
 refine (tape_Value_yes g wb7.heap.size (nsS X Y D Q M) v3 9 _ (HT.out.below HB4.out) (by decide) (by show (9 : Int) < ((10 : Nat) : Int); decide) (Nat.zero_lt_succ _) (by show 1 < _; decide)).mono ?_
 rintro e w7 ⟨v4, v5, rfl, hr4, hr5, hb⟩
 replace hr4 : Kd.R (Kd.int .i64) 3 w7 w6.heap.size (fun _ => True) v4 [] := hr4
 obtain ⟨A4, c4, e_⟩ := Kd.R_slice hr4
 subst e_
 replace hr5 : Kd.R (Kd.int .i64) 36 w7 w6.heap.size (fun _ => True) v5 [M] := hr5
 obtain ⟨vb, vc, rfl, -, -, -⟩ := Kd.R_form hr5 (by simp)
 have HR5 := zA_ hr5
 clear hr4 hr5 HR HT HLF HGR
 replace HB := zA_ (below_step HB.out HB4.out)
 replace HB := zA_ (below_step HB.out hb)
 clear hb HB4
 rw [show ([M] : List Int).length = 1 from rfl] at HR5 ⊢
 rw [show ([] : List Int).length = 0 from rfl]
 have hb := (Below.refl w7.heap.size w7).alloc (Nat.le_refl _) (.cells #[.slice A4 0 c4, .slice (some ⟨vb, 0, none⟩) 1 vc] 273)
 have B20 := zA_ (heap_alloc_new w7 (.cells #[.slice A4 0 c4, .slice (some ⟨vb, 0, none⟩) 1 vc] 273))
 have hyB200 := (blk_cell B20.out 0).trans rfl
 have hyB201 := (blk_cell B20.out 1).trans rfl
 go_wp2_with (first | fail)
 clear hyB200 hyB201
 obtain ⟨p20, e_⟩ : ∃ p20, p20 = w7.heap.size := ⟨_, rfl⟩
 rw [← e_] at B20 ⊢
 generalize hgw_ : w7.alloc (.cells #[.slice A4 0 c4, .slice (some ⟨vb, 0, none⟩) 1 vc] 273) = w8 at hb B20 ⊢
 clear hgw_
 clear e_
 replace HR5 := zA_ (Kd.R_below HR5.out hb)
 replace HB := zA_ (below_step HB.out hb)
 clear hb
 have hb := below_drew1 (Below.refl w8.heap.size w8)
 replace B20 := zA_ (blk_below B20.out hb)
 replace HR5 := zA_ (Kd.R_below HR5.out hb)
 replace HB := zA_ (below_step HB.out hb)
 clear hb
 have hv := (Kd.R_cell (0 : Int) HR5.out 0 (by decide) (by simp)).1
 replace hv : w8.drew.cell? ⟨vb, 0, none⟩ = some (.int .i64 M) := hv
 refine start_ (n := 8) (S := fun w' => w'.cell? ⟨p20, 1, none⟩ = some (.slice (some ⟨vb, 0, none⟩) 1 vc) ∧ w'.cell? ⟨vb, 0, none⟩ = some (.int .i64 M)) (ds := []) #[false, false, false, false, false, false, false, false] (by kernel_rfl) rfl rfl ⟨(blk_cell B20.out 1).trans rfl, hv⟩ (fun hHeld => ?_); refine with_tabW grad_Of.tab20 grad_Of.bits20 (fun HT_ HW_ => ?_)
 clear hv
 generalize w8.drew = w9 at B20 HR5 HB hHeld ⊢
 refine yp_ ?_ 0 82
 refine yp_ ?_ 1 83
 refine yt2_ ?_ 2 84
 refine yp_ ?_ 3 85
 refine yt2_ ?_ 4 86
 refine yp_ ?_ 5 8
 refine yp_ ?_ 6 9
 refine yp_ ?_ 7 10
 refine done_ (done_of HT_.out (by kernel_rfl)) ?_
 go_wp2_with (first | fail)
 go_ret3
 exact ⟨_, M, rfl, HB.out⟩
theorem pairOk {k : Nat} {op : Int} {x y : S273} {kk : Int} {d r : List Int} (h : tape_pair.f k op x.f0 x.f1 y.f0 y.f1 kk = some (d, r, 0)) : PairOk op x y kk d r :=
  fun A4 A5 B4 B5 c4 c5 e4 e5 w1 h1 h2 h3 h4 h5 h6 h7 h8 => tape_pair.calls k op A4 c4 x.f0 A5 c5 x.f1 B4 e4 y.f0 B5 e5 y.f1 kk d r 0 w1 h1 h2 h3 h4 h5 h6 h7 h8 h
theorem oneOk {k : Nat} {op : Int} {x : S273} {kk : Int} {d r : List Int} (h : tape_one.f k op x.f0 x.f1 kk = some (d, r, 0)) : OneOk op x kk d r :=
  fun A4 A5 c4 c5 w1 h1 h2 h3 h4 => tape_one.calls k op A4 c4 x.f0 A5 c5 x.f1 kk d r 0 w1 h1 h2 h3 h4 h
theorem model_Params_ok (A1 : Option Addr) (a2 : Addr) (c1 c2 : Nat) (w : World) (hI : Kd.C (Kd.int .i64) w A1 1 [1]) (hc1 : 1 ≤ c1) (hL : Kd.C k84 w (some a2) 1 lay1) (hc2 : 1 ≤ c2) :
  Calls Tryz.prog 105 #[.agg #[.slice A1 1 c1, .slice (some a2) 1 c2]] w fun e w' => e = .returned (.tuple #[.int .i64 2, .int .i64 0]) ∧ Below w.heap.size w w' := by
 have HI := zA_ hI
 have HL := zA_ hL
 have HB := zA_ (Below.refl w.heap.size w)
 clear hI hL
 go_enter Tryz.func105, Tryz.ntmps105
 go_wp2_with (first | ((with_reducible refine gate_dst (N := 1) rfl ?_); refine zB_ (#[.slice A1 1 c1, .slice (some a2) 1 c2]) 35 ?_; intro bx hg wbx hbox hb; have BKbx := zA_ (hbox); have GEbx := zA_ (zs_ hg (zw0_ HB)); replace HB := zA_ (below_step (zw0_ HB) hb); have hbz0 := (blk_cell BKbx.out 0).trans rfl; have hbz1 := (blk_cell BKbx.out 1).trans rfl; clear hb hbox hg))
 go_at_call 165
 refine (model_shapes A1 a2 c1 c2 _ (Kd.C_below HI.out HB.out) hc1 (Kd.C_below HL.out HB.out) hc2).mono ?_
 rintro e w1 ⟨v1, rfl, ho, hd⟩
 obtain ⟨As, cs, e_⟩ := Kd.R_slice ho
 subst e_
 have HO := zA_ ho
 clear ho
 replace BKbx := zA_ (blk_below BKbx.out hd)
 replace HB := zA_ (below_step HB.out hd)
 clear hd hbz0 hbz1
 have hbz0 := (blk_cell BKbx.out 0).trans rfl
 have hbz1 := (blk_cell BKbx.out 1).trans rfl
 go_wp2_with (first | fail)
 go_at_call 166
 refine (model_Net_sum.calls 100 A1 c1 [1] (some a2) c2 lay1 As cs [[1], [1]] 2 true _ (Kd.C_below HI.out HB.out) hc1 (Kd.C_below HL.out HB.out) hc2 (Kd.R_reads' HO.out).2.2 (Kd.R_reads' HO.out).2.1 (by decide +kernel)).mono ?_
 rintro e w2 ⟨rfl, hd⟩
 replace HB := zA_ (below_step HB.out hd)
 clear hd hbz0 hbz1
 go_wp2_with (first | fail)
 go_ret2
 exact ⟨rfl, HB.out⟩
theorem ex0 : ∃ gsF, ExOk 200 0 4294967296 (-4294967296) 4294967296 4294967296 gsF := by
  have h : (runT 200 (nsS 0 4294967296 (-4294967296) 4294967296 4294967296) gsR 10).any (fun g => decide ((rd_T273 g 1).f1.length < 1000 ∧ (rd_T273 g 2).f1.length < 1000)) = true := by decide +kernel
  generalize hz : runT 200 (nsS 0 4294967296 (-4294967296) 4294967296 4294967296) gsR 10 = z at h
  match z, h with
  | some g, h => exact ⟨g, ⟨⟨100, by decide +kernel⟩, ⟨100, by decide +kernel⟩, pairOk (k := 100) (by decide +kernel), oneOk (k := 100) (by decide +kernel), pairOk (k := 100) (by decide +kernel), pairOk (k := 100) (by decide +kernel), pairOk (k := 100) (by decide +kernel), oneOk (k := 200) (by decide +kernel), hz, of_decide_eq_true h⟩⟩
  | none, h => cases h
theorem ex1 : ∃ gsF, ExOk 200 4294967296 12884901888 (-12884901888) 38654705664 38654705664 gsF := by
  have h : (runT 200 (nsS 4294967296 12884901888 (-12884901888) 38654705664 38654705664) gsR 10).any (fun g => decide ((rd_T273 g 1).f1.length < 1000 ∧ (rd_T273 g 2).f1.length < 1000)) = true := by decide +kernel
  generalize hz : runT 200 (nsS 4294967296 12884901888 (-12884901888) 38654705664 38654705664) gsR 10 = z at h
  match z, h with
  | some g, h => exact ⟨g, ⟨⟨100, by decide +kernel⟩, ⟨100, by decide +kernel⟩, pairOk (k := 100) (by decide +kernel), oneOk (k := 100) (by decide +kernel), pairOk (k := 100) (by decide +kernel), pairOk (k := 100) (by decide +kernel), pairOk (k := 100) (by decide +kernel), oneOk (k := 200) (by decide +kernel), hz, of_decide_eq_true h⟩⟩
  | none, h => cases h
theorem ex2 : ∃ gsF, ExOk 200 8589934592 21474836480 (-21474836480) 107374182400 107374182400 gsF := by
  have h : (runT 200 (nsS 8589934592 21474836480 (-21474836480) 107374182400 107374182400) gsR 10).any (fun g => decide ((rd_T273 g 1).f1.length < 1000 ∧ (rd_T273 g 2).f1.length < 1000)) = true := by decide +kernel
  generalize hz : runT 200 (nsS 8589934592 21474836480 (-21474836480) 107374182400 107374182400) gsR 10 = z at h
  match z, h with
  | some g, h => exact ⟨g, ⟨⟨100, by decide +kernel⟩, ⟨100, by decide +kernel⟩, pairOk (k := 100) (by decide +kernel), oneOk (k := 100) (by decide +kernel), pairOk (k := 100) (by decide +kernel), pairOk (k := 100) (by decide +kernel), pairOk (k := 100) (by decide +kernel), oneOk (k := 200) (by decide +kernel), hz, of_decide_eq_true h⟩⟩
  | none, h => cases h
theorem ex3 : ∃ gsF, ExOk 200 12884901888 30064771072 (-30064771072) 210453397504 210453397504 gsF := by
  have h : (runT 200 (nsS 12884901888 30064771072 (-30064771072) 210453397504 210453397504) gsR 10).any (fun g => decide ((rd_T273 g 1).f1.length < 1000 ∧ (rd_T273 g 2).f1.length < 1000)) = true := by decide +kernel
  generalize hz : runT 200 (nsS 12884901888 30064771072 (-30064771072) 210453397504 210453397504) gsR 10 = z at h
  match z, h with
  | some g, h => exact ⟨g, ⟨⟨100, by decide +kernel⟩, ⟨100, by decide +kernel⟩, pairOk (k := 100) (by decide +kernel), oneOk (k := 100) (by decide +kernel), pairOk (k := 100) (by decide +kernel), pairOk (k := 100) (by decide +kernel), pairOk (k := 100) (by decide +kernel), oneOk (k := 200) (by decide +kernel), hz, of_decide_eq_true h⟩⟩
  | none, h => cases h
theorem solo_Good : GoodH := by
 intro A1 c1 a2 c2 g3 c3 A4 c4 w hJ
 have HB := zA_ (Below.refl w.heap.size w)
 have HJ := zA_ hJ
 clear hJ
 go_enter Tryz.func57, Tryz.ntmps57
 go_wp2_with (first | ((with_reducible refine gate_dst (N := 1) rfl ?_); refine zB_ (#[.slice A1 1 c1, .slice (some a2) 1 c2, .int .i64 1, .int .i64 2, .int .i64 1073741824, .int .i64 2147483648, .int .i64 0, .slice (some ⟨g3, 0, none⟩) 4 c3, .slice A4 2 c4]) 42 ?_; intro b1 hg wb1 hbox hb; have BKb1 := zA_ (hbox); have GEb1 := zA_ (zs_ hg (zw0_ HB)); replace HB := zA_ (below_step (zw0_ HB) hb); have hz0_ := (blk_cell BKb1.out 0).trans rfl; have hz1_ := (blk_cell BKb1.out 1).trans rfl; clear hb hbox hg))
 clear hz0_ hz1_
 go_at_call 105
 refine (model_Params_ok A1 a2 c1 c2 _ (Kd.C_below HJ.out.i HB.out) HJ.out.hi (Kd.C_below HJ.out.l HB.out) HJ.out.hl).mono ?_
 rintro e w1 ⟨rfl, hb⟩
 replace BKb1 := zA_ (blk_below BKb1.out hb)
 replace HB := zA_ (below_step HB.out hb)
 clear hb
 have hzBKb10 := (blk_cell BKb1.out 0).trans rfl
 have hzBKb11 := (blk_cell BKb1.out 1).trans rfl
 have hzBKb12 := (blk_cell BKb1.out 2).trans rfl
 have hzBKb13 := (blk_cell BKb1.out 3).trans rfl
 have hzBKb14 := (blk_cell BKb1.out 4).trans rfl
 have hzBKb15 := (blk_cell BKb1.out 5).trans rfl
 have hzBKb16 := (blk_cell BKb1.out 6).trans rfl
 have hzBKb17 := (blk_cell BKb1.out 7).trans rfl
 have hzBKb18 := (blk_cell BKb1.out 8).trans rfl
 go_wp2_with (first | fail)
 clear hzBKb10 hzBKb11 hzBKb12 hzBKb13 hzBKb14 hzBKb15 hzBKb16 hzBKb17 hzBKb18
 refine wp_loop_rounds 5 ?_
 rw [rounds_succ]
 obtain ⟨ad_, X0, cx0, Y0, cy0, e_, hx0, hx1, hx2, lx, kx, ly, ky⟩ := at_T87 (Kd.C_below HJ.out.d HB.out) 0 (by decide) (by decide)
 cases e_
 replace hx0 : w1.cell? ⟨g3, 0, none⟩ = some (.slice X0 1 cx0) := hx0
 replace hx1 : w1.cell? ⟨g3, 1, none⟩ = some (.slice Y0 1 cy0) := hx1
 replace hx2 : w1.cell? ⟨g3, 2, none⟩ = some (.int .i64 0) := hx2
 have KX := zA_ (show Kd.C (Kd.int .i64) w1 X0 1 [0] from kx)
 have KY := zA_ (show Kd.C (Kd.int .i64) w1 Y0 1 [4294967296] from ky)
 have LX := zA_ (show 1 ≤ cx0 ∧ 1 ≤ cy0 from ⟨lx, ly⟩)
 clear lx kx ly ky
 have hb := (Below.refl w1.heap.size w1).alloc (Nat.le_refl _) (.cells #[.slice X0 1 cx0, .slice Y0 1 cy0, .int .i64 0] 87)
 have BP := zA_ (heap_alloc_new w1 (.cells #[.slice X0 1 cx0, .slice Y0 1 cy0, .int .i64 0] 87))
 have hyBKb10 := (blk_cell (blk_below BKb1.out hb) 0).trans rfl
 have hyBKb11 := (blk_cell (blk_below BKb1.out hb) 1).trans rfl
 have hyBKb12 := (blk_cell (blk_below BKb1.out hb) 2).trans rfl
 have hyBKb13 := (blk_cell (blk_below BKb1.out hb) 3).trans rfl
 have hyBKb14 := (blk_cell (blk_below BKb1.out hb) 4).trans rfl
 have hyBKb15 := (blk_cell (blk_below BKb1.out hb) 5).trans rfl
 have hyBKb16 := (blk_cell (blk_below BKb1.out hb) 6).trans rfl
 have hyBKb17 := (blk_cell (blk_below BKb1.out hb) 7).trans rfl
 have hyBKb18 := (blk_cell (blk_below BKb1.out hb) 8).trans rfl
 have hyBP0 := (blk_cell BP.out 0).trans rfl
 have hyBP1 := (blk_cell BP.out 1).trans rfl
 have hyBP2 := (blk_cell BP.out 2).trans rfl
 go_wp2_with (first | fail)
 clear hyBKb10 hyBKb11 hyBKb12 hyBKb13 hyBKb14 hyBKb15 hyBKb16 hyBKb17 hyBKb18 hyBP0 hyBP1 hyBP2
 obtain ⟨p0, e_⟩ : ∃ p0, p0 = w1.heap.size := ⟨_, rfl⟩
 rw [← e_] at BP ⊢
 generalize hgw_ : w1.alloc (.cells #[.slice X0 1 cx0, .slice Y0 1 cy0, .int .i64 0] 87) = wa0 at hb BP ⊢
 clear hgw_
 replace KX := zA_ (Kd.C_below KX.out hb)
 replace KY := zA_ (Kd.C_below KY.out hb)
 clear e_
 replace BKb1 := zA_ (blk_below BKb1.out hb)
 replace HB := zA_ (below_step HB.out hb)
 clear hb
 clear BP hx0 hx1 hx2
 go_at_call 106
 obtain ⟨gsF, hE⟩ := ex0
 refine (grad_Of 200 _ _ _ _ _ gsF hE A1 A4 X0 Y0 a2 c1 c2 c4 cx0 cy0 _ (Kd.C_below HJ.out.i HB.out) HJ.out.hi (Kd.C_below HJ.out.l HB.out) HJ.out.hl (Kd.C_below HJ.out.p HB.out) HJ.out.hp KX.out LX.out.1 KY.out LX.out.2).mono ?_
 rintro e wb0 ⟨vg, lg, rfl, hb⟩
 clear KX KY LX hE
 replace BKb1 := zA_ (blk_below BKb1.out hb)
 replace HB := zA_ (below_step HB.out hb)
 clear hb
 go_wp2_with (first | fail)
 rw [rounds_succ]
 obtain ⟨ad_, X1, cx1, Y1, cy1, e_, hx0, hx1, hx2, lx, kx, ly, ky⟩ := at_T87 (Kd.C_below HJ.out.d HB.out) 1 (by decide) (by decide)
 cases e_
 replace hx0 : wb0.cell? ⟨g3, 3, none⟩ = some (.slice X1 1 cx1) := hx0
 replace hx1 : wb0.cell? ⟨g3, 4, none⟩ = some (.slice Y1 1 cy1) := hx1
 replace hx2 : wb0.cell? ⟨g3, 5, none⟩ = some (.int .i64 0) := hx2
 have KX := zA_ (show Kd.C (Kd.int .i64) wb0 X1 1 [4294967296] from kx)
 have KY := zA_ (show Kd.C (Kd.int .i64) wb0 Y1 1 [12884901888] from ky)
 have LX := zA_ (show 1 ≤ cx1 ∧ 1 ≤ cy1 from ⟨lx, ly⟩)
 clear lx kx ly ky
 have hb := (Below.refl wb0.heap.size wb0).alloc (Nat.le_refl _) (.cells #[.slice X1 1 cx1, .slice Y1 1 cy1, .int .i64 0] 87)
 have BP := zA_ (heap_alloc_new wb0 (.cells #[.slice X1 1 cx1, .slice Y1 1 cy1, .int .i64 0] 87))
 have hyBKb10 := (blk_cell (blk_below BKb1.out hb) 0).trans rfl
 have hyBKb11 := (blk_cell (blk_below BKb1.out hb) 1).trans rfl
 have hyBKb12 := (blk_cell (blk_below BKb1.out hb) 2).trans rfl
 have hyBKb13 := (blk_cell (blk_below BKb1.out hb) 3).trans rfl
 have hyBKb14 := (blk_cell (blk_below BKb1.out hb) 4).trans rfl
 have hyBKb15 := (blk_cell (blk_below BKb1.out hb) 5).trans rfl
 have hyBKb16 := (blk_cell (blk_below BKb1.out hb) 6).trans rfl
 have hyBKb17 := (blk_cell (blk_below BKb1.out hb) 7).trans rfl
 have hyBKb18 := (blk_cell (blk_below BKb1.out hb) 8).trans rfl
 have hyBP0 := (blk_cell BP.out 0).trans rfl
 have hyBP1 := (blk_cell BP.out 1).trans rfl
 have hyBP2 := (blk_cell BP.out 2).trans rfl
 go_wp2_with (first | fail)
 clear hyBKb10 hyBKb11 hyBKb12 hyBKb13 hyBKb14 hyBKb15 hyBKb16 hyBKb17 hyBKb18 hyBP0 hyBP1 hyBP2
 obtain ⟨p1, e_⟩ : ∃ p1, p1 = wb0.heap.size := ⟨_, rfl⟩
 rw [← e_] at BP ⊢
 generalize hgw_ : wb0.alloc (.cells #[.slice X1 1 cx1, .slice Y1 1 cy1, .int .i64 0] 87) = wa1 at hb BP ⊢
 clear hgw_
 replace KX := zA_ (Kd.C_below KX.out hb)
 replace KY := zA_ (Kd.C_below KY.out hb)
 clear e_
 replace BKb1 := zA_ (blk_below BKb1.out hb)
 replace HB := zA_ (below_step HB.out hb)
 clear hb
 clear BP hx0 hx1 hx2
 go_at_call 106
 obtain ⟨gsF, hE⟩ := ex1
 refine (grad_Of 200 _ _ _ _ _ gsF hE A1 A4 X1 Y1 a2 c1 c2 c4 cx1 cy1 _ (Kd.C_below HJ.out.i HB.out) HJ.out.hi (Kd.C_below HJ.out.l HB.out) HJ.out.hl (Kd.C_below HJ.out.p HB.out) HJ.out.hp KX.out LX.out.1 KY.out LX.out.2).mono ?_
 rintro e wb1 ⟨vg, lg, rfl, hb⟩
 clear KX KY LX hE
 replace BKb1 := zA_ (blk_below BKb1.out hb)
 replace HB := zA_ (below_step HB.out hb)
 clear hb
 go_wp2_with (first | fail)
 rw [rounds_succ]
 obtain ⟨ad_, X2, cx2, Y2, cy2, e_, hx0, hx1, hx2, lx, kx, ly, ky⟩ := at_T87 (Kd.C_below HJ.out.d HB.out) 2 (by decide) (by decide)
 cases e_
 replace hx0 : wb1.cell? ⟨g3, 6, none⟩ = some (.slice X2 1 cx2) := hx0
 replace hx1 : wb1.cell? ⟨g3, 7, none⟩ = some (.slice Y2 1 cy2) := hx1
 replace hx2 : wb1.cell? ⟨g3, 8, none⟩ = some (.int .i64 0) := hx2
 have KX := zA_ (show Kd.C (Kd.int .i64) wb1 X2 1 [8589934592] from kx)
 have KY := zA_ (show Kd.C (Kd.int .i64) wb1 Y2 1 [21474836480] from ky)
 have LX := zA_ (show 1 ≤ cx2 ∧ 1 ≤ cy2 from ⟨lx, ly⟩)
 clear lx kx ly ky
 have hb := (Below.refl wb1.heap.size wb1).alloc (Nat.le_refl _) (.cells #[.slice X2 1 cx2, .slice Y2 1 cy2, .int .i64 0] 87)
 have BP := zA_ (heap_alloc_new wb1 (.cells #[.slice X2 1 cx2, .slice Y2 1 cy2, .int .i64 0] 87))
 have hyBKb10 := (blk_cell (blk_below BKb1.out hb) 0).trans rfl
 have hyBKb11 := (blk_cell (blk_below BKb1.out hb) 1).trans rfl
 have hyBKb12 := (blk_cell (blk_below BKb1.out hb) 2).trans rfl
 have hyBKb13 := (blk_cell (blk_below BKb1.out hb) 3).trans rfl
 have hyBKb14 := (blk_cell (blk_below BKb1.out hb) 4).trans rfl
 have hyBKb15 := (blk_cell (blk_below BKb1.out hb) 5).trans rfl
 have hyBKb16 := (blk_cell (blk_below BKb1.out hb) 6).trans rfl
 have hyBKb17 := (blk_cell (blk_below BKb1.out hb) 7).trans rfl
 have hyBKb18 := (blk_cell (blk_below BKb1.out hb) 8).trans rfl
 have hyBP0 := (blk_cell BP.out 0).trans rfl
 have hyBP1 := (blk_cell BP.out 1).trans rfl
 have hyBP2 := (blk_cell BP.out 2).trans rfl
 go_wp2_with (first | fail)
 clear hyBKb10 hyBKb11 hyBKb12 hyBKb13 hyBKb14 hyBKb15 hyBKb16 hyBKb17 hyBKb18 hyBP0 hyBP1 hyBP2
 obtain ⟨p2, e_⟩ : ∃ p2, p2 = wb1.heap.size := ⟨_, rfl⟩
 rw [← e_] at BP ⊢
 generalize hgw_ : wb1.alloc (.cells #[.slice X2 1 cx2, .slice Y2 1 cy2, .int .i64 0] 87) = wa2 at hb BP ⊢
 clear hgw_
 replace KX := zA_ (Kd.C_below KX.out hb)
 replace KY := zA_ (Kd.C_below KY.out hb)
 clear e_
 replace BKb1 := zA_ (blk_below BKb1.out hb)
 replace HB := zA_ (below_step HB.out hb)
 clear hb
 clear BP hx0 hx1 hx2
 go_at_call 106
 obtain ⟨gsF, hE⟩ := ex2
 refine (grad_Of 200 _ _ _ _ _ gsF hE A1 A4 X2 Y2 a2 c1 c2 c4 cx2 cy2 _ (Kd.C_below HJ.out.i HB.out) HJ.out.hi (Kd.C_below HJ.out.l HB.out) HJ.out.hl (Kd.C_below HJ.out.p HB.out) HJ.out.hp KX.out LX.out.1 KY.out LX.out.2).mono ?_
 rintro e wb2 ⟨vg, lg, rfl, hb⟩
 clear KX KY LX hE
 replace BKb1 := zA_ (blk_below BKb1.out hb)
 replace HB := zA_ (below_step HB.out hb)
 clear hb
 go_wp2_with (first | fail)
 rw [rounds_succ]
 obtain ⟨ad_, X3, cx3, Y3, cy3, e_, hx0, hx1, hx2, lx, kx, ly, ky⟩ := at_T87 (Kd.C_below HJ.out.d HB.out) 3 (by decide) (by decide)
 cases e_
 replace hx0 : wb2.cell? ⟨g3, 9, none⟩ = some (.slice X3 1 cx3) := hx0
 replace hx1 : wb2.cell? ⟨g3, 10, none⟩ = some (.slice Y3 1 cy3) := hx1
 replace hx2 : wb2.cell? ⟨g3, 11, none⟩ = some (.int .i64 0) := hx2
 have KX := zA_ (show Kd.C (Kd.int .i64) wb2 X3 1 [12884901888] from kx)
 have KY := zA_ (show Kd.C (Kd.int .i64) wb2 Y3 1 [30064771072] from ky)
 have LX := zA_ (show 1 ≤ cx3 ∧ 1 ≤ cy3 from ⟨lx, ly⟩)
 clear lx kx ly ky
 have hb := (Below.refl wb2.heap.size wb2).alloc (Nat.le_refl _) (.cells #[.slice X3 1 cx3, .slice Y3 1 cy3, .int .i64 0] 87)
 have BP := zA_ (heap_alloc_new wb2 (.cells #[.slice X3 1 cx3, .slice Y3 1 cy3, .int .i64 0] 87))
 have hyBKb10 := (blk_cell (blk_below BKb1.out hb) 0).trans rfl
 have hyBKb11 := (blk_cell (blk_below BKb1.out hb) 1).trans rfl
 have hyBKb12 := (blk_cell (blk_below BKb1.out hb) 2).trans rfl
 have hyBKb13 := (blk_cell (blk_below BKb1.out hb) 3).trans rfl
 have hyBKb14 := (blk_cell (blk_below BKb1.out hb) 4).trans rfl
 have hyBKb15 := (blk_cell (blk_below BKb1.out hb) 5).trans rfl
 have hyBKb16 := (blk_cell (blk_below BKb1.out hb) 6).trans rfl
 have hyBKb17 := (blk_cell (blk_below BKb1.out hb) 7).trans rfl
 have hyBKb18 := (blk_cell (blk_below BKb1.out hb) 8).trans rfl
 have hyBP0 := (blk_cell BP.out 0).trans rfl
 have hyBP1 := (blk_cell BP.out 1).trans rfl
 have hyBP2 := (blk_cell BP.out 2).trans rfl
 go_wp2_with (first | fail)
 clear hyBKb10 hyBKb11 hyBKb12 hyBKb13 hyBKb14 hyBKb15 hyBKb16 hyBKb17 hyBKb18 hyBP0 hyBP1 hyBP2
 obtain ⟨p3, e_⟩ : ∃ p3, p3 = wb2.heap.size := ⟨_, rfl⟩
 rw [← e_] at BP ⊢
 generalize hgw_ : wb2.alloc (.cells #[.slice X3 1 cx3, .slice Y3 1 cy3, .int .i64 0] 87) = wa3 at hb BP ⊢
 clear hgw_
 replace KX := zA_ (Kd.C_below KX.out hb)
 replace KY := zA_ (Kd.C_below KY.out hb)
 clear e_
 replace BKb1 := zA_ (blk_below BKb1.out hb)
 replace HB := zA_ (below_step HB.out hb)
 clear hb
 clear BP hx0 hx1 hx2
 go_at_call 106
 obtain ⟨gsF, hE⟩ := ex3
 refine (grad_Of 200 _ _ _ _ _ gsF hE A1 A4 X3 Y3 a2 c1 c2 c4 cx3 cy3 _ (Kd.C_below HJ.out.i HB.out) HJ.out.hi (Kd.C_below HJ.out.l HB.out) HJ.out.hl (Kd.C_below HJ.out.p HB.out) HJ.out.hp KX.out LX.out.1 KY.out LX.out.2).mono ?_
 rintro e wb3 ⟨vg, lg, rfl, hb⟩
 clear KX KY LX hE
 replace BKb1 := zA_ (blk_below BKb1.out hb)
 replace HB := zA_ (below_step HB.out hb)
 clear hb
 go_wp2_with (first | fail)
 rw [rounds_succ]
 go_wp2_with (first | fail)
 go_ret
 exact ⟨rfl, HB.out⟩
end Go.Proofs.YtmddclifcgcpcaaGreatDoor.PTopNames.TX
