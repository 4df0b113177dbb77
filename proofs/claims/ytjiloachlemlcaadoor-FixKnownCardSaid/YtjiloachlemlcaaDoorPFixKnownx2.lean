/- The functions that the law FixKnown reaches, as Lean functions, and that each call of the Go function does what its Lean function says, wherever that one answers. Written by a program of mine over the print of the kit; Lean checks it. -/
import Derived.Test.YtjiloachlemlcaaDoorPFixKnownx0
import Derived.Test.YtjiloachlemlcaaDoorPFixKnownx1
namespace Go.Proofs.YtjiloachlemlcaaDoor.PFixKnown
open Go.RowKit Go.Proofs.YtjiloachlemlcaaDoorW.PrintWords Go.Proofs.YtjiloachlemlcaaDoorW.PrintLast Go.Proofs.YtjiloachlemlcaaDoorW.PrintMore
attribute [local go_sem] max2_int min2_int max_two min_two max_three min_three max_four min_four   -- for this text's walks alone
set_option linter.unusedVariables false
set_option linter.unusedSimpArgs false

/-! ### strconv_FormatUint_48: function 48 -/
def sm_ (i : Int) : Int := 48 + (if i % 2 = 0 then i / 2 / 10 else i / 2 % 10)
def smOk_ (s : ByteArray) : Bool := s.size == 200 && (List.range 200).all fun i => match s[i]? with | some b => (b.toNat : Int) == sm_ i | none => false
theorem sm_run {P : Program} (hu : P.underlying 9 = some .string) {s : ByteArray} (hs : smOk_ s = true) (i : Int) (h0 : 0 ≤ i) (h1 : i < 200) (k : IntKind) (w : World) : (Instr.index 9 (.string s) (.int k i)).run P w = .ok (.int .u8 (sm_ i)) w := by
 simp only [smOk_, Bool.and_eq_true, beq_iff_eq, List.all_eq_true, List.mem_range] at hs
 have h2 := hs.2 i.toNat (by omega)
 rw [ByteArray.getElem?_lt' s _ (by rw [hs.1]; omega)] at h2
 have h3 : ((s[i.toNat]'(by rw [hs.1]; omega)).toNat : Int) = sm_ i := by
  have h4 := of_decide_eq_true h2
  rw [h4, Int.toNat_of_nonneg h0]
 rw [run_index_string w 9 s k i hu, dif_pos ⟨h0, by rw [hs.1]; omega⟩, h3]
theorem u32_eq (x : Int) : IntKind.u32.wrap x = x % 4294967296 := IntKind.wrap_u32 x
theorem sm_y {P : Program} {ops : Array Oper} {oi : Oper} {a : Act} {t : Tmp} {i d : Int} {k : IntKind} {s : ByteArray} (hu : P.underlying 9 = some .string) (hop : oi.op = .index 9 (.const (.string s)) (.tmp t)) (hw : Region.wanted oi (yielded ops a.tmps) = true) (he : a.eval (.tmp t) = .int k i) (hs : smOk_ s = true) (h : 0 ≤ i ∧ i < 200 ∧ sm_ i = d) : Yields P ops oi (.int .u8 d) a := by
 obtain ⟨h0, h1, rfl⟩ := h
 refine Or.inl ⟨hw, fun w => ?_⟩
 have h := sm_run hu hs i h0 h1 k w
 unfold execOp
 have hc : a.eval (.const (.string s)) = .string s := rfl
 simp [hop, he, hc, h]
theorem fb_put {w : World} {g : Nat} {xs : List Int} {t : TypeId} (h : w.heap[g]? = some (.cells (xs.map (Value.int .u8)).toArray t (0, 0))) (i : Nat) (v : Int) : (w.setCell ⟨g, i, none⟩ (.int .u8 v)).heap[g]? = some (.cells ((xs.set i v).map (Value.int .u8)).toArray t (0, 0)) := blk_put h i _ (by simp [List.map_set])
theorem fb_cell {w : World} {g : Nat} {xs : List Int} {t : TypeId} (h : w.heap[g]? = some (.cells (xs.map (Value.int .u8)).toArray t (0, 0))) (i : Nat) (hi : i < xs.length) : w.cell? ⟨g, i, none⟩ = some (.int .u8 (xs[i]'hi)) := by
 rw [blk_cell h i]; simp [hi]
def TP_ : Bool × List (List Nat × List Nat) := (true, [([], []), ([], []), ([1], [1]), ([], []), ([], []), ([4], [4]), ([], []), ([6], [6]), ([7], [7]), ([], []), ([9], [9]), ([0, 2, 0, 1, 2, 6, 7, 8], [0, 2]), ([11, 8, 0, 1, 2, 6, 7, 8], [8, 11]), ([3, 5, 0, 1, 2, 3, 4, 5, 6, 7, 8, 9, 10, 11, 12], [3, 5]), ([13, 10, 12, 0, 1, 2, 3, 4, 5, 6, 7, 8, 9, 10, 11, 12], [10, 13])])
theorem tp7_ : rtab .any (opsOf Tryd.f61 7) = TP_ := by kernel_rfl
theorem tp8_ : rtab .any (opsOf Tryd.f61 8) = TP_ := by kernel_rfl
theorem tp9_ : rtab .any (opsOf Tryd.f61 9) = TP_ := by kernel_rfl
theorem tp10_ : rtab .any (opsOf Tryd.f61 10) = TP_ := by kernel_rfl
theorem tp17_ : rtab .any (opsOf Tryd.f61 17) = TP_ := by kernel_rfl
theorem tp18_ : rtab .any (opsOf Tryd.f61 18) = TP_ := by kernel_rfl
theorem tp23_ : rtab .any (opsOf Tryd.f61 23) = TP_ := by kernel_rfl
@[irreducible]
def lenTabP_ : ByteArray := (⟨#[0, 1, 2, 2, 3, 3, 3, 3, 4, 4, 4, 4, 4, 4, 4, 4, 5, 5, 5, 5, 5, 5, 5, 5, 5, 5, 5, 5, 5, 5, 5, 5, 6, 6, 6, 6, 6, 6, 6, 6, 6, 6, 6, 6, 6, 6, 6, 6, 6, 6, 6, 6, 6, 6, 6, 6, 6, 6, 6, 6, 6, 6, 6, 6, 7, 7, 7, 7, 7, 7, 7, 7, 7, 7, 7, 7, 7, 7, 7, 7, 7, 7, 7, 7, 7, 7, 7, 7, 7, 7, 7, 7, 7, 7, 7, 7, 7, 7, 7, 7, 7, 7, 7, 7, 7, 7, 7, 7, 7, 7, 7, 7, 7, 7, 7, 7, 7, 7, 7, 7, 7, 7, 7, 7, 7, 7, 7, 7, 8, 8, 8, 8, 8, 8, 8, 8, 8, 8, 8, 8, 8, 8, 8, 8, 8, 8, 8, 8, 8, 8, 8, 8, 8, 8, 8, 8, 8, 8, 8, 8, 8, 8, 8, 8, 8, 8, 8, 8, 8, 8, 8, 8, 8, 8, 8, 8, 8, 8, 8, 8, 8, 8, 8, 8, 8, 8, 8, 8, 8, 8, 8, 8, 8, 8, 8, 8, 8, 8, 8, 8, 8, 8, 8, 8, 8, 8, 8, 8, 8, 8, 8, 8, 8, 8, 8, 8, 8, 8, 8, 8, 8, 8, 8, 8, 8, 8, 8, 8, 8, 8, 8, 8, 8, 8, 8, 8, 8, 8, 8, 8, 8, 8, 8, 8, 8, 8, 8, 8, 8, 8, 8, 8, 8, 8, 8, 8]⟩ : ByteArray)
theorem Len_j0P_ (k : Nat) (x0 x2 : Int) : bits_Len64.j0 (k + 1) x0 x2 = ( if x0 ≥ 65536 then (if (x0 / 65536) ≥ 256 then (if 0 ≤ (((x0 / 65536) / 256) % 256) then (if (((x0 / 65536) / 256) % 256) < 256 then (some (wrap64 ((wrap64 ((wrap64 (x2 + 16)) + 8)) + (wrap64 (bt lenTabP_ (((x0 / 65536) / 256) % 256)))))) else (none)) else (none)) else (if 0 ≤ ((x0 / 65536) % 256) then (if ((x0 / 65536) % 256) < 256 then (some (wrap64 ((wrap64 (x2 + 16)) + (wrap64 (bt lenTabP_ ((x0 / 65536) % 256)))))) else (none)) else (none))) else (if x0 ≥ 256 then (if 0 ≤ ((x0 / 256) % 256) then (if ((x0 / 256) % 256) < 256 then (some (wrap64 ((wrap64 (x2 + 8)) + (wrap64 (bt lenTabP_ ((x0 / 256) % 256)))))) else (none)) else (none)) else (if 0 ≤ ((x0) % 256) then (if ((x0) % 256) < 256 then (some (wrap64 (x2 + (wrap64 (bt lenTabP_ ((x0) % 256)))))) else (none)) else (none)))) := by unfold lenTabP_; rfl
theorem lenTab_allP_ : ∀ i : Fin 256, 0 < i.val → (∃ t : Fin 9, bt lenTabP_ (i.val : Int) = (t.val : Int) ∧ 0 < t.val ∧ 2 ^ (t.val - 1) ≤ i.val ∧ i.val < 2 ^ t.val) := by unfold lenTabP_; decide +kernel
theorem lenTab_specP_ (i : Int) (h0 : 0 < i) (h1 : i < 256) : ∃ t : Nat, bt lenTabP_ i = t ∧ 1 ≤ t ∧ t ≤ 8 ∧ 2 ^ (t - 1) ≤ i ∧ i < 2 ^ t := by
  obtain ⟨n, rfl⟩ := Int.eq_ofNat_of_zero_le (show 0 ≤ i by omega)
  obtain ⟨t, e, t0, a, b⟩ := lenTab_allP_ ⟨n, by omega⟩ (by show 0 < n; omega)
  refine ⟨t.val, e, t0, by omega, ?_, ?_⟩
  · have : ((2 ^ (t.val - 1) : Nat) : Int) ≤ (n : Int) := Int.ofNat_le.mpr a
    simpa using this
  · have : (n : Int) < ((2 ^ t.val : Nat) : Int) := Int.ofNat_lt.mpr b
    simpa using this
/-- the length of x, told by a digit y of eight bits that stands w bits up -/
theorem len_liftP_ (x y : Int) (w : Nat) (hy : y = x / 2 ^ w) (t : Nat) (t1 : 1 ≤ t) (a : 2 ^ (t - 1) ≤ y) (b : y < 2 ^ t) : 2 ^ (w + t - 1) ≤ x ∧ x < 2 ^ (w + t) := by
  have pw : (0 : Int) < 2 ^ w := Int.pow_pos (by decide)
  have e1 : (2 : Int) ^ (w + t - 1) = 2 ^ (t - 1) * 2 ^ w := by rw [← Int.pow_add]; congr 1; omega
  have e2 : (2 : Int) ^ (w + t) = 2 ^ t * 2 ^ w := by rw [← Int.pow_add]; congr 1; omega
  subst hy
  refine ⟨?_, ?_⟩
  · rw [e1]; exact (Int.le_ediv_iff_mul_le pw).mp a
  · rw [e2]; exact (Int.ediv_lt_iff_lt_mul pw).mp b
theorem len_endP_ (x y z B : Int) (w : Nat) (hw : w ≤ 56) (hz : z = w) (hy : y = x / 2 ^ w) (y0 : 0 < y) (y1 : y < 256) (hB : B = y % 256) :
    ∃ L : Nat, (if 0 ≤ B then (if B < 256 then some (wrap64 (z + (wrap64 (bt lenTabP_ B)))) else none) else none) = some (L : Int) ∧ 1 ≤ L ∧ L ≤ 64 ∧ 2 ^ (L - 1) ≤ x ∧ x < 2 ^ L := by
  have hB' : B = y := by omega
  subst hB'
  obtain ⟨t, e, t1, t8, a, b⟩ := lenTab_specP_ B y0 y1
  have := len_liftP_ x B w hy t t1 a b
  refine ⟨w + t, ?_, by omega, by omega, this.1, this.2⟩
  rw [if_pos (by omega), if_pos y1, e, hz]
  congr 1
  clear e this
  unfold wrap64
  omega
theorem Len_specP_ (x : Int) (h0 : 0 < x) (h1 : x ≤ 18446744073709551615) (k : Nat) : ∃ L : Nat, bits_Len64.f (k + 1) x = some (L : Int) ∧ 1 ≤ L ∧ L ≤ 64 ∧ 2 ^ (L - 1) ≤ x ∧ x < 2 ^ L := by
  unfold bits_Len64.f
  rw [Len_j0P_, Len_j0P_]
  by_cases c : x ≥ 4294967296
  · rw [if_pos c]
    by_cases c1 : x / 4294967296 ≥ 65536
    · rw [if_pos c1]
      by_cases c2 : x / 4294967296 / 65536 ≥ 256
      · rw [if_pos c2]; exact len_endP_ x (x / 4294967296 / 65536 / 256) _ _ 56 (by omega) (by simp [wrap64]) (by simp <;> omega) (by omega) (by omega) rfl
      · rw [if_neg c2]; exact len_endP_ x (x / 4294967296 / 65536) _ _ 48 (by omega) (by simp [wrap64]) (by simp <;> omega) (by omega) (by omega) rfl
    · rw [if_neg c1]
      by_cases c2 : x / 4294967296 ≥ 256
      · rw [if_pos c2]; exact len_endP_ x (x / 4294967296 / 256) _ _ 40 (by omega) (by simp [wrap64]) (by simp <;> omega) (by omega) (by omega) rfl
      · rw [if_neg c2]; exact len_endP_ x (x / 4294967296) _ _ 32 (by omega) (by simp [wrap64]) (by simp <;> omega) (by omega) (by omega) rfl
  · rw [if_neg c]
    by_cases c1 : x ≥ 65536
    · rw [if_pos c1]
      by_cases c2 : x / 65536 ≥ 256
      · rw [if_pos c2]; exact len_endP_ x (x / 65536 / 256) _ _ 24 (by omega) (by simp [wrap64]) (by simp <;> omega) (by omega) (by omega) rfl
      · rw [if_neg c2]; exact len_endP_ x (x / 65536) _ _ 16 (by omega) (by simp [wrap64]) (by simp <;> omega) (by omega) (by omega) rfl
    · rw [if_neg c1]
      by_cases c2 : x ≥ 256
      · rw [if_pos c2]; exact len_endP_ x (x / 256) _ _ 8 (by omega) (by simp [wrap64]) (by simp <;> omega) (by omega) (by omega) rfl
      · rw [if_neg c2]; exact len_endP_ x x _ _ 0 (by omega) (by simp [wrap64]) (by simp <;> omega) (by omega) (by omega) rfl
/-- The powers of ten stand where the program laid them. -/
def P10_ (w : World) : Prop := 2 < w.heap.size ∧ ∀ i : Nat, i < 20 → w.cell? ⟨2, i, none⟩ = some (.int .u64 ((10 : Int) ^ i))
theorem p10_below {w w' : World} (h : P10_ w) (hb : Below w.heap.size w w') : P10_ w' := ⟨Nat.lt_of_lt_of_le h.1 hb.size, fun i hi => (hb.cell h.1).trans (h.2 i hi)⟩
def nd_ (x : Int) : Int := if x < 1000 then 3 else if x < 10000 then 4 else if x < 100000 then 5 else if x < 1000000 then 6 else if x < 10000000 then 7 else if x < 100000000 then 8 else if x < 1000000000 then 9 else 10
set_option maxHeartbeats 8000000 in
theorem nd_len (x : Int) (L : Nat) (h0 : 100 ≤ x) (h1 : x < 10000000000) (lo : 2 ^ (L - 1) ≤ x) (hi : x < 2 ^ L) : L ≤ 34 ∧ ∃ E : Nat, E ≤ 10 ∧ ((L : Int) * 78913) / 262144 = E ∧ (if (10 : Int) ^ E ≤ x then (E : Int) + 1 else E) = nd_ x := by
 have l34 : L ≤ 34 := Decidable.byContradiction fun h => by
  have : (2 : Int) ^ 34 ≤ 2 ^ (L - 1) := by
   have := Nat.pow_le_pow_right (n := 2) (by omega) (show 34 ≤ L - 1 by omega)
   exact_mod_cast this
  omega
 refine ⟨l34, ?_⟩
 have h : L = 0 ∨ L = 1 ∨ L = 2 ∨ L = 3 ∨ L = 4 ∨ L = 5 ∨ L = 6 ∨ L = 7 ∨ L = 8 ∨ L = 9 ∨ L = 10 ∨ L = 11 ∨ L = 12 ∨ L = 13 ∨ L = 14 ∨ L = 15 ∨ L = 16 ∨ L = 17 ∨ L = 18 ∨ L = 19 ∨ L = 20 ∨ L = 21 ∨ L = 22 ∨ L = 23 ∨ L = 24 ∨ L = 25 ∨ L = 26 ∨ L = 27 ∨ L = 28 ∨ L = 29 ∨ L = 30 ∨ L = 31 ∨ L = 32 ∨ L = 33 ∨ L = 34 := by omega
 clear l34
 rcases h with rfl | rfl | rfl | rfl | rfl | rfl | rfl | rfl | rfl | rfl | rfl | rfl | rfl | rfl | rfl | rfl | rfl | rfl | rfl | rfl | rfl | rfl | rfl | rfl | rfl | rfl | rfl | rfl | rfl | rfl | rfl | rfl | rfl | rfl | rfl
 all_goals (simp only [Nat.add_one_sub_one, Nat.reduceSub, Int.reducePow] at lo hi)
 all_goals first
  | (exfalso; omega)
  | (refine ⟨_, ?_, rfl, ?_⟩; · decide
     simp only [nd_, Int.reducePow]
     repeat' split
     all_goals first | rfl | (exfalso; omega) | omega)
set_option maxHeartbeats 8000000 in
set_option maxRecDepth 100000 in
theorem strconv_numDigits.calls (a0 : Int) (w : World) (h0 : 100 ≤ a0) (h1 : a0 < 10000000000) (hp : P10_ w) :
  Calls Tryd.prog 60 #[.int .u64 a0] w fun e w' => e = .returned (.int .i64 (nd_ a0)) ∧ Drawn0 w w' := by
 obtain ⟨L, A, l1, l2, lo, hi⟩ := Len_specP_ a0 (by omega) (by omega) 0
 obtain ⟨l34, E, E1, hE, hn⟩ := nd_len a0 L h0 h1 lo hi
 clear lo hi
 have B : strconv_log10Pow2.f (L : Int) = some (E : Int) := by
  unfold strconv_log10Pow2.f
  rw [show wrap64 ((L : Int) * 78913) = (L : Int) * 78913 by unfold wrap64; omega, hE]
 have C : strconv_bool2_int.f (decide ((10 : Int) ^ E ≤ a0)) = some (if (10 : Int) ^ E ≤ a0 then 1 else 0) := by
  unfold strconv_bool2_int.f
  by_cases c : (10 : Int) ^ E ≤ a0
  ·rw [if_pos (decide_eq_true c), if_pos c]
  rw [if_neg (by rw [decide_eq_false c]; simp), if_neg c]
 have A1 := Aside0.mk A
 have B1 := Aside0.mk B
 have C1 := Aside0.mk C
 have N1 := Aside0.mk hn
 clear A B C hn hE
 have hc_ := hp.2 E (by omega)
 clear hp
 have e0_ : (0 : Int) ≤ (E : Int) := by omega
 have e1_ : (E : Int) < 20 := by omega
 go_enter Tryd.func60, Tryd.ntmps60
 go_wp2_with (first | ((with_reducible refine gate_callee (f := 67) rfl ?_); refine zg_ (some 5) Tryd.func67 #[.int .u64 a0] (h := ?_); (with_reducible refine (bits_Len64.calls 1 a0 (L : Int) _ A1.out).mono ?_); rintro e w' ⟨rfl, ⟨nd, rfl⟩⟩; refine ⟨_, rfl, ?_⟩) | ((with_reducible refine gate_callee (f := 68) rfl ?_); refine zg_ (some 6) Tryd.func68 #[.int .i64 (L : Int)] (h := ?_); (with_reducible refine (strconv_log10Pow2.calls (L : Int) (E : Int) _ B1.out).mono ?_); rintro e w' ⟨rfl, ⟨nd, rfl⟩⟩; refine ⟨_, rfl, ?_⟩) | ((with_reducible refine gate_callee (f := 69) rfl ?_); refine zg_ (some 13) Tryd.func69 #[.bool (decide ((10 : Int) ^ E ≤ a0))] (h := ?_); (with_reducible refine (strconv_bool2_int.calls (decide ((10 : Int) ^ E ≤ a0)) _ _ C1.out).mono ?_); rintro e w' ⟨rfl, ⟨nd, rfl⟩⟩; refine ⟨_, rfl, ?_⟩))
 ·go_ret
  exact ⟨by rw [← N1.out, if_pos (by assumption)]; rfl, ⟨_, rfl⟩⟩
 go_ret
 exact ⟨by rw [← N1.out, if_neg (Int.not_le.2 (by assumption))]; rfl, ⟨_, rfl⟩⟩
set_option maxHeartbeats 8000000 in
set_option maxRecDepth 100000 in
theorem fmt3.calls (g : Nat) (u : Int) (w : World) (hb : w.heap[g]? = some (.cells #[.int .u8 0, .int .u8 0, .int .u8 0, .int .u8 0, .int .u8 0, .int .u8 0, .int .u8 0, .int .u8 0, .int .u8 0, .int .u8 0, .int .u8 0, .int .u8 0, .int .u8 0, .int .u8 0, .int .u8 0, .int .u8 0, .int .u8 0, .int .u8 0, .int .u8 0, .int .u8 0, .int .u8 0, .int .u8 0, .int .u8 0, .int .u8 0] 77 (0, 0))) (u0 : 0 ≤ u) (u1 : u < 1000) :
  Calls Tryd.prog 61 #[.slice (some ⟨g, 0, none⟩) 3 24, .int .u64 u] w fun e w' => e = .returned (.tuple #[]) ∧ w'.heap[g]? = some (.cells #[.int .u8 (48 + u / 100 % 10), .int .u8 (48 + u / 10 % 10), .int .u8 (48 + u % 10), .int .u8 0, .int .u8 0, .int .u8 0, .int .u8 0, .int .u8 0, .int .u8 0, .int .u8 0, .int .u8 0, .int .u8 0, .int .u8 0, .int .u8 0, .int .u8 0, .int .u8 0, .int .u8 0, .int .u8 0, .int .u8 0, .int .u8 0, .int .u8 0, .int .u8 0, .int .u8 0, .int .u8 0] 77 (0, 0)) ∧ Below g w w' := by
 have BK := Aside0.mk hb
 have HB := Aside0.mk (Below.refl g w)
 clear hb
 have hz0_ : wrap64 (0 : Int) = 0 := by kernel_rfl
 have hz1_ : wrap64 (1 : Int) = 1 := by kernel_rfl
 have hz2_ : wrap64 (2 : Int) = 2 := by kernel_rfl
 go_enter Tryd.func61, Tryd.ntmps61
 go_wp2
 refine wp_loop_rounds 1 ?_
 rw [rounds_succ]
 go_wp2
 refine start_ (n := 15) (S := fun w' => True) (ds := []) #[false, false, false, false, false, false, false, false, false, false, false, false, false, false, false] (by kernel_rfl) rfl rfl trivial (fun hHeld => ?_); refine with_tab tp23_ (fun HT_ => ?_)
 replace BK := Aside0.mk (blk_drew BK.out)
 replace HB := Aside0.mk (below_drew1 HB.out)
 generalize w.drew = w1 at BK HB ⊢
 refine yp_ ?_ 0 145
 refine yp_ ?_ 1 146
 refine yp_ ?_ 2 147
 refine yp_ ?_ 3 148
 refine yp_ ?_ 4 149
 refine yp_ ?_ 5 150
 refine yp_ ?_ 6 151
 refine yp_ ?_ 7 152
 refine yp_ (v := .int .u8 (48 + u % 10)) ?_ 8 153 (hy := sm_y Tryd.underlying9 rfl (by rfl) (by rfl) (by kernel_rfl) ?hd)
 case hd => simp only [u32_eq, sm_]; omega
 refine yp_ ?_ 9 154
 refine yp_ (v := .int .u8 (48 + u / 10 % 10)) ?_ 10 155 (hy := sm_y Tryd.underlying9 rfl (by rfl) (by rfl) (by kernel_rfl) ?hd)
 case hd => simp only [u32_eq, sm_]; omega
 refine yp_ ?_ 11 156
 have hc_ := zx_ (v := .int .u8 0) BK 2
 have hf_ := blk_frozen BK.out 2
 refine yo_ 12 none (fun K hK => ?_)
 refine skip_ (w1 := ?_) (by rfl) rfl ?_ ?_
 rotate_left
 ·go_simp
  rfl
 refine hK.out _ _ trivial (fun hHeld => ?_)
 clear hK K hc_ hf_
 replace BK := Aside0.mk (blk_put (cs' := #[.int .u8 0, .int .u8 0, .int .u8 (48 + u % 10), .int .u8 0, .int .u8 0, .int .u8 0, .int .u8 0, .int .u8 0, .int .u8 0, .int .u8 0, .int .u8 0, .int .u8 0, .int .u8 0, .int .u8 0, .int .u8 0, .int .u8 0, .int .u8 0, .int .u8 0, .int .u8 0, .int .u8 0, .int .u8 0, .int .u8 0, .int .u8 0, .int .u8 0]) BK.out 2 (.int .u8 (48 + u % 10)) rfl)
 replace HB := Aside0.mk (HB.out.setCell (p := ⟨g, 2, none⟩) (Nat.le_refl g) (.int .u8 (48 + u % 10)))
 generalize w1.setCell ⟨g, 2, none⟩ (.int .u8 (48 + u % 10)) = w2 at BK HB ⊢
 refine yp_ ?_ 13 157
 have hc_ := zx_ (v := .int .u8 0) BK 1
 have hf_ := blk_frozen BK.out 1
 refine yo_ 14 none (fun K hK => ?_)
 refine skip_ (w1 := ?_) (by rfl) rfl ?_ ?_
 rotate_left
 ·go_simp
  rfl
 refine hK.out _ _ trivial (fun hHeld => ?_)
 clear hK K hc_ hf_
 replace BK := Aside0.mk (blk_put (cs' := #[.int .u8 0, .int .u8 (48 + u / 10 % 10), .int .u8 (48 + u % 10), .int .u8 0, .int .u8 0, .int .u8 0, .int .u8 0, .int .u8 0, .int .u8 0, .int .u8 0, .int .u8 0, .int .u8 0, .int .u8 0, .int .u8 0, .int .u8 0, .int .u8 0, .int .u8 0, .int .u8 0, .int .u8 0, .int .u8 0, .int .u8 0, .int .u8 0, .int .u8 0, .int .u8 0]) BK.out 1 (.int .u8 (48 + u / 10 % 10)) rfl)
 replace HB := Aside0.mk (HB.out.setCell (p := ⟨g, 1, none⟩) (Nat.le_refl g) (.int .u8 (48 + u / 10 % 10)))
 generalize w2.setCell ⟨g, 1, none⟩ (.int .u8 (48 + u / 10 % 10)) = w3 at BK HB ⊢
 refine done_ (done_of HT_.out (by kernel_rfl)) ?_
 have hc_ := zx_ (v := .int .u8 0) BK 0
 have hf_ := blk_frozen BK.out 0
 go_wp2
 rw [show (48 + u / 100 : Int) = 48 + u / 100 % 10 by omega]
 replace BK := Aside0.mk (blk_put (cs' := #[.int .u8 (48 + u / 100 % 10), .int .u8 (48 + u / 10 % 10), .int .u8 (48 + u % 10), .int .u8 0, .int .u8 0, .int .u8 0, .int .u8 0, .int .u8 0, .int .u8 0, .int .u8 0, .int .u8 0, .int .u8 0, .int .u8 0, .int .u8 0, .int .u8 0, .int .u8 0, .int .u8 0, .int .u8 0, .int .u8 0, .int .u8 0, .int .u8 0, .int .u8 0, .int .u8 0, .int .u8 0]) BK.out 0 (.int .u8 (48 + u / 100 % 10)) rfl)
 replace HB := Aside0.mk (HB.out.setCell (p := ⟨g, 0, none⟩) (Nat.le_refl g) (.int .u8 (48 + u / 100 % 10)))
 refine bodyPost_end (results_none rfl _ _ _) rfl ?_
 exact ⟨rfl, BK.out, HB.out⟩
set_option maxHeartbeats 8000000 in
set_option maxRecDepth 100000 in
theorem fmt4.calls (g : Nat) (u : Int) (w : World) (hb : w.heap[g]? = some (.cells #[.int .u8 0, .int .u8 0, .int .u8 0, .int .u8 0, .int .u8 0, .int .u8 0, .int .u8 0, .int .u8 0, .int .u8 0, .int .u8 0, .int .u8 0, .int .u8 0, .int .u8 0, .int .u8 0, .int .u8 0, .int .u8 0, .int .u8 0, .int .u8 0, .int .u8 0, .int .u8 0, .int .u8 0, .int .u8 0, .int .u8 0, .int .u8 0] 77 (0, 0))) (u0 : 0 ≤ u) (u1 : u < 10000) :
  Calls Tryd.prog 61 #[.slice (some ⟨g, 0, none⟩) 4 24, .int .u64 u] w fun e w' => e = .returned (.tuple #[]) ∧ w'.heap[g]? = some (.cells #[.int .u8 (48 + u / 1000 % 10), .int .u8 (48 + u / 100 % 10), .int .u8 (48 + u / 10 % 10), .int .u8 (48 + u % 10), .int .u8 0, .int .u8 0, .int .u8 0, .int .u8 0, .int .u8 0, .int .u8 0, .int .u8 0, .int .u8 0, .int .u8 0, .int .u8 0, .int .u8 0, .int .u8 0, .int .u8 0, .int .u8 0, .int .u8 0, .int .u8 0, .int .u8 0, .int .u8 0, .int .u8 0, .int .u8 0] 77 (0, 0)) ∧ Below g w w' := by
 have BK := Aside0.mk hb
 have HB := Aside0.mk (Below.refl g w)
 clear hb
 have hz0_ : wrap64 (0 : Int) = 0 := by kernel_rfl
 have hz1_ : wrap64 (1 : Int) = 1 := by kernel_rfl
 have hz2_ : wrap64 (2 : Int) = 2 := by kernel_rfl
 have hz3_ : wrap64 (3 : Int) = 3 := by kernel_rfl
 go_enter Tryd.func61, Tryd.ntmps61
 go_wp2
 refine wp_loop_rounds 1 ?_
 rw [rounds_succ]
 go_wp2
 refine start_ (n := 15) (S := fun w' => True) (ds := []) #[false, false, false, false, false, false, false, false, false, false, false, false, false, false, false] (by kernel_rfl) rfl rfl trivial (fun hHeld => ?_); refine with_tab tp17_ (fun HT_ => ?_)
 replace BK := Aside0.mk (blk_drew BK.out)
 replace HB := Aside0.mk (below_drew1 HB.out)
 generalize w.drew = w1 at BK HB ⊢
 refine yp_ ?_ 0 110
 refine yp_ ?_ 1 111
 refine yp_ ?_ 2 112
 refine yp_ ?_ 3 113
 refine yp_ ?_ 4 114
 refine yp_ ?_ 5 115
 refine yp_ ?_ 6 116
 refine yp_ ?_ 7 117
 refine yp_ (v := .int .u8 (48 + u % 10)) ?_ 8 118 (hy := sm_y Tryd.underlying9 rfl (by rfl) (by rfl) (by kernel_rfl) ?hd)
 case hd => simp only [u32_eq, sm_]; omega
 refine yp_ ?_ 9 119
 refine yp_ (v := .int .u8 (48 + u / 10 % 10)) ?_ 10 120 (hy := sm_y Tryd.underlying9 rfl (by rfl) (by rfl) (by kernel_rfl) ?hd)
 case hd => simp only [u32_eq, sm_]; omega
 refine yp_ ?_ 11 121
 have hc_ := zx_ (v := .int .u8 0) BK 3
 have hf_ := blk_frozen BK.out 3
 refine yo_ 12 none (fun K hK => ?_)
 refine skip_ (w1 := ?_) (by rfl) rfl ?_ ?_
 rotate_left
 ·go_simp
  rfl
 refine hK.out _ _ trivial (fun hHeld => ?_)
 clear hK K hc_ hf_
 replace BK := Aside0.mk (blk_put (cs' := #[.int .u8 0, .int .u8 0, .int .u8 0, .int .u8 (48 + u % 10), .int .u8 0, .int .u8 0, .int .u8 0, .int .u8 0, .int .u8 0, .int .u8 0, .int .u8 0, .int .u8 0, .int .u8 0, .int .u8 0, .int .u8 0, .int .u8 0, .int .u8 0, .int .u8 0, .int .u8 0, .int .u8 0, .int .u8 0, .int .u8 0, .int .u8 0, .int .u8 0]) BK.out 3 (.int .u8 (48 + u % 10)) rfl)
 replace HB := Aside0.mk (HB.out.setCell (p := ⟨g, 3, none⟩) (Nat.le_refl g) (.int .u8 (48 + u % 10)))
 generalize w1.setCell ⟨g, 3, none⟩ (.int .u8 (48 + u % 10)) = w2 at BK HB ⊢
 refine yp_ ?_ 13 122
 have hc_ := zx_ (v := .int .u8 0) BK 2
 have hf_ := blk_frozen BK.out 2
 refine yo_ 14 none (fun K hK => ?_)
 refine skip_ (w1 := ?_) (by rfl) rfl ?_ ?_
 rotate_left
 ·go_simp
  rfl
 refine hK.out _ _ trivial (fun hHeld => ?_)
 clear hK K hc_ hf_
 replace BK := Aside0.mk (blk_put (cs' := #[.int .u8 0, .int .u8 0, .int .u8 (48 + u / 10 % 10), .int .u8 (48 + u % 10), .int .u8 0, .int .u8 0, .int .u8 0, .int .u8 0, .int .u8 0, .int .u8 0, .int .u8 0, .int .u8 0, .int .u8 0, .int .u8 0, .int .u8 0, .int .u8 0, .int .u8 0, .int .u8 0, .int .u8 0, .int .u8 0, .int .u8 0, .int .u8 0, .int .u8 0, .int .u8 0]) BK.out 2 (.int .u8 (48 + u / 10 % 10)) rfl)
 replace HB := Aside0.mk (HB.out.setCell (p := ⟨g, 2, none⟩) (Nat.le_refl g) (.int .u8 (48 + u / 10 % 10)))
 generalize w2.setCell ⟨g, 2, none⟩ (.int .u8 (48 + u / 10 % 10)) = w3 at BK HB ⊢
 refine done_ (done_of HT_.out (by kernel_rfl)) ?_
 go_wp2
 refine start_ (n := 15) (S := fun w' => True) (ds := []) #[false, false, false, false, false, false, false, false, false, false, false, false, false, false, false] (by kernel_rfl) rfl rfl trivial (fun hHeld => ?_); refine with_tab tp18_ (fun HT_ => ?_)
 replace BK := Aside0.mk (blk_drew BK.out)
 replace HB := Aside0.mk (below_drew1 HB.out)
 generalize w3.drew = w4 at BK HB ⊢
 refine yp_ ?_ 0 123
 refine yp_ ?_ 1 124
 refine yp_ ?_ 2 125
 refine yp_ ?_ 3 126
 refine yp_ ?_ 4 127
 refine yp_ ?_ 5 128
 refine yp_ ?_ 6 129
 refine yp_ ?_ 7 130
 refine yp_ (v := .int .u8 (48 + u / 100 % 10)) ?_ 8 131 (hy := sm_y Tryd.underlying9 rfl (by rfl) (by rfl) (by kernel_rfl) ?hd)
 case hd => simp only [u32_eq, sm_]; omega
 refine yp_ ?_ 9 132
 refine yp_ (v := .int .u8 (48 + u / 1000 % 10)) ?_ 10 133 (hy := sm_y Tryd.underlying9 rfl (by rfl) (by rfl) (by kernel_rfl) ?hd)
 case hd => simp only [u32_eq, sm_]; omega
 refine yp_ ?_ 11 134
 have hc_ := zx_ (v := .int .u8 0) BK 1
 have hf_ := blk_frozen BK.out 1
 refine yo_ 12 none (fun K hK => ?_)
 refine skip_ (w1 := ?_) (by rfl) rfl ?_ ?_
 rotate_left
 ·go_simp
  rfl
 refine hK.out _ _ trivial (fun hHeld => ?_)
 clear hK K hc_ hf_
 replace BK := Aside0.mk (blk_put (cs' := #[.int .u8 0, .int .u8 (48 + u / 100 % 10), .int .u8 (48 + u / 10 % 10), .int .u8 (48 + u % 10), .int .u8 0, .int .u8 0, .int .u8 0, .int .u8 0, .int .u8 0, .int .u8 0, .int .u8 0, .int .u8 0, .int .u8 0, .int .u8 0, .int .u8 0, .int .u8 0, .int .u8 0, .int .u8 0, .int .u8 0, .int .u8 0, .int .u8 0, .int .u8 0, .int .u8 0, .int .u8 0]) BK.out 1 (.int .u8 (48 + u / 100 % 10)) rfl)
 replace HB := Aside0.mk (HB.out.setCell (p := ⟨g, 1, none⟩) (Nat.le_refl g) (.int .u8 (48 + u / 100 % 10)))
 generalize w4.setCell ⟨g, 1, none⟩ (.int .u8 (48 + u / 100 % 10)) = w5 at BK HB ⊢
 refine yp_ ?_ 13 135
 have hc_ := zx_ (v := .int .u8 0) BK 0
 have hf_ := blk_frozen BK.out 0
 refine yo_ 14 none (fun K hK => ?_)
 refine skip_ (w1 := ?_) (by rfl) rfl ?_ ?_
 rotate_left
 ·go_simp
  rfl
 refine hK.out _ _ trivial (fun hHeld => ?_)
 clear hK K hc_ hf_
 replace BK := Aside0.mk (blk_put (cs' := #[.int .u8 (48 + u / 1000 % 10), .int .u8 (48 + u / 100 % 10), .int .u8 (48 + u / 10 % 10), .int .u8 (48 + u % 10), .int .u8 0, .int .u8 0, .int .u8 0, .int .u8 0, .int .u8 0, .int .u8 0, .int .u8 0, .int .u8 0, .int .u8 0, .int .u8 0, .int .u8 0, .int .u8 0, .int .u8 0, .int .u8 0, .int .u8 0, .int .u8 0, .int .u8 0, .int .u8 0, .int .u8 0, .int .u8 0]) BK.out 0 (.int .u8 (48 + u / 1000 % 10)) rfl)
 replace HB := Aside0.mk (HB.out.setCell (p := ⟨g, 0, none⟩) (Nat.le_refl g) (.int .u8 (48 + u / 1000 % 10)))
 generalize w5.setCell ⟨g, 0, none⟩ (.int .u8 (48 + u / 1000 % 10)) = w6 at BK HB ⊢
 refine done_ (done_of HT_.out (by kernel_rfl)) ?_
 go_wp2
 refine bodyPost_end (results_none rfl _ _ _) rfl ?_
 exact ⟨rfl, BK.out, HB.out⟩
set_option maxHeartbeats 8000000 in
set_option maxRecDepth 100000 in
theorem fmt5.calls (g : Nat) (u : Int) (w : World) (hb : w.heap[g]? = some (.cells #[.int .u8 0, .int .u8 0, .int .u8 0, .int .u8 0, .int .u8 0, .int .u8 0, .int .u8 0, .int .u8 0, .int .u8 0, .int .u8 0, .int .u8 0, .int .u8 0, .int .u8 0, .int .u8 0, .int .u8 0, .int .u8 0, .int .u8 0, .int .u8 0, .int .u8 0, .int .u8 0, .int .u8 0, .int .u8 0, .int .u8 0, .int .u8 0] 77 (0, 0))) (u0 : 0 ≤ u) (u1 : u < 100000) :
  Calls Tryd.prog 61 #[.slice (some ⟨g, 0, none⟩) 5 24, .int .u64 u] w fun e w' => e = .returned (.tuple #[]) ∧ w'.heap[g]? = some (.cells #[.int .u8 (48 + u / 10000 % 10), .int .u8 (48 + u / 1000 % 10), .int .u8 (48 + u / 100 % 10), .int .u8 (48 + u / 10 % 10), .int .u8 (48 + u % 10), .int .u8 0, .int .u8 0, .int .u8 0, .int .u8 0, .int .u8 0, .int .u8 0, .int .u8 0, .int .u8 0, .int .u8 0, .int .u8 0, .int .u8 0, .int .u8 0, .int .u8 0, .int .u8 0, .int .u8 0, .int .u8 0, .int .u8 0, .int .u8 0, .int .u8 0] 77 (0, 0)) ∧ Below g w w' := by
 have BK := Aside0.mk hb
 have HB := Aside0.mk (Below.refl g w)
 clear hb
 have hz0_ : wrap64 (0 : Int) = 0 := by kernel_rfl
 have hz1_ : wrap64 (1 : Int) = 1 := by kernel_rfl
 have hz2_ : wrap64 (2 : Int) = 2 := by kernel_rfl
 have hz3_ : wrap64 (3 : Int) = 3 := by kernel_rfl
 have hz4_ : wrap64 (4 : Int) = 4 := by kernel_rfl
 go_enter Tryd.func61, Tryd.ntmps61
 go_wp2
 refine wp_loop_rounds 1 ?_
 rw [rounds_succ]
 go_wp2
 refine start_ (n := 15) (S := fun w' => True) (ds := []) #[false, false, false, false, false, false, false, false, false, false, false, false, false, false, false] (by kernel_rfl) rfl rfl trivial (fun hHeld => ?_); refine with_tab tp17_ (fun HT_ => ?_)
 replace BK := Aside0.mk (blk_drew BK.out)
 replace HB := Aside0.mk (below_drew1 HB.out)
 generalize w.drew = w1 at BK HB ⊢
 refine yp_ ?_ 0 110
 refine yp_ ?_ 1 111
 refine yp_ ?_ 2 112
 refine yp_ ?_ 3 113
 refine yp_ ?_ 4 114
 refine yp_ ?_ 5 115
 refine yp_ ?_ 6 116
 refine yp_ ?_ 7 117
 refine yp_ (v := .int .u8 (48 + u % 10)) ?_ 8 118 (hy := sm_y Tryd.underlying9 rfl (by rfl) (by rfl) (by kernel_rfl) ?hd)
 case hd => simp only [u32_eq, sm_]; omega
 refine yp_ ?_ 9 119
 refine yp_ (v := .int .u8 (48 + u / 10 % 10)) ?_ 10 120 (hy := sm_y Tryd.underlying9 rfl (by rfl) (by rfl) (by kernel_rfl) ?hd)
 case hd => simp only [u32_eq, sm_]; omega
 refine yp_ ?_ 11 121
 have hc_ := zx_ (v := .int .u8 0) BK 4
 have hf_ := blk_frozen BK.out 4
 refine yo_ 12 none (fun K hK => ?_)
 refine skip_ (w1 := ?_) (by rfl) rfl ?_ ?_
 rotate_left
 ·go_simp
  rfl
 refine hK.out _ _ trivial (fun hHeld => ?_)
 clear hK K hc_ hf_
 replace BK := Aside0.mk (blk_put (cs' := #[.int .u8 0, .int .u8 0, .int .u8 0, .int .u8 0, .int .u8 (48 + u % 10), .int .u8 0, .int .u8 0, .int .u8 0, .int .u8 0, .int .u8 0, .int .u8 0, .int .u8 0, .int .u8 0, .int .u8 0, .int .u8 0, .int .u8 0, .int .u8 0, .int .u8 0, .int .u8 0, .int .u8 0, .int .u8 0, .int .u8 0, .int .u8 0, .int .u8 0]) BK.out 4 (.int .u8 (48 + u % 10)) rfl)
 replace HB := Aside0.mk (HB.out.setCell (p := ⟨g, 4, none⟩) (Nat.le_refl g) (.int .u8 (48 + u % 10)))
 generalize w1.setCell ⟨g, 4, none⟩ (.int .u8 (48 + u % 10)) = w2 at BK HB ⊢
 refine yp_ ?_ 13 122
 have hc_ := zx_ (v := .int .u8 0) BK 3
 have hf_ := blk_frozen BK.out 3
 refine yo_ 14 none (fun K hK => ?_)
 refine skip_ (w1 := ?_) (by rfl) rfl ?_ ?_
 rotate_left
 ·go_simp
  rfl
 refine hK.out _ _ trivial (fun hHeld => ?_)
 clear hK K hc_ hf_
 replace BK := Aside0.mk (blk_put (cs' := #[.int .u8 0, .int .u8 0, .int .u8 0, .int .u8 (48 + u / 10 % 10), .int .u8 (48 + u % 10), .int .u8 0, .int .u8 0, .int .u8 0, .int .u8 0, .int .u8 0, .int .u8 0, .int .u8 0, .int .u8 0, .int .u8 0, .int .u8 0, .int .u8 0, .int .u8 0, .int .u8 0, .int .u8 0, .int .u8 0, .int .u8 0, .int .u8 0, .int .u8 0, .int .u8 0]) BK.out 3 (.int .u8 (48 + u / 10 % 10)) rfl)
 replace HB := Aside0.mk (HB.out.setCell (p := ⟨g, 3, none⟩) (Nat.le_refl g) (.int .u8 (48 + u / 10 % 10)))
 generalize w2.setCell ⟨g, 3, none⟩ (.int .u8 (48 + u / 10 % 10)) = w3 at BK HB ⊢
 refine done_ (done_of HT_.out (by kernel_rfl)) ?_
 go_wp2
 refine start_ (n := 15) (S := fun w' => True) (ds := []) #[false, false, false, false, false, false, false, false, false, false, false, false, false, false, false] (by kernel_rfl) rfl rfl trivial (fun hHeld => ?_); refine with_tab tp18_ (fun HT_ => ?_)
 replace BK := Aside0.mk (blk_drew BK.out)
 replace HB := Aside0.mk (below_drew1 HB.out)
 generalize w3.drew = w4 at BK HB ⊢
 refine yp_ ?_ 0 123
 refine yp_ ?_ 1 124
 refine yp_ ?_ 2 125
 refine yp_ ?_ 3 126
 refine yp_ ?_ 4 127
 refine yp_ ?_ 5 128
 refine yp_ ?_ 6 129
 refine yp_ ?_ 7 130
 refine yp_ (v := .int .u8 (48 + u / 100 % 10)) ?_ 8 131 (hy := sm_y Tryd.underlying9 rfl (by rfl) (by rfl) (by kernel_rfl) ?hd)
 case hd => simp only [u32_eq, sm_]; omega
 refine yp_ ?_ 9 132
 refine yp_ (v := .int .u8 (48 + u / 1000 % 10)) ?_ 10 133 (hy := sm_y Tryd.underlying9 rfl (by rfl) (by rfl) (by kernel_rfl) ?hd)
 case hd => simp only [u32_eq, sm_]; omega
 refine yp_ ?_ 11 134
 have hc_ := zx_ (v := .int .u8 0) BK 2
 have hf_ := blk_frozen BK.out 2
 refine yo_ 12 none (fun K hK => ?_)
 refine skip_ (w1 := ?_) (by rfl) rfl ?_ ?_
 rotate_left
 ·go_simp
  rfl
 refine hK.out _ _ trivial (fun hHeld => ?_)
 clear hK K hc_ hf_
 replace BK := Aside0.mk (blk_put (cs' := #[.int .u8 0, .int .u8 0, .int .u8 (48 + u / 100 % 10), .int .u8 (48 + u / 10 % 10), .int .u8 (48 + u % 10), .int .u8 0, .int .u8 0, .int .u8 0, .int .u8 0, .int .u8 0, .int .u8 0, .int .u8 0, .int .u8 0, .int .u8 0, .int .u8 0, .int .u8 0, .int .u8 0, .int .u8 0, .int .u8 0, .int .u8 0, .int .u8 0, .int .u8 0, .int .u8 0, .int .u8 0]) BK.out 2 (.int .u8 (48 + u / 100 % 10)) rfl)
 replace HB := Aside0.mk (HB.out.setCell (p := ⟨g, 2, none⟩) (Nat.le_refl g) (.int .u8 (48 + u / 100 % 10)))
 generalize w4.setCell ⟨g, 2, none⟩ (.int .u8 (48 + u / 100 % 10)) = w5 at BK HB ⊢
 refine yp_ ?_ 13 135
 have hc_ := zx_ (v := .int .u8 0) BK 1
 have hf_ := blk_frozen BK.out 1
 refine yo_ 14 none (fun K hK => ?_)
 refine skip_ (w1 := ?_) (by rfl) rfl ?_ ?_
 rotate_left
 ·go_simp
  rfl
 refine hK.out _ _ trivial (fun hHeld => ?_)
 clear hK K hc_ hf_
 replace BK := Aside0.mk (blk_put (cs' := #[.int .u8 0, .int .u8 (48 + u / 1000 % 10), .int .u8 (48 + u / 100 % 10), .int .u8 (48 + u / 10 % 10), .int .u8 (48 + u % 10), .int .u8 0, .int .u8 0, .int .u8 0, .int .u8 0, .int .u8 0, .int .u8 0, .int .u8 0, .int .u8 0, .int .u8 0, .int .u8 0, .int .u8 0, .int .u8 0, .int .u8 0, .int .u8 0, .int .u8 0, .int .u8 0, .int .u8 0, .int .u8 0, .int .u8 0]) BK.out 1 (.int .u8 (48 + u / 1000 % 10)) rfl)
 replace HB := Aside0.mk (HB.out.setCell (p := ⟨g, 1, none⟩) (Nat.le_refl g) (.int .u8 (48 + u / 1000 % 10)))
 generalize w5.setCell ⟨g, 1, none⟩ (.int .u8 (48 + u / 1000 % 10)) = w6 at BK HB ⊢
 refine done_ (done_of HT_.out (by kernel_rfl)) ?_
 have hc_ := zx_ (v := .int .u8 0) BK 0
 have hf_ := blk_frozen BK.out 0
 go_wp2
 rw [show (48 + u / 10000 : Int) = 48 + u / 10000 % 10 by omega]
 replace BK := Aside0.mk (blk_put (cs' := #[.int .u8 (48 + u / 10000 % 10), .int .u8 (48 + u / 1000 % 10), .int .u8 (48 + u / 100 % 10), .int .u8 (48 + u / 10 % 10), .int .u8 (48 + u % 10), .int .u8 0, .int .u8 0, .int .u8 0, .int .u8 0, .int .u8 0, .int .u8 0, .int .u8 0, .int .u8 0, .int .u8 0, .int .u8 0, .int .u8 0, .int .u8 0, .int .u8 0, .int .u8 0, .int .u8 0, .int .u8 0, .int .u8 0, .int .u8 0, .int .u8 0]) BK.out 0 (.int .u8 (48 + u / 10000 % 10)) rfl)
 replace HB := Aside0.mk (HB.out.setCell (p := ⟨g, 0, none⟩) (Nat.le_refl g) (.int .u8 (48 + u / 10000 % 10)))
 refine bodyPost_end (results_none rfl _ _ _) rfl ?_
 exact ⟨rfl, BK.out, HB.out⟩
set_option maxHeartbeats 8000000 in
set_option maxRecDepth 100000 in
theorem fmt6.calls (g : Nat) (u : Int) (w : World) (hb : w.heap[g]? = some (.cells #[.int .u8 0, .int .u8 0, .int .u8 0, .int .u8 0, .int .u8 0, .int .u8 0, .int .u8 0, .int .u8 0, .int .u8 0, .int .u8 0, .int .u8 0, .int .u8 0, .int .u8 0, .int .u8 0, .int .u8 0, .int .u8 0, .int .u8 0, .int .u8 0, .int .u8 0, .int .u8 0, .int .u8 0, .int .u8 0, .int .u8 0, .int .u8 0] 77 (0, 0))) (u0 : 0 ≤ u) (u1 : u < 1000000) :
  Calls Tryd.prog 61 #[.slice (some ⟨g, 0, none⟩) 6 24, .int .u64 u] w fun e w' => e = .returned (.tuple #[]) ∧ w'.heap[g]? = some (.cells #[.int .u8 (48 + u / 100000 % 10), .int .u8 (48 + u / 10000 % 10), .int .u8 (48 + u / 1000 % 10), .int .u8 (48 + u / 100 % 10), .int .u8 (48 + u / 10 % 10), .int .u8 (48 + u % 10), .int .u8 0, .int .u8 0, .int .u8 0, .int .u8 0, .int .u8 0, .int .u8 0, .int .u8 0, .int .u8 0, .int .u8 0, .int .u8 0, .int .u8 0, .int .u8 0, .int .u8 0, .int .u8 0, .int .u8 0, .int .u8 0, .int .u8 0, .int .u8 0] 77 (0, 0)) ∧ Below g w w' := by
 have BK := Aside0.mk hb
 have HB := Aside0.mk (Below.refl g w)
 clear hb
 have hz0_ : wrap64 (0 : Int) = 0 := by kernel_rfl
 have hz1_ : wrap64 (1 : Int) = 1 := by kernel_rfl
 have hz2_ : wrap64 (2 : Int) = 2 := by kernel_rfl
 have hz3_ : wrap64 (3 : Int) = 3 := by kernel_rfl
 have hz4_ : wrap64 (4 : Int) = 4 := by kernel_rfl
 have hz5_ : wrap64 (5 : Int) = 5 := by kernel_rfl
 go_enter Tryd.func61, Tryd.ntmps61
 go_wp2
 refine wp_loop_rounds 1 ?_
 rw [rounds_succ]
 go_wp2
 refine start_ (n := 15) (S := fun w' => True) (ds := []) #[false, false, false, false, false, false, false, false, false, false, false, false, false, false, false] (by kernel_rfl) rfl rfl trivial (fun hHeld => ?_); refine with_tab tp17_ (fun HT_ => ?_)
 replace BK := Aside0.mk (blk_drew BK.out)
 replace HB := Aside0.mk (below_drew1 HB.out)
 generalize w.drew = w1 at BK HB ⊢
 refine yp_ ?_ 0 110
 refine yp_ ?_ 1 111
 refine yp_ ?_ 2 112
 refine yp_ ?_ 3 113
 refine yp_ ?_ 4 114
 refine yp_ ?_ 5 115
 refine yp_ ?_ 6 116
 refine yp_ ?_ 7 117
 refine yp_ (v := .int .u8 (48 + u % 10)) ?_ 8 118 (hy := sm_y Tryd.underlying9 rfl (by rfl) (by rfl) (by kernel_rfl) ?hd)
 case hd => simp only [u32_eq, sm_]; omega
 refine yp_ ?_ 9 119
 refine yp_ (v := .int .u8 (48 + u / 10 % 10)) ?_ 10 120 (hy := sm_y Tryd.underlying9 rfl (by rfl) (by rfl) (by kernel_rfl) ?hd)
 case hd => simp only [u32_eq, sm_]; omega
 refine yp_ ?_ 11 121
 have hc_ := zx_ (v := .int .u8 0) BK 5
 have hf_ := blk_frozen BK.out 5
 refine yo_ 12 none (fun K hK => ?_)
 refine skip_ (w1 := ?_) (by rfl) rfl ?_ ?_
 rotate_left
 ·go_simp
  rfl
 refine hK.out _ _ trivial (fun hHeld => ?_)
 clear hK K hc_ hf_
 replace BK := Aside0.mk (blk_put (cs' := #[.int .u8 0, .int .u8 0, .int .u8 0, .int .u8 0, .int .u8 0, .int .u8 (48 + u % 10), .int .u8 0, .int .u8 0, .int .u8 0, .int .u8 0, .int .u8 0, .int .u8 0, .int .u8 0, .int .u8 0, .int .u8 0, .int .u8 0, .int .u8 0, .int .u8 0, .int .u8 0, .int .u8 0, .int .u8 0, .int .u8 0, .int .u8 0, .int .u8 0]) BK.out 5 (.int .u8 (48 + u % 10)) rfl)
 replace HB := Aside0.mk (HB.out.setCell (p := ⟨g, 5, none⟩) (Nat.le_refl g) (.int .u8 (48 + u % 10)))
 generalize w1.setCell ⟨g, 5, none⟩ (.int .u8 (48 + u % 10)) = w2 at BK HB ⊢
 refine yp_ ?_ 13 122
 have hc_ := zx_ (v := .int .u8 0) BK 4
 have hf_ := blk_frozen BK.out 4
 refine yo_ 14 none (fun K hK => ?_)
 refine skip_ (w1 := ?_) (by rfl) rfl ?_ ?_
 rotate_left
 ·go_simp
  rfl
 refine hK.out _ _ trivial (fun hHeld => ?_)
 clear hK K hc_ hf_
 replace BK := Aside0.mk (blk_put (cs' := #[.int .u8 0, .int .u8 0, .int .u8 0, .int .u8 0, .int .u8 (48 + u / 10 % 10), .int .u8 (48 + u % 10), .int .u8 0, .int .u8 0, .int .u8 0, .int .u8 0, .int .u8 0, .int .u8 0, .int .u8 0, .int .u8 0, .int .u8 0, .int .u8 0, .int .u8 0, .int .u8 0, .int .u8 0, .int .u8 0, .int .u8 0, .int .u8 0, .int .u8 0, .int .u8 0]) BK.out 4 (.int .u8 (48 + u / 10 % 10)) rfl)
 replace HB := Aside0.mk (HB.out.setCell (p := ⟨g, 4, none⟩) (Nat.le_refl g) (.int .u8 (48 + u / 10 % 10)))
 generalize w2.setCell ⟨g, 4, none⟩ (.int .u8 (48 + u / 10 % 10)) = w3 at BK HB ⊢
 refine done_ (done_of HT_.out (by kernel_rfl)) ?_
 go_wp2
 refine start_ (n := 15) (S := fun w' => True) (ds := []) #[false, false, false, false, false, false, false, false, false, false, false, false, false, false, false] (by kernel_rfl) rfl rfl trivial (fun hHeld => ?_); refine with_tab tp18_ (fun HT_ => ?_)
 replace BK := Aside0.mk (blk_drew BK.out)
 replace HB := Aside0.mk (below_drew1 HB.out)
 generalize w3.drew = w4 at BK HB ⊢
 refine yp_ ?_ 0 123
 refine yp_ ?_ 1 124
 refine yp_ ?_ 2 125
 refine yp_ ?_ 3 126
 refine yp_ ?_ 4 127
 refine yp_ ?_ 5 128
 refine yp_ ?_ 6 129
 refine yp_ ?_ 7 130
 refine yp_ (v := .int .u8 (48 + u / 100 % 10)) ?_ 8 131 (hy := sm_y Tryd.underlying9 rfl (by rfl) (by rfl) (by kernel_rfl) ?hd)
 case hd => simp only [u32_eq, sm_]; omega
 refine yp_ ?_ 9 132
 refine yp_ (v := .int .u8 (48 + u / 1000 % 10)) ?_ 10 133 (hy := sm_y Tryd.underlying9 rfl (by rfl) (by rfl) (by kernel_rfl) ?hd)
 case hd => simp only [u32_eq, sm_]; omega
 refine yp_ ?_ 11 134
 have hc_ := zx_ (v := .int .u8 0) BK 3
 have hf_ := blk_frozen BK.out 3
 refine yo_ 12 none (fun K hK => ?_)
 refine skip_ (w1 := ?_) (by rfl) rfl ?_ ?_
 rotate_left
 ·go_simp
  rfl
 refine hK.out _ _ trivial (fun hHeld => ?_)
 clear hK K hc_ hf_
 replace BK := Aside0.mk (blk_put (cs' := #[.int .u8 0, .int .u8 0, .int .u8 0, .int .u8 (48 + u / 100 % 10), .int .u8 (48 + u / 10 % 10), .int .u8 (48 + u % 10), .int .u8 0, .int .u8 0, .int .u8 0, .int .u8 0, .int .u8 0, .int .u8 0, .int .u8 0, .int .u8 0, .int .u8 0, .int .u8 0, .int .u8 0, .int .u8 0, .int .u8 0, .int .u8 0, .int .u8 0, .int .u8 0, .int .u8 0, .int .u8 0]) BK.out 3 (.int .u8 (48 + u / 100 % 10)) rfl)
 replace HB := Aside0.mk (HB.out.setCell (p := ⟨g, 3, none⟩) (Nat.le_refl g) (.int .u8 (48 + u / 100 % 10)))
 generalize w4.setCell ⟨g, 3, none⟩ (.int .u8 (48 + u / 100 % 10)) = w5 at BK HB ⊢
 refine yp_ ?_ 13 135
 have hc_ := zx_ (v := .int .u8 0) BK 2
 have hf_ := blk_frozen BK.out 2
 refine yo_ 14 none (fun K hK => ?_)
 refine skip_ (w1 := ?_) (by rfl) rfl ?_ ?_
 rotate_left
 ·go_simp
  rfl
 refine hK.out _ _ trivial (fun hHeld => ?_)
 clear hK K hc_ hf_
 replace BK := Aside0.mk (blk_put (cs' := #[.int .u8 0, .int .u8 0, .int .u8 (48 + u / 1000 % 10), .int .u8 (48 + u / 100 % 10), .int .u8 (48 + u / 10 % 10), .int .u8 (48 + u % 10), .int .u8 0, .int .u8 0, .int .u8 0, .int .u8 0, .int .u8 0, .int .u8 0, .int .u8 0, .int .u8 0, .int .u8 0, .int .u8 0, .int .u8 0, .int .u8 0, .int .u8 0, .int .u8 0, .int .u8 0, .int .u8 0, .int .u8 0, .int .u8 0]) BK.out 2 (.int .u8 (48 + u / 1000 % 10)) rfl)
 replace HB := Aside0.mk (HB.out.setCell (p := ⟨g, 2, none⟩) (Nat.le_refl g) (.int .u8 (48 + u / 1000 % 10)))
 generalize w5.setCell ⟨g, 2, none⟩ (.int .u8 (48 + u / 1000 % 10)) = w6 at BK HB ⊢
 refine done_ (done_of HT_.out (by kernel_rfl)) ?_
 go_wp2
 refine start_ (n := 15) (S := fun w' => True) (ds := []) #[false, false, false, false, false, false, false, false, false, false, false, false, false, false, false] (by kernel_rfl) rfl rfl trivial (fun hHeld => ?_); refine with_tab tp23_ (fun HT_ => ?_)
 replace BK := Aside0.mk (blk_drew BK.out)
 replace HB := Aside0.mk (below_drew1 HB.out)
 generalize w6.drew = w7 at BK HB ⊢
 refine yp_ ?_ 0 145
 refine yp_ ?_ 1 146
 refine yp_ ?_ 2 147
 refine yp_ ?_ 3 148
 refine yp_ ?_ 4 149
 refine yp_ ?_ 5 150
 refine yp_ ?_ 6 151
 refine yp_ ?_ 7 152
 refine yp_ (v := .int .u8 (48 + u / 10000 % 10)) ?_ 8 153 (hy := sm_y Tryd.underlying9 rfl (by rfl) (by rfl) (by kernel_rfl) ?hd)
 case hd => simp only [u32_eq, sm_]; omega
 refine yp_ ?_ 9 154
 refine yp_ (v := .int .u8 (48 + u / 100000 % 10)) ?_ 10 155 (hy := sm_y Tryd.underlying9 rfl (by rfl) (by rfl) (by kernel_rfl) ?hd)
 case hd => simp only [u32_eq, sm_]; omega
 refine yp_ ?_ 11 156
 have hc_ := zx_ (v := .int .u8 0) BK 1
 have hf_ := blk_frozen BK.out 1
 refine yo_ 12 none (fun K hK => ?_)
 refine skip_ (w1 := ?_) (by rfl) rfl ?_ ?_
 rotate_left
 ·go_simp
  rfl
 refine hK.out _ _ trivial (fun hHeld => ?_)
 clear hK K hc_ hf_
 replace BK := Aside0.mk (blk_put (cs' := #[.int .u8 0, .int .u8 (48 + u / 10000 % 10), .int .u8 (48 + u / 1000 % 10), .int .u8 (48 + u / 100 % 10), .int .u8 (48 + u / 10 % 10), .int .u8 (48 + u % 10), .int .u8 0, .int .u8 0, .int .u8 0, .int .u8 0, .int .u8 0, .int .u8 0, .int .u8 0, .int .u8 0, .int .u8 0, .int .u8 0, .int .u8 0, .int .u8 0, .int .u8 0, .int .u8 0, .int .u8 0, .int .u8 0, .int .u8 0, .int .u8 0]) BK.out 1 (.int .u8 (48 + u / 10000 % 10)) rfl)
 replace HB := Aside0.mk (HB.out.setCell (p := ⟨g, 1, none⟩) (Nat.le_refl g) (.int .u8 (48 + u / 10000 % 10)))
 generalize w7.setCell ⟨g, 1, none⟩ (.int .u8 (48 + u / 10000 % 10)) = w8 at BK HB ⊢
 refine yp_ ?_ 13 157
 have hc_ := zx_ (v := .int .u8 0) BK 0
 have hf_ := blk_frozen BK.out 0
 refine yo_ 14 none (fun K hK => ?_)
 refine skip_ (w1 := ?_) (by rfl) rfl ?_ ?_
 rotate_left
 ·go_simp
  rfl
 refine hK.out _ _ trivial (fun hHeld => ?_)
 clear hK K hc_ hf_
 replace BK := Aside0.mk (blk_put (cs' := #[.int .u8 (48 + u / 100000 % 10), .int .u8 (48 + u / 10000 % 10), .int .u8 (48 + u / 1000 % 10), .int .u8 (48 + u / 100 % 10), .int .u8 (48 + u / 10 % 10), .int .u8 (48 + u % 10), .int .u8 0, .int .u8 0, .int .u8 0, .int .u8 0, .int .u8 0, .int .u8 0, .int .u8 0, .int .u8 0, .int .u8 0, .int .u8 0, .int .u8 0, .int .u8 0, .int .u8 0, .int .u8 0, .int .u8 0, .int .u8 0, .int .u8 0, .int .u8 0]) BK.out 0 (.int .u8 (48 + u / 100000 % 10)) rfl)
 replace HB := Aside0.mk (HB.out.setCell (p := ⟨g, 0, none⟩) (Nat.le_refl g) (.int .u8 (48 + u / 100000 % 10)))
 generalize w8.setCell ⟨g, 0, none⟩ (.int .u8 (48 + u / 100000 % 10)) = w9 at BK HB ⊢
 refine done_ (done_of HT_.out (by kernel_rfl)) ?_
 go_wp2
 refine bodyPost_end (results_none rfl _ _ _) rfl ?_
 exact ⟨rfl, BK.out, HB.out⟩
set_option maxHeartbeats 8000000 in
set_option maxRecDepth 100000 in
theorem fmt7.calls (g : Nat) (u : Int) (w : World) (hb : w.heap[g]? = some (.cells #[.int .u8 0, .int .u8 0, .int .u8 0, .int .u8 0, .int .u8 0, .int .u8 0, .int .u8 0, .int .u8 0, .int .u8 0, .int .u8 0, .int .u8 0, .int .u8 0, .int .u8 0, .int .u8 0, .int .u8 0, .int .u8 0, .int .u8 0, .int .u8 0, .int .u8 0, .int .u8 0, .int .u8 0, .int .u8 0, .int .u8 0, .int .u8 0] 77 (0, 0))) (u0 : 0 ≤ u) (u1 : u < 10000000) :
  Calls Tryd.prog 61 #[.slice (some ⟨g, 0, none⟩) 7 24, .int .u64 u] w fun e w' => e = .returned (.tuple #[]) ∧ w'.heap[g]? = some (.cells #[.int .u8 (48 + u / 1000000 % 10), .int .u8 (48 + u / 100000 % 10), .int .u8 (48 + u / 10000 % 10), .int .u8 (48 + u / 1000 % 10), .int .u8 (48 + u / 100 % 10), .int .u8 (48 + u / 10 % 10), .int .u8 (48 + u % 10), .int .u8 0, .int .u8 0, .int .u8 0, .int .u8 0, .int .u8 0, .int .u8 0, .int .u8 0, .int .u8 0, .int .u8 0, .int .u8 0, .int .u8 0, .int .u8 0, .int .u8 0, .int .u8 0, .int .u8 0, .int .u8 0, .int .u8 0] 77 (0, 0)) ∧ Below g w w' := by
 have BK := Aside0.mk hb
 have HB := Aside0.mk (Below.refl g w)
 clear hb
 have hz0_ : wrap64 (0 : Int) = 0 := by kernel_rfl
 have hz1_ : wrap64 (1 : Int) = 1 := by kernel_rfl
 have hz2_ : wrap64 (2 : Int) = 2 := by kernel_rfl
 have hz3_ : wrap64 (3 : Int) = 3 := by kernel_rfl
 have hz4_ : wrap64 (4 : Int) = 4 := by kernel_rfl
 have hz5_ : wrap64 (5 : Int) = 5 := by kernel_rfl
 have hz6_ : wrap64 (6 : Int) = 6 := by kernel_rfl
 go_enter Tryd.func61, Tryd.ntmps61
 go_wp2
 refine wp_loop_rounds 1 ?_
 rw [rounds_succ]
 go_wp2
 refine start_ (n := 15) (S := fun w' => True) (ds := []) #[false, false, false, false, false, false, false, false, false, false, false, false, false, false, false] (by kernel_rfl) rfl rfl trivial (fun hHeld => ?_); refine with_tab tp17_ (fun HT_ => ?_)
 replace BK := Aside0.mk (blk_drew BK.out)
 replace HB := Aside0.mk (below_drew1 HB.out)
 generalize w.drew = w1 at BK HB ⊢
 refine yp_ ?_ 0 110
 refine yp_ ?_ 1 111
 refine yp_ ?_ 2 112
 refine yp_ ?_ 3 113
 refine yp_ ?_ 4 114
 refine yp_ ?_ 5 115
 refine yp_ ?_ 6 116
 refine yp_ ?_ 7 117
 refine yp_ (v := .int .u8 (48 + u % 10)) ?_ 8 118 (hy := sm_y Tryd.underlying9 rfl (by rfl) (by rfl) (by kernel_rfl) ?hd)
 case hd => simp only [u32_eq, sm_]; omega
 refine yp_ ?_ 9 119
 refine yp_ (v := .int .u8 (48 + u / 10 % 10)) ?_ 10 120 (hy := sm_y Tryd.underlying9 rfl (by rfl) (by rfl) (by kernel_rfl) ?hd)
 case hd => simp only [u32_eq, sm_]; omega
 refine yp_ ?_ 11 121
 have hc_ := zx_ (v := .int .u8 0) BK 6
 have hf_ := blk_frozen BK.out 6
 refine yo_ 12 none (fun K hK => ?_)
 refine skip_ (w1 := ?_) (by rfl) rfl ?_ ?_
 rotate_left
 ·go_simp
  rfl
 refine hK.out _ _ trivial (fun hHeld => ?_)
 clear hK K hc_ hf_
 replace BK := Aside0.mk (blk_put (cs' := #[.int .u8 0, .int .u8 0, .int .u8 0, .int .u8 0, .int .u8 0, .int .u8 0, .int .u8 (48 + u % 10), .int .u8 0, .int .u8 0, .int .u8 0, .int .u8 0, .int .u8 0, .int .u8 0, .int .u8 0, .int .u8 0, .int .u8 0, .int .u8 0, .int .u8 0, .int .u8 0, .int .u8 0, .int .u8 0, .int .u8 0, .int .u8 0, .int .u8 0]) BK.out 6 (.int .u8 (48 + u % 10)) rfl)
 replace HB := Aside0.mk (HB.out.setCell (p := ⟨g, 6, none⟩) (Nat.le_refl g) (.int .u8 (48 + u % 10)))
 generalize w1.setCell ⟨g, 6, none⟩ (.int .u8 (48 + u % 10)) = w2 at BK HB ⊢
 refine yp_ ?_ 13 122
 have hc_ := zx_ (v := .int .u8 0) BK 5
 have hf_ := blk_frozen BK.out 5
 refine yo_ 14 none (fun K hK => ?_)
 refine skip_ (w1 := ?_) (by rfl) rfl ?_ ?_
 rotate_left
 ·go_simp
  rfl
 refine hK.out _ _ trivial (fun hHeld => ?_)
 clear hK K hc_ hf_
 replace BK := Aside0.mk (blk_put (cs' := #[.int .u8 0, .int .u8 0, .int .u8 0, .int .u8 0, .int .u8 0, .int .u8 (48 + u / 10 % 10), .int .u8 (48 + u % 10), .int .u8 0, .int .u8 0, .int .u8 0, .int .u8 0, .int .u8 0, .int .u8 0, .int .u8 0, .int .u8 0, .int .u8 0, .int .u8 0, .int .u8 0, .int .u8 0, .int .u8 0, .int .u8 0, .int .u8 0, .int .u8 0, .int .u8 0]) BK.out 5 (.int .u8 (48 + u / 10 % 10)) rfl)
 replace HB := Aside0.mk (HB.out.setCell (p := ⟨g, 5, none⟩) (Nat.le_refl g) (.int .u8 (48 + u / 10 % 10)))
 generalize w2.setCell ⟨g, 5, none⟩ (.int .u8 (48 + u / 10 % 10)) = w3 at BK HB ⊢
 refine done_ (done_of HT_.out (by kernel_rfl)) ?_
 go_wp2
 refine start_ (n := 15) (S := fun w' => True) (ds := []) #[false, false, false, false, false, false, false, false, false, false, false, false, false, false, false] (by kernel_rfl) rfl rfl trivial (fun hHeld => ?_); refine with_tab tp18_ (fun HT_ => ?_)
 replace BK := Aside0.mk (blk_drew BK.out)
 replace HB := Aside0.mk (below_drew1 HB.out)
 generalize w3.drew = w4 at BK HB ⊢
 refine yp_ ?_ 0 123
 refine yp_ ?_ 1 124
 refine yp_ ?_ 2 125
 refine yp_ ?_ 3 126
 refine yp_ ?_ 4 127
 refine yp_ ?_ 5 128
 refine yp_ ?_ 6 129
 refine yp_ ?_ 7 130
 refine yp_ (v := .int .u8 (48 + u / 100 % 10)) ?_ 8 131 (hy := sm_y Tryd.underlying9 rfl (by rfl) (by rfl) (by kernel_rfl) ?hd)
 case hd => simp only [u32_eq, sm_]; omega
 refine yp_ ?_ 9 132
 refine yp_ (v := .int .u8 (48 + u / 1000 % 10)) ?_ 10 133 (hy := sm_y Tryd.underlying9 rfl (by rfl) (by rfl) (by kernel_rfl) ?hd)
 case hd => simp only [u32_eq, sm_]; omega
 refine yp_ ?_ 11 134
 have hc_ := zx_ (v := .int .u8 0) BK 4
 have hf_ := blk_frozen BK.out 4
 refine yo_ 12 none (fun K hK => ?_)
 refine skip_ (w1 := ?_) (by rfl) rfl ?_ ?_
 rotate_left
 ·go_simp
  rfl
 refine hK.out _ _ trivial (fun hHeld => ?_)
 clear hK K hc_ hf_
 replace BK := Aside0.mk (blk_put (cs' := #[.int .u8 0, .int .u8 0, .int .u8 0, .int .u8 0, .int .u8 (48 + u / 100 % 10), .int .u8 (48 + u / 10 % 10), .int .u8 (48 + u % 10), .int .u8 0, .int .u8 0, .int .u8 0, .int .u8 0, .int .u8 0, .int .u8 0, .int .u8 0, .int .u8 0, .int .u8 0, .int .u8 0, .int .u8 0, .int .u8 0, .int .u8 0, .int .u8 0, .int .u8 0, .int .u8 0, .int .u8 0]) BK.out 4 (.int .u8 (48 + u / 100 % 10)) rfl)
 replace HB := Aside0.mk (HB.out.setCell (p := ⟨g, 4, none⟩) (Nat.le_refl g) (.int .u8 (48 + u / 100 % 10)))
 generalize w4.setCell ⟨g, 4, none⟩ (.int .u8 (48 + u / 100 % 10)) = w5 at BK HB ⊢
 refine yp_ ?_ 13 135
 have hc_ := zx_ (v := .int .u8 0) BK 3
 have hf_ := blk_frozen BK.out 3
 refine yo_ 14 none (fun K hK => ?_)
 refine skip_ (w1 := ?_) (by rfl) rfl ?_ ?_
 rotate_left
 ·go_simp
  rfl
 refine hK.out _ _ trivial (fun hHeld => ?_)
 clear hK K hc_ hf_
 replace BK := Aside0.mk (blk_put (cs' := #[.int .u8 0, .int .u8 0, .int .u8 0, .int .u8 (48 + u / 1000 % 10), .int .u8 (48 + u / 100 % 10), .int .u8 (48 + u / 10 % 10), .int .u8 (48 + u % 10), .int .u8 0, .int .u8 0, .int .u8 0, .int .u8 0, .int .u8 0, .int .u8 0, .int .u8 0, .int .u8 0, .int .u8 0, .int .u8 0, .int .u8 0, .int .u8 0, .int .u8 0, .int .u8 0, .int .u8 0, .int .u8 0, .int .u8 0]) BK.out 3 (.int .u8 (48 + u / 1000 % 10)) rfl)
 replace HB := Aside0.mk (HB.out.setCell (p := ⟨g, 3, none⟩) (Nat.le_refl g) (.int .u8 (48 + u / 1000 % 10)))
 generalize w5.setCell ⟨g, 3, none⟩ (.int .u8 (48 + u / 1000 % 10)) = w6 at BK HB ⊢
 refine done_ (done_of HT_.out (by kernel_rfl)) ?_
 go_wp2
 refine start_ (n := 15) (S := fun w' => True) (ds := []) #[false, false, false, false, false, false, false, false, false, false, false, false, false, false, false] (by kernel_rfl) rfl rfl trivial (fun hHeld => ?_); refine with_tab tp23_ (fun HT_ => ?_)
 replace BK := Aside0.mk (blk_drew BK.out)
 replace HB := Aside0.mk (below_drew1 HB.out)
 generalize w6.drew = w7 at BK HB ⊢
 refine yp_ ?_ 0 145
 refine yp_ ?_ 1 146
 refine yp_ ?_ 2 147
 refine yp_ ?_ 3 148
 refine yp_ ?_ 4 149
 refine yp_ ?_ 5 150
 refine yp_ ?_ 6 151
 refine yp_ ?_ 7 152
 refine yp_ (v := .int .u8 (48 + u / 10000 % 10)) ?_ 8 153 (hy := sm_y Tryd.underlying9 rfl (by rfl) (by rfl) (by kernel_rfl) ?hd)
 case hd => simp only [u32_eq, sm_]; omega
 refine yp_ ?_ 9 154
 refine yp_ (v := .int .u8 (48 + u / 100000 % 10)) ?_ 10 155 (hy := sm_y Tryd.underlying9 rfl (by rfl) (by rfl) (by kernel_rfl) ?hd)
 case hd => simp only [u32_eq, sm_]; omega
 refine yp_ ?_ 11 156
 have hc_ := zx_ (v := .int .u8 0) BK 2
 have hf_ := blk_frozen BK.out 2
 refine yo_ 12 none (fun K hK => ?_)
 refine skip_ (w1 := ?_) (by rfl) rfl ?_ ?_
 rotate_left
 ·go_simp
  rfl
 refine hK.out _ _ trivial (fun hHeld => ?_)
 clear hK K hc_ hf_
 replace BK := Aside0.mk (blk_put (cs' := #[.int .u8 0, .int .u8 0, .int .u8 (48 + u / 10000 % 10), .int .u8 (48 + u / 1000 % 10), .int .u8 (48 + u / 100 % 10), .int .u8 (48 + u / 10 % 10), .int .u8 (48 + u % 10), .int .u8 0, .int .u8 0, .int .u8 0, .int .u8 0, .int .u8 0, .int .u8 0, .int .u8 0, .int .u8 0, .int .u8 0, .int .u8 0, .int .u8 0, .int .u8 0, .int .u8 0, .int .u8 0, .int .u8 0, .int .u8 0, .int .u8 0]) BK.out 2 (.int .u8 (48 + u / 10000 % 10)) rfl)
 replace HB := Aside0.mk (HB.out.setCell (p := ⟨g, 2, none⟩) (Nat.le_refl g) (.int .u8 (48 + u / 10000 % 10)))
 generalize w7.setCell ⟨g, 2, none⟩ (.int .u8 (48 + u / 10000 % 10)) = w8 at BK HB ⊢
 refine yp_ ?_ 13 157
 have hc_ := zx_ (v := .int .u8 0) BK 1
 have hf_ := blk_frozen BK.out 1
 refine yo_ 14 none (fun K hK => ?_)
 refine skip_ (w1 := ?_) (by rfl) rfl ?_ ?_
 rotate_left
 ·go_simp
  rfl
 refine hK.out _ _ trivial (fun hHeld => ?_)
 clear hK K hc_ hf_
 replace BK := Aside0.mk (blk_put (cs' := #[.int .u8 0, .int .u8 (48 + u / 100000 % 10), .int .u8 (48 + u / 10000 % 10), .int .u8 (48 + u / 1000 % 10), .int .u8 (48 + u / 100 % 10), .int .u8 (48 + u / 10 % 10), .int .u8 (48 + u % 10), .int .u8 0, .int .u8 0, .int .u8 0, .int .u8 0, .int .u8 0, .int .u8 0, .int .u8 0, .int .u8 0, .int .u8 0, .int .u8 0, .int .u8 0, .int .u8 0, .int .u8 0, .int .u8 0, .int .u8 0, .int .u8 0, .int .u8 0]) BK.out 1 (.int .u8 (48 + u / 100000 % 10)) rfl)
 replace HB := Aside0.mk (HB.out.setCell (p := ⟨g, 1, none⟩) (Nat.le_refl g) (.int .u8 (48 + u / 100000 % 10)))
 generalize w8.setCell ⟨g, 1, none⟩ (.int .u8 (48 + u / 100000 % 10)) = w9 at BK HB ⊢
 refine done_ (done_of HT_.out (by kernel_rfl)) ?_
 have hc_ := zx_ (v := .int .u8 0) BK 0
 have hf_ := blk_frozen BK.out 0
 go_wp2
 rw [show (48 + u / 10000 / 100 : Int) = 48 + u / 1000000 % 10 by omega]
 replace BK := Aside0.mk (blk_put (cs' := #[.int .u8 (48 + u / 1000000 % 10), .int .u8 (48 + u / 100000 % 10), .int .u8 (48 + u / 10000 % 10), .int .u8 (48 + u / 1000 % 10), .int .u8 (48 + u / 100 % 10), .int .u8 (48 + u / 10 % 10), .int .u8 (48 + u % 10), .int .u8 0, .int .u8 0, .int .u8 0, .int .u8 0, .int .u8 0, .int .u8 0, .int .u8 0, .int .u8 0, .int .u8 0, .int .u8 0, .int .u8 0, .int .u8 0, .int .u8 0, .int .u8 0, .int .u8 0, .int .u8 0, .int .u8 0]) BK.out 0 (.int .u8 (48 + u / 1000000 % 10)) rfl)
 replace HB := Aside0.mk (HB.out.setCell (p := ⟨g, 0, none⟩) (Nat.le_refl g) (.int .u8 (48 + u / 1000000 % 10)))
 refine bodyPost_end (results_none rfl _ _ _) rfl ?_
 exact ⟨rfl, BK.out, HB.out⟩
set_option maxHeartbeats 8000000 in
set_option maxRecDepth 100000 in
theorem fmt8.calls (g : Nat) (u : Int) (w : World) (hb : w.heap[g]? = some (.cells #[.int .u8 0, .int .u8 0, .int .u8 0, .int .u8 0, .int .u8 0, .int .u8 0, .int .u8 0, .int .u8 0, .int .u8 0, .int .u8 0, .int .u8 0, .int .u8 0, .int .u8 0, .int .u8 0, .int .u8 0, .int .u8 0, .int .u8 0, .int .u8 0, .int .u8 0, .int .u8 0, .int .u8 0, .int .u8 0, .int .u8 0, .int .u8 0] 77 (0, 0))) (u0 : 0 ≤ u) (u1 : u < 100000000) :
  Calls Tryd.prog 61 #[.slice (some ⟨g, 0, none⟩) 8 24, .int .u64 u] w fun e w' => e = .returned (.tuple #[]) ∧ w'.heap[g]? = some (.cells #[.int .u8 (48 + u / 10000000 % 10), .int .u8 (48 + u / 1000000 % 10), .int .u8 (48 + u / 100000 % 10), .int .u8 (48 + u / 10000 % 10), .int .u8 (48 + u / 1000 % 10), .int .u8 (48 + u / 100 % 10), .int .u8 (48 + u / 10 % 10), .int .u8 (48 + u % 10), .int .u8 0, .int .u8 0, .int .u8 0, .int .u8 0, .int .u8 0, .int .u8 0, .int .u8 0, .int .u8 0, .int .u8 0, .int .u8 0, .int .u8 0, .int .u8 0, .int .u8 0, .int .u8 0, .int .u8 0, .int .u8 0] 77 (0, 0)) ∧ Below g w w' := by
 have BK := Aside0.mk hb
 have HB := Aside0.mk (Below.refl g w)
 clear hb
 have hz0_ : wrap64 (0 : Int) = 0 := by kernel_rfl
 have hz1_ : wrap64 (1 : Int) = 1 := by kernel_rfl
 have hz2_ : wrap64 (2 : Int) = 2 := by kernel_rfl
 have hz3_ : wrap64 (3 : Int) = 3 := by kernel_rfl
 have hz4_ : wrap64 (4 : Int) = 4 := by kernel_rfl
 have hz5_ : wrap64 (5 : Int) = 5 := by kernel_rfl
 have hz6_ : wrap64 (6 : Int) = 6 := by kernel_rfl
 have hz7_ : wrap64 (7 : Int) = 7 := by kernel_rfl
 go_enter Tryd.func61, Tryd.ntmps61
 go_wp2
 refine wp_loop_rounds 2 ?_
 rw [rounds_succ]
 go_wp2
 refine start_ (n := 15) (S := fun w' => True) (ds := []) #[false, false, false, false, false, false, false, false, false, false, false, false, false, false, false] (by kernel_rfl) rfl rfl trivial (fun hHeld => ?_); refine with_tab tp7_ (fun HT_ => ?_)
 replace BK := Aside0.mk (blk_drew BK.out)
 replace HB := Aside0.mk (below_drew1 HB.out)
 generalize w.drew = w1 at BK HB ⊢
 refine yp_ ?_ 0 42
 refine yp_ ?_ 1 43
 refine yp_ ?_ 2 44
 refine yp_ ?_ 3 45
 refine yp_ ?_ 4 46
 refine yp_ ?_ 5 47
 refine yp_ ?_ 6 48
 refine yp_ ?_ 7 49
 refine yp_ (v := .int .u8 (48 + u % 10)) ?_ 8 50 (hy := sm_y Tryd.underlying9 rfl (by rfl) (by rfl) (by kernel_rfl) ?hd)
 case hd => simp only [u32_eq, sm_]; omega
 refine yp_ ?_ 9 51
 refine yp_ (v := .int .u8 (48 + u / 10 % 10)) ?_ 10 52 (hy := sm_y Tryd.underlying9 rfl (by rfl) (by rfl) (by kernel_rfl) ?hd)
 case hd => simp only [u32_eq, sm_]; omega
 refine yp_ ?_ 11 53
 have hc_ := zx_ (v := .int .u8 0) BK 7
 have hf_ := blk_frozen BK.out 7
 refine yo_ 12 none (fun K hK => ?_)
 refine skip_ (w1 := ?_) (by rfl) rfl ?_ ?_
 rotate_left
 ·go_simp
  rfl
 refine hK.out _ _ trivial (fun hHeld => ?_)
 clear hK K hc_ hf_
 replace BK := Aside0.mk (blk_put (cs' := #[.int .u8 0, .int .u8 0, .int .u8 0, .int .u8 0, .int .u8 0, .int .u8 0, .int .u8 0, .int .u8 (48 + u % 10), .int .u8 0, .int .u8 0, .int .u8 0, .int .u8 0, .int .u8 0, .int .u8 0, .int .u8 0, .int .u8 0, .int .u8 0, .int .u8 0, .int .u8 0, .int .u8 0, .int .u8 0, .int .u8 0, .int .u8 0, .int .u8 0]) BK.out 7 (.int .u8 (48 + u % 10)) rfl)
 replace HB := Aside0.mk (HB.out.setCell (p := ⟨g, 7, none⟩) (Nat.le_refl g) (.int .u8 (48 + u % 10)))
 generalize w1.setCell ⟨g, 7, none⟩ (.int .u8 (48 + u % 10)) = w2 at BK HB ⊢
 refine yp_ ?_ 13 54
 have hc_ := zx_ (v := .int .u8 0) BK 6
 have hf_ := blk_frozen BK.out 6
 refine yo_ 14 none (fun K hK => ?_)
 refine skip_ (w1 := ?_) (by rfl) rfl ?_ ?_
 rotate_left
 ·go_simp
  rfl
 refine hK.out _ _ trivial (fun hHeld => ?_)
 clear hK K hc_ hf_
 replace BK := Aside0.mk (blk_put (cs' := #[.int .u8 0, .int .u8 0, .int .u8 0, .int .u8 0, .int .u8 0, .int .u8 0, .int .u8 (48 + u / 10 % 10), .int .u8 (48 + u % 10), .int .u8 0, .int .u8 0, .int .u8 0, .int .u8 0, .int .u8 0, .int .u8 0, .int .u8 0, .int .u8 0, .int .u8 0, .int .u8 0, .int .u8 0, .int .u8 0, .int .u8 0, .int .u8 0, .int .u8 0, .int .u8 0]) BK.out 6 (.int .u8 (48 + u / 10 % 10)) rfl)
 replace HB := Aside0.mk (HB.out.setCell (p := ⟨g, 6, none⟩) (Nat.le_refl g) (.int .u8 (48 + u / 10 % 10)))
 generalize w2.setCell ⟨g, 6, none⟩ (.int .u8 (48 + u / 10 % 10)) = w3 at BK HB ⊢
 refine done_ (done_of HT_.out (by kernel_rfl)) ?_
 go_wp2
 refine start_ (n := 15) (S := fun w' => True) (ds := []) #[false, false, false, false, false, false, false, false, false, false, false, false, false, false, false] (by kernel_rfl) rfl rfl trivial (fun hHeld => ?_); refine with_tab tp8_ (fun HT_ => ?_)
 replace BK := Aside0.mk (blk_drew BK.out)
 replace HB := Aside0.mk (below_drew1 HB.out)
 generalize w3.drew = w4 at BK HB ⊢
 refine yp_ ?_ 0 55
 refine yp_ ?_ 1 56
 refine yp_ ?_ 2 57
 refine yp_ ?_ 3 58
 refine yp_ ?_ 4 59
 refine yp_ ?_ 5 60
 refine yp_ ?_ 6 61
 refine yp_ ?_ 7 62
 refine yp_ (v := .int .u8 (48 + u / 100 % 10)) ?_ 8 63 (hy := sm_y Tryd.underlying9 rfl (by rfl) (by rfl) (by kernel_rfl) ?hd)
 case hd => simp only [u32_eq, sm_]; omega
 refine yp_ ?_ 9 64
 refine yp_ (v := .int .u8 (48 + u / 1000 % 10)) ?_ 10 65 (hy := sm_y Tryd.underlying9 rfl (by rfl) (by rfl) (by kernel_rfl) ?hd)
 case hd => simp only [u32_eq, sm_]; omega
 refine yp_ ?_ 11 66
 have hc_ := zx_ (v := .int .u8 0) BK 5
 have hf_ := blk_frozen BK.out 5
 refine yo_ 12 none (fun K hK => ?_)
 refine skip_ (w1 := ?_) (by rfl) rfl ?_ ?_
 rotate_left
 ·go_simp
  rfl
 refine hK.out _ _ trivial (fun hHeld => ?_)
 clear hK K hc_ hf_
 replace BK := Aside0.mk (blk_put (cs' := #[.int .u8 0, .int .u8 0, .int .u8 0, .int .u8 0, .int .u8 0, .int .u8 (48 + u / 100 % 10), .int .u8 (48 + u / 10 % 10), .int .u8 (48 + u % 10), .int .u8 0, .int .u8 0, .int .u8 0, .int .u8 0, .int .u8 0, .int .u8 0, .int .u8 0, .int .u8 0, .int .u8 0, .int .u8 0, .int .u8 0, .int .u8 0, .int .u8 0, .int .u8 0, .int .u8 0, .int .u8 0]) BK.out 5 (.int .u8 (48 + u / 100 % 10)) rfl)
 replace HB := Aside0.mk (HB.out.setCell (p := ⟨g, 5, none⟩) (Nat.le_refl g) (.int .u8 (48 + u / 100 % 10)))
 generalize w4.setCell ⟨g, 5, none⟩ (.int .u8 (48 + u / 100 % 10)) = w5 at BK HB ⊢
 refine yp_ ?_ 13 67
 have hc_ := zx_ (v := .int .u8 0) BK 4
 have hf_ := blk_frozen BK.out 4
 refine yo_ 14 none (fun K hK => ?_)
 refine skip_ (w1 := ?_) (by rfl) rfl ?_ ?_
 rotate_left
 ·go_simp
  rfl
 refine hK.out _ _ trivial (fun hHeld => ?_)
 clear hK K hc_ hf_
 replace BK := Aside0.mk (blk_put (cs' := #[.int .u8 0, .int .u8 0, .int .u8 0, .int .u8 0, .int .u8 (48 + u / 1000 % 10), .int .u8 (48 + u / 100 % 10), .int .u8 (48 + u / 10 % 10), .int .u8 (48 + u % 10), .int .u8 0, .int .u8 0, .int .u8 0, .int .u8 0, .int .u8 0, .int .u8 0, .int .u8 0, .int .u8 0, .int .u8 0, .int .u8 0, .int .u8 0, .int .u8 0, .int .u8 0, .int .u8 0, .int .u8 0, .int .u8 0]) BK.out 4 (.int .u8 (48 + u / 1000 % 10)) rfl)
 replace HB := Aside0.mk (HB.out.setCell (p := ⟨g, 4, none⟩) (Nat.le_refl g) (.int .u8 (48 + u / 1000 % 10)))
 generalize w5.setCell ⟨g, 4, none⟩ (.int .u8 (48 + u / 1000 % 10)) = w6 at BK HB ⊢
 refine done_ (done_of HT_.out (by kernel_rfl)) ?_
 go_wp2
 refine start_ (n := 15) (S := fun w' => True) (ds := []) #[false, false, false, false, false, false, false, false, false, false, false, false, false, false, false] (by kernel_rfl) rfl rfl trivial (fun hHeld => ?_); refine with_tab tp9_ (fun HT_ => ?_)
 replace BK := Aside0.mk (blk_drew BK.out)
 replace HB := Aside0.mk (below_drew1 HB.out)
 generalize w6.drew = w7 at BK HB ⊢
 refine yp_ ?_ 0 68
 refine yp_ ?_ 1 69
 refine yp_ ?_ 2 70
 refine yp_ ?_ 3 71
 refine yp_ ?_ 4 72
 refine yp_ ?_ 5 73
 refine yp_ ?_ 6 74
 refine yp_ ?_ 7 75
 refine yp_ (v := .int .u8 (48 + u / 10000 % 10)) ?_ 8 76 (hy := sm_y Tryd.underlying9 rfl (by rfl) (by rfl) (by kernel_rfl) ?hd)
 case hd => simp only [u32_eq, sm_]; omega
 refine yp_ ?_ 9 77
 refine yp_ (v := .int .u8 (48 + u / 100000 % 10)) ?_ 10 78 (hy := sm_y Tryd.underlying9 rfl (by rfl) (by rfl) (by kernel_rfl) ?hd)
 case hd => simp only [u32_eq, sm_]; omega
 refine yp_ ?_ 11 79
 have hc_ := zx_ (v := .int .u8 0) BK 3
 have hf_ := blk_frozen BK.out 3
 refine yo_ 12 none (fun K hK => ?_)
 refine skip_ (w1 := ?_) (by rfl) rfl ?_ ?_
 rotate_left
 ·go_simp
  rfl
 refine hK.out _ _ trivial (fun hHeld => ?_)
 clear hK K hc_ hf_
 replace BK := Aside0.mk (blk_put (cs' := #[.int .u8 0, .int .u8 0, .int .u8 0, .int .u8 (48 + u / 10000 % 10), .int .u8 (48 + u / 1000 % 10), .int .u8 (48 + u / 100 % 10), .int .u8 (48 + u / 10 % 10), .int .u8 (48 + u % 10), .int .u8 0, .int .u8 0, .int .u8 0, .int .u8 0, .int .u8 0, .int .u8 0, .int .u8 0, .int .u8 0, .int .u8 0, .int .u8 0, .int .u8 0, .int .u8 0, .int .u8 0, .int .u8 0, .int .u8 0, .int .u8 0]) BK.out 3 (.int .u8 (48 + u / 10000 % 10)) rfl)
 replace HB := Aside0.mk (HB.out.setCell (p := ⟨g, 3, none⟩) (Nat.le_refl g) (.int .u8 (48 + u / 10000 % 10)))
 generalize w7.setCell ⟨g, 3, none⟩ (.int .u8 (48 + u / 10000 % 10)) = w8 at BK HB ⊢
 refine yp_ ?_ 13 80
 have hc_ := zx_ (v := .int .u8 0) BK 2
 have hf_ := blk_frozen BK.out 2
 refine yo_ 14 none (fun K hK => ?_)
 refine skip_ (w1 := ?_) (by rfl) rfl ?_ ?_
 rotate_left
 ·go_simp
  rfl
 refine hK.out _ _ trivial (fun hHeld => ?_)
 clear hK K hc_ hf_
 replace BK := Aside0.mk (blk_put (cs' := #[.int .u8 0, .int .u8 0, .int .u8 (48 + u / 100000 % 10), .int .u8 (48 + u / 10000 % 10), .int .u8 (48 + u / 1000 % 10), .int .u8 (48 + u / 100 % 10), .int .u8 (48 + u / 10 % 10), .int .u8 (48 + u % 10), .int .u8 0, .int .u8 0, .int .u8 0, .int .u8 0, .int .u8 0, .int .u8 0, .int .u8 0, .int .u8 0, .int .u8 0, .int .u8 0, .int .u8 0, .int .u8 0, .int .u8 0, .int .u8 0, .int .u8 0, .int .u8 0]) BK.out 2 (.int .u8 (48 + u / 100000 % 10)) rfl)
 replace HB := Aside0.mk (HB.out.setCell (p := ⟨g, 2, none⟩) (Nat.le_refl g) (.int .u8 (48 + u / 100000 % 10)))
 generalize w8.setCell ⟨g, 2, none⟩ (.int .u8 (48 + u / 100000 % 10)) = w9 at BK HB ⊢
 refine done_ (done_of HT_.out (by kernel_rfl)) ?_
 go_wp2
 refine start_ (n := 15) (S := fun w' => True) (ds := []) #[false, false, false, false, false, false, false, false, false, false, false, false, false, false, false] (by kernel_rfl) rfl rfl trivial (fun hHeld => ?_); refine with_tab tp10_ (fun HT_ => ?_)
 replace BK := Aside0.mk (blk_drew BK.out)
 replace HB := Aside0.mk (below_drew1 HB.out)
 generalize w9.drew = w10 at BK HB ⊢
 refine yp_ ?_ 0 81
 refine yp_ ?_ 1 82
 refine yp_ ?_ 2 83
 refine yp_ ?_ 3 84
 refine yp_ ?_ 4 85
 refine yp_ ?_ 5 86
 refine yp_ ?_ 6 87
 refine yp_ ?_ 7 88
 refine yp_ (v := .int .u8 (48 + u / 1000000 % 10)) ?_ 8 89 (hy := sm_y Tryd.underlying9 rfl (by rfl) (by rfl) (by kernel_rfl) ?hd)
 case hd => simp only [u32_eq, sm_]; omega
 refine yp_ ?_ 9 90
 refine yp_ (v := .int .u8 (48 + u / 10000000 % 10)) ?_ 10 91 (hy := sm_y Tryd.underlying9 rfl (by rfl) (by rfl) (by kernel_rfl) ?hd)
 case hd => simp only [u32_eq, sm_]; omega
 refine yp_ ?_ 11 92
 have hc_ := zx_ (v := .int .u8 0) BK 1
 have hf_ := blk_frozen BK.out 1
 refine yo_ 12 none (fun K hK => ?_)
 refine skip_ (w1 := ?_) (by rfl) rfl ?_ ?_
 rotate_left
 ·go_simp
  rfl
 refine hK.out _ _ trivial (fun hHeld => ?_)
 clear hK K hc_ hf_
 replace BK := Aside0.mk (blk_put (cs' := #[.int .u8 0, .int .u8 (48 + u / 1000000 % 10), .int .u8 (48 + u / 100000 % 10), .int .u8 (48 + u / 10000 % 10), .int .u8 (48 + u / 1000 % 10), .int .u8 (48 + u / 100 % 10), .int .u8 (48 + u / 10 % 10), .int .u8 (48 + u % 10), .int .u8 0, .int .u8 0, .int .u8 0, .int .u8 0, .int .u8 0, .int .u8 0, .int .u8 0, .int .u8 0, .int .u8 0, .int .u8 0, .int .u8 0, .int .u8 0, .int .u8 0, .int .u8 0, .int .u8 0, .int .u8 0]) BK.out 1 (.int .u8 (48 + u / 1000000 % 10)) rfl)
 replace HB := Aside0.mk (HB.out.setCell (p := ⟨g, 1, none⟩) (Nat.le_refl g) (.int .u8 (48 + u / 1000000 % 10)))
 generalize w10.setCell ⟨g, 1, none⟩ (.int .u8 (48 + u / 1000000 % 10)) = w11 at BK HB ⊢
 refine yp_ ?_ 13 93
 have hc_ := zx_ (v := .int .u8 0) BK 0
 have hf_ := blk_frozen BK.out 0
 refine yo_ 14 none (fun K hK => ?_)
 refine skip_ (w1 := ?_) (by rfl) rfl ?_ ?_
 rotate_left
 ·go_simp
  rfl
 refine hK.out _ _ trivial (fun hHeld => ?_)
 clear hK K hc_ hf_
 replace BK := Aside0.mk (blk_put (cs' := #[.int .u8 (48 + u / 10000000 % 10), .int .u8 (48 + u / 1000000 % 10), .int .u8 (48 + u / 100000 % 10), .int .u8 (48 + u / 10000 % 10), .int .u8 (48 + u / 1000 % 10), .int .u8 (48 + u / 100 % 10), .int .u8 (48 + u / 10 % 10), .int .u8 (48 + u % 10), .int .u8 0, .int .u8 0, .int .u8 0, .int .u8 0, .int .u8 0, .int .u8 0, .int .u8 0, .int .u8 0, .int .u8 0, .int .u8 0, .int .u8 0, .int .u8 0, .int .u8 0, .int .u8 0, .int .u8 0, .int .u8 0]) BK.out 0 (.int .u8 (48 + u / 10000000 % 10)) rfl)
 replace HB := Aside0.mk (HB.out.setCell (p := ⟨g, 0, none⟩) (Nat.le_refl g) (.int .u8 (48 + u / 10000000 % 10)))
 generalize w11.setCell ⟨g, 0, none⟩ (.int .u8 (48 + u / 10000000 % 10)) = w12 at BK HB ⊢
 refine done_ (done_of HT_.out (by kernel_rfl)) ?_
 skip
 go_wp2
 rw [rounds_succ]
 go_wp2
 refine bodyPost_end (results_none rfl _ _ _) rfl ?_
 exact ⟨rfl, BK.out, HB.out⟩
set_option maxHeartbeats 8000000 in
set_option maxRecDepth 100000 in
theorem fmt9.calls (g : Nat) (u : Int) (w : World) (hb : w.heap[g]? = some (.cells #[.int .u8 0, .int .u8 0, .int .u8 0, .int .u8 0, .int .u8 0, .int .u8 0, .int .u8 0, .int .u8 0, .int .u8 0, .int .u8 0, .int .u8 0, .int .u8 0, .int .u8 0, .int .u8 0, .int .u8 0, .int .u8 0, .int .u8 0, .int .u8 0, .int .u8 0, .int .u8 0, .int .u8 0, .int .u8 0, .int .u8 0, .int .u8 0] 77 (0, 0))) (u0 : 0 ≤ u) (u1 : u < 1000000000) :
  Calls Tryd.prog 61 #[.slice (some ⟨g, 0, none⟩) 9 24, .int .u64 u] w fun e w' => e = .returned (.tuple #[]) ∧ w'.heap[g]? = some (.cells #[.int .u8 (48 + u / 100000000 % 10), .int .u8 (48 + u / 10000000 % 10), .int .u8 (48 + u / 1000000 % 10), .int .u8 (48 + u / 100000 % 10), .int .u8 (48 + u / 10000 % 10), .int .u8 (48 + u / 1000 % 10), .int .u8 (48 + u / 100 % 10), .int .u8 (48 + u / 10 % 10), .int .u8 (48 + u % 10), .int .u8 0, .int .u8 0, .int .u8 0, .int .u8 0, .int .u8 0, .int .u8 0, .int .u8 0, .int .u8 0, .int .u8 0, .int .u8 0, .int .u8 0, .int .u8 0, .int .u8 0, .int .u8 0, .int .u8 0] 77 (0, 0)) ∧ Below g w w' := by
 have BK := Aside0.mk hb
 have HB := Aside0.mk (Below.refl g w)
 clear hb
 have hz0_ : wrap64 (0 : Int) = 0 := by kernel_rfl
 have hz1_ : wrap64 (1 : Int) = 1 := by kernel_rfl
 have hz2_ : wrap64 (2 : Int) = 2 := by kernel_rfl
 have hz3_ : wrap64 (3 : Int) = 3 := by kernel_rfl
 have hz4_ : wrap64 (4 : Int) = 4 := by kernel_rfl
 have hz5_ : wrap64 (5 : Int) = 5 := by kernel_rfl
 have hz6_ : wrap64 (6 : Int) = 6 := by kernel_rfl
 have hz7_ : wrap64 (7 : Int) = 7 := by kernel_rfl
 have hz8_ : wrap64 (8 : Int) = 8 := by kernel_rfl
 go_enter Tryd.func61, Tryd.ntmps61
 go_wp2
 refine wp_loop_rounds 2 ?_
 rw [rounds_succ]
 go_wp2
 refine start_ (n := 15) (S := fun w' => True) (ds := []) #[false, false, false, false, false, false, false, false, false, false, false, false, false, false, false] (by kernel_rfl) rfl rfl trivial (fun hHeld => ?_); refine with_tab tp7_ (fun HT_ => ?_)
 replace BK := Aside0.mk (blk_drew BK.out)
 replace HB := Aside0.mk (below_drew1 HB.out)
 generalize w.drew = w1 at BK HB ⊢
 refine yp_ ?_ 0 42
 refine yp_ ?_ 1 43
 refine yp_ ?_ 2 44
 refine yp_ ?_ 3 45
 refine yp_ ?_ 4 46
 refine yp_ ?_ 5 47
 refine yp_ ?_ 6 48
 refine yp_ ?_ 7 49
 refine yp_ (v := .int .u8 (48 + u % 10)) ?_ 8 50 (hy := sm_y Tryd.underlying9 rfl (by rfl) (by rfl) (by kernel_rfl) ?hd)
 case hd => simp only [u32_eq, sm_]; omega
 refine yp_ ?_ 9 51
 refine yp_ (v := .int .u8 (48 + u / 10 % 10)) ?_ 10 52 (hy := sm_y Tryd.underlying9 rfl (by rfl) (by rfl) (by kernel_rfl) ?hd)
 case hd => simp only [u32_eq, sm_]; omega
 refine yp_ ?_ 11 53
 have hc_ := zx_ (v := .int .u8 0) BK 8
 have hf_ := blk_frozen BK.out 8
 refine yo_ 12 none (fun K hK => ?_)
 refine skip_ (w1 := ?_) (by rfl) rfl ?_ ?_
 rotate_left
 ·go_simp
  rfl
 refine hK.out _ _ trivial (fun hHeld => ?_)
 clear hK K hc_ hf_
 replace BK := Aside0.mk (blk_put (cs' := #[.int .u8 0, .int .u8 0, .int .u8 0, .int .u8 0, .int .u8 0, .int .u8 0, .int .u8 0, .int .u8 0, .int .u8 (48 + u % 10), .int .u8 0, .int .u8 0, .int .u8 0, .int .u8 0, .int .u8 0, .int .u8 0, .int .u8 0, .int .u8 0, .int .u8 0, .int .u8 0, .int .u8 0, .int .u8 0, .int .u8 0, .int .u8 0, .int .u8 0]) BK.out 8 (.int .u8 (48 + u % 10)) rfl)
 replace HB := Aside0.mk (HB.out.setCell (p := ⟨g, 8, none⟩) (Nat.le_refl g) (.int .u8 (48 + u % 10)))
 generalize w1.setCell ⟨g, 8, none⟩ (.int .u8 (48 + u % 10)) = w2 at BK HB ⊢
 refine yp_ ?_ 13 54
 have hc_ := zx_ (v := .int .u8 0) BK 7
 have hf_ := blk_frozen BK.out 7
 refine yo_ 14 none (fun K hK => ?_)
 refine skip_ (w1 := ?_) (by rfl) rfl ?_ ?_
 rotate_left
 ·go_simp
  rfl
 refine hK.out _ _ trivial (fun hHeld => ?_)
 clear hK K hc_ hf_
 replace BK := Aside0.mk (blk_put (cs' := #[.int .u8 0, .int .u8 0, .int .u8 0, .int .u8 0, .int .u8 0, .int .u8 0, .int .u8 0, .int .u8 (48 + u / 10 % 10), .int .u8 (48 + u % 10), .int .u8 0, .int .u8 0, .int .u8 0, .int .u8 0, .int .u8 0, .int .u8 0, .int .u8 0, .int .u8 0, .int .u8 0, .int .u8 0, .int .u8 0, .int .u8 0, .int .u8 0, .int .u8 0, .int .u8 0]) BK.out 7 (.int .u8 (48 + u / 10 % 10)) rfl)
 replace HB := Aside0.mk (HB.out.setCell (p := ⟨g, 7, none⟩) (Nat.le_refl g) (.int .u8 (48 + u / 10 % 10)))
 generalize w2.setCell ⟨g, 7, none⟩ (.int .u8 (48 + u / 10 % 10)) = w3 at BK HB ⊢
 refine done_ (done_of HT_.out (by kernel_rfl)) ?_
 go_wp2
 refine start_ (n := 15) (S := fun w' => True) (ds := []) #[false, false, false, false, false, false, false, false, false, false, false, false, false, false, false] (by kernel_rfl) rfl rfl trivial (fun hHeld => ?_); refine with_tab tp8_ (fun HT_ => ?_)
 replace BK := Aside0.mk (blk_drew BK.out)
 replace HB := Aside0.mk (below_drew1 HB.out)
 generalize w3.drew = w4 at BK HB ⊢
 refine yp_ ?_ 0 55
 refine yp_ ?_ 1 56
 refine yp_ ?_ 2 57
 refine yp_ ?_ 3 58
 refine yp_ ?_ 4 59
 refine yp_ ?_ 5 60
 refine yp_ ?_ 6 61
 refine yp_ ?_ 7 62
 refine yp_ (v := .int .u8 (48 + u / 100 % 10)) ?_ 8 63 (hy := sm_y Tryd.underlying9 rfl (by rfl) (by rfl) (by kernel_rfl) ?hd)
 case hd => simp only [u32_eq, sm_]; omega
 refine yp_ ?_ 9 64
 refine yp_ (v := .int .u8 (48 + u / 1000 % 10)) ?_ 10 65 (hy := sm_y Tryd.underlying9 rfl (by rfl) (by rfl) (by kernel_rfl) ?hd)
 case hd => simp only [u32_eq, sm_]; omega
 refine yp_ ?_ 11 66
 have hc_ := zx_ (v := .int .u8 0) BK 6
 have hf_ := blk_frozen BK.out 6
 refine yo_ 12 none (fun K hK => ?_)
 refine skip_ (w1 := ?_) (by rfl) rfl ?_ ?_
 rotate_left
 ·go_simp
  rfl
 refine hK.out _ _ trivial (fun hHeld => ?_)
 clear hK K hc_ hf_
 replace BK := Aside0.mk (blk_put (cs' := #[.int .u8 0, .int .u8 0, .int .u8 0, .int .u8 0, .int .u8 0, .int .u8 0, .int .u8 (48 + u / 100 % 10), .int .u8 (48 + u / 10 % 10), .int .u8 (48 + u % 10), .int .u8 0, .int .u8 0, .int .u8 0, .int .u8 0, .int .u8 0, .int .u8 0, .int .u8 0, .int .u8 0, .int .u8 0, .int .u8 0, .int .u8 0, .int .u8 0, .int .u8 0, .int .u8 0, .int .u8 0]) BK.out 6 (.int .u8 (48 + u / 100 % 10)) rfl)
 replace HB := Aside0.mk (HB.out.setCell (p := ⟨g, 6, none⟩) (Nat.le_refl g) (.int .u8 (48 + u / 100 % 10)))
 generalize w4.setCell ⟨g, 6, none⟩ (.int .u8 (48 + u / 100 % 10)) = w5 at BK HB ⊢
 refine yp_ ?_ 13 67
 have hc_ := zx_ (v := .int .u8 0) BK 5
 have hf_ := blk_frozen BK.out 5
 refine yo_ 14 none (fun K hK => ?_)
 refine skip_ (w1 := ?_) (by rfl) rfl ?_ ?_
 rotate_left
 ·go_simp
  rfl
 refine hK.out _ _ trivial (fun hHeld => ?_)
 clear hK K hc_ hf_
 replace BK := Aside0.mk (blk_put (cs' := #[.int .u8 0, .int .u8 0, .int .u8 0, .int .u8 0, .int .u8 0, .int .u8 (48 + u / 1000 % 10), .int .u8 (48 + u / 100 % 10), .int .u8 (48 + u / 10 % 10), .int .u8 (48 + u % 10), .int .u8 0, .int .u8 0, .int .u8 0, .int .u8 0, .int .u8 0, .int .u8 0, .int .u8 0, .int .u8 0, .int .u8 0, .int .u8 0, .int .u8 0, .int .u8 0, .int .u8 0, .int .u8 0, .int .u8 0]) BK.out 5 (.int .u8 (48 + u / 1000 % 10)) rfl)
 replace HB := Aside0.mk (HB.out.setCell (p := ⟨g, 5, none⟩) (Nat.le_refl g) (.int .u8 (48 + u / 1000 % 10)))
 generalize w5.setCell ⟨g, 5, none⟩ (.int .u8 (48 + u / 1000 % 10)) = w6 at BK HB ⊢
 refine done_ (done_of HT_.out (by kernel_rfl)) ?_
 go_wp2
 refine start_ (n := 15) (S := fun w' => True) (ds := []) #[false, false, false, false, false, false, false, false, false, false, false, false, false, false, false] (by kernel_rfl) rfl rfl trivial (fun hHeld => ?_); refine with_tab tp9_ (fun HT_ => ?_)
 replace BK := Aside0.mk (blk_drew BK.out)
 replace HB := Aside0.mk (below_drew1 HB.out)
 generalize w6.drew = w7 at BK HB ⊢
 refine yp_ ?_ 0 68
 refine yp_ ?_ 1 69
 refine yp_ ?_ 2 70
 refine yp_ ?_ 3 71
 refine yp_ ?_ 4 72
 refine yp_ ?_ 5 73
 refine yp_ ?_ 6 74
 refine yp_ ?_ 7 75
 refine yp_ (v := .int .u8 (48 + u / 10000 % 10)) ?_ 8 76 (hy := sm_y Tryd.underlying9 rfl (by rfl) (by rfl) (by kernel_rfl) ?hd)
 case hd => simp only [u32_eq, sm_]; omega
 refine yp_ ?_ 9 77
 refine yp_ (v := .int .u8 (48 + u / 100000 % 10)) ?_ 10 78 (hy := sm_y Tryd.underlying9 rfl (by rfl) (by rfl) (by kernel_rfl) ?hd)
 case hd => simp only [u32_eq, sm_]; omega
 refine yp_ ?_ 11 79
 have hc_ := zx_ (v := .int .u8 0) BK 4
 have hf_ := blk_frozen BK.out 4
 refine yo_ 12 none (fun K hK => ?_)
 refine skip_ (w1 := ?_) (by rfl) rfl ?_ ?_
 rotate_left
 ·go_simp
  rfl
 refine hK.out _ _ trivial (fun hHeld => ?_)
 clear hK K hc_ hf_
 replace BK := Aside0.mk (blk_put (cs' := #[.int .u8 0, .int .u8 0, .int .u8 0, .int .u8 0, .int .u8 (48 + u / 10000 % 10), .int .u8 (48 + u / 1000 % 10), .int .u8 (48 + u / 100 % 10), .int .u8 (48 + u / 10 % 10), .int .u8 (48 + u % 10), .int .u8 0, .int .u8 0, .int .u8 0, .int .u8 0, .int .u8 0, .int .u8 0, .int .u8 0, .int .u8 0, .int .u8 0, .int .u8 0, .int .u8 0, .int .u8 0, .int .u8 0, .int .u8 0, .int .u8 0]) BK.out 4 (.int .u8 (48 + u / 10000 % 10)) rfl)
 replace HB := Aside0.mk (HB.out.setCell (p := ⟨g, 4, none⟩) (Nat.le_refl g) (.int .u8 (48 + u / 10000 % 10)))
 generalize w7.setCell ⟨g, 4, none⟩ (.int .u8 (48 + u / 10000 % 10)) = w8 at BK HB ⊢
 refine yp_ ?_ 13 80
 have hc_ := zx_ (v := .int .u8 0) BK 3
 have hf_ := blk_frozen BK.out 3
 refine yo_ 14 none (fun K hK => ?_)
 refine skip_ (w1 := ?_) (by rfl) rfl ?_ ?_
 rotate_left
 ·go_simp
  rfl
 refine hK.out _ _ trivial (fun hHeld => ?_)
 clear hK K hc_ hf_
 replace BK := Aside0.mk (blk_put (cs' := #[.int .u8 0, .int .u8 0, .int .u8 0, .int .u8 (48 + u / 100000 % 10), .int .u8 (48 + u / 10000 % 10), .int .u8 (48 + u / 1000 % 10), .int .u8 (48 + u / 100 % 10), .int .u8 (48 + u / 10 % 10), .int .u8 (48 + u % 10), .int .u8 0, .int .u8 0, .int .u8 0, .int .u8 0, .int .u8 0, .int .u8 0, .int .u8 0, .int .u8 0, .int .u8 0, .int .u8 0, .int .u8 0, .int .u8 0, .int .u8 0, .int .u8 0, .int .u8 0]) BK.out 3 (.int .u8 (48 + u / 100000 % 10)) rfl)
 replace HB := Aside0.mk (HB.out.setCell (p := ⟨g, 3, none⟩) (Nat.le_refl g) (.int .u8 (48 + u / 100000 % 10)))
 generalize w8.setCell ⟨g, 3, none⟩ (.int .u8 (48 + u / 100000 % 10)) = w9 at BK HB ⊢
 refine done_ (done_of HT_.out (by kernel_rfl)) ?_
 go_wp2
 refine start_ (n := 15) (S := fun w' => True) (ds := []) #[false, false, false, false, false, false, false, false, false, false, false, false, false, false, false] (by kernel_rfl) rfl rfl trivial (fun hHeld => ?_); refine with_tab tp10_ (fun HT_ => ?_)
 replace BK := Aside0.mk (blk_drew BK.out)
 replace HB := Aside0.mk (below_drew1 HB.out)
 generalize w9.drew = w10 at BK HB ⊢
 refine yp_ ?_ 0 81
 refine yp_ ?_ 1 82
 refine yp_ ?_ 2 83
 refine yp_ ?_ 3 84
 refine yp_ ?_ 4 85
 refine yp_ ?_ 5 86
 refine yp_ ?_ 6 87
 refine yp_ ?_ 7 88
 refine yp_ (v := .int .u8 (48 + u / 1000000 % 10)) ?_ 8 89 (hy := sm_y Tryd.underlying9 rfl (by rfl) (by rfl) (by kernel_rfl) ?hd)
 case hd => simp only [u32_eq, sm_]; omega
 refine yp_ ?_ 9 90
 refine yp_ (v := .int .u8 (48 + u / 10000000 % 10)) ?_ 10 91 (hy := sm_y Tryd.underlying9 rfl (by rfl) (by rfl) (by kernel_rfl) ?hd)
 case hd => simp only [u32_eq, sm_]; omega
 refine yp_ ?_ 11 92
 have hc_ := zx_ (v := .int .u8 0) BK 2
 have hf_ := blk_frozen BK.out 2
 refine yo_ 12 none (fun K hK => ?_)
 refine skip_ (w1 := ?_) (by rfl) rfl ?_ ?_
 rotate_left
 ·go_simp
  rfl
 refine hK.out _ _ trivial (fun hHeld => ?_)
 clear hK K hc_ hf_
 replace BK := Aside0.mk (blk_put (cs' := #[.int .u8 0, .int .u8 0, .int .u8 (48 + u / 1000000 % 10), .int .u8 (48 + u / 100000 % 10), .int .u8 (48 + u / 10000 % 10), .int .u8 (48 + u / 1000 % 10), .int .u8 (48 + u / 100 % 10), .int .u8 (48 + u / 10 % 10), .int .u8 (48 + u % 10), .int .u8 0, .int .u8 0, .int .u8 0, .int .u8 0, .int .u8 0, .int .u8 0, .int .u8 0, .int .u8 0, .int .u8 0, .int .u8 0, .int .u8 0, .int .u8 0, .int .u8 0, .int .u8 0, .int .u8 0]) BK.out 2 (.int .u8 (48 + u / 1000000 % 10)) rfl)
 replace HB := Aside0.mk (HB.out.setCell (p := ⟨g, 2, none⟩) (Nat.le_refl g) (.int .u8 (48 + u / 1000000 % 10)))
 generalize w10.setCell ⟨g, 2, none⟩ (.int .u8 (48 + u / 1000000 % 10)) = w11 at BK HB ⊢
 refine yp_ ?_ 13 93
 have hc_ := zx_ (v := .int .u8 0) BK 1
 have hf_ := blk_frozen BK.out 1
 refine yo_ 14 none (fun K hK => ?_)
 refine skip_ (w1 := ?_) (by rfl) rfl ?_ ?_
 rotate_left
 ·go_simp
  rfl
 refine hK.out _ _ trivial (fun hHeld => ?_)
 clear hK K hc_ hf_
 replace BK := Aside0.mk (blk_put (cs' := #[.int .u8 0, .int .u8 (48 + u / 10000000 % 10), .int .u8 (48 + u / 1000000 % 10), .int .u8 (48 + u / 100000 % 10), .int .u8 (48 + u / 10000 % 10), .int .u8 (48 + u / 1000 % 10), .int .u8 (48 + u / 100 % 10), .int .u8 (48 + u / 10 % 10), .int .u8 (48 + u % 10), .int .u8 0, .int .u8 0, .int .u8 0, .int .u8 0, .int .u8 0, .int .u8 0, .int .u8 0, .int .u8 0, .int .u8 0, .int .u8 0, .int .u8 0, .int .u8 0, .int .u8 0, .int .u8 0, .int .u8 0]) BK.out 1 (.int .u8 (48 + u / 10000000 % 10)) rfl)
 replace HB := Aside0.mk (HB.out.setCell (p := ⟨g, 1, none⟩) (Nat.le_refl g) (.int .u8 (48 + u / 10000000 % 10)))
 generalize w11.setCell ⟨g, 1, none⟩ (.int .u8 (48 + u / 10000000 % 10)) = w12 at BK HB ⊢
 refine done_ (done_of HT_.out (by kernel_rfl)) ?_
 skip
 go_wp2
 rw [rounds_succ]
 have hc_ := zx_ (v := .int .u8 0) BK 0
 have hf_ := blk_frozen BK.out 0
 go_wp2
 rw [show (48 + u / 100000000 : Int) = 48 + u / 100000000 % 10 by omega]
 replace BK := Aside0.mk (blk_put (cs' := #[.int .u8 (48 + u / 100000000 % 10), .int .u8 (48 + u / 10000000 % 10), .int .u8 (48 + u / 1000000 % 10), .int .u8 (48 + u / 100000 % 10), .int .u8 (48 + u / 10000 % 10), .int .u8 (48 + u / 1000 % 10), .int .u8 (48 + u / 100 % 10), .int .u8 (48 + u / 10 % 10), .int .u8 (48 + u % 10), .int .u8 0, .int .u8 0, .int .u8 0, .int .u8 0, .int .u8 0, .int .u8 0, .int .u8 0, .int .u8 0, .int .u8 0, .int .u8 0, .int .u8 0, .int .u8 0, .int .u8 0, .int .u8 0, .int .u8 0]) BK.out 0 (.int .u8 (48 + u / 100000000 % 10)) rfl)
 replace HB := Aside0.mk (HB.out.setCell (p := ⟨g, 0, none⟩) (Nat.le_refl g) (.int .u8 (48 + u / 100000000 % 10)))
 refine bodyPost_end (results_none rfl _ _ _) rfl ?_
 exact ⟨rfl, BK.out, HB.out⟩
set_option maxHeartbeats 8000000 in
set_option maxRecDepth 100000 in
theorem fmt10.calls (g : Nat) (u : Int) (w : World) (hb : w.heap[g]? = some (.cells #[.int .u8 0, .int .u8 0, .int .u8 0, .int .u8 0, .int .u8 0, .int .u8 0, .int .u8 0, .int .u8 0, .int .u8 0, .int .u8 0, .int .u8 0, .int .u8 0, .int .u8 0, .int .u8 0, .int .u8 0, .int .u8 0, .int .u8 0, .int .u8 0, .int .u8 0, .int .u8 0, .int .u8 0, .int .u8 0, .int .u8 0, .int .u8 0] 77 (0, 0))) (u0 : 0 ≤ u) (u1 : u < 10000000000) :
  Calls Tryd.prog 61 #[.slice (some ⟨g, 0, none⟩) 10 24, .int .u64 u] w fun e w' => e = .returned (.tuple #[]) ∧ w'.heap[g]? = some (.cells #[.int .u8 (48 + u / 1000000000 % 10), .int .u8 (48 + u / 100000000 % 10), .int .u8 (48 + u / 10000000 % 10), .int .u8 (48 + u / 1000000 % 10), .int .u8 (48 + u / 100000 % 10), .int .u8 (48 + u / 10000 % 10), .int .u8 (48 + u / 1000 % 10), .int .u8 (48 + u / 100 % 10), .int .u8 (48 + u / 10 % 10), .int .u8 (48 + u % 10), .int .u8 0, .int .u8 0, .int .u8 0, .int .u8 0, .int .u8 0, .int .u8 0, .int .u8 0, .int .u8 0, .int .u8 0, .int .u8 0, .int .u8 0, .int .u8 0, .int .u8 0, .int .u8 0] 77 (0, 0)) ∧ Below g w w' := by
 have BK := Aside0.mk hb
 have HB := Aside0.mk (Below.refl g w)
 clear hb
 have hz0_ : wrap64 (0 : Int) = 0 := by kernel_rfl
 have hz1_ : wrap64 (1 : Int) = 1 := by kernel_rfl
 have hz2_ : wrap64 (2 : Int) = 2 := by kernel_rfl
 have hz3_ : wrap64 (3 : Int) = 3 := by kernel_rfl
 have hz4_ : wrap64 (4 : Int) = 4 := by kernel_rfl
 have hz5_ : wrap64 (5 : Int) = 5 := by kernel_rfl
 have hz6_ : wrap64 (6 : Int) = 6 := by kernel_rfl
 have hz7_ : wrap64 (7 : Int) = 7 := by kernel_rfl
 have hz8_ : wrap64 (8 : Int) = 8 := by kernel_rfl
 have hz9_ : wrap64 (9 : Int) = 9 := by kernel_rfl
 go_enter Tryd.func61, Tryd.ntmps61
 go_wp2
 refine wp_loop_rounds 2 ?_
 rw [rounds_succ]
 go_wp2
 refine start_ (n := 15) (S := fun w' => True) (ds := []) #[false, false, false, false, false, false, false, false, false, false, false, false, false, false, false] (by kernel_rfl) rfl rfl trivial (fun hHeld => ?_); refine with_tab tp7_ (fun HT_ => ?_)
 replace BK := Aside0.mk (blk_drew BK.out)
 replace HB := Aside0.mk (below_drew1 HB.out)
 generalize w.drew = w1 at BK HB ⊢
 refine yp_ ?_ 0 42
 refine yp_ ?_ 1 43
 refine yp_ ?_ 2 44
 refine yp_ ?_ 3 45
 refine yp_ ?_ 4 46
 refine yp_ ?_ 5 47
 refine yp_ ?_ 6 48
 refine yp_ ?_ 7 49
 refine yp_ (v := .int .u8 (48 + u % 10)) ?_ 8 50 (hy := sm_y Tryd.underlying9 rfl (by rfl) (by rfl) (by kernel_rfl) ?hd)
 case hd => simp only [u32_eq, sm_]; omega
 refine yp_ ?_ 9 51
 refine yp_ (v := .int .u8 (48 + u / 10 % 10)) ?_ 10 52 (hy := sm_y Tryd.underlying9 rfl (by rfl) (by rfl) (by kernel_rfl) ?hd)
 case hd => simp only [u32_eq, sm_]; omega
 refine yp_ ?_ 11 53
 have hc_ := zx_ (v := .int .u8 0) BK 9
 have hf_ := blk_frozen BK.out 9
 refine yo_ 12 none (fun K hK => ?_)
 refine skip_ (w1 := ?_) (by rfl) rfl ?_ ?_
 rotate_left
 ·go_simp
  rfl
 refine hK.out _ _ trivial (fun hHeld => ?_)
 clear hK K hc_ hf_
 replace BK := Aside0.mk (blk_put (cs' := #[.int .u8 0, .int .u8 0, .int .u8 0, .int .u8 0, .int .u8 0, .int .u8 0, .int .u8 0, .int .u8 0, .int .u8 0, .int .u8 (48 + u % 10), .int .u8 0, .int .u8 0, .int .u8 0, .int .u8 0, .int .u8 0, .int .u8 0, .int .u8 0, .int .u8 0, .int .u8 0, .int .u8 0, .int .u8 0, .int .u8 0, .int .u8 0, .int .u8 0]) BK.out 9 (.int .u8 (48 + u % 10)) rfl)
 replace HB := Aside0.mk (HB.out.setCell (p := ⟨g, 9, none⟩) (Nat.le_refl g) (.int .u8 (48 + u % 10)))
 generalize w1.setCell ⟨g, 9, none⟩ (.int .u8 (48 + u % 10)) = w2 at BK HB ⊢
 refine yp_ ?_ 13 54
 have hc_ := zx_ (v := .int .u8 0) BK 8
 have hf_ := blk_frozen BK.out 8
 refine yo_ 14 none (fun K hK => ?_)
 refine skip_ (w1 := ?_) (by rfl) rfl ?_ ?_
 rotate_left
 ·go_simp
  rfl
 refine hK.out _ _ trivial (fun hHeld => ?_)
 clear hK K hc_ hf_
 replace BK := Aside0.mk (blk_put (cs' := #[.int .u8 0, .int .u8 0, .int .u8 0, .int .u8 0, .int .u8 0, .int .u8 0, .int .u8 0, .int .u8 0, .int .u8 (48 + u / 10 % 10), .int .u8 (48 + u % 10), .int .u8 0, .int .u8 0, .int .u8 0, .int .u8 0, .int .u8 0, .int .u8 0, .int .u8 0, .int .u8 0, .int .u8 0, .int .u8 0, .int .u8 0, .int .u8 0, .int .u8 0, .int .u8 0]) BK.out 8 (.int .u8 (48 + u / 10 % 10)) rfl)
 replace HB := Aside0.mk (HB.out.setCell (p := ⟨g, 8, none⟩) (Nat.le_refl g) (.int .u8 (48 + u / 10 % 10)))
 generalize w2.setCell ⟨g, 8, none⟩ (.int .u8 (48 + u / 10 % 10)) = w3 at BK HB ⊢
 refine done_ (done_of HT_.out (by kernel_rfl)) ?_
 go_wp2
 refine start_ (n := 15) (S := fun w' => True) (ds := []) #[false, false, false, false, false, false, false, false, false, false, false, false, false, false, false] (by kernel_rfl) rfl rfl trivial (fun hHeld => ?_); refine with_tab tp8_ (fun HT_ => ?_)
 replace BK := Aside0.mk (blk_drew BK.out)
 replace HB := Aside0.mk (below_drew1 HB.out)
 generalize w3.drew = w4 at BK HB ⊢
 refine yp_ ?_ 0 55
 refine yp_ ?_ 1 56
 refine yp_ ?_ 2 57
 refine yp_ ?_ 3 58
 refine yp_ ?_ 4 59
 refine yp_ ?_ 5 60
 refine yp_ ?_ 6 61
 refine yp_ ?_ 7 62
 refine yp_ (v := .int .u8 (48 + u / 100 % 10)) ?_ 8 63 (hy := sm_y Tryd.underlying9 rfl (by rfl) (by rfl) (by kernel_rfl) ?hd)
 case hd => simp only [u32_eq, sm_]; omega
 refine yp_ ?_ 9 64
 refine yp_ (v := .int .u8 (48 + u / 1000 % 10)) ?_ 10 65 (hy := sm_y Tryd.underlying9 rfl (by rfl) (by rfl) (by kernel_rfl) ?hd)
 case hd => simp only [u32_eq, sm_]; omega
 refine yp_ ?_ 11 66
 have hc_ := zx_ (v := .int .u8 0) BK 7
 have hf_ := blk_frozen BK.out 7
 refine yo_ 12 none (fun K hK => ?_)
 refine skip_ (w1 := ?_) (by rfl) rfl ?_ ?_
 rotate_left
 ·go_simp
  rfl
 refine hK.out _ _ trivial (fun hHeld => ?_)
 clear hK K hc_ hf_
 replace BK := Aside0.mk (blk_put (cs' := #[.int .u8 0, .int .u8 0, .int .u8 0, .int .u8 0, .int .u8 0, .int .u8 0, .int .u8 0, .int .u8 (48 + u / 100 % 10), .int .u8 (48 + u / 10 % 10), .int .u8 (48 + u % 10), .int .u8 0, .int .u8 0, .int .u8 0, .int .u8 0, .int .u8 0, .int .u8 0, .int .u8 0, .int .u8 0, .int .u8 0, .int .u8 0, .int .u8 0, .int .u8 0, .int .u8 0, .int .u8 0]) BK.out 7 (.int .u8 (48 + u / 100 % 10)) rfl)
 replace HB := Aside0.mk (HB.out.setCell (p := ⟨g, 7, none⟩) (Nat.le_refl g) (.int .u8 (48 + u / 100 % 10)))
 generalize w4.setCell ⟨g, 7, none⟩ (.int .u8 (48 + u / 100 % 10)) = w5 at BK HB ⊢
 refine yp_ ?_ 13 67
 have hc_ := zx_ (v := .int .u8 0) BK 6
 have hf_ := blk_frozen BK.out 6
 refine yo_ 14 none (fun K hK => ?_)
 refine skip_ (w1 := ?_) (by rfl) rfl ?_ ?_
 rotate_left
 ·go_simp
  rfl
 refine hK.out _ _ trivial (fun hHeld => ?_)
 clear hK K hc_ hf_
 replace BK := Aside0.mk (blk_put (cs' := #[.int .u8 0, .int .u8 0, .int .u8 0, .int .u8 0, .int .u8 0, .int .u8 0, .int .u8 (48 + u / 1000 % 10), .int .u8 (48 + u / 100 % 10), .int .u8 (48 + u / 10 % 10), .int .u8 (48 + u % 10), .int .u8 0, .int .u8 0, .int .u8 0, .int .u8 0, .int .u8 0, .int .u8 0, .int .u8 0, .int .u8 0, .int .u8 0, .int .u8 0, .int .u8 0, .int .u8 0, .int .u8 0, .int .u8 0]) BK.out 6 (.int .u8 (48 + u / 1000 % 10)) rfl)
 replace HB := Aside0.mk (HB.out.setCell (p := ⟨g, 6, none⟩) (Nat.le_refl g) (.int .u8 (48 + u / 1000 % 10)))
 generalize w5.setCell ⟨g, 6, none⟩ (.int .u8 (48 + u / 1000 % 10)) = w6 at BK HB ⊢
 refine done_ (done_of HT_.out (by kernel_rfl)) ?_
 go_wp2
 refine start_ (n := 15) (S := fun w' => True) (ds := []) #[false, false, false, false, false, false, false, false, false, false, false, false, false, false, false] (by kernel_rfl) rfl rfl trivial (fun hHeld => ?_); refine with_tab tp9_ (fun HT_ => ?_)
 replace BK := Aside0.mk (blk_drew BK.out)
 replace HB := Aside0.mk (below_drew1 HB.out)
 generalize w6.drew = w7 at BK HB ⊢
 refine yp_ ?_ 0 68
 refine yp_ ?_ 1 69
 refine yp_ ?_ 2 70
 refine yp_ ?_ 3 71
 refine yp_ ?_ 4 72
 refine yp_ ?_ 5 73
 refine yp_ ?_ 6 74
 refine yp_ ?_ 7 75
 refine yp_ (v := .int .u8 (48 + u / 10000 % 10)) ?_ 8 76 (hy := sm_y Tryd.underlying9 rfl (by rfl) (by rfl) (by kernel_rfl) ?hd)
 case hd => simp only [u32_eq, sm_]; omega
 refine yp_ ?_ 9 77
 refine yp_ (v := .int .u8 (48 + u / 100000 % 10)) ?_ 10 78 (hy := sm_y Tryd.underlying9 rfl (by rfl) (by rfl) (by kernel_rfl) ?hd)
 case hd => simp only [u32_eq, sm_]; omega
 refine yp_ ?_ 11 79
 have hc_ := zx_ (v := .int .u8 0) BK 5
 have hf_ := blk_frozen BK.out 5
 refine yo_ 12 none (fun K hK => ?_)
 refine skip_ (w1 := ?_) (by rfl) rfl ?_ ?_
 rotate_left
 ·go_simp
  rfl
 refine hK.out _ _ trivial (fun hHeld => ?_)
 clear hK K hc_ hf_
 replace BK := Aside0.mk (blk_put (cs' := #[.int .u8 0, .int .u8 0, .int .u8 0, .int .u8 0, .int .u8 0, .int .u8 (48 + u / 10000 % 10), .int .u8 (48 + u / 1000 % 10), .int .u8 (48 + u / 100 % 10), .int .u8 (48 + u / 10 % 10), .int .u8 (48 + u % 10), .int .u8 0, .int .u8 0, .int .u8 0, .int .u8 0, .int .u8 0, .int .u8 0, .int .u8 0, .int .u8 0, .int .u8 0, .int .u8 0, .int .u8 0, .int .u8 0, .int .u8 0, .int .u8 0]) BK.out 5 (.int .u8 (48 + u / 10000 % 10)) rfl)
 replace HB := Aside0.mk (HB.out.setCell (p := ⟨g, 5, none⟩) (Nat.le_refl g) (.int .u8 (48 + u / 10000 % 10)))
 generalize w7.setCell ⟨g, 5, none⟩ (.int .u8 (48 + u / 10000 % 10)) = w8 at BK HB ⊢
 refine yp_ ?_ 13 80
 have hc_ := zx_ (v := .int .u8 0) BK 4
 have hf_ := blk_frozen BK.out 4
 refine yo_ 14 none (fun K hK => ?_)
 refine skip_ (w1 := ?_) (by rfl) rfl ?_ ?_
 rotate_left
 ·go_simp
  rfl
 refine hK.out _ _ trivial (fun hHeld => ?_)
 clear hK K hc_ hf_
 replace BK := Aside0.mk (blk_put (cs' := #[.int .u8 0, .int .u8 0, .int .u8 0, .int .u8 0, .int .u8 (48 + u / 100000 % 10), .int .u8 (48 + u / 10000 % 10), .int .u8 (48 + u / 1000 % 10), .int .u8 (48 + u / 100 % 10), .int .u8 (48 + u / 10 % 10), .int .u8 (48 + u % 10), .int .u8 0, .int .u8 0, .int .u8 0, .int .u8 0, .int .u8 0, .int .u8 0, .int .u8 0, .int .u8 0, .int .u8 0, .int .u8 0, .int .u8 0, .int .u8 0, .int .u8 0, .int .u8 0]) BK.out 4 (.int .u8 (48 + u / 100000 % 10)) rfl)
 replace HB := Aside0.mk (HB.out.setCell (p := ⟨g, 4, none⟩) (Nat.le_refl g) (.int .u8 (48 + u / 100000 % 10)))
 generalize w8.setCell ⟨g, 4, none⟩ (.int .u8 (48 + u / 100000 % 10)) = w9 at BK HB ⊢
 refine done_ (done_of HT_.out (by kernel_rfl)) ?_
 go_wp2
 refine start_ (n := 15) (S := fun w' => True) (ds := []) #[false, false, false, false, false, false, false, false, false, false, false, false, false, false, false] (by kernel_rfl) rfl rfl trivial (fun hHeld => ?_); refine with_tab tp10_ (fun HT_ => ?_)
 replace BK := Aside0.mk (blk_drew BK.out)
 replace HB := Aside0.mk (below_drew1 HB.out)
 generalize w9.drew = w10 at BK HB ⊢
 refine yp_ ?_ 0 81
 refine yp_ ?_ 1 82
 refine yp_ ?_ 2 83
 refine yp_ ?_ 3 84
 refine yp_ ?_ 4 85
 refine yp_ ?_ 5 86
 refine yp_ ?_ 6 87
 refine yp_ ?_ 7 88
 refine yp_ (v := .int .u8 (48 + u / 1000000 % 10)) ?_ 8 89 (hy := sm_y Tryd.underlying9 rfl (by rfl) (by rfl) (by kernel_rfl) ?hd)
 case hd => simp only [u32_eq, sm_]; omega
 refine yp_ ?_ 9 90
 refine yp_ (v := .int .u8 (48 + u / 10000000 % 10)) ?_ 10 91 (hy := sm_y Tryd.underlying9 rfl (by rfl) (by rfl) (by kernel_rfl) ?hd)
 case hd => simp only [u32_eq, sm_]; omega
 refine yp_ ?_ 11 92
 have hc_ := zx_ (v := .int .u8 0) BK 3
 have hf_ := blk_frozen BK.out 3
 refine yo_ 12 none (fun K hK => ?_)
 refine skip_ (w1 := ?_) (by rfl) rfl ?_ ?_
 rotate_left
 ·go_simp
  rfl
 refine hK.out _ _ trivial (fun hHeld => ?_)
 clear hK K hc_ hf_
 replace BK := Aside0.mk (blk_put (cs' := #[.int .u8 0, .int .u8 0, .int .u8 0, .int .u8 (48 + u / 1000000 % 10), .int .u8 (48 + u / 100000 % 10), .int .u8 (48 + u / 10000 % 10), .int .u8 (48 + u / 1000 % 10), .int .u8 (48 + u / 100 % 10), .int .u8 (48 + u / 10 % 10), .int .u8 (48 + u % 10), .int .u8 0, .int .u8 0, .int .u8 0, .int .u8 0, .int .u8 0, .int .u8 0, .int .u8 0, .int .u8 0, .int .u8 0, .int .u8 0, .int .u8 0, .int .u8 0, .int .u8 0, .int .u8 0]) BK.out 3 (.int .u8 (48 + u / 1000000 % 10)) rfl)
 replace HB := Aside0.mk (HB.out.setCell (p := ⟨g, 3, none⟩) (Nat.le_refl g) (.int .u8 (48 + u / 1000000 % 10)))
 generalize w10.setCell ⟨g, 3, none⟩ (.int .u8 (48 + u / 1000000 % 10)) = w11 at BK HB ⊢
 refine yp_ ?_ 13 93
 have hc_ := zx_ (v := .int .u8 0) BK 2
 have hf_ := blk_frozen BK.out 2
 refine yo_ 14 none (fun K hK => ?_)
 refine skip_ (w1 := ?_) (by rfl) rfl ?_ ?_
 rotate_left
 ·go_simp
  rfl
 refine hK.out _ _ trivial (fun hHeld => ?_)
 clear hK K hc_ hf_
 replace BK := Aside0.mk (blk_put (cs' := #[.int .u8 0, .int .u8 0, .int .u8 (48 + u / 10000000 % 10), .int .u8 (48 + u / 1000000 % 10), .int .u8 (48 + u / 100000 % 10), .int .u8 (48 + u / 10000 % 10), .int .u8 (48 + u / 1000 % 10), .int .u8 (48 + u / 100 % 10), .int .u8 (48 + u / 10 % 10), .int .u8 (48 + u % 10), .int .u8 0, .int .u8 0, .int .u8 0, .int .u8 0, .int .u8 0, .int .u8 0, .int .u8 0, .int .u8 0, .int .u8 0, .int .u8 0, .int .u8 0, .int .u8 0, .int .u8 0, .int .u8 0]) BK.out 2 (.int .u8 (48 + u / 10000000 % 10)) rfl)
 replace HB := Aside0.mk (HB.out.setCell (p := ⟨g, 2, none⟩) (Nat.le_refl g) (.int .u8 (48 + u / 10000000 % 10)))
 generalize w11.setCell ⟨g, 2, none⟩ (.int .u8 (48 + u / 10000000 % 10)) = w12 at BK HB ⊢
 refine done_ (done_of HT_.out (by kernel_rfl)) ?_
 skip
 go_wp2
 rw [rounds_succ]
 go_wp2
 refine start_ (n := 15) (S := fun w' => True) (ds := []) #[false, false, false, false, false, false, false, false, false, false, false, false, false, false, false] (by kernel_rfl) rfl rfl trivial (fun hHeld => ?_); refine with_tab tp23_ (fun HT_ => ?_)
 replace BK := Aside0.mk (blk_drew BK.out)
 replace HB := Aside0.mk (below_drew1 HB.out)
 generalize w12.drew = w13 at BK HB ⊢
 refine yp_ ?_ 0 145
 refine yp_ ?_ 1 146
 refine yp_ ?_ 2 147
 refine yp_ ?_ 3 148
 refine yp_ ?_ 4 149
 refine yp_ ?_ 5 150
 refine yp_ ?_ 6 151
 refine yp_ ?_ 7 152
 refine yp_ (v := .int .u8 (48 + u / 100000000 % 10)) ?_ 8 153 (hy := sm_y Tryd.underlying9 rfl (by rfl) (by rfl) (by kernel_rfl) ?hd)
 case hd => simp only [u32_eq, sm_]; omega
 refine yp_ ?_ 9 154
 refine yp_ (v := .int .u8 (48 + u / 1000000000 % 10)) ?_ 10 155 (hy := sm_y Tryd.underlying9 rfl (by rfl) (by rfl) (by kernel_rfl) ?hd)
 case hd => simp only [u32_eq, sm_]; omega
 refine yp_ ?_ 11 156
 have hc_ := zx_ (v := .int .u8 0) BK 1
 have hf_ := blk_frozen BK.out 1
 refine yo_ 12 none (fun K hK => ?_)
 refine skip_ (w1 := ?_) (by rfl) rfl ?_ ?_
 rotate_left
 ·go_simp
  rfl
 refine hK.out _ _ trivial (fun hHeld => ?_)
 clear hK K hc_ hf_
 replace BK := Aside0.mk (blk_put (cs' := #[.int .u8 0, .int .u8 (48 + u / 100000000 % 10), .int .u8 (48 + u / 10000000 % 10), .int .u8 (48 + u / 1000000 % 10), .int .u8 (48 + u / 100000 % 10), .int .u8 (48 + u / 10000 % 10), .int .u8 (48 + u / 1000 % 10), .int .u8 (48 + u / 100 % 10), .int .u8 (48 + u / 10 % 10), .int .u8 (48 + u % 10), .int .u8 0, .int .u8 0, .int .u8 0, .int .u8 0, .int .u8 0, .int .u8 0, .int .u8 0, .int .u8 0, .int .u8 0, .int .u8 0, .int .u8 0, .int .u8 0, .int .u8 0, .int .u8 0]) BK.out 1 (.int .u8 (48 + u / 100000000 % 10)) rfl)
 replace HB := Aside0.mk (HB.out.setCell (p := ⟨g, 1, none⟩) (Nat.le_refl g) (.int .u8 (48 + u / 100000000 % 10)))
 generalize w13.setCell ⟨g, 1, none⟩ (.int .u8 (48 + u / 100000000 % 10)) = w14 at BK HB ⊢
 refine yp_ ?_ 13 157
 have hc_ := zx_ (v := .int .u8 0) BK 0
 have hf_ := blk_frozen BK.out 0
 refine yo_ 14 none (fun K hK => ?_)
 refine skip_ (w1 := ?_) (by rfl) rfl ?_ ?_
 rotate_left
 ·go_simp
  rfl
 refine hK.out _ _ trivial (fun hHeld => ?_)
 clear hK K hc_ hf_
 replace BK := Aside0.mk (blk_put (cs' := #[.int .u8 (48 + u / 1000000000 % 10), .int .u8 (48 + u / 100000000 % 10), .int .u8 (48 + u / 10000000 % 10), .int .u8 (48 + u / 1000000 % 10), .int .u8 (48 + u / 100000 % 10), .int .u8 (48 + u / 10000 % 10), .int .u8 (48 + u / 1000 % 10), .int .u8 (48 + u / 100 % 10), .int .u8 (48 + u / 10 % 10), .int .u8 (48 + u % 10), .int .u8 0, .int .u8 0, .int .u8 0, .int .u8 0, .int .u8 0, .int .u8 0, .int .u8 0, .int .u8 0, .int .u8 0, .int .u8 0, .int .u8 0, .int .u8 0, .int .u8 0, .int .u8 0]) BK.out 0 (.int .u8 (48 + u / 1000000000 % 10)) rfl)
 replace HB := Aside0.mk (HB.out.setCell (p := ⟨g, 0, none⟩) (Nat.le_refl g) (.int .u8 (48 + u / 1000000000 % 10)))
 generalize w14.setCell ⟨g, 0, none⟩ (.int .u8 (48 + u / 1000000000 % 10)) = w15 at BK HB ⊢
 refine done_ (done_of HT_.out (by kernel_rfl)) ?_
 go_wp2
 refine bodyPost_end (results_none rfl _ _ _) rfl ?_
 exact ⟨rfl, BK.out, HB.out⟩
def dec_ : Nat → Int → List Int
 | 0, _ => []
 | n + 1, x => dec_ n (x / 10) ++ [48 + x % 10]
theorem fb_reads {w : World} {g : Nat} {t : TypeId} {xs : List Int} {rest : List Value} {cs : Array Value} (h : w.heap[g]? = some (.cells cs t (0, 0))) (e : cs = (xs.map (Value.int .u8) ++ rest).toArray) (hl : xs.length ≤ 9223372036854775807) : Kd.C (Kd.int .u8) w (some ⟨g, 0, none⟩) xs.length xs := by
 subst e
 refine Kd.C_of_reads (enc := Value.int .u8) (h1 := fun _ => rfl) (d := (0 : Int)) ⟨rfl, hl, fun _ => ⟨_, rfl, fun j hj => ?_⟩⟩
 rw [show (⟨g, 0, none⟩ : Addr).add j = ⟨g, j, none⟩ by simp [Addr.add]; omega, blk_cell h j]
 simp [hj, List.getElem?_append_left]
theorem fu_blk {w w1 : World} {cs : Array Value} {t : TypeId} (hd : Drawn0 (w.alloc (.cells cs t)) w1) : w1.heap[w.heap.size]? = some (.cells cs t (0, 0)) := by
 obtain ⟨n, rfl⟩ := hd
 exact heap_alloc_new w _
theorem fu_below {w w1 : World} {o : Obj} (hd : Drawn0 (w.alloc o) w1) : Below w.heap.size w w1 := by
 obtain ⟨n, rfl⟩ := hd
 exact ((Below.refl _ w).alloc (Nat.le_refl _) o).trans ⟨rfl, rfl, rfl, Nat.le_refl _, fun _ _ => rfl⟩
theorem dec3_ (u : Int) : dec_ 3 u = [48 + u / 100 % 10, 48 + u / 10 % 10, 48 + u % 10] := by
 simp only [dec_, List.nil_append, List.cons_append, List.cons.injEq, and_true]
 omega
set_option maxHeartbeats 8000000 in
set_option maxRecDepth 100000 in
theorem fu3.calls (u : Int) (w : World) (hp : P10_ w) (hE : nd_ u = 3) (u0 : 100 ≤ u) (u1 : u < 1000) :
  Calls Tryd.prog 48 #[.int .u64 u, .int .i64 10] w fun e w' => e = .returned (.string (strOfNums (dec_ 3 u))) ∧ Below w.heap.size w w' := by
 have ND : ∀ w, P10_ w → Calls Tryd.prog 60 #[.int .u64 u] w fun e w' => e = .returned (.int .i64 3) ∧ Drawn0 w w' := fun w hp => hE ▸ strconv_numDigits.calls u w (by omega) (by omega) hp
 have c_ : decide (u < 100) = false := decide_eq_false (by omega)
 rw [dec3_]
 have ND1 := Aside0.mk ND
 have HP := Aside0.mk hp
 clear ND hp hE
 go_enter Tryd.func48, Tryd.ntmps48
 go_wp2_with (first | ((with_reducible refine gate_callee (f := 60) rfl ?_); refine zg_ (some 17) Tryd.func60 #[.int .u64 u] (h := ?_); (with_reducible refine (ND1.out _ (p10_below HP.out ((Below.refl _ w).alloc (Nat.le_refl _) _))).mono ?_); rintro e w1 ⟨rfl, hd⟩; refine ⟨_, rfl, ?_⟩; have BK := Aside0.mk (fu_blk hd); have HB := Aside0.mk (fu_below hd); clear hd))
 refine (fmt3.calls w.heap.size u _ BK.out (by omega) u1).mono ?_
 rintro e w2 ⟨rfl, hb, hB⟩
 replace BK := Aside0.mk hb
 replace HB := Aside0.mk (Below.trans HB.out hB)
 clear hb hB
 have hcv_ : (convert 62 9 (.slice (some ⟨w.heap.size, 0, none⟩) 3 24)).run Tryd.prog w2 = .ok (.string (strOfNums [48 + u / 100 % 10, 48 + u / 10 % 10, 48 + u % 10])) w2 := Kd.C_string (P := Tryd.prog) (src := 62) (dst := 9) (c := 24) Tryd.underlying62 Tryd.underlying5 Tryd.underlying9 (fb_reads (xs := [48 + u / 100 % 10, 48 + u / 10 % 10, 48 + u % 10]) BK.out rfl (by simp))
 go_wp2
 go_ret
 exact ⟨z0_, HB.out⟩
theorem dec4_ (u : Int) : dec_ 4 u = [48 + u / 1000 % 10, 48 + u / 100 % 10, 48 + u / 10 % 10, 48 + u % 10] := by
 simp only [dec_, List.nil_append, List.cons_append, List.cons.injEq, and_true]
 omega
set_option maxHeartbeats 8000000 in
set_option maxRecDepth 100000 in
theorem fu4.calls (u : Int) (w : World) (hp : P10_ w) (hE : nd_ u = 4) (u0 : 1000 ≤ u) (u1 : u < 10000) :
  Calls Tryd.prog 48 #[.int .u64 u, .int .i64 10] w fun e w' => e = .returned (.string (strOfNums (dec_ 4 u))) ∧ Below w.heap.size w w' := by
 have ND : ∀ w, P10_ w → Calls Tryd.prog 60 #[.int .u64 u] w fun e w' => e = .returned (.int .i64 4) ∧ Drawn0 w w' := fun w hp => hE ▸ strconv_numDigits.calls u w (by omega) (by omega) hp
 have c_ : decide (u < 100) = false := decide_eq_false (by omega)
 rw [dec4_]
 have ND1 := Aside0.mk ND
 have HP := Aside0.mk hp
 clear ND hp hE
 go_enter Tryd.func48, Tryd.ntmps48
 go_wp2_with (first | ((with_reducible refine gate_callee (f := 60) rfl ?_); refine zg_ (some 17) Tryd.func60 #[.int .u64 u] (h := ?_); (with_reducible refine (ND1.out _ (p10_below HP.out ((Below.refl _ w).alloc (Nat.le_refl _) _))).mono ?_); rintro e w1 ⟨rfl, hd⟩; refine ⟨_, rfl, ?_⟩; have BK := Aside0.mk (fu_blk hd); have HB := Aside0.mk (fu_below hd); clear hd))
 refine (fmt4.calls w.heap.size u _ BK.out (by omega) u1).mono ?_
 rintro e w2 ⟨rfl, hb, hB⟩
 replace BK := Aside0.mk hb
 replace HB := Aside0.mk (Below.trans HB.out hB)
 clear hb hB
 have hcv_ : (convert 62 9 (.slice (some ⟨w.heap.size, 0, none⟩) 4 24)).run Tryd.prog w2 = .ok (.string (strOfNums [48 + u / 1000 % 10, 48 + u / 100 % 10, 48 + u / 10 % 10, 48 + u % 10])) w2 := Kd.C_string (P := Tryd.prog) (src := 62) (dst := 9) (c := 24) Tryd.underlying62 Tryd.underlying5 Tryd.underlying9 (fb_reads (xs := [48 + u / 1000 % 10, 48 + u / 100 % 10, 48 + u / 10 % 10, 48 + u % 10]) BK.out rfl (by simp))
 go_wp2
 go_ret
 exact ⟨z0_, HB.out⟩
theorem dec5_ (u : Int) : dec_ 5 u = [48 + u / 10000 % 10, 48 + u / 1000 % 10, 48 + u / 100 % 10, 48 + u / 10 % 10, 48 + u % 10] := by
 simp only [dec_, List.nil_append, List.cons_append, List.cons.injEq, and_true]
 omega
set_option maxHeartbeats 8000000 in
set_option maxRecDepth 100000 in
theorem fu5.calls (u : Int) (w : World) (hp : P10_ w) (hE : nd_ u = 5) (u0 : 10000 ≤ u) (u1 : u < 100000) :
  Calls Tryd.prog 48 #[.int .u64 u, .int .i64 10] w fun e w' => e = .returned (.string (strOfNums (dec_ 5 u))) ∧ Below w.heap.size w w' := by
 have ND : ∀ w, P10_ w → Calls Tryd.prog 60 #[.int .u64 u] w fun e w' => e = .returned (.int .i64 5) ∧ Drawn0 w w' := fun w hp => hE ▸ strconv_numDigits.calls u w (by omega) (by omega) hp
 have c_ : decide (u < 100) = false := decide_eq_false (by omega)
 rw [dec5_]
 have ND1 := Aside0.mk ND
 have HP := Aside0.mk hp
 clear ND hp hE
 go_enter Tryd.func48, Tryd.ntmps48
 go_wp2_with (first | ((with_reducible refine gate_callee (f := 60) rfl ?_); refine zg_ (some 17) Tryd.func60 #[.int .u64 u] (h := ?_); (with_reducible refine (ND1.out _ (p10_below HP.out ((Below.refl _ w).alloc (Nat.le_refl _) _))).mono ?_); rintro e w1 ⟨rfl, hd⟩; refine ⟨_, rfl, ?_⟩; have BK := Aside0.mk (fu_blk hd); have HB := Aside0.mk (fu_below hd); clear hd))
 refine (fmt5.calls w.heap.size u _ BK.out (by omega) u1).mono ?_
 rintro e w2 ⟨rfl, hb, hB⟩
 replace BK := Aside0.mk hb
 replace HB := Aside0.mk (Below.trans HB.out hB)
 clear hb hB
 have hcv_ : (convert 62 9 (.slice (some ⟨w.heap.size, 0, none⟩) 5 24)).run Tryd.prog w2 = .ok (.string (strOfNums [48 + u / 10000 % 10, 48 + u / 1000 % 10, 48 + u / 100 % 10, 48 + u / 10 % 10, 48 + u % 10])) w2 := Kd.C_string (P := Tryd.prog) (src := 62) (dst := 9) (c := 24) Tryd.underlying62 Tryd.underlying5 Tryd.underlying9 (fb_reads (xs := [48 + u / 10000 % 10, 48 + u / 1000 % 10, 48 + u / 100 % 10, 48 + u / 10 % 10, 48 + u % 10]) BK.out rfl (by simp))
 go_wp2
 go_ret
 exact ⟨z0_, HB.out⟩
theorem dec6_ (u : Int) : dec_ 6 u = [48 + u / 100000 % 10, 48 + u / 10000 % 10, 48 + u / 1000 % 10, 48 + u / 100 % 10, 48 + u / 10 % 10, 48 + u % 10] := by
 simp only [dec_, List.nil_append, List.cons_append, List.cons.injEq, and_true]
 omega
set_option maxHeartbeats 8000000 in
set_option maxRecDepth 100000 in
theorem fu6.calls (u : Int) (w : World) (hp : P10_ w) (hE : nd_ u = 6) (u0 : 100000 ≤ u) (u1 : u < 1000000) :
  Calls Tryd.prog 48 #[.int .u64 u, .int .i64 10] w fun e w' => e = .returned (.string (strOfNums (dec_ 6 u))) ∧ Below w.heap.size w w' := by
 have ND : ∀ w, P10_ w → Calls Tryd.prog 60 #[.int .u64 u] w fun e w' => e = .returned (.int .i64 6) ∧ Drawn0 w w' := fun w hp => hE ▸ strconv_numDigits.calls u w (by omega) (by omega) hp
 have c_ : decide (u < 100) = false := decide_eq_false (by omega)
 rw [dec6_]
 have ND1 := Aside0.mk ND
 have HP := Aside0.mk hp
 clear ND hp hE
 go_enter Tryd.func48, Tryd.ntmps48
 go_wp2_with (first | ((with_reducible refine gate_callee (f := 60) rfl ?_); refine zg_ (some 17) Tryd.func60 #[.int .u64 u] (h := ?_); (with_reducible refine (ND1.out _ (p10_below HP.out ((Below.refl _ w).alloc (Nat.le_refl _) _))).mono ?_); rintro e w1 ⟨rfl, hd⟩; refine ⟨_, rfl, ?_⟩; have BK := Aside0.mk (fu_blk hd); have HB := Aside0.mk (fu_below hd); clear hd))
 refine (fmt6.calls w.heap.size u _ BK.out (by omega) u1).mono ?_
 rintro e w2 ⟨rfl, hb, hB⟩
 replace BK := Aside0.mk hb
 replace HB := Aside0.mk (Below.trans HB.out hB)
 clear hb hB
 have hcv_ : (convert 62 9 (.slice (some ⟨w.heap.size, 0, none⟩) 6 24)).run Tryd.prog w2 = .ok (.string (strOfNums [48 + u / 100000 % 10, 48 + u / 10000 % 10, 48 + u / 1000 % 10, 48 + u / 100 % 10, 48 + u / 10 % 10, 48 + u % 10])) w2 := Kd.C_string (P := Tryd.prog) (src := 62) (dst := 9) (c := 24) Tryd.underlying62 Tryd.underlying5 Tryd.underlying9 (fb_reads (xs := [48 + u / 100000 % 10, 48 + u / 10000 % 10, 48 + u / 1000 % 10, 48 + u / 100 % 10, 48 + u / 10 % 10, 48 + u % 10]) BK.out rfl (by simp))
 go_wp2
 go_ret
 exact ⟨z0_, HB.out⟩
theorem dec7_ (u : Int) : dec_ 7 u = [48 + u / 1000000 % 10, 48 + u / 100000 % 10, 48 + u / 10000 % 10, 48 + u / 1000 % 10, 48 + u / 100 % 10, 48 + u / 10 % 10, 48 + u % 10] := by
 simp only [dec_, List.nil_append, List.cons_append, List.cons.injEq, and_true]
 omega
set_option maxHeartbeats 8000000 in
set_option maxRecDepth 100000 in
theorem fu7.calls (u : Int) (w : World) (hp : P10_ w) (hE : nd_ u = 7) (u0 : 1000000 ≤ u) (u1 : u < 10000000) :
  Calls Tryd.prog 48 #[.int .u64 u, .int .i64 10] w fun e w' => e = .returned (.string (strOfNums (dec_ 7 u))) ∧ Below w.heap.size w w' := by
 have ND : ∀ w, P10_ w → Calls Tryd.prog 60 #[.int .u64 u] w fun e w' => e = .returned (.int .i64 7) ∧ Drawn0 w w' := fun w hp => hE ▸ strconv_numDigits.calls u w (by omega) (by omega) hp
 have c_ : decide (u < 100) = false := decide_eq_false (by omega)
 rw [dec7_]
 have ND1 := Aside0.mk ND
 have HP := Aside0.mk hp
 clear ND hp hE
 go_enter Tryd.func48, Tryd.ntmps48
 go_wp2_with (first | ((with_reducible refine gate_callee (f := 60) rfl ?_); refine zg_ (some 17) Tryd.func60 #[.int .u64 u] (h := ?_); (with_reducible refine (ND1.out _ (p10_below HP.out ((Below.refl _ w).alloc (Nat.le_refl _) _))).mono ?_); rintro e w1 ⟨rfl, hd⟩; refine ⟨_, rfl, ?_⟩; have BK := Aside0.mk (fu_blk hd); have HB := Aside0.mk (fu_below hd); clear hd))
 refine (fmt7.calls w.heap.size u _ BK.out (by omega) u1).mono ?_
 rintro e w2 ⟨rfl, hb, hB⟩
 replace BK := Aside0.mk hb
 replace HB := Aside0.mk (Below.trans HB.out hB)
 clear hb hB
 have hcv_ : (convert 62 9 (.slice (some ⟨w.heap.size, 0, none⟩) 7 24)).run Tryd.prog w2 = .ok (.string (strOfNums [48 + u / 1000000 % 10, 48 + u / 100000 % 10, 48 + u / 10000 % 10, 48 + u / 1000 % 10, 48 + u / 100 % 10, 48 + u / 10 % 10, 48 + u % 10])) w2 := Kd.C_string (P := Tryd.prog) (src := 62) (dst := 9) (c := 24) Tryd.underlying62 Tryd.underlying5 Tryd.underlying9 (fb_reads (xs := [48 + u / 1000000 % 10, 48 + u / 100000 % 10, 48 + u / 10000 % 10, 48 + u / 1000 % 10, 48 + u / 100 % 10, 48 + u / 10 % 10, 48 + u % 10]) BK.out rfl (by simp))
 go_wp2
 go_ret
 exact ⟨z0_, HB.out⟩
theorem dec8_ (u : Int) : dec_ 8 u = [48 + u / 10000000 % 10, 48 + u / 1000000 % 10, 48 + u / 100000 % 10, 48 + u / 10000 % 10, 48 + u / 1000 % 10, 48 + u / 100 % 10, 48 + u / 10 % 10, 48 + u % 10] := by
 simp only [dec_, List.nil_append, List.cons_append, List.cons.injEq, and_true]
 omega
set_option maxHeartbeats 8000000 in
set_option maxRecDepth 100000 in
theorem fu8.calls (u : Int) (w : World) (hp : P10_ w) (hE : nd_ u = 8) (u0 : 10000000 ≤ u) (u1 : u < 100000000) :
  Calls Tryd.prog 48 #[.int .u64 u, .int .i64 10] w fun e w' => e = .returned (.string (strOfNums (dec_ 8 u))) ∧ Below w.heap.size w w' := by
 have ND : ∀ w, P10_ w → Calls Tryd.prog 60 #[.int .u64 u] w fun e w' => e = .returned (.int .i64 8) ∧ Drawn0 w w' := fun w hp => hE ▸ strconv_numDigits.calls u w (by omega) (by omega) hp
 have c_ : decide (u < 100) = false := decide_eq_false (by omega)
 rw [dec8_]
 have ND1 := Aside0.mk ND
 have HP := Aside0.mk hp
 clear ND hp hE
 go_enter Tryd.func48, Tryd.ntmps48
 go_wp2_with (first | ((with_reducible refine gate_callee (f := 60) rfl ?_); refine zg_ (some 17) Tryd.func60 #[.int .u64 u] (h := ?_); (with_reducible refine (ND1.out _ (p10_below HP.out ((Below.refl _ w).alloc (Nat.le_refl _) _))).mono ?_); rintro e w1 ⟨rfl, hd⟩; refine ⟨_, rfl, ?_⟩; have BK := Aside0.mk (fu_blk hd); have HB := Aside0.mk (fu_below hd); clear hd))
 refine (fmt8.calls w.heap.size u _ BK.out (by omega) u1).mono ?_
 rintro e w2 ⟨rfl, hb, hB⟩
 replace BK := Aside0.mk hb
 replace HB := Aside0.mk (Below.trans HB.out hB)
 clear hb hB
 have hcv_ : (convert 62 9 (.slice (some ⟨w.heap.size, 0, none⟩) 8 24)).run Tryd.prog w2 = .ok (.string (strOfNums [48 + u / 10000000 % 10, 48 + u / 1000000 % 10, 48 + u / 100000 % 10, 48 + u / 10000 % 10, 48 + u / 1000 % 10, 48 + u / 100 % 10, 48 + u / 10 % 10, 48 + u % 10])) w2 := Kd.C_string (P := Tryd.prog) (src := 62) (dst := 9) (c := 24) Tryd.underlying62 Tryd.underlying5 Tryd.underlying9 (fb_reads (xs := [48 + u / 10000000 % 10, 48 + u / 1000000 % 10, 48 + u / 100000 % 10, 48 + u / 10000 % 10, 48 + u / 1000 % 10, 48 + u / 100 % 10, 48 + u / 10 % 10, 48 + u % 10]) BK.out rfl (by simp))
 go_wp2
 go_ret
 exact ⟨z0_, HB.out⟩
theorem dec9_ (u : Int) : dec_ 9 u = [48 + u / 100000000 % 10, 48 + u / 10000000 % 10, 48 + u / 1000000 % 10, 48 + u / 100000 % 10, 48 + u / 10000 % 10, 48 + u / 1000 % 10, 48 + u / 100 % 10, 48 + u / 10 % 10, 48 + u % 10] := by
 simp only [dec_, List.nil_append, List.cons_append, List.cons.injEq, and_true]
 omega
set_option maxHeartbeats 8000000 in
set_option maxRecDepth 100000 in
theorem fu9.calls (u : Int) (w : World) (hp : P10_ w) (hE : nd_ u = 9) (u0 : 100000000 ≤ u) (u1 : u < 1000000000) :
  Calls Tryd.prog 48 #[.int .u64 u, .int .i64 10] w fun e w' => e = .returned (.string (strOfNums (dec_ 9 u))) ∧ Below w.heap.size w w' := by
 have ND : ∀ w, P10_ w → Calls Tryd.prog 60 #[.int .u64 u] w fun e w' => e = .returned (.int .i64 9) ∧ Drawn0 w w' := fun w hp => hE ▸ strconv_numDigits.calls u w (by omega) (by omega) hp
 have c_ : decide (u < 100) = false := decide_eq_false (by omega)
 rw [dec9_]
 have ND1 := Aside0.mk ND
 have HP := Aside0.mk hp
 clear ND hp hE
 go_enter Tryd.func48, Tryd.ntmps48
 go_wp2_with (first | ((with_reducible refine gate_callee (f := 60) rfl ?_); refine zg_ (some 17) Tryd.func60 #[.int .u64 u] (h := ?_); (with_reducible refine (ND1.out _ (p10_below HP.out ((Below.refl _ w).alloc (Nat.le_refl _) _))).mono ?_); rintro e w1 ⟨rfl, hd⟩; refine ⟨_, rfl, ?_⟩; have BK := Aside0.mk (fu_blk hd); have HB := Aside0.mk (fu_below hd); clear hd))
 refine (fmt9.calls w.heap.size u _ BK.out (by omega) u1).mono ?_
 rintro e w2 ⟨rfl, hb, hB⟩
 replace BK := Aside0.mk hb
 replace HB := Aside0.mk (Below.trans HB.out hB)
 clear hb hB
 have hcv_ : (convert 62 9 (.slice (some ⟨w.heap.size, 0, none⟩) 9 24)).run Tryd.prog w2 = .ok (.string (strOfNums [48 + u / 100000000 % 10, 48 + u / 10000000 % 10, 48 + u / 1000000 % 10, 48 + u / 100000 % 10, 48 + u / 10000 % 10, 48 + u / 1000 % 10, 48 + u / 100 % 10, 48 + u / 10 % 10, 48 + u % 10])) w2 := Kd.C_string (P := Tryd.prog) (src := 62) (dst := 9) (c := 24) Tryd.underlying62 Tryd.underlying5 Tryd.underlying9 (fb_reads (xs := [48 + u / 100000000 % 10, 48 + u / 10000000 % 10, 48 + u / 1000000 % 10, 48 + u / 100000 % 10, 48 + u / 10000 % 10, 48 + u / 1000 % 10, 48 + u / 100 % 10, 48 + u / 10 % 10, 48 + u % 10]) BK.out rfl (by simp))
 go_wp2
 go_ret
 exact ⟨z0_, HB.out⟩
theorem dec10_ (u : Int) : dec_ 10 u = [48 + u / 1000000000 % 10, 48 + u / 100000000 % 10, 48 + u / 10000000 % 10, 48 + u / 1000000 % 10, 48 + u / 100000 % 10, 48 + u / 10000 % 10, 48 + u / 1000 % 10, 48 + u / 100 % 10, 48 + u / 10 % 10, 48 + u % 10] := by
 simp only [dec_, List.nil_append, List.cons_append, List.cons.injEq, and_true]
 omega
set_option maxHeartbeats 8000000 in
set_option maxRecDepth 100000 in
theorem fu10.calls (u : Int) (w : World) (hp : P10_ w) (hE : nd_ u = 10) (u0 : 1000000000 ≤ u) (u1 : u < 10000000000) :
  Calls Tryd.prog 48 #[.int .u64 u, .int .i64 10] w fun e w' => e = .returned (.string (strOfNums (dec_ 10 u))) ∧ Below w.heap.size w w' := by
 have ND : ∀ w, P10_ w → Calls Tryd.prog 60 #[.int .u64 u] w fun e w' => e = .returned (.int .i64 10) ∧ Drawn0 w w' := fun w hp => hE ▸ strconv_numDigits.calls u w (by omega) (by omega) hp
 have c_ : decide (u < 100) = false := decide_eq_false (by omega)
 rw [dec10_]
 have ND1 := Aside0.mk ND
 have HP := Aside0.mk hp
 clear ND hp hE
 go_enter Tryd.func48, Tryd.ntmps48
 go_wp2_with (first | ((with_reducible refine gate_callee (f := 60) rfl ?_); refine zg_ (some 17) Tryd.func60 #[.int .u64 u] (h := ?_); (with_reducible refine (ND1.out _ (p10_below HP.out ((Below.refl _ w).alloc (Nat.le_refl _) _))).mono ?_); rintro e w1 ⟨rfl, hd⟩; refine ⟨_, rfl, ?_⟩; have BK := Aside0.mk (fu_blk hd); have HB := Aside0.mk (fu_below hd); clear hd))
 refine (fmt10.calls w.heap.size u _ BK.out (by omega) u1).mono ?_
 rintro e w2 ⟨rfl, hb, hB⟩
 replace BK := Aside0.mk hb
 replace HB := Aside0.mk (Below.trans HB.out hB)
 clear hb hB
 have hcv_ : (convert 62 9 (.slice (some ⟨w.heap.size, 0, none⟩) 10 24)).run Tryd.prog w2 = .ok (.string (strOfNums [48 + u / 1000000000 % 10, 48 + u / 100000000 % 10, 48 + u / 10000000 % 10, 48 + u / 1000000 % 10, 48 + u / 100000 % 10, 48 + u / 10000 % 10, 48 + u / 1000 % 10, 48 + u / 100 % 10, 48 + u / 10 % 10, 48 + u % 10])) w2 := Kd.C_string (P := Tryd.prog) (src := 62) (dst := 9) (c := 24) Tryd.underlying62 Tryd.underlying5 Tryd.underlying9 (fb_reads (xs := [48 + u / 1000000000 % 10, 48 + u / 100000000 % 10, 48 + u / 10000000 % 10, 48 + u / 1000000 % 10, 48 + u / 100000 % 10, 48 + u / 10000 % 10, 48 + u / 1000 % 10, 48 + u / 100 % 10, 48 + u / 10 % 10, 48 + u % 10]) BK.out rfl (by simp))
 go_wp2
 go_ret
 exact ⟨z0_, HB.out⟩

def strconv_FormatUint_48.f (a0 : Int) (a1 : Int) : Option (ByteArray) := if a1 = 10 then (if a0 < 100 then ((strconv_small.f (wrap64 (a0))).bind fun t_ => (some t_)) else (if a0 < 10000000000 then some (strOfNums (dec_ (nd_ a0).toNat a0)) else none)) else none
set_option maxHeartbeats 8000000 in
set_option maxRecDepth 100000 in
theorem strconv_FormatUint_48.calls (a0 : Int) (a1 : Int) (r : ByteArray) (w : World) (h : strconv_FormatUint_48.f a0 a1 = some r) (hp10 : P10_ w := by first | exact HP10.out | exact p10_below HP10.out (zw0_ HB)) :
  Calls Tryd.prog 48 #[.int .u64 a0, .int .i64 a1] w fun e w' => e = .returned (.string r) ∧ Below w.heap.size w w' := by
 unfold strconv_FormatUint_48.f at h
 by_cases c3 : a1 = 10
 rotate_left
 ·rw [if_neg c3] at h
  cases h
 rw [if_pos c3] at h
 subst c3
 by_cases c4 : a0 < 100
 ·rw [if_pos c4] at h
  have c4b0 : decide (a0 < 100) = true := decide_eq_true c4
  clear c4
  have HB := Aside0.mk (Below.refl w.heap.size w)
  clear hp10
  obtain ⟨t_, A50, H⟩ := Option.bind_eq_some_iff.mp h
  clear h
  have A5 := Aside0.mk A50
  clear A50
  obtain rfl := Option.some.inj H
  go_enter Tryd.func48, Tryd.ntmps48
  go_wp2_with (first | ((with_reducible refine gate_callee (f := 59) rfl ?_); refine zg_ (some 15) Tryd.func59 #[.int .i64 (wrap64 (a0))] (h := ?_); (with_reducible refine (strconv_small.calls (wrap64 (a0)) t_ _ A5.out).mono ?_); rintro e w' ⟨rfl, ⟨nd, rfl⟩⟩; refine ⟨_, rfl, ?_⟩))
  go_ret
  exact ⟨z0_, zw0_ HB⟩
 rw [if_neg c4] at h
 by_cases c5 : a0 < 10000000000
 rotate_left
 ·rw [if_neg c5] at h
  cases h
 rw [if_pos c5] at h
 obtain rfl := Option.some.inj h
 by_cases d3 : a0 < 1000
 ·have e : nd_ a0 = 3 := by unfold nd_; rw [if_pos d3]
  rw [e]
  exact fu3.calls a0 w hp10 e (by omega) d3
 by_cases d4 : a0 < 10000
 ·have e : nd_ a0 = 4 := by unfold nd_; rw [if_neg d3, if_pos d4]
  rw [e]
  exact fu4.calls a0 w hp10 e (by omega) d4
 by_cases d5 : a0 < 100000
 ·have e : nd_ a0 = 5 := by unfold nd_; rw [if_neg d3, if_neg d4, if_pos d5]
  rw [e]
  exact fu5.calls a0 w hp10 e (by omega) d5
 by_cases d6 : a0 < 1000000
 ·have e : nd_ a0 = 6 := by unfold nd_; rw [if_neg d3, if_neg d4, if_neg d5, if_pos d6]
  rw [e]
  exact fu6.calls a0 w hp10 e (by omega) d6
 by_cases d7 : a0 < 10000000
 ·have e : nd_ a0 = 7 := by unfold nd_; rw [if_neg d3, if_neg d4, if_neg d5, if_neg d6, if_pos d7]
  rw [e]
  exact fu7.calls a0 w hp10 e (by omega) d7
 by_cases d8 : a0 < 100000000
 ·have e : nd_ a0 = 8 := by unfold nd_; rw [if_neg d3, if_neg d4, if_neg d5, if_neg d6, if_neg d7, if_pos d8]
  rw [e]
  exact fu8.calls a0 w hp10 e (by omega) d8
 by_cases d9 : a0 < 1000000000
 ·have e : nd_ a0 = 9 := by unfold nd_; rw [if_neg d3, if_neg d4, if_neg d5, if_neg d6, if_neg d7, if_neg d8, if_pos d9]
  rw [e]
  exact fu9.calls a0 w hp10 e (by omega) d9
 have e : nd_ a0 = 10 := by unfold nd_; rw [if_neg d3, if_neg d4, if_neg d5, if_neg d6, if_neg d7, if_neg d8, if_neg d9]
 rw [e]
 exact fu10.calls a0 w hp10 e (by omega) c5

end Go.Proofs.YtjiloachlemlcaaDoor.PFixKnown
