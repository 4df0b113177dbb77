/- Texts of the proof of TopNames, part 5: the walks through the program and what they lean on, pruned to what is used. Plain theorems and definitions. -/
import Derived.Test.YtmddclifcgcpcaaGreatDoorTN4
import Derived.Shelf.Strings.Builder1
import Derived.Shelf.Strings.OnBuilder
import Derived.Shelf.Strconv.Itoa0
import Derived.Shelf.Strconv.Itoa1
import Derived.Shelf.LaysM
import Derived.Shelf.Strconv.Itoa2
import Derived.Shelf.Strconv.Itoa3
import Derived.Shelf.Strconv.Itoa4
import Derived.Test.YtmddclifcgcpcaaGreatDoorProg
import Derived.Lib.SliceRun
set_option linter.unusedVariables false
set_option linter.unusedSimpArgs false
set_option maxHeartbeats 8000000
set_option maxRecDepth 100000
namespace Go.Proofs
open Go.Shelf
def Tryz.lays169_ren : Go.Shelf.Ren := ⟨fun | 169 => 11 | n => n, fun | 70 => 44 | 9 => 9 | 0 => 0 | 72 => 47 | 37 => 45 | 127 => 94 | 3 => 3 | 5 => 5 | n => n, fun | n => n⟩
theorem Tryz.lays169 : Go.Proofs.Lays.n169 Tryz.prog Tryz.lays169_ren := {
  mixed := by kernel_rfl
  f169 := Tryz.func11.trans (congrArg some (by kernel_rfl))
  t0 := Tryz.underlying0
  a0 := Tryz.isAgg0
  z0 := Tryz.sizeOf0
  v0 := Tryz.zeroValue0
  t3 := Tryz.underlying3
  a3 := Tryz.isAgg3
  z3 := Tryz.sizeOf3
  v3 := Tryz.zeroValue3
  t9 := Tryz.underlying9
  a9 := Tryz.isAgg9
  z9 := Tryz.sizeOf9
  v9 := Tryz.zeroValue9
  t37 := Tryz.underlying45
  a37 := Tryz.isAgg45
  z37 := Tryz.sizeOf45
  v37 := Tryz.zeroValue45
  t70 := Tryz.underlying44
  a70 := Tryz.isAgg44
  z70 := Tryz.sizeOf44
  v70 := Tryz.zeroValue44
  t72 := Tryz.underlying47
  a72 := Tryz.isAgg47
  z72 := Tryz.sizeOf47
  v72 := Tryz.zeroValue47
  t127 := Tryz.underlying94
  a127 := Tryz.isAgg94
  z127 := Tryz.sizeOf94
  v127 := Tryz.zeroValue94 }
theorem Tryz.Builder_Extra_169 : Builder.Extra Tryz.prog Tryz.lays169_ren := {
  sizeBuilder := by kernel_rfl
  liesBuilder := by kernel_rfl
  t5 := Tryz.underlying5
  a5 := Tryz.isAgg5
  z5 := Tryz.sizeOf5
  v5 := Tryz.zeroValue5
  infoByte := by kernel_rfl
  cellsByte := by kernel_rfl
  sizeByte := by kernel_rfl
  neB5 := by decide }
open Go.RowKit in
theorem Tryz.Builder_String_any (B b : Nat) (l : List UInt8) (w : World) (h : Lib.IsBuilder 47 5 B b (Lib.byteCells l) w) (hBw : B ≤ w.heap.size) :
    Calls Tryz.prog 11 #[.pointer (some ⟨b, 0, none⟩)] w fun e w' => e = .returned (.string ⟨l.toArray⟩) ∧ Below B w w' := Any.Builder_String_any Tryz.lays169 Tryz.Builder_Extra_169 B b l w h hBw
def Tryz.lays156_ren : Go.Shelf.Ren := ⟨fun | 156 => 41 | 165 => 81 | 166 => 9 | 169 => 11 | 240 => 19 | 241 => 137 | 276 => 32 | 277 => 218 | n => n, fun | 31 => 56 | 9 => 9 | 3 => 3 | 4 => 4 | 0 => 0 | 20 => 20 | 72 => 47 | 76 => 52 | 70 => 44 | 37 => 45 | 75 => 51 | 127 => 94 | 164 => 108 | 5 => 5 | 80 => 55 | n => n, fun | n => n⟩
theorem Tryz.lays156 : Go.Proofs.Lays.n156 Tryz.prog Tryz.lays156_ren := {
  mixed := by kernel_rfl
  f156 := Tryz.func41.trans (congrArg some (by kernel_rfl))
  f165 := Tryz.func81.trans (congrArg some (by kernel_rfl))
  f166 := Tryz.func9.trans (congrArg some (by kernel_rfl))
  f169 := Tryz.func11.trans (congrArg some (by kernel_rfl))
  f240 := Tryz.func19.trans (congrArg some (by kernel_rfl))
  f241 := Tryz.func137.trans (congrArg some (by kernel_rfl))
  f276 := Tryz.func32.trans (congrArg some (by kernel_rfl))
  f277 := Tryz.func218.trans (congrArg some (by kernel_rfl))
  t0 := Tryz.underlying0
  a0 := Tryz.isAgg0
  z0 := Tryz.sizeOf0
  v0 := Tryz.zeroValue0
  t3 := Tryz.underlying3
  a3 := Tryz.isAgg3
  z3 := Tryz.sizeOf3
  v3 := Tryz.zeroValue3
  t4 := Tryz.underlying4
  a4 := Tryz.isAgg4
  z4 := Tryz.sizeOf4
  v4 := Tryz.zeroValue4
  t9 := Tryz.underlying9
  a9 := Tryz.isAgg9
  z9 := Tryz.sizeOf9
  v9 := Tryz.zeroValue9
  t20 := Tryz.underlying20
  a20 := Tryz.isAgg20
  z20 := Tryz.sizeOf20
  v20 := Tryz.zeroValue20
  t31 := Tryz.underlying56
  a31 := Tryz.isAgg56
  z31 := Tryz.sizeOf56
  v31 := Tryz.zeroValue56
  t37 := Tryz.underlying45
  a37 := Tryz.isAgg45
  z37 := Tryz.sizeOf45
  v37 := Tryz.zeroValue45
  t70 := Tryz.underlying44
  a70 := Tryz.isAgg44
  z70 := Tryz.sizeOf44
  v70 := Tryz.zeroValue44
  t72 := Tryz.underlying47
  a72 := Tryz.isAgg47
  z72 := Tryz.sizeOf47
  v72 := Tryz.zeroValue47
  t75 := Tryz.underlying51
  a75 := Tryz.isAgg51
  z75 := Tryz.sizeOf51
  v75 := Tryz.zeroValue51
  t76 := Tryz.underlying52
  a76 := Tryz.isAgg52
  z76 := Tryz.sizeOf52
  v76 := Tryz.zeroValue52
  t127 := Tryz.underlying94
  a127 := Tryz.isAgg94
  z127 := Tryz.sizeOf94
  v127 := Tryz.zeroValue94
  t164 := Tryz.underlying108
  a164 := Tryz.isAgg108
  z164 := Tryz.sizeOf108
  v164 := Tryz.zeroValue108 }
theorem Tryz.Builder_Extra_156 : Builder.Extra Tryz.prog Tryz.lays156_ren := {
  sizeBuilder := by kernel_rfl
  liesBuilder := by kernel_rfl
  t5 := Tryz.underlying5
  a5 := Tryz.isAgg5
  z5 := Tryz.sizeOf5
  v5 := Tryz.zeroValue5
  infoByte := by kernel_rfl
  cellsByte := by kernel_rfl
  sizeByte := by kernel_rfl
  neB5 := by decide }
open Go.RowKit in
theorem Tryz.strings_Join (bk o c : Nat) (xs : List ByteArray) (sep : ByteArray) (w : World) (hcells : ∀ (j : Nat) x, xs[j]? = some x → w.cell? ⟨bk, o + j, none⟩ = some (.string x)) (hbk : bk < w.heap.size) (hN : xs.length ≤ 140737488355328) (hcap : xs.length ≤ c) (hlen : (Lib.join (xs.map (·.data.toList)) sep.data.toList).length ≤ 140737488355328) :
    Calls Tryz.prog 41 #[.slice (some ⟨bk, o, none⟩) xs.length c, .string sep] w fun e w' => e = .returned (.string ⟨(Lib.join (xs.map (·.data.toList)) sep.data.toList).toArray⟩) ∧ Below w.heap.size w w' := Any.strings_Join Tryz.lays156 Tryz.Builder_Extra_156 bk o c xs sep w hcells hbk hN hcap hlen
def Tryz.lays173_ren : Go.Shelf.Ren := ⟨fun | 173 => 46 | 246 => 86 | 283 => 139 | 284 => 140 | 285 => 141 | 286 => 142 | 129 => 220 | 317 => 219 | 318 => 221 | 319 => 222 | 320 => 223 | 337 => 285 | 338 => 286 | n => n, fun | 2 => 2 | 3 => 3 | 9 => 9 | 4 => 4 | 171 => 240 | 0 => 0 | 53 => 126 | 37 => 45 | 5 => 5 | 173 => 243 | 212 => 321 | 51 => 66 | 20 => 20 | 213 => 322 | 46 => 107 | 232 => 449 | 233 => 450 | n => n, fun | 17 => 1 | 18 => 6 | 19 => 7 | n => n⟩
theorem Tryz.lays173 : Go.Proofs.Lays.n173 Tryz.prog Tryz.lays173_ren := {
  mixed := by kernel_rfl
  f129 := Tryz.func220.trans (congrArg some (by kernel_rfl))
  f173 := Tryz.func46.trans (congrArg some (by kernel_rfl))
  f246 := Tryz.func86.trans (congrArg some (by kernel_rfl))
  f283 := Tryz.func139.trans (congrArg some (by kernel_rfl))
  f284 := Tryz.func140.trans (congrArg some (by kernel_rfl))
  f285 := Tryz.func141.trans (congrArg some (by kernel_rfl))
  f286 := Tryz.func142.trans (congrArg some (by kernel_rfl))
  f317 := Tryz.func219.trans (congrArg some (by kernel_rfl))
  f318 := Tryz.func221.trans (congrArg some (by kernel_rfl))
  f319 := Tryz.func222.trans (congrArg some (by kernel_rfl))
  f320 := Tryz.func223.trans (congrArg some (by kernel_rfl))
  f337 := Tryz.func285.trans (congrArg some (by kernel_rfl))
  f338 := Tryz.func286.trans (congrArg some (by kernel_rfl))
  t0 := Tryz.underlying0
  a0 := Tryz.isAgg0
  z0 := Tryz.sizeOf0
  v0 := Tryz.zeroValue0
  t2 := Tryz.underlying2
  a2 := Tryz.isAgg2
  z2 := Tryz.sizeOf2
  v2 := Tryz.zeroValue2
  t3 := Tryz.underlying3
  a3 := Tryz.isAgg3
  z3 := Tryz.sizeOf3
  v3 := Tryz.zeroValue3
  t4 := Tryz.underlying4
  a4 := Tryz.isAgg4
  z4 := Tryz.sizeOf4
  v4 := Tryz.zeroValue4
  t5 := Tryz.underlying5
  a5 := Tryz.isAgg5
  z5 := Tryz.sizeOf5
  v5 := Tryz.zeroValue5
  t9 := Tryz.underlying9
  a9 := Tryz.isAgg9
  z9 := Tryz.sizeOf9
  v9 := Tryz.zeroValue9
  t20 := Tryz.underlying20
  a20 := Tryz.isAgg20
  z20 := Tryz.sizeOf20
  v20 := Tryz.zeroValue20
  t37 := Tryz.underlying45
  a37 := Tryz.isAgg45
  z37 := Tryz.sizeOf45
  v37 := Tryz.zeroValue45
  t46 := Tryz.underlying107
  a46 := Tryz.isAgg107
  z46 := Tryz.sizeOf107
  v46 := Tryz.zeroValue107
  t51 := Tryz.underlying66
  a51 := Tryz.isAgg66
  z51 := Tryz.sizeOf66
  v51 := Tryz.zeroValue66
  t53 := Tryz.underlying126
  a53 := Tryz.isAgg126
  z53 := Tryz.sizeOf126
  v53 := Tryz.zeroValue126
  t171 := Tryz.underlying240
  a171 := Tryz.isAgg240
  z171 := Tryz.sizeOf240
  v171 := Tryz.zeroValue240
  t173 := Tryz.underlying243
  a173 := Tryz.isAgg243
  z173 := Tryz.sizeOf243
  v173 := Tryz.zeroValue243
  t212 := Tryz.underlying321
  a212 := Tryz.isAgg321
  z212 := Tryz.sizeOf321
  v212 := Tryz.zeroValue321
  t213 := Tryz.underlying322
  a213 := Tryz.isAgg322
  z213 := Tryz.sizeOf322
  t232 := Tryz.underlying449
  a232 := Tryz.isAgg449
  z232 := Tryz.sizeOf449
  v232 := Tryz.zeroValue449
  t233 := Tryz.underlying450
  a233 := Tryz.isAgg450
  z233 := Tryz.sizeOf450
  v233 := Tryz.zeroValue450
  g17 := by kernel_rfl
  g18 := by kernel_rfl
  g19 := by kernel_rfl }
open Go.RowKit Go.Sort Go.Lib in
theorem Tryz.strconv_FormatInt_10_small (i : Nat) (hi : i < 100) (w : World) :
    Calls Tryz.prog 46 #[.int .i64 i, .int .i64 10] w fun e w' => e = .returned (.string ⟨(Lib.decDigits i).toArray⟩) ∧ w' = w := Any.strconv_FormatInt_10_small Tryz.lays173 i hi w
end Go.Proofs
namespace Go.Proofs.YtmddclifcgcpcaaGreatDoor.PTopNames
open Go.RowKit Go.Proofs.YtmddclifcgcpcaaGreatDoorW.PrintWords Go.Proofs.YtmddclifcgcpcaaGreatDoorW.PrintLast Go.Proofs.YtmddclifcgcpcaaGreatDoorW.PrintMore
theorem sb_WriteString (B b : Nat) (bs : List Value) (s : ByteArray) (w : World) (h : Lib.IsBuilder 47 5 B b bs w) (hlen : bs.length + s.size ≤ 140737488355328) (hBw : B ≤ w.heap.size) :
    Calls Tryz.prog 9 #[.pointer (some ⟨b, 0, none⟩), .string s] w fun e w' => e = .returned (.tuple #[.int .i64 s.size, .nilIface]) ∧ (Lib.BuilderAt 47 5 B b (.pointer (some ⟨b, 0, none⟩)) (bs ++ Lib.strCells s) w' ∧ Below B w w') := Any.Builder_WriteString (P := Tryz.prog) (ρ := Tryz.lays156_ren) { Tryz.lays156 with } Tryz.Builder_Extra_156 B b bs s w h hlen hBw
theorem fmt0 (w : World) : Calls Tryz.prog 46 #[.int .i64 0, .int .i64 10] w fun e w' => e = .returned (.string ⟨#[48]⟩) ∧ w' = w := by
  have e : Lib.decDigits 0 = [48] := by decide +kernel
  have h := Tryz.strconv_FormatInt_10_small 0 (by decide) w
  rw [e] at h
  exact h
theorem script_steps (k : Nat) (w : World) (hW : WF w k) :
  Calls Tryz.prog 24 #[.pointer (some ⟨k, 0, none⟩)] w fun e w' => e = .returned (.string ⟨#[48, 32, 48, 32, 48]⟩) ∧ Below w.heap.size w w' := by
 have HW := zA_ hW
 have HB := zA_ (Below.refl w.heap.size w)
 obtain ⟨v0, hv0⟩ : ∃ v : Value, v = .slice none 0 0 := ⟨_, rfl⟩
 have HO := zA_ (Kd.R_nil Kd.string 9 w w.heap.size (fun _ => True))
 rw [← hv0] at HO
 clear hW
 subst hv0
 go_enter Tryz.func24, Tryz.ntmps24
 go_wp2_with (first | fail)
 refine wp_loop_rounds 4 ?_
 rw [rounds_succ]
 go_wp2_with (first | (go_at_call 45; refine (world_Steps k 0 _ (HW.out.below (by exact HB.out)) (by decide)).mono ?_; rintro e w20 ⟨b0, rfl, hb⟩; replace HO := zA_ (Kd.R_below HO.out hb); replace HB := zA_ (below_step HB.out hb); clear hb) | (go_at_call 46; refine (fmt0 _).mono ?_; rintro e w30 ⟨rfl, rfl⟩) | ((with_reducible refine gate_builtin (b := .append) (xs := #[.tmp 16, .tmp 19]) rfl ?_); at_builtin; refine Kd.R_append Kd.string (w0 := w) w.heap.size rfl (.tmp 16) (.tmp 19) 56 9 (.string ByteArray.empty) 16 rfl Tryz.underlying56 (by kernel_rfl) rfl (by decide) (by decide) (.slice none 0 0) (([] : List ByteArray)) (⟨#[48]⟩ : ByteArray) [.string (⟨#[48]⟩ : ByteArray)] (fun _ => True) (fun _ => False) (by first | (go_simp; done) | (go_simp; rfl)) (by first | (go_simp; done) | (go_simp; rfl)) rfl (fun _ hk => hk.elim) (fun _ _ => trivial) HO.out HB.out (below_size HB.out) (by decide) ?_; intro v1 w10 ho hb hg hat; replace HO := zA_ ho; replace HB := zA_ hb; obtain ⟨A1, c1, e1⟩ := Kd.R_slice ho; subst e1; clear ho hb hg hat))
 rw [rounds_succ]
 go_wp2_with (first | (go_at_call 45; refine (world_Steps k 1 _ (HW.out.below (by exact HB.out)) (by decide)).mono ?_; rintro e w21 ⟨b1, rfl, hb⟩; replace HO := zA_ (Kd.R_below HO.out hb); replace HB := zA_ (below_step HB.out hb); clear hb) | (go_at_call 46; refine (fmt0 _).mono ?_; rintro e w31 ⟨rfl, rfl⟩) | ((with_reducible refine gate_builtin (b := .append) (xs := #[.tmp 16, .tmp 19]) rfl ?_); at_builtin; refine Kd.R_append Kd.string (w0 := w) w.heap.size rfl (.tmp 16) (.tmp 19) 56 9 (.string ByteArray.empty) 16 rfl Tryz.underlying56 (by kernel_rfl) rfl (by decide) (by decide) (.slice A1 _ c1) (([] : List ByteArray) ++ [(⟨#[48]⟩ : ByteArray)]) (⟨#[48]⟩ : ByteArray) [.string (⟨#[48]⟩ : ByteArray)] (fun _ => True) (fun _ => False) (by first | (go_simp; done) | (go_simp; rfl)) (by first | (go_simp; done) | (go_simp; rfl)) rfl (fun _ hk => hk.elim) (fun _ _ => trivial) HO.out HB.out (below_size HB.out) (by decide) ?_; intro v2 w11 ho hb hg hat; replace HO := zA_ ho; replace HB := zA_ hb; obtain ⟨A2, c2, e2⟩ := Kd.R_slice ho; subst e2; clear ho hb hg hat))
 rw [rounds_succ]
 go_wp2_with (first | (go_at_call 45; refine (world_Steps k 2 _ (HW.out.below (by exact HB.out)) (by decide)).mono ?_; rintro e w22 ⟨b2, rfl, hb⟩; replace HO := zA_ (Kd.R_below HO.out hb); replace HB := zA_ (below_step HB.out hb); clear hb) | (go_at_call 46; refine (fmt0 _).mono ?_; rintro e w32 ⟨rfl, rfl⟩) | ((with_reducible refine gate_builtin (b := .append) (xs := #[.tmp 16, .tmp 19]) rfl ?_); at_builtin; refine Kd.R_append Kd.string (w0 := w) w.heap.size rfl (.tmp 16) (.tmp 19) 56 9 (.string ByteArray.empty) 16 rfl Tryz.underlying56 (by kernel_rfl) rfl (by decide) (by decide) (.slice A2 _ c2) (([] : List ByteArray) ++ [(⟨#[48]⟩ : ByteArray)] ++ [(⟨#[48]⟩ : ByteArray)]) (⟨#[48]⟩ : ByteArray) [.string (⟨#[48]⟩ : ByteArray)] (fun _ => True) (fun _ => False) (by first | (go_simp; done) | (go_simp; rfl)) (by first | (go_simp; done) | (go_simp; rfl)) rfl (fun _ hk => hk.elim) (fun _ _ => trivial) HO.out HB.out (below_size HB.out) (by decide) ?_; intro v3 w12 ho hb hg hat; replace HO := zA_ ho; replace HB := zA_ hb; obtain ⟨A3, c3, e3⟩ := Kd.R_slice ho; subst e3; clear ho hb hg hat))
 rw [rounds_succ]
 go_wp2_with (first | fail)
 have hown := Kd.own_of_R HO.out
 obtain ⟨_, h2⟩ := hown
 rcases h2 with ⟨_, h2⟩ | ⟨g, cap, cur, hv, hbg, hk, hcap, _, _, htk⟩
 · cases h2
 injection hv with hv1 hv2 hv3
 subst hv1 hv3
 have hj := Tryz.strings_Join g 0 c3 [(⟨#[48]⟩ : ByteArray), (⟨#[48]⟩ : ByteArray), (⟨#[48]⟩ : ByteArray)] ⟨#[32]⟩ w12 (fun j x hx => by
   rw [Nat.zero_add]
   match j, hx with
   | 0, hx => obtain rfl := Option.some.inj hx; exact cell_taken hk htk (q := 0) rfl
   | 1, hx => obtain rfl := Option.some.inj hx; exact cell_taken hk htk (q := 1) rfl
   | 2, hx => obtain rfl := Option.some.inj hx; exact cell_taken hk htk (q := 2) rfl
   | _ + 3, hx => cases hx) (blk_lt hk) (by decide) (by simpa using hcap) (by decide +kernel)
 have ej : Lib.join (([(⟨#[48]⟩ : ByteArray), (⟨#[48]⟩ : ByteArray), (⟨#[48]⟩ : ByteArray)] : List ByteArray).map (·.data.toList)) (⟨#[32]⟩ : ByteArray).data.toList = [48, 32, 48, 32, 48] := by decide +kernel
 rw [ej] at hj
 refine hj.mono ?_
 rintro e w4 ⟨rfl, hb⟩
 replace HB := zA_ (below_step HB.out hb)
 clear hb hk htk hj HO
 go_wp2
 go_ret
 exact ⟨rfl, HB.out⟩
theorem below_dr {w w' : World} (h : Drawn0 w w') : Below w.heap.size w w' := by
  obtain ⟨nd, rfl⟩ := h
  exact below_drewN1 (Below.refl w.heap.size w) nd
def mem3 : List Int := [0, 1, 2]
def RM (w : World) (A : Option Addr) (c : Nat) : Prop := Kd.R (Kd.int .i64) 3 w 0 (fun _ => True) (.slice A 3 c) mem3
theorem RM.c {w : World} {A : Option Addr} {c : Nat} (h : RM w A c) : Kd.C (Kd.int .i64) w A 3 mem3 := (Kd.R_reads' h).2.2
theorem RM.le {w : World} {A : Option Addr} {c : Nat} (h : RM w A c) : 3 ≤ c := (Kd.R_reads' h).2.1
theorem RM.below {w w' : World} {A : Option Addr} {c : Nat} (h : RM w A c) (hb : Below w.heap.size w w') : RM w' A c := Kd.R_below h hb
def KP (S : Nat → Prop) (w w' : World) : Prop := Below 0 w w' ∧ ∀ k, k < w.heap.size → ¬ S k → w'.heap[k]? = w.heap[k]?
theorem KP.refl (S : Nat → Prop) (w : World) : KP S w w := ⟨Below.refl 0 w, fun _ _ _ => rfl⟩
theorem KP.of_below {S : Nat → Prop} {w w' : World} (h : Below w.heap.size w w') : KP S w w' := ⟨below_le h (Nat.zero_le _), fun k hk _ => h.block k hk⟩
theorem KP.trans {S : Nat → Prop} {a b c : World} (h : KP S a b) (k : KP S b c) : KP S a c := ⟨h.1.trans k.1, fun q hq hs => (k.2 q (Nat.lt_of_lt_of_le hq h.1.size) hs).trans (h.2 q hq hs)⟩
theorem KP.mono {S S' : Nat → Prop} {w w' : World} (h : KP S w w') (hs : ∀ k, S k → S' k) : KP S' w w' := ⟨h.1, fun k hk hn => h.2 k hk (fun e => hn (hs k e))⟩
theorem KP.set {S : Nat → Prop} (w : World) {b : Nat} (hb : S b) (q : Nat) (v : Value) : KP S w (w.setCell ⟨b, q, none⟩ v) := ⟨(Below.refl 0 w).setCell (p := ⟨b, q, none⟩) (Nat.zero_le _) v, fun k _ hn => Below.heap_setCell w ⟨b, q, none⟩ v k (fun e => hn (by rw [e]; exact hb))⟩
theorem KP.grown {S : Nat → Prop} {w w' : World} {b : Nat} (h : w.grownBy w' (some b)) (hb : S b) : KP S w w' := ⟨(Below.refl 0 w).grown h (Nat.zero_le _) (fun _ _ => Nat.zero_le _), fun k hk hn => h.block k hk (fun e => hn (by injection e with e; rw [e]; exact hb))⟩
theorem KP.below {S : Nat → Prop} {w w' : World} {n : Nat} (h : KP S w w') (hn : n ≤ w.heap.size) (hs : ∀ k, k < w.heap.size → S k → n ≤ k) : Below n w w' := ⟨h.1.os, h.1.tape, h.1.output, h.1.size, fun k hk => h.2 k (Nat.lt_of_lt_of_le hk hn) (fun e => by have := hs k (Nat.lt_of_lt_of_le hk hn) e; omega)⟩
theorem KP.blk {S : Nat → Prop} {w w' : World} {k : Nat} {o : Obj} (h : KP S w w') (hb : w.heap[k]? = some o) (hn : ¬ S k) : w'.heap[k]? = some o := (h.2 k (blk_lt hb) hn).trans hb
theorem KP.R {α : Type} {d : Kd α} {e base : Nat} {ok : Nat → Prop} {v : Value} {xs : List α} {S : Nat → Prop} {w w' : World} (h : KP S w w') (hr : d.R e w base ok v xs) (hS : ∀ k, S k → ∀ q, q ∈ e :: d.E → ∀ c, w.heap[k]? ≠ some (.cells c q (0, 0))) : d.R e w' base ok v xs :=
  Kd.R_mono (Kd.R_move (Kd.R_bound hr) (fun k hk => by
    obtain ⟨_, _, hlt, q, hq, c, hc⟩ := hk
    exact h.2 k hlt (fun hs => hS k hs q hq c hc))) (fun _ hk => hk.1)
theorem RM.kp {S : Nat → Prop} {w w' : World} {A : Option Addr} {c : Nat} (h : RM w A c) (hk : KP S w w') (hS : ∀ k, S k → ∀ c, w.heap[k]? ≠ some (.cells c 3 (0, 0))) : RM w' A c :=
  KP.R hk h (fun k hs q hq c => by
    have hq' : q = 3 := by simpa [Kd.int, Kd.scalar] using hq
    subst hq'
    exact hS k hs c)
theorem WM.kp {S : Nat → Prop} {w w' : World} {b n : Nat} {good : Value → Prop} (h : WM w b n good) (hk : KP S w w') (hn : ¬ S b) : WM w' b n good := by
  have hlt := h.lt
  obtain ⟨D, es, clock, h1, F, hs, hD⟩ := h
  exact ⟨D, es, clock, (hk.2 b hlt hn).trans h1, F, hs, hD⟩
theorem new2 (w : World) (A B : Obj) : ((w.alloc A).alloc B).heap[w.heap.size + 1]? = some B := by
  have h := heap_alloc_new (w.alloc A) B
  have e : (w.alloc A).heap.size = w.heap.size + 1 := by simp
  rwa [e] at h
theorem new3 (w : World) (A B C : Obj) : (((w.alloc A).alloc B).alloc C).heap[w.heap.size + 2]? = some C := by
  have h := new2 (w.alloc A) B C
  have e : (w.alloc A).heap.size = w.heap.size + 1 := by simp
  rwa [e] at h
theorem size2 (w : World) (A : Obj) : (w.alloc A).heap.size = w.heap.size + 1 := by simp
theorem c_contains (A : Option Addr) (c : Nat) (own : Int) (w : World) (hr : RM w A c) (ho : own = 0 ∨ own = 1 ∨ own = 2) :
    Calls Tryz.prog 59 #[.slice A 3 c, .int .i64 own] w fun e w' => e = .returned (.bool true) ∧ Below w.heap.size w w' := by
  have hf : slices_Contains_int_int.f 100 mem3 own = some true := by rcases ho with rfl | rfl | rfl <;> decide +kernel
  exact (slices_Contains_int_int.calls 100 A c mem3 own true w hr.c hr.le hf).mono fun e w' h => ⟨h.1, below_dr h.2⟩
theorem c_rising (A : Option Addr) (c : Nat) (w : World) (hr : RM w A c) :
    Calls Tryz.prog 108 #[.slice A 3 c] w fun e w' => e = .returned (.bool true) ∧ Below w.heap.size w w' :=
  (view_rising.calls 100 A c mem3 true w hr.c hr.le (by decide +kernel)).mono fun e w' h => ⟨h.1, below_dr h.2⟩
theorem c_bgood (A : Option Addr) (c : Nat) (w : World) (hr : RM w A c) :
    Calls Tryz.prog 173 #[.slice A 3 c] w fun e w' => e = .returned (.bool true) ∧ Below w.heap.size w w' :=
  (beat_good.calls 100 A c mem3 true w hr.c hr.le (by decide +kernel)).mono fun e w' h => ⟨h.1, below_dr h.2⟩
theorem c_dgood (A : Option Addr) (c : Nat) (w : World) (hr : RM w A c) :
    Calls Tryz.prog 58 #[.slice A 3 c] w fun e w' => e = .returned (.bool true) ∧ Below w.heap.size w w' :=
  (data_Good.calls 100 A c mem3 true w hr.c hr.le (by decide +kernel)).mono fun e w' h => ⟨h.1, below_dr h.2⟩
theorem c_worker (own : Int) (w : World) (ho : own = 0 ∨ own = 1 ∨ own = 2) :
    Calls Tryz.prog 176 #[.int .i64 own] w fun e w' => e = .returned (.bool true) ∧ Below w.heap.size w w' := by
  have hf : link_worker.f own = some true := by rcases ho with rfl | rfl | rfl <;> decide +kernel
  exact (link_worker.calls own true w hf).mono fun e w' h => ⟨h.1, below_dr h.2⟩
theorem c_clone (A : Option Addr) (c : Nat) (w : World) (hr : RM w A c) :
    Calls Tryz.prog 14 #[.slice A 3 c] w fun e w' => ∃ A1 c1, e = .returned (.slice A1 3 c1) ∧ Kd.R (Kd.int .i64) 3 w' w.heap.size (fun _ => True) (.slice A1 3 c1) mem3 ∧ RM w' A1 c1 ∧ Below w.heap.size w w' :=
  (slices_Clone_int_int.calls A c mem3 mem3 w hr.c hr.le (by decide +kernel)).mono fun e w' h => by
    obtain ⟨v, rfl, hR, hb⟩ := h
    obtain ⟨A1, c1, rfl⟩ := Kd.R_slice hR
    exact ⟨A1, c1, rfl, hR, Kd.R_lower hR (Nat.zero_le _), hb⟩
theorem c_copied (A : Option Addr) (c : Nat) (w : World) (hr : RM w A c) :
    Calls Tryz.prog 109 #[.agg #[.int .u32 1, .slice A 3 c]] w fun e w' => ∃ A1 c1, e = .returned (.agg #[.int .u32 1, .slice A1 3 c1]) ∧ RM w' A1 c1 ∧ Below w.heap.size w w' :=
  (view_copied.calls 1 A c mem3 1 mem3 w hr.c hr.le (by decide +kernel)).mono fun e w' h => by
    obtain ⟨v, rfl, hR, hb⟩ := h
    obtain ⟨A1, c1, rfl⟩ := Kd.R_slice hR
    exact ⟨A1, c1, rfl, Kd.R_lower hR (Nat.zero_le _), hb⟩
def MB (w : World) (g : Nat) (own : Int) : Prop := ∃ (h : Nat) (A : Option Addr) (c : Nat), w.heap[g]? = some (.cells #[.int .i64 own, .slice (some ⟨h, 0, none⟩) 1 1, .int .i64 0, .int .i64 (-1), .slice none 0 0, .int .i64 0, .int .i64 0, .slice none 0 0, .int .i64 0, .int .i64 0, .int .i64 0, .slice none 0 0, .map none, .map none] 205 (0, 0)) ∧ w.heap[h]? = some (.cells #[.int .u32 1, .slice A 3 c] 124 (0, 0)) ∧ RM w A c
theorem MB.below {w w' : World} {g : Nat} {own : Int} (h : MB w g own) (hb : Below w.heap.size w w') : MB w' g own := by
  obtain ⟨h, A, c, h1, h2, h3⟩ := h
  exact ⟨h, A, c, blk_below h1 hb, blk_below h2 hb, h3.below hb⟩
def BP (w : World) (g bm : Nat) (own : Int) (n : Nat) : Prop := ∃ (A : Option Addr) (c : Nat), w.heap[g]? = some (.cells #[.int .i64 own, .slice A 3 c, .int .i64 3, .int .i64 30, .int .i64 0, .map (some bm), .int .i64 (-1)] 278 (0, 0)) ∧ RM w A c ∧ WM w bm n (fun _ => True)
theorem view_New (A : Option Addr) (c : Nat) (own : Int) (w : World) (hr : RM w A c) (ho : own = 0 ∨ own = 1 ∨ own = 2) :
  Calls Tryz.prog 60 #[.int .i64 own, .agg #[.int .u32 1, .slice A 3 c]] w fun e w' => ∃ g, e = .returned (.tuple #[.pointer (some ⟨g, 0, none⟩), .int .i64 0]) ∧ w.heap.size ≤ g ∧ MB w' g own ∧ Below w.heap.size w w' := by
 have HB := zA_ (Below.refl w.heap.size w)
 have hnot : ∀ (x : Bool) (w : World), (Op.unary .not (.bool x)).run Tryz.prog w = .ok (.bool (!x)) w := fun _ _ => rfl
 have HR := zA_ hr
 have HO := zA_ ho
 clear hr ho
 go_enter Tryz.func60, Tryz.ntmps60
 go_wp2_with (first | ((with_reducible refine gate_dst (N := 3) rfl ?_); refine zB_ (#[.int .u32 1, .slice A 3 c]) 124 ?_; intro g3 hg wg3 hbox hb; have BKg3 := zA_ (hbox); have GEg3 := zA_ (zs_ hg (zw0_ HB)); replace HB := zA_ (below_step (zw0_ HB) hb); have hz0 := (blk_cell BKg3.out 0).trans rfl; have hz1 := (blk_cell BKg3.out 1).trans rfl; clear hb hbox hg) | (go_at_call 108; refine (c_rising A c _ (HR.out.below (by exact zw0_ HB))).mono ?_; rintro e w7 ⟨rfl, hb⟩; replace HB := zA_ (below_step (zw0_ HB) hb); (try clear hz0 hz1); replace BKg3 := zA_ (blk_below BKg3.out hb); have hz0 := (blk_cell BKg3.out 0).trans rfl; have hz1 := (blk_cell BKg3.out 1).trans rfl; clear hb) | (go_at_call 59; refine (c_contains A c own _ (HR.out.below (by exact zw0_ HB)) HO.out).mono ?_; rintro e w8 ⟨rfl, hb⟩; replace HB := zA_ (below_step (zw0_ HB) hb); (try clear hz0 hz1); replace BKg3 := zA_ (blk_below BKg3.out hb); have hz0 := (blk_cell BKg3.out 0).trans rfl; have hz1 := (blk_cell BKg3.out 1).trans rfl; clear hb) | (go_at_call 109; refine (c_copied A c _ (HR.out.below (by exact zw0_ HB))).mono ?_; rintro e w9 ⟨A1, c1, rfl, hr1, hb⟩; replace HB := zA_ (below_step (zw0_ HB) hb); have HR1 := zA_ hr1; clear hb hr1 hz0 hz1))
 go_ret2
 have hs := HB.out.size
 exact ⟨_, rfl, by omega, ⟨_, _, _, new2 _ _ _, blk_alloc (heap_alloc_new _ _) _, (HR1.out.below (by exact below_alloc (below_alloc (Below.refl _ _) _) _))⟩, below_alloc (below_alloc HB.out _) _⟩
theorem member_Current (g : Nat) (own : Int) (w : World) (hm : MB w g own) :
  Calls Tryz.prog 112 #[.pointer (some ⟨g, 0, none⟩)] w fun e w' => ∃ A c, e = .returned (.agg #[.int .u32 1, .slice A 3 c]) ∧ RM w' A c ∧ Below w.heap.size w w' := by
 have HB := zA_ (Below.refl w.heap.size w)
 have hnot : ∀ (x : Bool) (w : World), (Op.unary .not (.bool x)).run Tryz.prog w = .ok (.bool (!x)) w := fun _ _ => rfl
 obtain ⟨h, A, c, h1, h2, h3⟩ := hm
 have B1 := zA_ h1
 have B2 := zA_ h2
 have HR := zA_ h3
 clear h1 h2 h3
 go_enter Tryz.func112, Tryz.ntmps112
 go_wp2_with (first | ((with_reducible refine gate_dst (N := 2) rfl ?_); refine zB_ (#[.int .u32 0, .slice none 0 0]) 124 ?_; intro g2 hg wg2 hbox hb; have BKg2 := zA_ (hbox); have GEg2 := zA_ (zs_ hg (zw0_ HB)); replace HB := zA_ (below_step (zw0_ HB) hb); have hz0 := (blk_cell (blk_below B1.out HB.out) 1).trans rfl; have hz1 := (blk_cell (blk_below B2.out HB.out) 0).trans rfl; have hz2 := (blk_cell (blk_below B2.out HB.out) 1).trans rfl; have hf0 := blk_frozen BKg2.out 0; have hf1 := blk_frozen BKg2.out 1; have hc0 := (blk_cell BKg2.out 0).trans rfl; have hc1 := (blk_cell BKg2.out 1).trans rfl; clear hb hbox hg))
 refine wp_loop_rounds 1 ?_
 rw [rounds_succ]
 go_wp2_with (first | (go_at_call 109; refine (c_copied A c _ (HR.out.below (by exact zw0_ HB))).mono ?_; rintro e w9 ⟨A1, c1, rfl, hr1, hb⟩; replace BKg2 := zA_ (blk_below BKg2.out hb); replace HB := zA_ (below_step (zw0_ HB) hb); have HR1 := zA_ hr1; clear hb hr1 hz0 hz1 hz2 hf0 hf1 hc0 hc1; have hf0 := blk_frozen BKg2.out 0; have hf1 := blk_frozen BKg2.out 1; have hc0 := (blk_cell BKg2.out 0).trans rfl; have hc1 := (blk_cell BKg2.out 1).trans rfl))
 have BK9 := BKg2
 replace BKg2 := zA_ (blk_put (blk_put BKg2.out 0 (.int .u32 1) rfl) 1 (.slice A1 3 c1) rfl)
 refine bodyPost_ret (results_cell_row rfl _ _ g2 124 #[.int .u32 1, .slice A1 3 c1] (0, 0) _ rfl BKg2.out Tryz.underlying124 rfl (by kernel_rfl)) rfl ?_
 exact ⟨_, _, rfl, HR1.out.kp ((KP.set (S := fun k => k = g2) (b := g2) _ rfl 0 (.int .u32 1)).trans (KP.set (S := fun k => k = g2) (b := g2) _ rfl 1 (.slice A1 3 c1))) (fun k hk c_ e_ => by subst hk; rw [BK9.out] at e_; injection e_ with e_; injection e_ with _ e_; exact absurd e_ (by decide)), zw1_ HB GEg2⟩
theorem beat_New (A : Option Addr) (c : Nat) (own : Int) (w : World) (hr : RM w A c) (ho : own = 0 ∨ own = 1 ∨ own = 2) :
  Calls Tryz.prog 113 #[.int .i64 own, .slice A 3 c, .int .i64 3, .int .i64 30] w fun e w' => ∃ g bm, e = .returned (.tuple #[.pointer (some ⟨g, 0, none⟩), .int .i64 0]) ∧ w.heap.size ≤ g ∧ w.heap.size ≤ bm ∧ BP w' g bm own 0 ∧ Below w.heap.size w w' := by
 have HB := zA_ (Below.refl w.heap.size w)
 have hnot : ∀ (x : Bool) (w : World), (Op.unary .not (.bool x)).run Tryz.prog w = .ok (.bool (!x)) w := fun _ _ => rfl
 have HR := zA_ hr
 have HO := zA_ ho
 have hmm := @run_makeMap Tryz.prog
 clear hr ho
 go_enter Tryz.func113, Tryz.ntmps113
 go_wp2_with (first | (go_at_call 173; refine (c_bgood A c _ (HR.out.below (by exact zw0_ HB))).mono ?_; rintro e w7 ⟨rfl, hb⟩; replace HB := zA_ (below_step (zw0_ HB) hb); clear hb) | (go_at_call 59; refine (c_contains A c own _ (HR.out.below (by exact zw0_ HB)) HO.out).mono ?_; rintro e w8 ⟨rfl, hb⟩; replace HB := zA_ (below_step (zw0_ HB) hb); clear hb) | (go_at_call 14; refine (c_clone A c _ (HR.out.below (by exact zw0_ HB))).mono ?_; rintro e w9 ⟨A1, c1, rfl, hr0, hr1, hb⟩; replace HB := zA_ (below_step (zw0_ HB) hb); have HR1 := zA_ hr1; clear hb hr1 hr0))
 go_ret2
 have hs := HB.out.size
 exact ⟨_, _, rfl, by omega, hs, ⟨_, _, new2 _ _ _, (HR1.out.below (by exact below_alloc (below_alloc (Below.refl _ _) _) _)), (WM.made _ _).below (below_alloc (Below.refl _ _) _)⟩, below_alloc (below_alloc HB.out _) _⟩
theorem RM.not {w : World} {k e : Nat} {cs : Array Value} (h : w.heap[k]? = some (.cells cs e (0, 0))) (he : e ≠ 3) (c : Array Value) : w.heap[k]? ≠ some (.cells c 3 (0, 0)) := fun e_ => by rw [h] at e_; injection e_ with e_; injection e_ with _ e_; exact he e_
theorem RM.notmap {w : World} {k n : Nat} {good : Value → Prop} (h : WM w k n good) (c : Array Value) : w.heap[k]? ≠ some (.cells c 3 (0, 0)) := fun e_ => by obtain ⟨es, cl, h⟩ := h.blk; rw [h] at e_; cases e_
theorem beat_Heard (g bm : Nat) (own x : Int) (w : World) (n : Nat) (hn : n < 1000) (hp : BP w g bm own n) (hx : x = 0 ∨ x = 1 ∨ x = 2) (hne : x ≠ own) :
  Calls Tryz.prog 116 #[.pointer (some ⟨g, 0, none⟩), .int .i64 x, .int .i64 0] w fun e w' => e = .returned (.bool true) ∧ BP w' g bm own (n + 1) ∧ KP (fun k => k = g ∨ k = bm) w w' := by
 obtain ⟨A, c, h1, h2, h3⟩ := hp
 have B1 := zA_ h1
 have HR := zA_ h2
 have HM := zA_ h3
 have HX := zA_ hx
 have NE : Aside0 (bm ≠ g) := ⟨fun e => by subst e; obtain ⟨es, cl, h⟩ := h3.blk; rw [h1] at h; cases h⟩
 have hwx : (Lit.int .i64 x).wf = true := by rcases hx with rfl | rfl | rfl <;> decide
 have hd : (x == own) = false := by simp [hne]
 have hd2 : decide (x = own) = false := decide_eq_false hne
 have hd3 : (x != own) = true := by simp [hne]
 have hz0 := (blk_cell B1.out 0).trans rfl
 have hz1 := (blk_cell B1.out 1).trans rfl
 have hz2 := (blk_cell B1.out 2).trans rfl
 have hz3 := (blk_cell B1.out 3).trans rfl
 have hz4 := (blk_cell B1.out 4).trans rfl
 have hz5 := (blk_cell B1.out 5).trans rfl
 have hz6 := (blk_cell B1.out 6).trans rfl
 have hf4 := blk_frozen B1.out 4
 have hnot : ∀ (x : Bool) (w : World), (Op.unary .not (.bool x)).run Tryz.prog w = .ok (.bool (!x)) w := fun _ _ => rfl
 clear h1 h2 h3 hx
 go_enter Tryz.func116, Tryz.ntmps116
 go_wp2_with (first | (go_at_call 177; go_in) | (go_at_call 178; go_in) | (go_at_call 59; refine (c_contains A c x _ (HR.out.kp (by exact KP.set (S := fun k => k = g) (b := g) _ rfl 4 _) (fun k hk => by subst hk; exact RM.not B1.out (by decide))) HX.out).mono ?_; rintro e w8 ⟨rfl, hb⟩; have HM8 := zA_ ((HM.out.kp (KP.set (S := fun k => k = g) (b := g) w rfl 4 (.int .i64 0)) NE.out).below hb); have HR8 := zA_ ((HR.out.kp (KP.set (S := fun k => k = g) (b := g) w rfl 4 (.int .i64 0)) (fun k hk => by subst hk; exact RM.not B1.out (by decide))).below hb); replace B1 := zA_ (blk_below (blk_put B1.out 4 (.int .i64 0) rfl) hb); have KP8 := zA_ ((KP.set (S := fun k => k = g ∨ k = bm) (b := g) w (Or.inl rfl) 4 (.int .i64 0)).trans (KP.of_below hb)); clear hb hz0 hz1 hz2 hz3 hz4 hz5 hz6 hf4; have hz5 := (blk_cell B1.out 5).trans rfl) | (at_mapUpdate; refine WM.put (w1 := w8) (t := 151) (e := 2) HM8.out rfl _ _ _ rfl Tryz.underlying151 (by first | rfl | (go_simp; done)) (by unfold maxLen; omega) x (.int .i64 0) (by first | rfl | (go_simp; done)) (by first | rfl | (go_simp; done)) hwx trivial ?_; intro w9 hm9 hg9; have HM9 := zA_ hm9; have HG9 := zA_ hg9; clear hm9 hg9 hz5))
 go_ret
 exact ⟨rfl, ⟨A, c, blk_grown B1.out HG9.out (fun e => NE.out (by injection e with e; exact e.symm)), HR8.out.kp (KP.grown (S := fun k => k = bm) HG9.out rfl) (fun k hk => by subst hk; exact RM.notmap HM8.out), HM9.out⟩, KP8.out.trans (KP.grown HG9.out (Or.inr rfl))⟩
section
variable {P : Program} {ops : Array Oper} {o : Oper} {a : Act} {Q : Exit → Act → World → Prop} {K : Act → World → Prop}
theorem append1_step {W : World} (hw : Region.wanted o (yielded ops a.tmps) = true) (s x : Operand) (t e : TypeId) (z : Value) (size bytes : Nat)
    (ho : o.op = .call { callee := .builtin .append, args := #[s, x], argTypes := #[t, t] })
    (ht : P.underlying t = some (.slice e)) (hinfo : (P.info? e).map (fun i => (i.zero, i.size, i.bytes)) = some (some z, size, bytes)) (hz : z.cells.size = size) (hs0 : 0 < size) (hb0 : 0 < bytes)
    (ys : List Value) (hs : a.eval s = .slice none 0 0) (hx : a.eval x = .slice (some ⟨W.heap.size, 0, none⟩) 1 1) (hys : ys.length = size) (h1 : ∀ u ∈ ys, u.oneCell' = true) (hl : bytes ≤ 140737488355328)
    (h : ∀ (g c : Nat) (cur : Array Value) (w1 : World), W.heap.size ≤ g → 1 ≤ c → w1.heap[g]? = some (.cells cur e (0, 0)) → cur.toList.take size = ys → Below W.heap.size W w1 → K (a.put o.dst (.slice (some ⟨g, 0, none⟩) 1 c)) w1) :
    if Region.wanted o (yielded ops a.tmps) = true then Oper.wp P o a (W.alloc (.cells ys.toArray e)) K Q else K (a.put o.dst undef) (W.alloc (.cells ys.toArray e)) := by
  refine step_append_cells (w0 := W) W.heap.size hw s x t e z size bytes ho ht hinfo hz hs0 hb0 (.slice none 0 0) 0 [] ys hs hx hys h1 ⟨by simp, Or.inl ⟨rfl, rfl⟩⟩ (Below.refl _ _) (Nat.le_refl _) (by omega) ?_
  intro v1 w1 hown hb hg hat
  obtain ⟨hlen, h2⟩ := hown
  rcases h2 with ⟨_, h2⟩ | ⟨g, cap, cur, rfl, hbg, hk, hc, _, _, htk⟩
  · cases h2
  · exact h g cap cur w1 hbg hc hk (by simpa using htk) hb
end
section
open Classical
noncomputable def R2 (v : Value) : Option (DataW Unit × List MemPlace) := if v = .slice none 0 0 then some (.nil, []) else some (.lit (.bool true), [])
theorem R2_nil : R2 (.slice none 0 0) = some (.nil, []) := if_pos rfl
theorem R2_some (v : Value) : ∃ d, R2 v = some (d, []) := by
  unfold R2
  split
  · exact ⟨_, rfl⟩
  · exact ⟨_, rfl⟩
theorem R2_inv {v : Value} {ps : List MemPlace} (h : R2 v = some (.nil, ps)) : v = .slice none 0 0 := by
  unfold R2 at h
  split at h
  · assumption
  · injection h with h; injection h with h _; cases h
end
def LM (w : World) (b n : Nat) (ks : List Int) : Prop := ∃ D, w.ownsMap Tryz.prog 3 R2 b n D ∧ ∀ x : Int, x ∉ ks → D.atKey (.int .i64 x) .nil = .nil
theorem LM.blk {w : World} {b n : Nat} {ks : List Int} (h : LM w b n ks) : ∃ es clock, w.heap[b]? = some (.map es clock) := by
  obtain ⟨D, ⟨es, clock, hb, _⟩, _⟩ := h
  exact ⟨es, clock, hb⟩
theorem LM.lt {w : World} {b n : Nat} {ks : List Int} (h : LM w b n ks) : b < w.heap.size := by
  obtain ⟨es, clock, hb⟩ := h.blk
  exact (Array.getElem?_eq_some_iff.1 hb).1
theorem LM.made (w : World) : LM (w.alloc (.map #[] 0)) w.heap.size 0 [] := ⟨_, World.ownsMap_made w Tryz.prog 3 R2, fun _ _ => rfl⟩
theorem LM.kp {w w' : World} {b n : Nat} {ks : List Int} {S : Nat → Prop} (h : LM w b n ks) (hk : KP S w w') (hn : ¬ S b) : LM w' b n ks := by
  have hlt := h.lt
  obtain ⟨D, ⟨es, clock, h1, F, hs, hD⟩, h2⟩ := h
  exact ⟨D, ⟨es, clock, (hk.2 b hlt hn).trans h1, F, hs, hD⟩, h2⟩
theorem LM.below {w w' : World} {b n : Nat} {ks : List Int} (h : LM w b n ks) (hb : Below w.heap.size w w') : LM w' b n ks := h.kp (KP.of_below (S := fun _ => False) hb) (fun e => e)
theorem LM.look {w : World} {b n : Nat} {ks : List Int} (h : LM w b n ks) (x : Int) (hx : (Lit.int .i64 x).wf = true) (hn : x ∉ ks) :
    (Instr.lookup 150 (.map (some b)) (.int .i64 x) false).run Tryz.prog w = .ok (.slice none 0 0) w := by
  obtain ⟨D, h, h2⟩ := h
  obtain ⟨v, ps, hrun, hv⟩ := h.lookup (t := 150) (e := 229) law3 Tryz.underlying150 (by kernel_rfl) R2_nil (Go.Maps.keyOf_int_mk Tryz.underlying3 hx)
  rw [h2 x hn] at hv
  rw [R2_inv hv] at hrun
  exact hrun
theorem LM.put {w : World} {b n : Nat} {ks : List Int} (h : LM w b n ks) (x : Int) (hx : (Lit.int .i64 x).wf = true) (hn : n < maxLen) (v : Value) :
    ∃ w', (Instr.mapUpdate 150 (.map (some b)) (.int .i64 x) v).run Tryz.prog w = .ok () w' ∧ LM w' b (n + 1) (x :: ks) ∧ w.grownBy w' (some b) := by
  obtain ⟨D, h, h2⟩ := h
  obtain ⟨d, hd⟩ := R2_some v
  obtain ⟨w', hrun, r1, r2⟩ := h.update (t := 150) (e := 229) law3 Tryz.underlying150 hn (Go.Maps.keyOf_int_mk Tryz.underlying3 hx) hd
  refine ⟨w', hrun, ⟨_, r1, fun y hy => ?_⟩, r2⟩
  rw [Go.Maps.atKey_put_other (fun e => hy (by injection e with _ e; rw [e]; exact List.mem_cons_self))]
  exact h2 y (fun e => hy (List.mem_cons_of_mem _ e))
def work_push.T1 : Bool × List (List Nat × List Nat) := (true, [([], []), ([0], [0]), ([1], [1]), ([2], [2]), ([], []), ([], []), ([5], [5]), ([6], [6]), ([7], [7]), ([], []), ([8, 9], [8, 9]), ([], []), ([11], [11]), ([10, 12], [10, 12]), ([3, 4, 13, 13, 0, 1, 2, 3, 4, 5, 6, 7, 8, 9, 10, 11, 12, 13], [3, 4, 13])])
def work_push.B1 : List Nat := [0, 1, 3, 7, 0, 0, 32, 96, 224, 0, 992, 0, 2048, 8160, 16383]
theorem work_push.tab1 : rtab .any (opsOf Tryz.f117 1) = work_push.T1 := by kernel_rfl
theorem work_push.bits1 : waitsOk work_push.T1.2 work_push.B1 = true := by kernel_rfl
theorem work_push (k ml n : Nat) (cs : Array Value) (ks : List Int) (x : Int) (sv : Value) (hsv : sv.oneCell' = true) (w : World) (hk : w.heap[k]? = some (.cells cs 155 (0, 0))) (h20 : cs[20]? = some (.map (some ml))) (hL : LM w ml n ks) (hx : (Lit.int .i64 x).wf = true) (hn : x ∉ ks) (hn1 : n < 1000) :
  Calls Tryz.prog 117 #[.pointer (some ⟨k, 0, none⟩), .int .i64 x, .agg #[.int .i64 3, .int .i64 0, .int .i64 0, .int .u32 0, .int .u32 0, sv, .slice none 0 0]] w fun e w' => e = .returned (.tuple #[]) ∧ LM w' ml (n + 1) (x :: ks) ∧ KP (fun k => k = ml) w w' := by
 have BK := zA_ hk
 have HL := zA_ hL
 have HK := zA_ (KP.refl (fun k => k = ml) w)
 have H20 := zA_ h20
 clear hk hL
 go_enter Tryz.func117, Tryz.ntmps117
 go_wp2_with (first | fail)
 have e_ := (Below.refl w.heap.size w).alloc (Nat.le_refl _) (.cells #[.int .i64 3, .int .i64 0, .int .i64 0, .int .u32 0, .int .u32 0, sv, .slice none 0 0] 220)
 have BX : Aside0 ((w.alloc (.cells #[.int .i64 3, .int .i64 0, .int .i64 0, .int .u32 0, .int .u32 0, sv, .slice none 0 0] 220)).drew.heap[w.heap.size]? = some (.cells #[.int .i64 3, .int .i64 0, .int .i64 0, .int .u32 0, .int .u32 0, sv, .slice none 0 0] 220 (0, 0))) := ⟨blk_drew (heap_alloc_new _ _)⟩
 replace BK := zA_ (blk_drew (blk_below BK.out e_))
 replace HL := zA_ (HL.out.below (below_drew1 e_))
 replace HK := zA_ (HK.out.trans (KP.of_below (below_drew1 e_)))
 clear e_
 generalize w.heap.size = b at BX ⊢
 refine start_ (n := 15) (S := fun w' => w'.cell? ⟨k, 20, none⟩ = some (.map (some ml)) ∧ w'.cell? ⟨b, 0, none⟩ = some (.int .i64 3) ∧ w'.cell? ⟨b, 1, none⟩ = some (.int .i64 0) ∧ w'.cell? ⟨b, 2, none⟩ = some (.int .i64 0) ∧ w'.cell? ⟨b, 3, none⟩ = some (.int .u32 0) ∧ w'.cell? ⟨b, 4, none⟩ = some (.int .u32 0) ∧ w'.cell? ⟨b, 5, none⟩ = some (sv) ∧ w'.cell? ⟨b, 6, none⟩ = some (.slice none 0 0) ∧ (Instr.lookup 150 (.map (some ml)) (.int .i64 x) false).run Tryz.prog w' = .ok (.slice none 0 0) w') (ds := [14]) #[false, false, false, false, false, false, false, false, false, false, false, false, false, false, false] (by kernel_rfl) rfl rfl ⟨(blk_cell BK.out 20).trans H20.out, (blk_cell BX.out 0).trans rfl, (blk_cell BX.out 1).trans rfl, (blk_cell BX.out 2).trans rfl, (blk_cell BX.out 3).trans rfl, (blk_cell BX.out 4).trans rfl, (blk_cell BX.out 5).trans rfl, (blk_cell BX.out 6).trans rfl, HL.out.look x hx hn⟩ (fun hHeld => ?_); refine with_tabW work_push.tab1 work_push.bits1 (fun HT_ HW_ => ?_)
 generalize (w.alloc (.cells #[.int .i64 3, .int .i64 0, .int .i64 0, .int .u32 0, .int .u32 0, sv, .slice none 0 0] 220)).drew = w1 at BX BK HL HK hHeld ⊢
 refine yp_ ?_ 0 6
 refine yp_ ?_ 1 7
 refine yp_ ?_ 2 8
 refine yp_ ?_ 4 10
 refine yp_ ?_ 5 11
 refine yp_ ?_ 6 12
 refine yp_ ?_ 7 13
 refine yp_ ?_ 9 15
 refine yt9_ ?_ 3 9
 refine yt9_ ?_ 8 14
 refine yt9_ ?_ 10 16
 refine yt9_ ?_ 11 17
 refine yo_ 12 (some 18) (fun K hK => ?_)
 refine value_ (w1 := ?_) (v := ?_) (by rfl) rfl ?_ ?_
 rotate_left 2
 · go_simp
   constructor
   · rfl
   rfl
 have e_ := (Below.refl w1.heap.size w1).alloc (Nat.le_refl _) (.cells #[.int .i64 3, .int .i64 0, .int .i64 0, .int .u32 0, .int .u32 0, sv, .slice none 0 0] 220)
 refine hK.out _ _ ⟨(blk_cell (blk_below BK.out e_) 20).trans H20.out, (blk_cell (blk_below BX.out e_) 0).trans rfl, (blk_cell (blk_below BX.out e_) 1).trans rfl, (blk_cell (blk_below BX.out e_) 2).trans rfl, (blk_cell (blk_below BX.out e_) 3).trans rfl, (blk_cell (blk_below BX.out e_) 4).trans rfl, (blk_cell (blk_below BX.out e_) 5).trans rfl, (blk_cell (blk_below BX.out e_) 6).trans rfl, (HL.out.below e_).look x hx hn⟩ (fun hHeld => ?_)
 clear hK K
 refine zq_ (some 18) (h := ?_)
 refine yo_ 13 (some 19) (fun K hK => ?_)
 refine append1_step (by rfl) (.tmp 16) (.tmp 18) 229 220 (.agg #[.int .i64 0, .int .i64 0, .int .i64 0, .int .u32 0, .int .u32 0, .slice none 0 0, .slice none 0 0]) 7 80 rfl Tryz.underlying229 (by kernel_rfl) rfl (by decide) (by decide) [.int .i64 3, .int .i64 0, .int .i64 0, .int .u32 0, .int .u32 0, sv, .slice none 0 0] (by first | rfl | (go_simp; done)) (by first | rfl | (go_simp; done)) rfl (by intro u hu; simp only [List.mem_cons, List.not_mem_nil, or_false] at hu; rcases hu with rfl | rfl | rfl | rfl | rfl | rfl | rfl <;> first | rfl | exact hsv) (by decide) ?_
 intro g1 c1 cur w2 hg1 hc1 hcur htk hb
 replace BX := zA_ (blk_below BX.out hb)
 replace BK := zA_ (blk_below BK.out hb)
 replace HL := zA_ (HL.out.below hb)
 replace HK := zA_ (HK.out.trans (KP.of_below hb))
 clear hb hcur htk e_
 refine hK.out _ _ ⟨(blk_cell BK.out 20).trans H20.out, (blk_cell BX.out 0).trans rfl, (blk_cell BX.out 1).trans rfl, (blk_cell BX.out 2).trans rfl, (blk_cell BX.out 3).trans rfl, (blk_cell BX.out 4).trans rfl, (blk_cell BX.out 5).trans rfl, (blk_cell BX.out 6).trans rfl, HL.out.look x hx hn⟩ (fun hHeld => ?_)
 clear hK K
 refine zq_ (some 19) (h := ?_)
 refine yl_ 14 none (fun K hK => ?_)
 obtain ⟨w3, hrun, hl3, hg3⟩ := HL.out.put x hx (by unfold maxLen; omega) (.slice (some ⟨g1, 0, none⟩) 1 c1)
 refine skip_ (w1 := w3) (by rfl) rfl ?_ ?_
 · go_simp
 refine hK.out _ _ ?_
 clear hK K
 refine done_ (done_of HT_.out (by kernel_rfl)) ?_
 go_end0
 exact ⟨rfl, hl3, HK.out.trans (KP.grown hg3 rfl)⟩
theorem clear1 (g m : Nat) (W : World) (v : Value) (hc : W.cell? ⟨g, 2, none⟩ = some v) (hf : W.frozen? ⟨g, 2, none⟩ = false) : (Builtin.clear_ #[32] 0 #[.slice (some ⟨g, 2, none⟩) 1 m]).run Tryz.prog W = .ok (.tuple #[]) (W.setCell ⟨g, 2, none⟩ (.int .i64 0)) :=
  Lib.run_clear_slice W 32 3 0 (.int .i64 0) Tryz.underlying32 Tryz.zeroValue3 rfl rfl g 2 1 m (by decide) (fun j hj => by obtain rfl : j = 0 := (by omega); rw [show 2 + 0 = 2 from rfl, hc]; rfl) (fun j hj => by obtain rfl : j = 0 := (by omega); exact hf)
theorem index_own0 (g b k c : Nat) (w : World) (hc : 3 ≤ c) (h0 : w.cell? ⟨g, 0, none⟩ = some (.int .i64 0)) (h1 : w.cell? ⟨g, 1, none⟩ = some (.int .i64 1)) (h2 : w.cell? ⟨g, 2, none⟩ = some (.int .i64 2)) (hb : w.cell? ⟨b, 0, none⟩ = some (.pointer (some ⟨k, 0, none⟩))) (hk : w.cell? ⟨k, 9, none⟩ = some (.int .i64 0)) :
  Calls Tryz.prog 254 #[.slice (some ⟨g, 0, none⟩) 3 c, (.func (.func 175) #[] #[.pointer (some ⟨b, 0, none⟩)])] w fun e w' => e = .returned (.int .i64 0) ∧ w' = w := by
 go_enter Tryz.func254, Tryz.ntmps254
 go_wp2
 refine wp_loop_rounds 1 ?_
 rw [rounds_succ]
 go_wp2
 go_ret
 exact ⟨rfl, rfl⟩
theorem index_own1 (g b k c : Nat) (w : World) (hc : 3 ≤ c) (h0 : w.cell? ⟨g, 0, none⟩ = some (.int .i64 0)) (h1 : w.cell? ⟨g, 1, none⟩ = some (.int .i64 1)) (h2 : w.cell? ⟨g, 2, none⟩ = some (.int .i64 2)) (hb : w.cell? ⟨b, 0, none⟩ = some (.pointer (some ⟨k, 0, none⟩))) (hk : w.cell? ⟨k, 9, none⟩ = some (.int .i64 1)) :
  Calls Tryz.prog 254 #[.slice (some ⟨g, 0, none⟩) 3 c, (.func (.func 175) #[] #[.pointer (some ⟨b, 0, none⟩)])] w fun e w' => e = .returned (.int .i64 1) ∧ w' = w := by
 go_enter Tryz.func254, Tryz.ntmps254
 go_wp2
 refine wp_loop_rounds 2 ?_
 rw [rounds_succ]
 go_wp2
 rw [rounds_succ]
 go_wp2
 go_ret
 exact ⟨rfl, rfl⟩
theorem index_own2 (g b k c : Nat) (w : World) (hc : 3 ≤ c) (h0 : w.cell? ⟨g, 0, none⟩ = some (.int .i64 0)) (h1 : w.cell? ⟨g, 1, none⟩ = some (.int .i64 1)) (h2 : w.cell? ⟨g, 2, none⟩ = some (.int .i64 2)) (hb : w.cell? ⟨b, 0, none⟩ = some (.pointer (some ⟨k, 0, none⟩))) (hk : w.cell? ⟨k, 9, none⟩ = some (.int .i64 2)) :
  Calls Tryz.prog 254 #[.slice (some ⟨g, 0, none⟩) 3 c, (.func (.func 175) #[] #[.pointer (some ⟨b, 0, none⟩)])] w fun e w' => e = .returned (.int .i64 2) ∧ w' = w := by
 go_enter Tryz.func254, Tryz.ntmps254
 go_wp2
 refine wp_loop_rounds 3 ?_
 rw [rounds_succ]
 go_wp2
 rw [rounds_succ]
 go_wp2
 rw [rounds_succ]
 go_wp2
 go_ret
 exact ⟨rfl, rfl⟩
theorem delete_own0 (g b k c : Nat) (w : World) (hc : 3 ≤ c) (h0 : w.cell? ⟨g, 0, none⟩ = some (.int .i64 0)) (h1 : w.cell? ⟨g, 1, none⟩ = some (.int .i64 1)) (h2 : w.cell? ⟨g, 2, none⟩ = some (.int .i64 2)) (hb : w.cell? ⟨b, 0, none⟩ = some (.pointer (some ⟨k, 0, none⟩))) (hk : w.cell? ⟨k, 9, none⟩ = some (.int .i64 0)) (f0 : w.frozen? ⟨g, 0, none⟩ = false) (f1 : w.frozen? ⟨g, 1, none⟩ = false) (f2 : w.frozen? ⟨g, 2, none⟩ = false) (n1 : g ≠ b) (n2 : g ≠ k) :
  Calls Tryz.prog 174 #[.slice (some ⟨g, 0, none⟩) 3 c, (.func (.func 175) #[] #[.pointer (some ⟨b, 0, none⟩)])] w fun e w' => e = .returned (.slice (some ⟨g, 0, none⟩) 2 c) ∧ w'.cell? ⟨g, 0, none⟩ = some (.int .i64 1) ∧ w'.cell? ⟨g, 1, none⟩ = some (.int .i64 2) ∧ KP (fun q => q = g) w w' := by
 have hnot : ∀ (x : Bool) (w : World), (Op.unary .not (.bool x)).run Tryz.prog w = .ok (.bool (!x)) w := fun _ _ => rfl
 have hcl := fun m W => clear1 g m W (.int .i64 2)
 have n3 := Ne.symm n1
 have n4 := Ne.symm n2
 go_enter Tryz.func174, Tryz.ntmps174
 go_wp2_with (first | (go_at_call 254; refine (index_own0 g b k c _ hc h0 h1 h2 hb hk).mono ?_; rintro e w7 ⟨rfl, rfl⟩))
 refine wp_loop_rounds 3 ?_
 rw [rounds_succ]
 go_wp2
 rw [rounds_succ]
 go_wp2
 rw [rounds_succ]
 go_wp2
 go_ret
 exact ⟨rfl, by first | (go_simp; done) | simp [h0, h1, h2], by first | (go_simp; done) | simp [h0, h1, h2], (((KP.set (S := fun q => q = g) (b := g) _ rfl 0 (.int .i64 1)).trans (KP.set (S := fun q => q = g) (b := g) _ rfl 1 (.int .i64 2))).trans (KP.set (S := fun q => q = g) (b := g) _ rfl 2 (.int .i64 0)))⟩
theorem delete_own1 (g b k c : Nat) (w : World) (hc : 3 ≤ c) (h0 : w.cell? ⟨g, 0, none⟩ = some (.int .i64 0)) (h1 : w.cell? ⟨g, 1, none⟩ = some (.int .i64 1)) (h2 : w.cell? ⟨g, 2, none⟩ = some (.int .i64 2)) (hb : w.cell? ⟨b, 0, none⟩ = some (.pointer (some ⟨k, 0, none⟩))) (hk : w.cell? ⟨k, 9, none⟩ = some (.int .i64 1)) (f0 : w.frozen? ⟨g, 0, none⟩ = false) (f1 : w.frozen? ⟨g, 1, none⟩ = false) (f2 : w.frozen? ⟨g, 2, none⟩ = false) (n1 : g ≠ b) (n2 : g ≠ k) :
  Calls Tryz.prog 174 #[.slice (some ⟨g, 0, none⟩) 3 c, (.func (.func 175) #[] #[.pointer (some ⟨b, 0, none⟩)])] w fun e w' => e = .returned (.slice (some ⟨g, 0, none⟩) 2 c) ∧ w'.cell? ⟨g, 0, none⟩ = some (.int .i64 0) ∧ w'.cell? ⟨g, 1, none⟩ = some (.int .i64 2) ∧ KP (fun q => q = g) w w' := by
 have hnot : ∀ (x : Bool) (w : World), (Op.unary .not (.bool x)).run Tryz.prog w = .ok (.bool (!x)) w := fun _ _ => rfl
 have hcl := fun m W => clear1 g m W (.int .i64 2)
 have n3 := Ne.symm n1
 have n4 := Ne.symm n2
 go_enter Tryz.func174, Tryz.ntmps174
 go_wp2_with (first | (go_at_call 254; refine (index_own1 g b k c _ hc h0 h1 h2 hb hk).mono ?_; rintro e w7 ⟨rfl, rfl⟩))
 refine wp_loop_rounds 2 ?_
 rw [rounds_succ]
 go_wp2
 rw [rounds_succ]
 go_wp2
 go_ret
 exact ⟨rfl, by first | (go_simp; done) | simp [h0, h1, h2], by first | (go_simp; done) | simp [h0, h1, h2], ((KP.set (S := fun q => q = g) (b := g) _ rfl 1 (.int .i64 2)).trans (KP.set (S := fun q => q = g) (b := g) _ rfl 2 (.int .i64 0)))⟩
theorem delete_own2 (g b k c : Nat) (w : World) (hc : 3 ≤ c) (h0 : w.cell? ⟨g, 0, none⟩ = some (.int .i64 0)) (h1 : w.cell? ⟨g, 1, none⟩ = some (.int .i64 1)) (h2 : w.cell? ⟨g, 2, none⟩ = some (.int .i64 2)) (hb : w.cell? ⟨b, 0, none⟩ = some (.pointer (some ⟨k, 0, none⟩))) (hk : w.cell? ⟨k, 9, none⟩ = some (.int .i64 2)) (f0 : w.frozen? ⟨g, 0, none⟩ = false) (f1 : w.frozen? ⟨g, 1, none⟩ = false) (f2 : w.frozen? ⟨g, 2, none⟩ = false) (n1 : g ≠ b) (n2 : g ≠ k) :
  Calls Tryz.prog 174 #[.slice (some ⟨g, 0, none⟩) 3 c, (.func (.func 175) #[] #[.pointer (some ⟨b, 0, none⟩)])] w fun e w' => e = .returned (.slice (some ⟨g, 0, none⟩) 2 c) ∧ w'.cell? ⟨g, 0, none⟩ = some (.int .i64 0) ∧ w'.cell? ⟨g, 1, none⟩ = some (.int .i64 1) ∧ KP (fun q => q = g) w w' := by
 have hnot : ∀ (x : Bool) (w : World), (Op.unary .not (.bool x)).run Tryz.prog w = .ok (.bool (!x)) w := fun _ _ => rfl
 have hcl := fun m W => clear1 g m W (.int .i64 2)
 have n3 := Ne.symm n1
 have n4 := Ne.symm n2
 go_enter Tryz.func174, Tryz.ntmps174
 go_wp2_with (first | (go_at_call 254; refine (index_own2 g b k c _ hc h0 h1 h2 hb hk).mono ?_; rintro e w7 ⟨rfl, rfl⟩))
 refine wp_loop_rounds 1 ?_
 rw [rounds_succ]
 go_wp2
 go_ret
 exact ⟨rfl, by first | (go_simp; done) | simp [h0, h1, h2], by first | (go_simp; done) | simp [h0, h1, h2], (KP.set (S := fun q => q = g) (b := g) _ rfl 2 (.int .i64 0))⟩
theorem mem3_row {w : World} {base c : Nat} {ok : Nat → Prop} {A : Option Addr} (h : Kd.R (Kd.int .i64) 3 w base ok (.slice A 3 c) mem3) : ∃ g, A = some ⟨g, 0, none⟩ ∧ base ≤ g ∧ g < w.heap.size ∧ 3 ≤ c ∧ (∃ cur, w.heap[g]? = some (.cells cur 3 (0, 0))) ∧ w.cell? ⟨g, 0, none⟩ = some (.int .i64 0) ∧ w.cell? ⟨g, 1, none⟩ = some (.int .i64 1) ∧ w.cell? ⟨g, 2, none⟩ = some (.int .i64 2) ∧ ∀ q, w.frozen? ⟨g, q, none⟩ = false := by
  obtain ⟨_, h2⟩ := Kd.own_of_R h
  rcases h2 with ⟨_, h2⟩ | ⟨g, cap, cur, hv, hbg, hk, hcap, _, _, htk⟩
  · cases h2
  · injection hv with hv1 hv2 hv3
    subst hv1 hv3
    exact ⟨g, rfl, hbg, blk_lt hk, hcap, ⟨cur, hk⟩, cell_taken hk htk (q := 0) rfl, cell_taken hk htk (q := 1) rfl, cell_taken hk htk (q := 2) rfl, fun q => blk_frozen hk q⟩
theorem work_others0 (k : Nat) (cs : Array Value) (A : Option Addr) (c : Nat) (w : World) (hk : w.heap[k]? = some (.cells cs 155 (0, 0))) (h9 : cs[9]? = some (.int .i64 0)) (h17 : cs[17]? = some (.slice A 3 c)) (hr : RM w A c) :
  Calls Tryz.prog 114 #[.pointer (some ⟨k, 0, none⟩)] w fun e w' => ∃ g c1, e = .returned (.slice (some ⟨g, 0, none⟩) 2 c1) ∧ w.heap.size ≤ g ∧ w'.cell? ⟨g, 0, none⟩ = some (.int .i64 1) ∧ w'.cell? ⟨g, 1, none⟩ = some (.int .i64 2) ∧ Below w.heap.size w w' := by
 have hmf : ∀ (fn : Fn) (first cap : Array Value) (w : World), (Instr.makeFunc fn first cap).run Tryz.prog w = .ok (.func fn first cap) w := fun _ _ _ _ => rfl
 have HB := zA_ (Below.refl w.heap.size w)
 have BK := zA_ hk
 have HR := zA_ hr
 have H9 := zA_ h9
 have hz17 := fun o => (blk_cell (blk_alloc hk o) 17).trans h17
 clear hk hr h9
 go_enter Tryz.func114, Tryz.ntmps114
 go_wp2_with (first | (go_at_call 14; refine (c_clone A c _ (HR.out.below (by exact zw0_ HB))).mono ?_; rintro e w7 ⟨A1, c1, rfl, hR1, hr1, hb⟩; obtain ⟨g, rfl, hg, hgs, hc1, hcur, g0, g1, g2, gf⟩ := mem3_row hR1; have BB := zA_ (blk_below (heap_alloc_new w (.cells #[.pointer (some ⟨k, 0, none⟩)] 102)) hb); replace BK := zA_ (blk_below BK.out (below_step (zw0_ HB) hb)); replace HB := zA_ (below_step (zw0_ HB) hb); have GG := zA_ hg; have G0 := zA_ g0; have G1 := zA_ g1; have G2 := zA_ g2; have GF := zA_ gf; have HC := zA_ hc1; have GC := zA_ hcur; clear hb hr1 hR1 hz17 hg hgs g0 g1 g2 gf hcur))
 go_at_call 174
 have hs1 := size2 w (.cells #[.pointer (some ⟨k, 0, none⟩)] 102)
 have hgg := GG.out
 rw [hs1] at hgg
 have n1 : g ≠ w.heap.size := by omega
 have n2 : g ≠ k := fun e => by subst e; obtain ⟨cur, hcur⟩ := GC.out; have h1 := BK.out; rw [hcur] at h1; injection h1 with h1; injection h1 with _ h1; exact absurd h1 (by decide)
 refine (delete_own0 g w.heap.size k c1 _ HC.out G0.out G1.out G2.out ((blk_cell BB.out 0).trans rfl) ((blk_cell BK.out 9).trans H9.out) (GF.out 0) (GF.out 1) (GF.out 2) n1 n2).mono ?_
 rintro e w8 ⟨rfl, d0, d1, hkp⟩
 go_wp2
 go_ret
 exact ⟨_, _, rfl, by omega, d0, d1, HB.out.trans (hkp.below HB.out.size (fun q _ hq => by rw [hq]; omega))⟩
theorem work_others1 (k : Nat) (cs : Array Value) (A : Option Addr) (c : Nat) (w : World) (hk : w.heap[k]? = some (.cells cs 155 (0, 0))) (h9 : cs[9]? = some (.int .i64 1)) (h17 : cs[17]? = some (.slice A 3 c)) (hr : RM w A c) :
  Calls Tryz.prog 114 #[.pointer (some ⟨k, 0, none⟩)] w fun e w' => ∃ g c1, e = .returned (.slice (some ⟨g, 0, none⟩) 2 c1) ∧ w.heap.size ≤ g ∧ w'.cell? ⟨g, 0, none⟩ = some (.int .i64 0) ∧ w'.cell? ⟨g, 1, none⟩ = some (.int .i64 2) ∧ Below w.heap.size w w' := by
 have hmf : ∀ (fn : Fn) (first cap : Array Value) (w : World), (Instr.makeFunc fn first cap).run Tryz.prog w = .ok (.func fn first cap) w := fun _ _ _ _ => rfl
 have HB := zA_ (Below.refl w.heap.size w)
 have BK := zA_ hk
 have HR := zA_ hr
 have H9 := zA_ h9
 have hz17 := fun o => (blk_cell (blk_alloc hk o) 17).trans h17
 clear hk hr h9
 go_enter Tryz.func114, Tryz.ntmps114
 go_wp2_with (first | (go_at_call 14; refine (c_clone A c _ (HR.out.below (by exact zw0_ HB))).mono ?_; rintro e w7 ⟨A1, c1, rfl, hR1, hr1, hb⟩; obtain ⟨g, rfl, hg, hgs, hc1, hcur, g0, g1, g2, gf⟩ := mem3_row hR1; have BB := zA_ (blk_below (heap_alloc_new w (.cells #[.pointer (some ⟨k, 0, none⟩)] 102)) hb); replace BK := zA_ (blk_below BK.out (below_step (zw0_ HB) hb)); replace HB := zA_ (below_step (zw0_ HB) hb); have GG := zA_ hg; have G0 := zA_ g0; have G1 := zA_ g1; have G2 := zA_ g2; have GF := zA_ gf; have HC := zA_ hc1; have GC := zA_ hcur; clear hb hr1 hR1 hz17 hg hgs g0 g1 g2 gf hcur))
 go_at_call 174
 have hs1 := size2 w (.cells #[.pointer (some ⟨k, 0, none⟩)] 102)
 have hgg := GG.out
 rw [hs1] at hgg
 have n1 : g ≠ w.heap.size := by omega
 have n2 : g ≠ k := fun e => by subst e; obtain ⟨cur, hcur⟩ := GC.out; have h1 := BK.out; rw [hcur] at h1; injection h1 with h1; injection h1 with _ h1; exact absurd h1 (by decide)
 refine (delete_own1 g w.heap.size k c1 _ HC.out G0.out G1.out G2.out ((blk_cell BB.out 0).trans rfl) ((blk_cell BK.out 9).trans H9.out) (GF.out 0) (GF.out 1) (GF.out 2) n1 n2).mono ?_
 rintro e w8 ⟨rfl, d0, d1, hkp⟩
 go_wp2
 go_ret
 exact ⟨_, _, rfl, by omega, d0, d1, HB.out.trans (hkp.below HB.out.size (fun q _ hq => by rw [hq]; omega))⟩
theorem work_others2 (k : Nat) (cs : Array Value) (A : Option Addr) (c : Nat) (w : World) (hk : w.heap[k]? = some (.cells cs 155 (0, 0))) (h9 : cs[9]? = some (.int .i64 2)) (h17 : cs[17]? = some (.slice A 3 c)) (hr : RM w A c) :
  Calls Tryz.prog 114 #[.pointer (some ⟨k, 0, none⟩)] w fun e w' => ∃ g c1, e = .returned (.slice (some ⟨g, 0, none⟩) 2 c1) ∧ w.heap.size ≤ g ∧ w'.cell? ⟨g, 0, none⟩ = some (.int .i64 0) ∧ w'.cell? ⟨g, 1, none⟩ = some (.int .i64 1) ∧ Below w.heap.size w w' := by
 have hmf : ∀ (fn : Fn) (first cap : Array Value) (w : World), (Instr.makeFunc fn first cap).run Tryz.prog w = .ok (.func fn first cap) w := fun _ _ _ _ => rfl
 have HB := zA_ (Below.refl w.heap.size w)
 have BK := zA_ hk
 have HR := zA_ hr
 have H9 := zA_ h9
 have hz17 := fun o => (blk_cell (blk_alloc hk o) 17).trans h17
 clear hk hr h9
 go_enter Tryz.func114, Tryz.ntmps114
 go_wp2_with (first | (go_at_call 14; refine (c_clone A c _ (HR.out.below (by exact zw0_ HB))).mono ?_; rintro e w7 ⟨A1, c1, rfl, hR1, hr1, hb⟩; obtain ⟨g, rfl, hg, hgs, hc1, hcur, g0, g1, g2, gf⟩ := mem3_row hR1; have BB := zA_ (blk_below (heap_alloc_new w (.cells #[.pointer (some ⟨k, 0, none⟩)] 102)) hb); replace BK := zA_ (blk_below BK.out (below_step (zw0_ HB) hb)); replace HB := zA_ (below_step (zw0_ HB) hb); have GG := zA_ hg; have G0 := zA_ g0; have G1 := zA_ g1; have G2 := zA_ g2; have GF := zA_ gf; have HC := zA_ hc1; have GC := zA_ hcur; clear hb hr1 hR1 hz17 hg hgs g0 g1 g2 gf hcur))
 go_at_call 174
 have hs1 := size2 w (.cells #[.pointer (some ⟨k, 0, none⟩)] 102)
 have hgg := GG.out
 rw [hs1] at hgg
 have n1 : g ≠ w.heap.size := by omega
 have n2 : g ≠ k := fun e => by subst e; obtain ⟨cur, hcur⟩ := GC.out; have h1 := BK.out; rw [hcur] at h1; injection h1 with h1; injection h1 with _ h1; exact absurd h1 (by decide)
 refine (delete_own2 g w.heap.size k c1 _ HC.out G0.out G1.out G2.out ((blk_cell BB.out 0).trans rfl) ((blk_cell BK.out 9).trans H9.out) (GF.out 0) (GF.out 1) (GF.out 2) n1 n2).mono ?_
 rintro e w8 ⟨rfl, d0, d1, hkp⟩
 go_wp2
 go_ret
 exact ⟨_, _, rfl, by omega, d0, d1, HB.out.trans (hkp.below HB.out.size (fun q _ hq => by rw [hq]; omega))⟩
theorem link_New (own x : Int) (w : World) (ho : own = 0 ∨ own = 1 ∨ own = 2) (hx : x = 0 ∨ x = 1 ∨ x = 2) (hne : own ≠ x) :
  Calls Tryz.prog 115 #[.int .i64 own, .int .i64 x, .int .u32 1] w fun e w' => ∃ v, e = .returned (.tuple #[v, .int .i64 0]) ∧ Below w.heap.size w w' := by
 have HB := zA_ (Below.refl w.heap.size w)
 have hnot : ∀ (x : Bool) (w : World), (Op.unary .not (.bool x)).run Tryz.prog w = .ok (.bool (!x)) w := fun _ _ => rfl
 have HO := zA_ ho
 have HX := zA_ hx
 have hd : (own == x) = false := by simp [hne]
 have hd2 : decide (own = x) = false := decide_eq_false hne
 clear hx ho
 go_enter Tryz.func115, Tryz.ntmps115
 go_wp2_with (first | (go_at_call 176; refine (c_worker own _ HO.out).mono ?_; rintro e w7 ⟨rfl, hb⟩; replace HB := zA_ (below_step (zw0_ HB) hb); clear hb) | (go_at_call 176; refine (c_worker x _ HX.out).mono ?_; rintro e w7 ⟨rfl, hb⟩; replace HB := zA_ (below_step (zw0_ HB) hb); clear hb))
 go_ret2
 exact ⟨_, rfl, below_alloc HB.out _⟩
theorem wp_named {P : Program} {c : Code} {Q : Exit → Act → World → Prop} {a : Act} {W : World} (h : ∀ w', w' = W → c.wp P Q a w') : c.wp P Q a W := h W rfl
theorem exit_named {K : Act → World → Prop} {Q : Exit → Act → World → Prop} {e : Exit} {a : Act} {W : World} (h : ∀ w', w' = W → Exit.then K Q e a w') : Exit.then K Q e a W := h W rfl
theorem KP.trans_new {S S' : Nat → Prop} {a b c : World} (h : KP S a b) (k : KP S' b c) (hn : ∀ q, S' q → S q ∨ a.heap.size ≤ q) : KP S a c := ⟨h.1.trans k.1, fun q hq hs => (k.2 q (Nat.lt_of_lt_of_le hq h.1.size) (fun e => by
  rcases hn q e with h1 | h1
  · exact hs h1
  · omega)).trans (h.2 q hq hs)⟩
theorem calls_named {P : Program} {f : FuncId} {args : Array Value} {Q : Ending → World → Prop} {W : World} (h : ∀ w', w' = W → Calls P f args w' Q) : Calls P f args W Q := h W rfl
theorem KP.setc {S : Nat → Prop} {w W : World} {b q : Nat} {v : Value} (h : KP S w W) (hb : S b) : KP S w (W.setCell ⟨b, q, none⟩ v) := h.trans (KP.set W hb q v)
theorem KP.allocc {S : Nat → Prop} {w W : World} {o : Obj} (h : KP S w W) : KP S w (W.alloc o) := h.trans (KP.of_below ((Below.refl W.heap.size W).alloc (Nat.le_refl _) o))
theorem KP.drewc {S : Nat → Prop} {w W : World} (h : KP S w W) : KP S w W.drew := h.trans (KP.of_below (below_drew1 (Below.refl W.heap.size W)))
theorem KP.cell {S : Nat → Prop} {w w' : World} {a : Addr} {v : Value} (h : KP S w w') (hc : w.cell? a = some v) (hn : ¬ S a.block) : w'.cell? a = some v := by
  have hlt := World.block_lt_of_cell? w a hc
  have e := h.2 a.block hlt hn
  unfold World.cell? at hc ⊢
  rw [e]
  exact hc
theorem BP.kp {S : Nat → Prop} {w w' : World} {g bm n : Nat} {own : Int} (h : BP w g bm own n) (hk : KP S w w') (h1 : ¬ S g) (h2 : ¬ S bm) (hS : ∀ k, S k → ∀ c, w.heap[k]? ≠ some (.cells c 3 (0, 0))) : BP w' g bm own n := by
  obtain ⟨A, c, a1, a2, a3⟩ := h
  exact ⟨A, c, hk.blk a1 h1, a2.kp hk hS, a3.kp hk h2⟩
theorem BP.lt {w : World} {g bm n : Nat} {own : Int} (h : BP w g bm own n) : g < w.heap.size ∧ bm < w.heap.size ∧ g ≠ bm := by
  obtain ⟨A, c, a1, a2, a3⟩ := h
  exact ⟨blk_lt a1, a3.lt, fun e => by subst e; obtain ⟨es, cl, h⟩ := a3.blk; rw [a1] at h; cases h⟩
theorem BP.not3 {w : World} {g bm n : Nat} {own : Int} (h : BP w g bm own n) : ∀ k, k = g ∨ k = bm → ∀ c, w.heap[k]? ≠ some (.cells c 3 (0, 0)) := by
  obtain ⟨A, c, a1, a2, a3⟩ := h
  intro k hk
  rcases hk with rfl | rfl
  · exact RM.not a1 (by decide)
  · exact RM.notmap a3
theorem LM.not3 {w : World} {b n : Nat} {ks : List Int} (h : LM w b n ks) (c : Array Value) : w.heap[b]? ≠ some (.cells c 3 (0, 0)) := fun e_ => by obtain ⟨es, cl, h⟩ := h.blk; rw [h] at e_; cases e_
theorem WM.putr {w : World} {b n t e : Nat} {good : Value → Prop} (h : WM w b n good) (ht : Tryz.prog.underlying t = some (.map 3 e)) (hn : n < maxLen) (x : Int) (hx : (Lit.int .i64 x).wf = true) (v : Value) (hv : good v) :
    ∃ w', (Instr.mapUpdate t (.map (some b)) (.int .i64 x) v).run Tryz.prog w = .ok () w' ∧ WM w' b (n + 1) good ∧ w.grownBy w' (some b) := by
  obtain ⟨D, h⟩ := h
  obtain ⟨w', hrun, r1, r2⟩ := h.update law3 ht hn (Go.Maps.keyOf_int_mk Tryz.underlying3 hx) (Rg_some hv)
  exact ⟨w', hrun, ⟨_, r1⟩, r2⟩
def work_install.T1 : Bool × List (List Nat × List Nat) := (true, [([], []), ([], []), ([1], [1]), ([2], [2]), ([3], [3]), ([], []), ([5], [5]), ([6], [6]), ([7], [7]), ([8], [8]), ([4, 9], [4, 9]), ([10], [10]), ([11], [11]), ([11], [11]), ([0, 0, 1, 2, 3, 4, 5, 6, 7, 8, 9, 10, 11, 12], [0]), ([14, 0, 1, 2, 3, 4, 5, 6, 7, 8, 9, 10, 11, 12], [14]), ([15, 12, 10, 0, 1, 2, 3, 4, 5, 6, 7, 8, 9, 10, 11, 12], [12, 15])])
def work_install.B1 : List Nat := [0, 0, 2, 6, 14, 0, 32, 96, 224, 480, 1022, 2046, 4094, 4094, 8191, 24575, 57343]
theorem work_install.tab1 : rtab .any (opsOf Tryz.f63 1) = work_install.T1 := by kernel_rfl
theorem work_install.bits1 : waitsOk work_install.T1.2 work_install.B1 = true := by kernel_rfl
def work_install.T3 : Bool × List (List Nat × List Nat) := (true, [([], []), ([], []), ([], []), ([2], [2]), ([3], [3]), ([4], [4]), ([], []), ([6], [6]), ([7], [7]), ([8], [8]), ([1, 5, 9], [1, 5, 9]), ([1, 2, 3, 4, 5, 6, 7, 8, 9, 10], [1]), ([0, 0, 1, 2, 3, 4, 5, 6, 7, 8, 9, 10, 11], [0]), ([12, 0, 1, 2, 3, 4, 5, 6, 7, 8, 9, 10, 11], [12]), ([13, 11, 0, 1, 2, 3, 4, 5, 6, 7, 8, 9, 10, 11], [11, 13])])
def work_install.B3 : List Nat := [0, 0, 0, 4, 12, 28, 0, 64, 192, 448, 1022, 2046, 4095, 8191, 16383]
theorem work_install.tab3 : rtab .any (opsOf Tryz.f63 3) = work_install.T3 := by kernel_rfl
theorem work_install.bits3 : waitsOk work_install.T3.2 work_install.B3 = true := by kernel_rfl
def work_install.T8 : Bool × List (List Nat × List Nat) := (true, [([], []), ([0], [0]), ([1], [1]), ([2], [2]), ([], []), ([], []), ([5], [5]), ([6], [6]), ([7], [7]), ([], []), ([], []), ([10], [10]), ([11], [11]), ([12], [12]), ([13], [13]), ([8, 9, 14], [8, 9, 14]), ([15], [15]), ([16], [16]), ([16], [16]), ([3, 4, 17, 15, 0, 1, 2, 3, 4, 5, 6, 7, 8, 9, 10, 11, 12, 13, 14, 15, 16, 17], [3, 4, 17])])
def work_install.B8 : List Nat := [0, 1, 3, 7, 0, 0, 32, 96, 224, 0, 0, 1024, 3072, 7168, 15360, 32736, 65504, 131040, 131040, 262143]
theorem work_install.tab8 : rtab .any (opsOf Tryz.f63 8) = work_install.T8 := by kernel_rfl
theorem work_install.bits8 : waitsOk work_install.T8.2 work_install.B8 = true := by kernel_rfl
def work_install.T9 : Bool × List (List Nat × List Nat) := (true, [([], []), ([0], [0]), ([1], [1]), ([2], [2]), ([], []), ([], []), ([5], [5]), ([6], [6]), ([7], [7]), ([3, 4, 8], [3, 4, 8])])
def work_install.B9 : List Nat := [0, 1, 3, 7, 0, 0, 32, 96, 224, 511]
theorem work_install.tab9 : rtab .any (opsOf Tryz.f63 9) = work_install.T9 := by kernel_rfl
theorem work_install.bits9 : waitsOk work_install.T9.2 work_install.B9 = true := by kernel_rfl
def tape_Do.T11 : Bool × List (List Nat × List Nat) := (true, [([], []), ([], []), ([1], [1]), ([2], [2]), ([3], [3]), ([], []), ([4, 5], [4, 5]), ([6], [6]), ([7], [7]), ([], []), ([9], [9]), ([10], [10]), ([11], [11]), ([], []), ([12, 13], [12, 13]), ([14], [14]), ([15], [15]), ([], []), ([0, 8, 16, 17], [0, 8, 16, 17]), ([18], [18]), ([19], [19]), ([19], [19]), ([0, 1, 2, 3, 4, 5, 6, 7, 8, 9, 10, 11, 12, 13, 14, 15, 16, 17, 18, 19, 20], []), ([22, 20, 18, 0, 1, 2, 3, 4, 5, 6, 7, 8, 9, 10, 11, 12, 13, 14, 15, 16, 17, 18, 19, 20], [20, 22]), ([21, 23, 0, 1, 2, 3, 4, 5, 6, 7, 8, 9, 10, 11, 12, 13, 14, 15, 16, 17, 18, 19, 20, 21, 22, 23], [21])])
def tape_Do.B11 : List Nat := [0, 0, 2, 6, 14, 0, 62, 126, 254, 0, 512, 1536, 3584, 0, 15872, 32256, 65024, 0, 262143, 524287, 1048575, 1048575, 2097151, 6291455, 16777215]
theorem tape_Do.tab11 : rtab .any (opsOf Tryz.f338 11) = tape_Do.T11 := by kernel_rfl
theorem tape_Do.bits11 : waitsOk tape_Do.T11.2 tape_Do.B11 = true := by kernel_rfl
end Go.Proofs.YtmddclifcgcpcaaGreatDoor.PTopNames
namespace Go.Proofs.YtmddclifcgcpcaaGreatDoor.PTopNames.TX
open Go.RowKit Go.Proofs.YtmddclifcgcpcaaGreatDoorW.PrintWords Go.Proofs.YtmddclifcgcpcaaGreatDoorW.PrintLast Go.Proofs.YtmddclifcgcpcaaGreatDoorW.PrintMore
structure TP (W : World) (base g xb : Nat) (v : Value) (ns : List S358) : Prop where
  blk : W.heap[g]? = some (.cells #[v] 344 (0, 0))
  xlt : xb < W.heap.size
  row : Kd.R k358 358 W base (fun k => k ≠ g ∧ k ≠ xb) v ns
theorem tape_Tape_add.calls {xb : Nat} (g base : Nat) (ns : List S358) (n : S358) (v v4 v5 : Value) (w : World) (hT : TP w base g xb v ns) (h4 : Kd.R (Kd.int .i64) 3 w base (fun k => k ≠ g ∧ k ≠ xb) v4 n.f4.f0) (h5 : Kd.R (Kd.int .i64) 36 w base (fun k => k ≠ g ∧ k ≠ xb) v5 n.f4.f1) (hbg : base ≤ g) (hl : ns.length < 600) :
  Calls Tryz.prog 337 #[.pointer (some ⟨g, 0, none⟩), .agg #[.int .i64 n.f0, .int .i64 n.f1, .int .i64 n.f2, .int .i64 n.f3, v4, v5]] w fun e w' => e = .returned (.tuple #[.int .i64 ns.length, .int .i64 0]) ∧ (∃ v', TP w' base g xb v' (ns ++ [n])) ∧ Below base w w' ∧ TF w w' := by
 obtain ⟨hb, hxl, hO⟩ := hT
 have XL := zA_ hxl
 obtain ⟨A0, c0, e0⟩ := Kd.R_slice hO
 subst e0
 obtain ⟨A4, c4, e4⟩ := Kd.R_slice h4
 subst e4
 obtain ⟨A5, c5, e5⟩ := Kd.R_slice h5
 subst e5
 have NG : Aside0 (g < w.heap.size) := ⟨blk_lt hb⟩
 have NX : Aside0 (some w.heap.size ≠ (.slice A0 ns.length c0 : Value).ownBlock) := ⟨Kd.fresh' (Kd.R_lt hO) _ (Nat.le_refl _)⟩
 have BK := zA_ hb
 have HO := zA_ hO
 have H4 := zA_ h4
 have H5 := zA_ h5
 have HB := zA_ (Below.refl base w)
 clear hb hO h4 h5 hxl
 go_enter Tryz.func337, Tryz.ntmps337
 go_wp2
 replace BK := zA_ (blk_drew (blk_alloc BK.out (.cells #[.int .i64 n.f0, .int .i64 n.f1, .int .i64 n.f2, .int .i64 n.f3, .slice A4 n.f4.f0.length c4, .slice A5 n.f4.f1.length c5] 358)))
 replace HO := zA_ (zr_ (w' := (w.alloc (.cells #[.int .i64 n.f0, .int .i64 n.f1, .int .i64 n.f2, .int .i64 n.f3, .slice A4 n.f4.f0.length c4, .slice A5 n.f4.f1.length c5] 358)).drew) HO.out)
 replace H4 := zA_ (zr_ (w' := (w.alloc (.cells #[.int .i64 n.f0, .int .i64 n.f1, .int .i64 n.f2, .int .i64 n.f3, .slice A4 n.f4.f0.length c4, .slice A5 n.f4.f1.length c5] 358)).drew) H4.out)
 replace H5 := zA_ (zr_ (w' := (w.alloc (.cells #[.int .i64 n.f0, .int .i64 n.f1, .int .i64 n.f2, .int .i64 n.f3, .slice A4 n.f4.f0.length c4, .slice A5 n.f4.f1.length c5] 358)).drew) H5.out)
 have BX : Aside0 ((w.alloc (.cells #[.int .i64 n.f0, .int .i64 n.f1, .int .i64 n.f2, .int .i64 n.f3, .slice A4 n.f4.f0.length c4, .slice A5 n.f4.f1.length c5] 358)).drew.heap[w.heap.size]? = some (.cells #[.int .i64 n.f0, .int .i64 n.f1, .int .i64 n.f2, .int .i64 n.f3, .slice A4 n.f4.f0.length c4, .slice A5 n.f4.f1.length c5] 358 (0, 0))) := ⟨blk_drew (heap_alloc_new _ _)⟩
 have HB1 : Aside0 (Below base w (w.alloc (.cells #[.int .i64 n.f0, .int .i64 n.f1, .int .i64 n.f2, .int .i64 n.f3, .slice A4 n.f4.f0.length c4, .slice A5 n.f4.f1.length c5] 358)).drew) := ⟨below_drew1 (HB.out.alloc (by have := NG.out; omega) _)⟩
 have HF : Aside0 (TF w (w.alloc (.cells #[.int .i64 n.f0, .int .i64 n.f1, .int .i64 n.f2, .int .i64 n.f3, .slice A4 n.f4.f0.length c4, .slice A5 n.f4.f1.length c5] 358)).drew) := ⟨TF.of_below (below_drew1 ((Below.refl w.heap.size w).alloc (Nat.le_refl _) _))⟩
 have NB : Aside0 (g ≠ w.heap.size ∧ base ≤ w.heap.size) := ⟨by have := NG.out; omega, by have := NG.out; omega⟩
 generalize hb_ : w.heap.size = b at BX NB NX ⊢
 refine start_ (n := 11) (S := fun w' => w'.cell? ⟨g, 0, none⟩ = some (.slice A0 ns.length c0) ∧ w'.cell? ⟨b, 0, none⟩ = some (.int .i64 n.f0) ∧ w'.cell? ⟨b, 1, none⟩ = some (.int .i64 n.f1) ∧ w'.cell? ⟨b, 2, none⟩ = some (.int .i64 n.f2) ∧ w'.cell? ⟨b, 3, none⟩ = some (.int .i64 n.f3) ∧ w'.cell? ⟨b, 4, none⟩ = some (.slice A4 n.f4.f0.length c4) ∧ w'.cell? ⟨b, 5, none⟩ = some (.slice A5 n.f4.f1.length c5)) (ds := [10]) #[false, false, false, false, false, false, false, false, false, false, false] (by kernel_rfl) rfl rfl ⟨zx_ BK 0, zx_ BX 0, zx_ BX 1, zx_ BX 2, zx_ BX 3, zx_ BX 4, zx_ BX 5⟩ (fun hHeld => ?_); refine with_tabW tape_add.tab1 tape_add.bits1 (fun HT_ HW_ => ?_)
 generalize (w.alloc (.cells #[.int .i64 n.f0, .int .i64 n.f1, .int .i64 n.f2, .int .i64 n.f3, .slice A4 n.f4.f0.length c4, .slice A5 n.f4.f1.length c5] 358)).drew = w1 at BK HO H4 H5 BX HB1 HF hHeld ⊢
 refine yp_ ?_ 0 6
 refine yp_ ?_ 1 7
 refine yp_ ?_ 2 8
 refine yp_ ?_ 3 9
 refine yt7_ ?_ 4 10
 refine yt7_ ?_ 5 11
 refine yo_ 6 (some 12) (fun K hK => ?_)
 refine value_ (w1 := ?_) (v := ?_) (by rfl) rfl ?_ ?_
 rotate_left 2
 ·go_simp
  constructor
  ·rfl
  rfl
 refine hK.out _ _ ⟨(blk_cell (blk_alloc BK.out _) 0).trans rfl, (blk_cell (blk_alloc BX.out _) 0).trans rfl, (blk_cell (blk_alloc BX.out _) 1).trans rfl, (blk_cell (blk_alloc BX.out _) 2).trans rfl, (blk_cell (blk_alloc BX.out _) 3).trans rfl, (blk_cell (blk_alloc BX.out _) 4).trans rfl, (blk_cell (blk_alloc BX.out _) 5).trans rfl⟩ (fun hHeld => ?_)
 clear hK K
 refine zq_ (some 12) (h := ?_)
 refine yo_ 7 (some 13) (fun K hK => ?_)
 refine Kd.R_append_step k358 (w0 := w) base (by rfl) (.tmp 10) (.tmp 12) 342 358 (.agg #[.int .i64 0, .int .i64 0, .int .i64 0, .int .i64 0, .slice none 0 0, .slice none 0 0]) 80 rfl Tryz.underlying342 info358 rfl (by decide) (by omega) (.slice A0 ns.length c0) ns n [.int .i64 n.f0, .int .i64 n.f1, .int .i64 n.f2, .int .i64 n.f3, .slice A4 n.f4.f0.length c4, .slice A5 n.f4.f1.length c5] (fun k_ => k_ ≠ g ∧ k_ ≠ xb) (fun k_ => (k_ ≠ g ∧ k_ ≠ xb) ∧ some k_ ≠ (.slice A0 ns.length c0 : Value).ownBlock) rfl rfl ?aP (fun _ h_ => h_) ?aF ?aO ?aB ?aS ?aL ?_
 (case aP => exact k358_mkM _ _ _ n (Kd.R_apart' H4.out (Kd.R_typed HO.out) (by decide)) (Kd.R_apart' H5.out (Kd.R_typed HO.out) (by decide)))
 (case aF => intro k_ hk_; have := NG.out; have := XL.out; have := HB1.out.size; have := HF.out.1; exact ⟨by omega, by omega⟩)
 (case aO => exact HO.out)
 (case aB => exact HB1.out)
 (case aS => have := NG.out; have := HB1.out.size; omega)
 (case aL => omega)
 intro v2 w2 ho hb hg hat
 obtain ⟨A2, c2, e2⟩ := Kd.R_slice ho
 subst e2
 replace HF := zA_ (HF.out.trans (TF.grown hg (hg.size) (Kd.R_typed HO.out)))
 replace BK := zA_ (zh_ BK hg (Kd.R_ne HO.out BK.out (by decide)))
 replace BX := zA_ (zh_ BX hg NX.out)
 replace HO := zA_ ho
 replace HB1 := zA_ hb
 clear ho hb hg hat H4 H5
 refine hK.out _ _ ⟨zx_ BK 0, zx_ BX 0, zx_ BX 1, zx_ BX 2, zx_ BX 3, zx_ BX 4, zx_ BX 5⟩ (fun hHeld => ?_)
 clear hK K
 refine zq_ (some 13) (h := ?_)
 refine yp_ ?_ 8 14
 refine yp_ ?_ 9 15
 refine yl_ 10 none (fun K hK => ?_)
 have hs_ := zx_ (v := .slice A0 ns.length c0) BK 0
 have hfs_ := blk_frozen BK.out 0
 refine skip_ (w1 := ?_) (by rfl) rfl ?_ ?_
 rotate_left
 ·go_simp
  rfl
 refine hK.out _ _ ?_
 clear hK K hs_ hfs_
 refine done_ (done_of HT_.out (by kernel_rfl)) ?_
 have hs_ : (w2.setCell ⟨g, 0, none⟩ (.slice A2 (ns ++ [n]).length c2)).cell? ⟨g, 0, none⟩ = some (.slice A2 (ns ++ [n]).length c2) := (blk_cell (blk_put BK.out 0 _ rfl) 0).trans rfl
 go_wp2
 go_ret2
 refine ⟨rfl, ⟨_, blk_put BK.out 0 _ rfl, (by have h1_ := HF.out.1; have h2_ := XL.out; rw [World.size_setCell]; omega), by have h_ := Kd.R_far (p := ⟨g, 0, none⟩) HO.out (fun _ h_ => h_.1) (.slice A2 (ns ++ [n]).length c2); rw [List.length_append, List.length_singleton] at h_; exact h_⟩, HB1.out.setCell (p := ⟨g, 0, none⟩) hbg _, HF.out.trans (TF.set BK.out _)⟩
theorem TP.below {w w1 : World} {base g xb : Nat} {v : Value} {ns : List S358} (h : TP w base g xb v ns) (hb : Below w.heap.size w w1) : TP w1 base g xb v ns := ⟨blk_below h.blk hb, Nat.lt_of_lt_of_le h.xlt hb.size, Kd.R_below h.row hb⟩
theorem tape_has_yes {xb : Nat} (g base : Nat) (ns : List S358) (v : Value) (i : Int) (w : World) (hT : TP w base g xb v ns) (h0 : 0 ≤ i) (h1 : i < (ns.length : Int)) :
  Calls Tryz.prog 306 #[.pointer (some ⟨g, 0, none⟩), .int .i64 i] w fun e w' => e = .returned (.bool true) ∧ Below w.heap.size w w' := by
 obtain ⟨A0, c0, e0⟩ := Kd.R_slice hT.row
 subst e0
 have hc_ := (blk_cell hT.blk 0).trans rfl
 have c3b0 : decide (0 ≤ i) = true := decide_eq_true h0
 have c4b0 : decide (i < (ns.length : Int)) = true := decide_eq_true h1
 have HB := zA_ (Below.refl w.heap.size w)
 clear hT h0 h1
 go_enter Tryz.func306, Tryz.ntmps306
 go_wp2
 go_ret
 exact ⟨rfl, zw0_ HB⟩
theorem tape_At_yes {xb : Nat} (g base : Nat) (ns : List S358) (v : Value) (i : Int) (w : World) (hT : TP w base g xb v ns) (h0 : 0 ≤ i) (h1 : i < (ns.length : Int)) (hn0 : (rd_T358 ns i).f4.f0.length < 17592186044416) (hn1 : (rd_T358 ns i).f4.f1.length < 17592186044416) :
  Calls Tryz.prog 251 #[.pointer (some ⟨g, 0, none⟩), .int .i64 i] w fun e w' => ∃ v4 v5 : Value, e = .returned (.tuple #[.agg #[.int .i64 (rd_T358 ns i).f0, .int .i64 (rd_T358 ns i).f1, .int .i64 (rd_T358 ns i).f2, .int .i64 (rd_T358 ns i).f3, v4, v5], .bool true]) ∧ Kd.R (Kd.int .i64) 3 w' w.heap.size (fun _ => True) v4 (rd_T358 ns i).f4.f0 ∧ Kd.R (Kd.int .i64) 36 w' w.heap.size (fun _ => True) v5 (rd_T358 ns i).f4.f1 ∧ Below w.heap.size w w' := by
 obtain ⟨A0, c0, e0⟩ := Kd.R_slice hT.row
 subst e0
 have HT := zA_ hT
 have hc_ := (blk_cell hT.blk 0).trans rfl
 have p1 := h0
 have q1 := h1
 have HB := zA_ (Below.refl w.heap.size w)
 clear hT
 have p1e := eq_true p1
 have q1e := eq_true q1
 go_enter Tryz.func251, Tryz.ntmps251
 go_wp2_with (first | ((with_reducible refine gate_dst (N := 4) rfl ?_); refine zB_ (#[.int .i64 0, .int .i64 0, .int .i64 0, .int .i64 0, .slice none 0 0, .slice none 0 0]) 358 ?_; intro gb4 hg w4 hbox hb; have BK4 := zA_ (hbox); have GE4 := zA_ (zs_ hg (zw0_ HB)); replace HB := zA_ (below_step (zw0_ HB) hb); clear hb hbox hg hc_) | (go_at_call 306; refine (tape_has_yes g base ns _ i _ (HT.out.below (by exact zw0_ HB)) h0 h1).mono ?_; rintro e w7 ⟨rfl, hb⟩; replace BK4 := zA_ (blk_below BK4.out hb); replace HB := zA_ (below_step (zw0_ HB) hb); clear hb; obtain ⟨ad, A4, c4, A5, c5, e1, hx0, hx1, hx2, hx3, hx4, hx5, l4, k4, l5, k5⟩ := at_T358 (Kd.R_reads' (HT.out.below (zw0_ HB)).row).2.2 i p1 q1; cases e1; have hc_ := (blk_cell (HT.out.below (zw0_ HB)).blk 0).trans rfl; have HB7 := zA_ (Below.refl w7.heap.size w7)) | ((with_reducible refine gate_dst (N := 6) rfl ?_); refine zB_ (#[.int .i64 0, .int .i64 0, .int .i64 0, .int .i64 0, .slice none 0 0, .slice none 0 0]) 358 ?_; intro gb6 hg w5 hbox hb; have BK6 := zA_ (hbox); have GE6 := zA_ (zs_ hg (zw0_ HB)); have G76 := zA_ (Nat.le_of_eq hg.symm); replace HB7 := zA_ (below_step (zw0_ HB7) hb); have NB := zA_ (zn_ hg BK4); replace HB := zA_ (below_step (zw0_ HB) hb); replace BK4 := zA_ (blk_below BK4.out hb); clear hb hbox hg hc_; have hz0 := (blk_cell BK6.out 0).trans rfl; have hz1 := (blk_cell BK6.out 1).trans rfl; have hz2 := (blk_cell BK6.out 2).trans rfl; have hz3 := (blk_cell BK6.out 3).trans rfl; have hz4 := (blk_cell BK6.out 4).trans rfl; have hz5 := (blk_cell BK6.out 5).trans rfl; have hf0 := blk_frozen BK6.out 0; have hf1 := blk_frozen BK6.out 1; have hf2 := blk_frozen BK6.out 2; have hf3 := blk_frozen BK6.out 3; have hf4 := blk_frozen BK6.out 4; have hf5 := blk_frozen BK6.out 5))
 refine (tens_Copy.calls A4 c4 _ A5 c5 _ (rd_T358 ns i).f4.f0 (rd_T358 ns i).f4.f1 _ (Kd.C_below k4 (zw1_ HB7 G76)) l4 (Kd.C_below k5 (zw1_ HB7 G76)) l5 (tens_Copy_eq hn0 hn1)).mono ?_
 rintro e w8 ⟨v4, v5, rfl, r4, r5, hb⟩
 have B6 := zA_ (blk_below (blk_put (blk_put (blk_put (blk_put (blk_put (blk_put BK6.out 0 _ rfl) 1 _ rfl) 2 _ rfl) 3 _ rfl) 4 _ rfl) 5 _ rfl) hb)
 have B4 := zA_ (blk_below (zv1_ BK4 NB) hb)
 have GL4 := zA_ (blk_lt BK4.out)
 have R4 := zA_ (Kd.R_lower r4 (below_size (zw2_ HB GE4 GE6)))
 have R5 := zA_ (Kd.R_lower r5 (below_size (zw2_ HB GE4 GE6)))
 replace HB := zA_ (below_step (zw2_ HB GE4 GE6) hb)
 clear hb r4 r5 hz0 hz1 hz2 hz3 hz4 hz5 hf0 hf1 hf2 hf3 hf4 hf5 hx0 hx1 hx2 hx3 hx4 hx5 k4 k5
 obtain ⟨A6, c6, e6⟩ := Kd.R_slice R4.out
 obtain ⟨A7, c7, e7⟩ := Kd.R_slice R5.out
 subst e6 e7
 replace B6 : Aside0 (w8.heap[gb6]? = some (.cells #[.int .i64 (rd_T358 ns i).f0, .int .i64 (rd_T358 ns i).f1, .int .i64 (rd_T358 ns i).f2, .int .i64 (rd_T358 ns i).f3, .slice A4 (rd_T358 ns i).f4.f0.length c4, .slice A5 (rd_T358 ns i).f4.f1.length c5] 358 (0, 0))) := ⟨B6.out⟩
 have hz0 := (blk_cell B6.out 0).trans rfl
 have hz1 := (blk_cell B6.out 1).trans rfl
 have hz2 := (blk_cell B6.out 2).trans rfl
 have hz3 := (blk_cell B6.out 3).trans rfl
 have hz4 := (blk_cell B6.out 4).trans rfl
 have hz5 := (blk_cell B6.out 5).trans rfl
 have hy0 := (blk_cell B4.out 0).trans rfl
 have hy1 := (blk_cell B4.out 1).trans rfl
 have hy2 := (blk_cell B4.out 2).trans rfl
 have hy3 := (blk_cell B4.out 3).trans rfl
 have hy4 := (blk_cell B4.out 4).trans rfl
 have hy5 := (blk_cell B4.out 5).trans rfl
 have hf0 := blk_frozen B6.out 0
 have hf1 := blk_frozen B6.out 1
 have hf2 := blk_frozen B6.out 2
 have hf3 := blk_frozen B6.out 3
 have hf4 := blk_frozen B6.out 4
 have hf5 := blk_frozen B6.out 5
 have hg0 := blk_frozen B4.out 0
 have hg1 := blk_frozen B4.out 1
 have hg2 := blk_frozen B4.out 2
 have hg3 := blk_frozen B4.out 3
 have hg4 := blk_frozen B4.out 4
 have hg5 := blk_frozen B4.out 5
 have hne := NB.out
 have hne2 := Ne.symm NB.out
 go_wp2
 clear hz0 hz1 hz2 hz3 hz4 hz5 hy0 hy1 hy2 hy3 hy4 hy5 hf0 hf1 hf2 hf3 hf4 hf5 hg0 hg1 hg2 hg3 hg4 hg5 hne hne2
 have x0 := HB.out
 have y0 := Kd.R_types (Kd.R_types R4.out B6.out (by decide)) B4.out (by decide)
 have z0 := Kd.R_types (Kd.R_types R5.out B6.out (by decide)) B4.out (by decide)
 have u0 := B4.out
 have x1 := x0.setCell (p := ⟨gb6, 4, none⟩) GE6.out (.slice A6 (rd_T358 ns i).f4.f0.length c6)
 have y1 := Kd.R_far (p := ⟨gb6, 4, none⟩) y0 (fun _ h => h.1.2) (.slice A6 (rd_T358 ns i).f4.f0.length c6)
 have z1 := Kd.R_far (p := ⟨gb6, 4, none⟩) z0 (fun _ h => h.1.2) (.slice A6 (rd_T358 ns i).f4.f0.length c6)
 have u1 := (Below.heap_setCell _ ⟨gb6, 4, none⟩ (.slice A6 (rd_T358 ns i).f4.f0.length c6) gb4 NB.out).trans u0
 have x2 := x1.setCell (p := ⟨gb6, 5, none⟩) GE6.out (.slice A7 (rd_T358 ns i).f4.f1.length c7)
 have y2 := Kd.R_far (p := ⟨gb6, 5, none⟩) y1 (fun _ h => h.1.2) (.slice A7 (rd_T358 ns i).f4.f1.length c7)
 have z2 := Kd.R_far (p := ⟨gb6, 5, none⟩) z1 (fun _ h => h.1.2) (.slice A7 (rd_T358 ns i).f4.f1.length c7)
 have u2 := (Below.heap_setCell _ ⟨gb6, 5, none⟩ (.slice A7 (rd_T358 ns i).f4.f1.length c7) gb4 NB.out).trans u1
 have x3 := x2.setCell (p := ⟨gb4, 0, none⟩) GE4.out (.int .i64 (rd_T358 ns i).f0)
 have y3 := Kd.R_far (p := ⟨gb4, 0, none⟩) y2 (fun _ h => h.2) (.int .i64 (rd_T358 ns i).f0)
 have z3 := Kd.R_far (p := ⟨gb4, 0, none⟩) z2 (fun _ h => h.2) (.int .i64 (rd_T358 ns i).f0)
 have u3 := blk_put u2 0 (.int .i64 (rd_T358 ns i).f0) rfl
 have x4 := x3.setCell (p := ⟨gb4, 1, none⟩) GE4.out (.int .i64 (rd_T358 ns i).f1)
 have y4 := Kd.R_far (p := ⟨gb4, 1, none⟩) y3 (fun _ h => h.2) (.int .i64 (rd_T358 ns i).f1)
 have z4 := Kd.R_far (p := ⟨gb4, 1, none⟩) z3 (fun _ h => h.2) (.int .i64 (rd_T358 ns i).f1)
 have u4 := blk_put u3 1 (.int .i64 (rd_T358 ns i).f1) rfl
 have x5 := x4.setCell (p := ⟨gb4, 2, none⟩) GE4.out (.int .i64 (rd_T358 ns i).f2)
 have y5 := Kd.R_far (p := ⟨gb4, 2, none⟩) y4 (fun _ h => h.2) (.int .i64 (rd_T358 ns i).f2)
 have z5 := Kd.R_far (p := ⟨gb4, 2, none⟩) z4 (fun _ h => h.2) (.int .i64 (rd_T358 ns i).f2)
 have u5 := blk_put u4 2 (.int .i64 (rd_T358 ns i).f2) rfl
 have x6 := x5.setCell (p := ⟨gb4, 3, none⟩) GE4.out (.int .i64 (rd_T358 ns i).f3)
 have y6 := Kd.R_far (p := ⟨gb4, 3, none⟩) y5 (fun _ h => h.2) (.int .i64 (rd_T358 ns i).f3)
 have z6 := Kd.R_far (p := ⟨gb4, 3, none⟩) z5 (fun _ h => h.2) (.int .i64 (rd_T358 ns i).f3)
 have u6 := blk_put u5 3 (.int .i64 (rd_T358 ns i).f3) rfl
 have x7 := x6.setCell (p := ⟨gb4, 4, none⟩) GE4.out (.slice A6 (rd_T358 ns i).f4.f0.length c6)
 have y7 := Kd.R_far (p := ⟨gb4, 4, none⟩) y6 (fun _ h => h.2) (.slice A6 (rd_T358 ns i).f4.f0.length c6)
 have z7 := Kd.R_far (p := ⟨gb4, 4, none⟩) z6 (fun _ h => h.2) (.slice A6 (rd_T358 ns i).f4.f0.length c6)
 have u7 := blk_put u6 4 (.slice A6 (rd_T358 ns i).f4.f0.length c6) rfl
 have x8 := x7.setCell (p := ⟨gb4, 5, none⟩) GE4.out (.slice A7 (rd_T358 ns i).f4.f1.length c7)
 have y8 := Kd.R_far (p := ⟨gb4, 5, none⟩) y7 (fun _ h => h.2) (.slice A7 (rd_T358 ns i).f4.f1.length c7)
 have z8 := Kd.R_far (p := ⟨gb4, 5, none⟩) z7 (fun _ h => h.2) (.slice A7 (rd_T358 ns i).f4.f1.length c7)
 have u8 := blk_put u7 5 (.slice A7 (rd_T358 ns i).f4.f1.length c7) rfl
 refine bodyPost_ret (results_ct rfl _ _ gb4 358 #[.int .i64 (rd_T358 ns i).f0, .int .i64 (rd_T358 ns i).f1, .int .i64 (rd_T358 ns i).f2, .int .i64 (rd_T358 ns i).f3, .slice A6 (rd_T358 ns i).f4.f0.length c6, .slice A7 (rd_T358 ns i).f4.f1.length c7] (0, 0) _ rfl u8 Tryz.underlying358 rfl (by kernel_rfl)) rfl ?_
 exact ⟨_, _, rfl, Kd.R_mono y8 (fun _ _ => trivial), Kd.R_mono z8 (fun _ _ => trivial), x8⟩
theorem tape_Value_yes {xb : Nat} (g base : Nat) (ns : List S358) (v : Value) (i : Int) (w : World) (hT : TP w base g xb v ns) (h0 : 0 ≤ i) (h1 : i < (ns.length : Int)) (hn0 : (rd_T358 ns i).f4.f0.length < 17592186044416) (hn1 : (rd_T358 ns i).f4.f1.length < 17592186044416) :
  Calls Tryz.prog 171 #[.pointer (some ⟨g, 0, none⟩), .int .i64 i] w fun e w' => ∃ v4 v5 : Value, e = .returned (.tuple #[.agg #[v4, v5], .bool true]) ∧ Kd.R (Kd.int .i64) 3 w' w.heap.size (fun _ => True) v4 (rd_T358 ns i).f4.f0 ∧ Kd.R (Kd.int .i64) 36 w' w.heap.size (fun _ => True) v5 (rd_T358 ns i).f4.f1 ∧ Below w.heap.size w w' := by
 have HT := zA_ hT
 have HB := zA_ (Below.refl w.heap.size w)
 clear hT
 go_enter Tryz.func171, Tryz.ntmps171
 go_wp2_with (first | ((with_reducible refine gate_dst (N := 4) rfl ?_); refine zB_ (#[.slice none 0 0, .slice none 0 0]) 273 ?_; intro gb4 hg wgb4 hbox hb; have BKgb4 := zA_ (hbox); have GEgb4 := zA_ (zs_ hg (zw0_ HB));  replace HB := zA_ (below_step (zw0_ HB) hb); clear hb hbox hg) | (go_at_call 251; refine (tape_At_yes g base ns v i _ (HT.out.below (by exact zw0_ HB)) h0 h1 hn0 hn1).mono ?_; rintro e w7 ⟨v4, v5, rfl, r4, r5, hb⟩; obtain ⟨A4, c4, e4⟩ := Kd.R_slice r4; obtain ⟨A5, c5, e5⟩ := Kd.R_slice r5; subst e4 e5; have R4 := zA_ (Kd.R_lower r4 (below_size (zw0_ HB))); have R5 := zA_ (Kd.R_lower r5 (below_size (zw0_ HB))); replace BKgb4 := zA_ (blk_below BKgb4.out hb); replace HB := zA_ (below_step (zw0_ HB) hb); clear hb r4 r5; have cz0 := (blk_cell BKgb4.out 0).trans rfl; have cf0 := blk_frozen BKgb4.out 0; have cz1 := (blk_cell BKgb4.out 1).trans rfl; have cf1 := blk_frozen BKgb4.out 1) | ((with_reducible refine gate_dst (N := 6) rfl ?_); refine zB_ (#[.int .i64 0, .int .i64 0, .int .i64 0, .int .i64 0, .slice none 0 0, .slice none 0 0]) 358 ?_; intro gb6 hg wgb6 hbox hb; have BKgb6 := zA_ (hbox); have GEgb6 := zA_ (zs_ hg (zw0_ HB)); have NB := zA_ (zn_ hg BKgb4); replace BKgb4 := zA_ (blk_below BKgb4.out hb); replace R4 := zA_ (Kd.R_below R4.out hb); replace R5 := zA_ (Kd.R_below R5.out hb); have dz0 := (blk_cell BKgb6.out 0).trans rfl; have df0 := blk_frozen BKgb6.out 0; have dz1 := (blk_cell BKgb6.out 1).trans rfl; have df1 := blk_frozen BKgb6.out 1; have dz2 := (blk_cell BKgb6.out 2).trans rfl; have df2 := blk_frozen BKgb6.out 2; have dz3 := (blk_cell BKgb6.out 3).trans rfl; have df3 := blk_frozen BKgb6.out 3; have dz4 := (blk_cell BKgb6.out 4).trans rfl; have df4 := blk_frozen BKgb6.out 4; have dz5 := (blk_cell BKgb6.out 5).trans rfl; have df5 := blk_frozen BKgb6.out 5; clear cz0 cz1 cf0 cf1; have cz0 := (blk_cell BKgb4.out 0).trans rfl; have cf0 := blk_frozen BKgb4.out 0; have cz1 := (blk_cell BKgb4.out 1).trans rfl; have cf1 := blk_frozen BKgb4.out 1; have hne := NB.out; have hne2 := Ne.symm NB.out; replace HB := zA_ (below_step (zw0_ HB) hb); clear hb hbox hg))
 clear cz0 cf0 cz1 cf1 dz0 df0 dz1 df1 dz2 df2 dz3 df3 dz4 df4 dz5 df5 hne hne2
 have x0 := HB.out
 have u0 := BKgb4.out
 have y0 := Kd.R_types (Kd.R_types R4.out BKgb6.out (by decide)) BKgb4.out (by decide)
 have z0 := Kd.R_types (Kd.R_types R5.out BKgb6.out (by decide)) BKgb4.out (by decide)
 have x1 := x0.setCell (p := ⟨gb6, 0, none⟩) GEgb6.out (.int .i64 (rd_T358 ns i).f0)
 have u1 := (Below.heap_setCell _ ⟨gb6, 0, none⟩ (.int .i64 (rd_T358 ns i).f0) gb4 NB.out).trans u0
 have y1 := Kd.R_far (p := ⟨gb6, 0, none⟩) y0 (fun _ h => h.1.2) (.int .i64 (rd_T358 ns i).f0)
 have z1 := Kd.R_far (p := ⟨gb6, 0, none⟩) z0 (fun _ h => h.1.2) (.int .i64 (rd_T358 ns i).f0)
 have x2 := x1.setCell (p := ⟨gb6, 1, none⟩) GEgb6.out (.int .i64 (rd_T358 ns i).f1)
 have u2 := (Below.heap_setCell _ ⟨gb6, 1, none⟩ (.int .i64 (rd_T358 ns i).f1) gb4 NB.out).trans u1
 have y2 := Kd.R_far (p := ⟨gb6, 1, none⟩) y1 (fun _ h => h.1.2) (.int .i64 (rd_T358 ns i).f1)
 have z2 := Kd.R_far (p := ⟨gb6, 1, none⟩) z1 (fun _ h => h.1.2) (.int .i64 (rd_T358 ns i).f1)
 have x3 := x2.setCell (p := ⟨gb6, 2, none⟩) GEgb6.out (.int .i64 (rd_T358 ns i).f2)
 have u3 := (Below.heap_setCell _ ⟨gb6, 2, none⟩ (.int .i64 (rd_T358 ns i).f2) gb4 NB.out).trans u2
 have y3 := Kd.R_far (p := ⟨gb6, 2, none⟩) y2 (fun _ h => h.1.2) (.int .i64 (rd_T358 ns i).f2)
 have z3 := Kd.R_far (p := ⟨gb6, 2, none⟩) z2 (fun _ h => h.1.2) (.int .i64 (rd_T358 ns i).f2)
 have x4 := x3.setCell (p := ⟨gb6, 3, none⟩) GEgb6.out (.int .i64 (rd_T358 ns i).f3)
 have u4 := (Below.heap_setCell _ ⟨gb6, 3, none⟩ (.int .i64 (rd_T358 ns i).f3) gb4 NB.out).trans u3
 have y4 := Kd.R_far (p := ⟨gb6, 3, none⟩) y3 (fun _ h => h.1.2) (.int .i64 (rd_T358 ns i).f3)
 have z4 := Kd.R_far (p := ⟨gb6, 3, none⟩) z3 (fun _ h => h.1.2) (.int .i64 (rd_T358 ns i).f3)
 have x5 := x4.setCell (p := ⟨gb6, 4, none⟩) GEgb6.out (.slice A4 (rd_T358 ns i).f4.f0.length c4)
 have u5 := (Below.heap_setCell _ ⟨gb6, 4, none⟩ (.slice A4 (rd_T358 ns i).f4.f0.length c4) gb4 NB.out).trans u4
 have y5 := Kd.R_far (p := ⟨gb6, 4, none⟩) y4 (fun _ h => h.1.2) (.slice A4 (rd_T358 ns i).f4.f0.length c4)
 have z5 := Kd.R_far (p := ⟨gb6, 4, none⟩) z4 (fun _ h => h.1.2) (.slice A4 (rd_T358 ns i).f4.f0.length c4)
 have x6 := x5.setCell (p := ⟨gb6, 5, none⟩) GEgb6.out (.slice A5 (rd_T358 ns i).f4.f1.length c5)
 have u6 := (Below.heap_setCell _ ⟨gb6, 5, none⟩ (.slice A5 (rd_T358 ns i).f4.f1.length c5) gb4 NB.out).trans u5
 have y6 := Kd.R_far (p := ⟨gb6, 5, none⟩) y5 (fun _ h => h.1.2) (.slice A5 (rd_T358 ns i).f4.f1.length c5)
 have z6 := Kd.R_far (p := ⟨gb6, 5, none⟩) z5 (fun _ h => h.1.2) (.slice A5 (rd_T358 ns i).f4.f1.length c5)
 have x7 := x6.setCell (p := ⟨gb4, 0, none⟩) GEgb4.out (.slice A4 (rd_T358 ns i).f4.f0.length c4)
 have u7 := blk_put u6 0 (.slice A4 (rd_T358 ns i).f4.f0.length c4) rfl
 have y7 := Kd.R_far (p := ⟨gb4, 0, none⟩) y6 (fun _ h => h.2) (.slice A4 (rd_T358 ns i).f4.f0.length c4)
 have z7 := Kd.R_far (p := ⟨gb4, 0, none⟩) z6 (fun _ h => h.2) (.slice A4 (rd_T358 ns i).f4.f0.length c4)
 have x8 := x7.setCell (p := ⟨gb4, 1, none⟩) GEgb4.out (.slice A5 (rd_T358 ns i).f4.f1.length c5)
 have u8 := blk_put u7 1 (.slice A5 (rd_T358 ns i).f4.f1.length c5) rfl
 have y8 := Kd.R_far (p := ⟨gb4, 1, none⟩) y7 (fun _ h => h.2) (.slice A5 (rd_T358 ns i).f4.f1.length c5)
 have z8 := Kd.R_far (p := ⟨gb4, 1, none⟩) z7 (fun _ h => h.2) (.slice A5 (rd_T358 ns i).f4.f1.length c5)
 refine bodyPost_ret (results_ct rfl _ _ gb4 273 #[.slice A4 (rd_T358 ns i).f4.f0.length c4, .slice A5 (rd_T358 ns i).f4.f1.length c5] (0, 0) _ rfl u8 Tryz.underlying273 rfl (by kernel_rfl)) rfl ?_
 exact ⟨_, _, rfl, Kd.R_mono y8 (fun _ _ => trivial), Kd.R_mono z8 (fun _ _ => trivial), x8⟩
theorem tape_Leaf {xb : Nat} (g base k : Nat) (ns : List S358) (v : Value) (A0 : Option Addr) (c0 : Nat) (l0 : List Int) (A1 : Option Addr) (c1 : Nat) (l1 : List Int) (w : World) (hT : TP w base g xb v ns) (hbg : base ≤ g) (hl : ns.length < 500) (hr0 : Kd.C (Kd.int .i64) w A0 l0.length l0) (hc0 : l0.length ≤ c0) (hr1 : Kd.C (Kd.int .i64) w A1 l1.length l1) (hc1 : l1.length ≤ c1) (hg : tens_Good.f k l0 l1 = some true) (hn0 : l0.length < 17592186044416) (hn1 : l1.length < 17592186044416) :
  Calls Tryz.prog 296 #[.pointer (some ⟨g, 0, none⟩), .agg #[.slice A0 l0.length c0, .slice A1 l1.length c1]] w fun e w' => e = .returned (.tuple #[.int .i64 ns.length, .int .i64 0]) ∧ (∃ v', TP w' base g xb v' (ns ++ [(⟨1, -1, -1, 0, ⟨l0, l1⟩⟩ : S358)])) ∧ Below base w w' ∧ TF w w' := by
 have HT := zA_ hT
 have NG : Aside0 (g < w.heap.size) := ⟨blk_lt hT.blk⟩
 have HR0 := zA_ hr0
 have HR1 := zA_ hr1
 have HB := zA_ (Below.refl w.heap.size w)
 obtain ⟨At, ct, et⟩ := Kd.R_slice hT.row
 subst et
 have c5b : decide (512 ≤ (ns.length : Int)) = false := decide_eq_false (by omega)
 clear hT hr0 hr1
 go_enter Tryz.func296, Tryz.ntmps296
 go_wp2_with (first | ((with_reducible refine gate_dst (N := 3) rfl ?_); refine zB_ (#[.slice A0 l0.length c0, .slice A1 l1.length c1]) 273 ?_; intro gb3 hg wgb3 hbox hb; have BKgb3 := zA_ (hbox); have GEgb3 := zA_ (zs_ hg (zw0_ HB)); have cz0 := (blk_cell BKgb3.out 0).trans rfl; have cf0 := blk_frozen BKgb3.out 0; have cz1 := (blk_cell BKgb3.out 1).trans rfl; have cf1 := blk_frozen BKgb3.out 1; have hc_ := (blk_cell (HT.out.below (below_step (zw0_ HB) hb)).blk 0).trans rfl; replace HB := zA_ (below_step (zw0_ HB) hb); clear hb hbox hg) | (go_at_call 308; refine (tens_Good.calls k A0 c0 l0 A1 c1 l1 true _ (Kd.C_below HR0.out (by exact zw0_ HB)) hc0 (Kd.C_below HR1.out (by exact zw0_ HB)) hc1 hg).mono ?_; rintro e w7 ⟨rfl, hb⟩; replace BKgb3 := zA_ (blk_below BKgb3.out hb); replace HB := zA_ (below_step (zw0_ HB) hb); clear hb cz0 cz1 cf0 cf1 hc_; have cz0 := (blk_cell BKgb3.out 0).trans rfl; have cf0 := blk_frozen BKgb3.out 0; have cz1 := (blk_cell BKgb3.out 1).trans rfl; have cf1 := blk_frozen BKgb3.out 1; have hc_ := (blk_cell (HT.out.below (zw0_ HB)).blk 0).trans rfl) | (go_at_call 307; refine (tens_Copy.calls A0 c0 l0 A1 c1 l1 l0 l1 _ (Kd.C_below HR0.out (by exact zw0_ HB)) hc0 (Kd.C_below HR1.out (by exact zw0_ HB)) hc1 (tens_Copy_eq hn0 hn1)).mono ?_; rintro e w8 ⟨v4, v5, rfl, r4, r5, hb⟩; obtain ⟨A4, c4, e4⟩ := Kd.R_slice r4; obtain ⟨A5, c5, e5⟩ := Kd.R_slice r5; subst e4 e5; have R4 := zA_ (Kd.R_lower r4 (below_size (zw0_ HB))); have R5 := zA_ (Kd.R_lower r5 (below_size (zw0_ HB))); replace HB := zA_ (below_step (zw0_ HB) hb); clear hb r4 r5))
 go_at_call 337
 refine (tape_Tape_add.calls g base ns (⟨1, -1, -1, 0, ⟨l0, l1⟩⟩ : S358) _ (.slice A4 l0.length c4) (.slice A5 l1.length c5) _ (HT.out.below HB.out) (Kd.R_lower (Kd.R_mono (Kd.R_bound R4.out) (fun k_ hk => by have := hk.2.1; have := NG.out; have := HT.out.xlt; exact ⟨by omega, by omega⟩)) (by have := NG.out; omega)) (Kd.R_lower (Kd.R_mono (Kd.R_bound R5.out) (fun k_ hk => by have := hk.2.1; have := NG.out; have := HT.out.xlt; exact ⟨by omega, by omega⟩)) (by have := NG.out; omega)) hbg (by omega)).mono ?_
 rintro e w9 ⟨rfl, ⟨v', ht⟩, hb, hf⟩
 have HT9 := zA_ ht
 have HB9 := zA_ ((below_le HB.out (by have := NG.out; omega)).trans hb)
 have HF9 := zA_ ((TF.of_below HB.out).trans hf)
 clear ht hb hf
 go_wp2
 go_ret2
 exact ⟨rfl, ⟨v', HT9.out⟩, HB9.out, HF9.out⟩
theorem tape_Do_mean {xb : Nat} (g base : Nat) (ns : List S358) (v : Value) (a2 a3 a4 : Int) (d : List Int) (r : List Int) (w : World) (hT : TP w base g xb v ns) (hbg : base ≤ g) (hl : ns.length < 500) (p1 : 0 ≤ a2) (q1 : a2 < (ns.length : Int))
  (hone : ∀ (A4 A5 : Option Addr) (c4 c5 : Nat) (w1 : World), Kd.C (Kd.int .i64) w1 A4 (rd_T358 ns a2).f4.f0.length (rd_T358 ns a2).f4.f0 → (rd_T358 ns a2).f4.f0.length ≤ c4 → Kd.C (Kd.int .i64) w1 A5 (rd_T358 ns a2).f4.f1.length (rd_T358 ns a2).f4.f1 → (rd_T358 ns a2).f4.f1.length ≤ c5 → Calls Tryz.prog 361 #[.int .i64 10, .agg #[.slice A4 (rd_T358 ns a2).f4.f0.length c4, .slice A5 (rd_T358 ns a2).f4.f1.length c5], .int .i64 a4] w1 fun e w' => ∃ v0_ v1_ : Value, e = .returned (.tuple #[.agg #[v0_, v1_], .int .i64 0]) ∧ Kd.R (Kd.int .i64) 3 w' w1.heap.size (fun _ => True) v0_ d ∧ Kd.R (Kd.int .i64) 36 w' w1.heap.size (fun _ => True) v1_ r ∧ Below w1.heap.size w1 w') :
  Calls Tryz.prog 338 #[.pointer (some ⟨g, 0, none⟩), .int .i64 10, .int .i64 a2, .int .i64 a3, .int .i64 a4] w fun e w' => e = .returned (.tuple #[.int .i64 ns.length, .int .i64 0]) ∧ (∃ v', TP w' base g xb v' (ns ++ [(⟨10, a2, -1, 0, ⟨d, r⟩⟩ : S358)])) ∧ Below base w w' ∧ TF w w' := by
 have HT := zA_ hT
 have NG : Aside0 (g < w.heap.size) := ⟨blk_lt hT.blk⟩
 have HB := zA_ (Below.refl w.heap.size w)
 obtain ⟨At, ct, et⟩ := Kd.R_slice hT.row
 subst et
 have c5b : decide (512 ≤ (ns.length : Int)) = false := decide_eq_false (by omega)
 have c6b : decide (0 ≤ a2) = true := decide_eq_true p1
 have c7b : decide (a2 < (ns.length : Int)) = true := decide_eq_true q1
 have hc_ := (blk_cell hT.blk 0).trans rfl
 have p1e := eq_true p1
 have q1e := eq_true q1
 have HONE := zA_ hone
 clear hT hone
 go_enter Tryz.func338, Tryz.ntmps338
 go_wp2_with (first | ((with_reducible refine gate_dst (N := 12) rfl ?_); refine zB_ (#[.int .i64 0, .int .i64 0, .int .i64 0, .int .i64 0, .slice none 0 0, .slice none 0 0]) 358 ?_; intro gb12 hg wgb12 hbox hb; have BKgb12 := zA_ (hbox); have GEgb12 := zA_ (zs_ hg (zw0_ HB)); have dz0 := (blk_cell BKgb12.out 0).trans rfl; have df0 := blk_frozen BKgb12.out 0; have dz1 := (blk_cell BKgb12.out 1).trans rfl; have df1 := blk_frozen BKgb12.out 1; have dz2 := (blk_cell BKgb12.out 2).trans rfl; have df2 := blk_frozen BKgb12.out 2; have dz3 := (blk_cell BKgb12.out 3).trans rfl; have df3 := blk_frozen BKgb12.out 3; have dz4 := (blk_cell BKgb12.out 4).trans rfl; have df4 := blk_frozen BKgb12.out 4; have dz5 := (blk_cell BKgb12.out 5).trans rfl; have df5 := blk_frozen BKgb12.out 5;obtain ⟨ad, A4, c4, A5, c5, e1, hx0, hx1, hx2, hx3, hx4, hx5, l4, k4, l5, k5⟩ := at_T358 (Kd.R_reads' (HT.out.below (below_step (zw0_ HB) hb)).row).2.2 a2 p1 q1; cases e1; clear hc_; have hc_ := (blk_cell (HT.out.below (below_step (zw0_ HB) hb)).blk 0).trans rfl; replace HB := zA_ (below_step (zw0_ HB) hb); clear hb hbox hg) | (go_at_call 306; refine (tape_has_yes g base ns _ a2 _ (HT.out.below (by exact zw0_ HB)) p1 q1).mono ?_; rintro e w7 ⟨rfl, hb⟩; replace HB := zA_ (below_step (zw0_ HB) hb); clear hb hc_; have hc_ := (blk_cell (HT.out.below (zw0_ HB)).blk 0).trans rfl) | (go_at_call 358; refine (tape_two_b 10 false _ (by decide)).mono ?_; rintro e w7 ⟨rfl, hb⟩; replace HB := zA_ (below_step (zw0_ HB) hb); (try replace BKgb12 := zA_ (blk_below BKgb12.out hb)); clear hb))
 go_at_call 359
 refine (tape_counts_b 10 false _ (by decide)).mono ?_
 rintro e w8 ⟨rfl, hb⟩
 have B12 : Aside0 (w8.heap[gb12]? = some (.cells #[.int .i64 10, .int .i64 a2, .int .i64 (-1), .int .i64 0, .slice none 0 0, .slice none 0 0] 358 (0, 0))) := ⟨blk_below (blk_put (blk_put (blk_put (blk_put (blk_put (blk_put BKgb12.out 0 _ rfl) 1 _ rfl) 2 _ rfl) 3 _ rfl) 4 _ rfl) 5 _ rfl) hb⟩
 replace HB := zA_ (below_step (zw1_ HB GEgb12) hb)
 clear hb hc_ hx0 hx1 hx2 hx3 hx4 hx5 k4 k5 l4 l5 BKgb12 dz0 df0 dz1 df1 dz2 df2 dz3 df3 dz4 df4 dz5 df5
 go_wp2_with (first | (go_at_call 358; refine (tape_two_b 10 false _ (by decide)).mono ?_; rintro e w9 ⟨rfl, hb⟩; replace HB := zA_ (below_step (zw0_ HB) hb); replace B12 := zA_ (blk_below B12.out hb); clear hb; obtain ⟨ad, A4, c4, A5, c5, e1, hx0, hx1, hx2, hx3, hx4, hx5, l4, k4, l5, k5⟩ := at_T358 (Kd.R_reads' (HT.out.below (zw0_ HB)).row).2.2 a2 p1 q1; cases e1; have hc_ := (blk_cell (HT.out.below (zw0_ HB)).blk 0).trans rfl))
 go_at_call 361
 refine (HONE.out A4 A5 c4 c5 _ k4 l4 k5 l5).mono ?_
 rintro e w10 ⟨v4, v5, rfl, r4, r5, hb⟩
 obtain ⟨A6, c6, e6⟩ := Kd.R_slice r4
 obtain ⟨A7, c7, e7⟩ := Kd.R_slice r5
 subst e6 e7
 have R4 := zA_ (Kd.R_lower r4 (below_size (zw0_ HB)))
 have R5 := zA_ (Kd.R_lower r5 (below_size (zw0_ HB)))
 replace B12 := zA_ (blk_below B12.out hb)
 replace HB := zA_ (below_step (zw0_ HB) hb)
 clear hb r4 r5 hx0 hx1 hx2 hx3 hx4 hx5 k4 k5 l4 l5 hc_
 have dz0 := (blk_cell B12.out 0).trans rfl
 have df0 := blk_frozen B12.out 0
 have dz1 := (blk_cell B12.out 1).trans rfl
 have df1 := blk_frozen B12.out 1
 have dz2 := (blk_cell B12.out 2).trans rfl
 have df2 := blk_frozen B12.out 2
 have dz3 := (blk_cell B12.out 3).trans rfl
 have df3 := blk_frozen B12.out 3
 have dz4 := (blk_cell B12.out 4).trans rfl
 have df4 := blk_frozen B12.out 4
 have dz5 := (blk_cell B12.out 5).trans rfl
 have df5 := blk_frozen B12.out 5
 go_wp2_with (first | fail)
 have x0 := HB.out
 have y0 := Kd.R_types R4.out B12.out (by decide)
 have z0 := Kd.R_types R5.out B12.out (by decide)
 have x1 := x0.setCell (p := ⟨gb12, 4, none⟩) GEgb12.out (.slice A6 d.length c6)
 have y1 := Kd.R_far (p := ⟨gb12, 4, none⟩) y0 (fun _ h => h.2) (.slice A6 d.length c6)
 have z1 := Kd.R_far (p := ⟨gb12, 4, none⟩) z0 (fun _ h => h.2) (.slice A6 d.length c6)
 have x2 := x1.setCell (p := ⟨gb12, 5, none⟩) GEgb12.out (.slice A7 r.length c7)
 have y2 := Kd.R_far (p := ⟨gb12, 5, none⟩) y1 (fun _ h => h.2) (.slice A7 r.length c7)
 have z2 := Kd.R_far (p := ⟨gb12, 5, none⟩) z1 (fun _ h => h.2) (.slice A7 r.length c7)
 go_at_call 337
 refine (tape_Tape_add.calls g base ns (⟨10, a2, -1, 0, ⟨d, r⟩⟩ : S358) _ (.slice A6 d.length c6) (.slice A7 r.length c7) _ (HT.out.below x2) (Kd.R_lower (Kd.R_mono (Kd.R_bound y2) (fun k_ hk => by have := hk.2.1; have := NG.out; have := HT.out.xlt; exact ⟨by omega, by omega⟩)) (by have := NG.out; omega)) (Kd.R_lower (Kd.R_mono (Kd.R_bound z2) (fun k_ hk => by have := hk.2.1; have := NG.out; have := HT.out.xlt; exact ⟨by omega, by omega⟩)) (by have := NG.out; omega)) hbg (by omega)).mono ?_
 rintro e w11 ⟨rfl, ⟨v', ht⟩, hb, hf⟩
 have HT9 := zA_ ht
 have HB9 := zA_ ((below_le x2 (by have := NG.out; omega)).trans hb)
 have HF9 := zA_ ((TF.of_below x2).trans hf)
 clear ht hb hf x0 x1 x2 y0 y1 y2 z0 z1 z2 dz0 df0 dz1 df1 dz2 df2 dz3 df3 dz4 df4 dz5 df5
 go_wp2
 go_ret2
 exact ⟨rfl, ⟨v', HT9.out⟩, HB9.out, HF9.out⟩
theorem tape_Do_sum {xb : Nat} (g base : Nat) (ns : List S358) (v : Value) (a2 a3 a4 : Int) (d : List Int) (r : List Int) (w : World) (hT : TP w base g xb v ns) (hbg : base ≤ g) (hl : ns.length < 500) (p1 : 0 ≤ a2) (q1 : a2 < (ns.length : Int))
  (hone : ∀ (A4 A5 : Option Addr) (c4 c5 : Nat) (w1 : World), Kd.C (Kd.int .i64) w1 A4 (rd_T358 ns a2).f4.f0.length (rd_T358 ns a2).f4.f0 → (rd_T358 ns a2).f4.f0.length ≤ c4 → Kd.C (Kd.int .i64) w1 A5 (rd_T358 ns a2).f4.f1.length (rd_T358 ns a2).f4.f1 → (rd_T358 ns a2).f4.f1.length ≤ c5 → Calls Tryz.prog 361 #[.int .i64 8, .agg #[.slice A4 (rd_T358 ns a2).f4.f0.length c4, .slice A5 (rd_T358 ns a2).f4.f1.length c5], .int .i64 a4] w1 fun e w' => ∃ v0_ v1_ : Value, e = .returned (.tuple #[.agg #[v0_, v1_], .int .i64 0]) ∧ Kd.R (Kd.int .i64) 3 w' w1.heap.size (fun _ => True) v0_ d ∧ Kd.R (Kd.int .i64) 36 w' w1.heap.size (fun _ => True) v1_ r ∧ Below w1.heap.size w1 w') :
  Calls Tryz.prog 338 #[.pointer (some ⟨g, 0, none⟩), .int .i64 8, .int .i64 a2, .int .i64 a3, .int .i64 a4] w fun e w' => e = .returned (.tuple #[.int .i64 ns.length, .int .i64 0]) ∧ (∃ v', TP w' base g xb v' (ns ++ [(⟨8, a2, -1, a4, ⟨d, r⟩⟩ : S358)])) ∧ Below base w w' ∧ TF w w' := by
 have HT := zA_ hT
 have NG : Aside0 (g < w.heap.size) := ⟨blk_lt hT.blk⟩
 have HB := zA_ (Below.refl w.heap.size w)
 obtain ⟨At, ct, et⟩ := Kd.R_slice hT.row
 subst et
 have c5b : decide (512 ≤ (ns.length : Int)) = false := decide_eq_false (by omega)
 have c6b : decide (0 ≤ a2) = true := decide_eq_true p1
 have c7b : decide (a2 < (ns.length : Int)) = true := decide_eq_true q1
 have hc_ := (blk_cell hT.blk 0).trans rfl
 have p1e := eq_true p1
 have q1e := eq_true q1
 have HONE := zA_ hone
 clear hT hone
 go_enter Tryz.func338, Tryz.ntmps338
 go_wp2_with (first | ((with_reducible refine gate_dst (N := 12) rfl ?_); refine zB_ (#[.int .i64 0, .int .i64 0, .int .i64 0, .int .i64 0, .slice none 0 0, .slice none 0 0]) 358 ?_; intro gb12 hg wgb12 hbox hb; have BKgb12 := zA_ (hbox); have GEgb12 := zA_ (zs_ hg (zw0_ HB)); have dz0 := (blk_cell BKgb12.out 0).trans rfl; have df0 := blk_frozen BKgb12.out 0; have dz1 := (blk_cell BKgb12.out 1).trans rfl; have df1 := blk_frozen BKgb12.out 1; have dz2 := (blk_cell BKgb12.out 2).trans rfl; have df2 := blk_frozen BKgb12.out 2; have dz3 := (blk_cell BKgb12.out 3).trans rfl; have df3 := blk_frozen BKgb12.out 3; have dz4 := (blk_cell BKgb12.out 4).trans rfl; have df4 := blk_frozen BKgb12.out 4; have dz5 := (blk_cell BKgb12.out 5).trans rfl; have df5 := blk_frozen BKgb12.out 5;obtain ⟨ad, A4, c4, A5, c5, e1, hx0, hx1, hx2, hx3, hx4, hx5, l4, k4, l5, k5⟩ := at_T358 (Kd.R_reads' (HT.out.below (below_step (zw0_ HB) hb)).row).2.2 a2 p1 q1; cases e1; clear hc_; have hc_ := (blk_cell (HT.out.below (below_step (zw0_ HB) hb)).blk 0).trans rfl; replace HB := zA_ (below_step (zw0_ HB) hb); clear hb hbox hg) | (go_at_call 306; refine (tape_has_yes g base ns _ a2 _ (HT.out.below (by exact zw0_ HB)) p1 q1).mono ?_; rintro e w7 ⟨rfl, hb⟩; replace HB := zA_ (below_step (zw0_ HB) hb); clear hb hc_; have hc_ := (blk_cell (HT.out.below (zw0_ HB)).blk 0).trans rfl) | (go_at_call 358; refine (tape_two_b 8 false _ (by decide)).mono ?_; rintro e w7 ⟨rfl, hb⟩; replace HB := zA_ (below_step (zw0_ HB) hb); (try replace BKgb12 := zA_ (blk_below BKgb12.out hb)); clear hb))
 go_at_call 359
 refine (tape_counts_b 8 true _ (by decide)).mono ?_
 rintro e w8 ⟨rfl, hb⟩
 have B12 : Aside0 (w8.heap[gb12]? = some (.cells #[.int .i64 8, .int .i64 a2, .int .i64 (-1), .int .i64 0, .slice none 0 0, .slice none 0 0] 358 (0, 0))) := ⟨blk_below (blk_put (blk_put (blk_put (blk_put (blk_put (blk_put BKgb12.out 0 _ rfl) 1 _ rfl) 2 _ rfl) 3 _ rfl) 4 _ rfl) 5 _ rfl) hb⟩
 replace HB := zA_ (below_step (zw1_ HB GEgb12) hb)
 clear hb hc_ hx0 hx1 hx2 hx3 hx4 hx5 k4 k5 l4 l5 BKgb12 dz0 df0 dz1 df1 dz2 df2 dz3 df3 dz4 df4 dz5 df5
 have dz0 := (blk_cell B12.out 0).trans rfl
 have df0 := blk_frozen B12.out 0
 have dz1 := (blk_cell B12.out 1).trans rfl
 have df1 := blk_frozen B12.out 1
 have dz2 := (blk_cell B12.out 2).trans rfl
 have df2 := blk_frozen B12.out 2
 have dz3 := (blk_cell B12.out 3).trans rfl
 have df3 := blk_frozen B12.out 3
 have dz4 := (blk_cell B12.out 4).trans rfl
 have df4 := blk_frozen B12.out 4
 have dz5 := (blk_cell B12.out 5).trans rfl
 have df5 := blk_frozen B12.out 5
 go_wp2_with (first | (go_at_call 358; refine (tape_two_b 8 false _ (by decide)).mono ?_; rintro e w9 ⟨rfl, hb⟩; replace HB := zA_ (below_step (zw1_ HB GEgb12) hb); replace B12 := zA_ (blk_below (blk_put B12.out 3 (.int .i64 a4) rfl) hb); clear dz0 dz1 dz2 dz3 dz4 dz5 df0 df1 df2 df3 df4 df5; clear hb; obtain ⟨ad, A4, c4, A5, c5, e1, hx0, hx1, hx2, hx3, hx4, hx5, l4, k4, l5, k5⟩ := at_T358 (Kd.R_reads' (HT.out.below (zw0_ HB)).row).2.2 a2 p1 q1; cases e1; have hc_ := (blk_cell (HT.out.below (zw0_ HB)).blk 0).trans rfl))
 go_at_call 361
 refine (HONE.out A4 A5 c4 c5 _ k4 l4 k5 l5).mono ?_
 rintro e w10 ⟨v4, v5, rfl, r4, r5, hb⟩
 obtain ⟨A6, c6, e6⟩ := Kd.R_slice r4
 obtain ⟨A7, c7, e7⟩ := Kd.R_slice r5
 subst e6 e7
 have R4 := zA_ (Kd.R_lower r4 (below_size (zw0_ HB)))
 have R5 := zA_ (Kd.R_lower r5 (below_size (zw0_ HB)))
 replace B12 := zA_ (blk_below B12.out hb)
 replace HB := zA_ (below_step (zw0_ HB) hb)
 clear hb r4 r5 hx0 hx1 hx2 hx3 hx4 hx5 k4 k5 l4 l5 hc_
 have dz0 := (blk_cell B12.out 0).trans rfl
 have df0 := blk_frozen B12.out 0
 have dz1 := (blk_cell B12.out 1).trans rfl
 have df1 := blk_frozen B12.out 1
 have dz2 := (blk_cell B12.out 2).trans rfl
 have df2 := blk_frozen B12.out 2
 have dz3 := (blk_cell B12.out 3).trans rfl
 have df3 := blk_frozen B12.out 3
 have dz4 := (blk_cell B12.out 4).trans rfl
 have df4 := blk_frozen B12.out 4
 have dz5 := (blk_cell B12.out 5).trans rfl
 have df5 := blk_frozen B12.out 5
 go_wp2_with (first | fail)
 have x0 := HB.out
 have y0 := Kd.R_types R4.out B12.out (by decide)
 have z0 := Kd.R_types R5.out B12.out (by decide)
 have x1 := x0.setCell (p := ⟨gb12, 4, none⟩) GEgb12.out (.slice A6 d.length c6)
 have y1 := Kd.R_far (p := ⟨gb12, 4, none⟩) y0 (fun _ h => h.2) (.slice A6 d.length c6)
 have z1 := Kd.R_far (p := ⟨gb12, 4, none⟩) z0 (fun _ h => h.2) (.slice A6 d.length c6)
 have x2 := x1.setCell (p := ⟨gb12, 5, none⟩) GEgb12.out (.slice A7 r.length c7)
 have y2 := Kd.R_far (p := ⟨gb12, 5, none⟩) y1 (fun _ h => h.2) (.slice A7 r.length c7)
 have z2 := Kd.R_far (p := ⟨gb12, 5, none⟩) z1 (fun _ h => h.2) (.slice A7 r.length c7)
 go_at_call 337
 refine (tape_Tape_add.calls g base ns (⟨8, a2, -1, a4, ⟨d, r⟩⟩ : S358) _ (.slice A6 d.length c6) (.slice A7 r.length c7) _ (HT.out.below x2) (Kd.R_lower (Kd.R_mono (Kd.R_bound y2) (fun k_ hk => by have := hk.2.1; have := NG.out; have := HT.out.xlt; exact ⟨by omega, by omega⟩)) (by have := NG.out; omega)) (Kd.R_lower (Kd.R_mono (Kd.R_bound z2) (fun k_ hk => by have := hk.2.1; have := NG.out; have := HT.out.xlt; exact ⟨by omega, by omega⟩)) (by have := NG.out; omega)) hbg (by omega)).mono ?_
 rintro e w11 ⟨rfl, ⟨v', ht⟩, hb, hf⟩
 have HT9 := zA_ ht
 have HB9 := zA_ ((below_le x2 (by have := NG.out; omega)).trans hb)
 have HF9 := zA_ ((TF.of_below x2).trans hf)
 clear ht hb hf x0 x1 x2 y0 y1 y2 z0 z1 z2 dz0 df0 dz1 df1 dz2 df2 dz3 df3 dz4 df4 dz5 df5
 go_wp2
 go_ret2
 exact ⟨rfl, ⟨v', HT9.out⟩, HB9.out, HF9.out⟩
theorem tape_Len {xb : Nat} (g base : Nat) (ns : List S358) (v : Value) (w : World) (hT : TP w base g xb v ns) :
  Calls Tryz.prog 243 #[.pointer (some ⟨g, 0, none⟩)] w fun e w' => e = .returned (.int .i64 ns.length) ∧ Below w.heap.size w w' := by
 obtain ⟨A0, c0, e0⟩ := Kd.R_slice hT.row
 subst e0
 have hc_ := (blk_cell hT.blk 0).trans rfl
 have HB := zA_ (Below.refl w.heap.size w)
 clear hT
 go_enter Tryz.func243, Tryz.ntmps243
 go_wp2
 go_ret
 exact ⟨rfl, zw0_ HB⟩
theorem tape_New (w : World) :
  Calls Tryz.prog 167 #[] w fun e w' => ∃ (g : Nat) (v : Value), e = .returned (.pointer (some ⟨g, 0, none⟩)) ∧ w.heap.size ≤ g ∧ TP w' w.heap.size g g v [] ∧ Below w.heap.size w w' := by
 have hu344 := Tryz.underlying344
 have HB := zA_ (Below.refl w.heap.size w)
 go_enter Tryz.func167, Tryz.ntmps167
 go_wp2_with (first | ((with_reducible refine gate_dst (N := 2) rfl ?_); refine zB_ (#[.slice none 0 0]) 344 ?_; intro gb2 hg w2 hbox hb; have BK2 := zA_ (hbox); have GE2 := zA_ (zs_ hg (zw0_ HB)); replace HB := zA_ (below_step (zw0_ HB) hb); clear hb hbox hg))
 go_ret
 exact ⟨gb2, _, rfl, GE2.out, ⟨BK2.out, blk_lt BK2.out, Kd.R_nil _ _ _ _ _⟩, zw0_ HB⟩
theorem runner_leaf {xb : Nat} (q g base k : Nat) (vp vl : Value) (ns : List S358) (v : Value) (A0 : Option Addr) (c0 : Nat) (l0 : List Int) (A1 : Option Addr) (c1 : Nat) (l1 : List Int) (w : World) (hQ : w.heap[q]? = some (.cells #[.pointer (some ⟨g, 0, none⟩), .int .i64 0, vp, vl] 347 (0, 0))) (hT : TP w base g xb v ns) (hbg : base ≤ g) (hbq : base ≤ q) (hl : ns.length < 500) (hr0 : Kd.C (Kd.int .i64) w A0 l0.length l0) (hc0 : l0.length ≤ c0) (hr1 : Kd.C (Kd.int .i64) w A1 l1.length l1) (hc1 : l1.length ≤ c1) (hg : tens_Good.f k l0 l1 = some true) (hn0 : l0.length < 17592186044416) (hn1 : l1.length < 17592186044416) :
  Calls Tryz.prog 244 #[.pointer (some ⟨q, 0, none⟩), .slice A0 l0.length c0, .slice A1 l1.length c1] w fun e w' => e = .returned (.int .i64 ns.length) ∧ w'.heap[q]? = some (.cells #[.pointer (some ⟨g, 0, none⟩), .int .i64 0, vp, vl] 347 (0, 0)) ∧ (∃ v', TP w' base g xb v' (ns ++ [(⟨1, -1, -1, 0, ⟨l0, l1⟩⟩ : S358)])) ∧ Below base w w' ∧ TF w w' := by
 have HT := zA_ hT
 have HR0 := zA_ hr0
 have HR1 := zA_ hr1
 have BQ := zA_ hQ
 have hz0 := (blk_cell hQ 0).trans rfl
 have hz1 := (blk_cell hQ 1).trans rfl
 have NE : Aside0 (q ≠ g) := ⟨fun e => by subst e; have h1 := hQ; rw [hT.blk] at h1; injection h1 with h1; injection h1 with _ h2; exact absurd h2 (by decide)⟩
 clear hT hr0 hr1 hQ
 go_enter Tryz.func244, Tryz.ntmps244
 go_wp2_with (first | (go_at_call 296; refine (tape_Leaf g base k ns v A0 c0 l0 A1 c1 l1 _ HT.out hbg hl HR0.out hc0 HR1.out hc1 hg hn0 hn1).mono ?_; rintro e w7 ⟨rfl, ⟨v', ht⟩, hb, hf⟩; have HT7 := zA_ ht; have HB7 := zA_ hb; have HF7 := zA_ hf; have B7 := zA_ (TF.blk hf BQ.out (by decide) (by decide)); clear hz0 hz1 ht hb hf; have hz1 := (blk_cell B7.out 1).trans rfl; have hf1 := blk_frozen B7.out 1))
 go_ret
 exact ⟨rfl, blk_put B7.out 1 _ rfl, ⟨v', (Below.heap_setCell _ ⟨q, 1, none⟩ _ g (Ne.symm NE.out)).trans HT7.out.blk, (by rw [World.size_setCell]; exact HT7.out.xlt), Kd.R_mono (Kd.R_far (p := ⟨q, 1, none⟩) (Kd.R_types HT7.out.row B7.out (by decide)) (fun _ h => h.2) _) (fun _ h => h.1)⟩, HB7.out.setCell (p := ⟨q, 1, none⟩) hbq _, HF7.out.trans (TF.same B7.out rfl)⟩
theorem runner_do {xb : Nat} (q g base : Nat) (vp vl : Value) (ns : List S358) (v : Value) (a1 a2 a3 a4 : Int) (nd : S358) (w : World) (hQ : w.heap[q]? = some (.cells #[.pointer (some ⟨g, 0, none⟩), .int .i64 0, vp, vl] 347 (0, 0))) (hT : TP w base g xb v ns) (hbq : base ≤ q)
  (hdo : ∀ w1, TP w1 base g xb v ns → Calls Tryz.prog 338 #[.pointer (some ⟨g, 0, none⟩), .int .i64 a1, .int .i64 a2, .int .i64 a3, .int .i64 a4] w1 fun e w' => e = .returned (.tuple #[.int .i64 ns.length, .int .i64 0]) ∧ (∃ v', TP w' base g xb v' (ns ++ [nd])) ∧ Below base w1 w' ∧ TF w1 w') :
  Calls Tryz.prog 298 #[.pointer (some ⟨q, 0, none⟩), .int .i64 a1, .int .i64 a2, .int .i64 a3, .int .i64 a4] w fun e w' => e = .returned (.int .i64 ns.length) ∧ w'.heap[q]? = some (.cells #[.pointer (some ⟨g, 0, none⟩), .int .i64 0, vp, vl] 347 (0, 0)) ∧ (∃ v', TP w' base g xb v' (ns ++ [nd])) ∧ Below base w w' ∧ TF w w' := by
 have HT := zA_ hT
 have HDO := zA_ hdo
 have BQ := zA_ hQ
 have hz0 := (blk_cell hQ 0).trans rfl
 have hz1 := (blk_cell hQ 1).trans rfl
 have NE : Aside0 (q ≠ g) := ⟨fun e => by subst e; have h1 := hQ; rw [hT.blk] at h1; injection h1 with h1; injection h1 with _ h2; exact absurd h2 (by decide)⟩
 clear hT hdo hQ
 go_enter Tryz.func298, Tryz.ntmps298
 go_wp2_with (first | (go_at_call 338; refine (HDO.out _ HT.out).mono ?_; rintro e w7 ⟨rfl, ⟨v', ht⟩, hb, hf⟩; have HT7 := zA_ ht; have HB7 := zA_ hb; have HF7 := zA_ hf; have B7 := zA_ (TF.blk hf BQ.out (by decide) (by decide)); clear hz0 hz1 ht hb hf; have hz1 := (blk_cell B7.out 1).trans rfl; have hf1 := blk_frozen B7.out 1))
 go_ret
 exact ⟨rfl, blk_put B7.out 1 _ rfl, ⟨v', (Below.heap_setCell _ ⟨q, 1, none⟩ _ g (Ne.symm NE.out)).trans HT7.out.blk, (by rw [World.size_setCell]; exact HT7.out.xlt), Kd.R_mono (Kd.R_far (p := ⟨q, 1, none⟩) (Kd.R_types HT7.out.row B7.out (by decide)) (fun _ h => h.2) _) (fun _ h => h.1)⟩, HB7.out.setCell (p := ⟨q, 1, none⟩) hbq _, HF7.out.trans (TF.same B7.out rfl)⟩
theorem steps_do {xb : Nat} (q g base : Nat) (was : Int) (ns : List S358) (v : Value) (a1 a2 a3 a4 : Int) (nd : S358) (w : World) (hQ : w.heap[q]? = some (.cells #[.pointer (some ⟨g, 0, none⟩), .int .i64 was, .int .i64 0] 454 (0, 0))) (hT : TP w base g xb v ns) (hbq : base ≤ q)
  (hdo : ∀ w1, TP w1 base g xb v ns → Calls Tryz.prog 338 #[.pointer (some ⟨g, 0, none⟩), .int .i64 a1, .int .i64 a2, .int .i64 a3, .int .i64 a4] w1 fun e w' => e = .returned (.tuple #[.int .i64 ns.length, .int .i64 0]) ∧ (∃ v', TP w' base g xb v' (ns ++ [nd])) ∧ Below base w1 w' ∧ TF w1 w') :
  Calls Tryz.prog 301 #[.pointer (some ⟨q, 0, none⟩), .int .i64 a1, .int .i64 a2, .int .i64 a3, .int .i64 a4] w fun e w' => e = .returned (.int .i64 ns.length) ∧ w'.heap[q]? = some (.cells #[.pointer (some ⟨g, 0, none⟩), .int .i64 was, .int .i64 0] 454 (0, 0)) ∧ (∃ v', TP w' base g xb v' (ns ++ [nd])) ∧ Below base w w' ∧ TF w w' := by
 have HT := zA_ hT
 have HDO := zA_ hdo
 have BQ := zA_ hQ
 have hz0 := (blk_cell hQ 0).trans rfl
 have hz1 := (blk_cell hQ 2).trans rfl
 have NE : Aside0 (q ≠ g) := ⟨fun e => by subst e; have h1 := hQ; rw [hT.blk] at h1; injection h1 with h1; injection h1 with _ h2; exact absurd h2 (by decide)⟩
 clear hT hdo hQ
 go_enter Tryz.func301, Tryz.ntmps301
 go_wp2_with (first | (go_at_call 338; refine (HDO.out _ HT.out).mono ?_; rintro e w7 ⟨rfl, ⟨v', ht⟩, hb, hf⟩; have HT7 := zA_ ht; have HB7 := zA_ hb; have HF7 := zA_ hf; have B7 := zA_ (TF.blk hf BQ.out (by decide) (by decide)); clear hz0 hz1 ht hb hf; have hz1 := (blk_cell B7.out 2).trans rfl; have hf1 := blk_frozen B7.out 2))
 go_ret
 exact ⟨rfl, blk_put B7.out 2 _ rfl, ⟨v', (Below.heap_setCell _ ⟨q, 2, none⟩ _ g (Ne.symm NE.out)).trans HT7.out.blk, (by rw [World.size_setCell]; exact HT7.out.xlt), Kd.R_mono (Kd.R_far (p := ⟨q, 2, none⟩) (Kd.R_types HT7.out.row B7.out (by decide)) (fun _ h => h.2) _) (fun _ h => h.1)⟩, HB7.out.setCell (p := ⟨q, 2, none⟩) hbq _, HF7.out.trans (TF.same B7.out rfl)⟩
theorem loss_begin {xb : Nat} (g base : Nat) (ns : List S358) (v : Value) (w : World) (hT : TP w base g xb v ns) :
  Calls Tryz.prog 300 #[.pointer (some ⟨g, 0, none⟩)] w fun e w' => ∃ q, e = .returned (.pointer (some ⟨q, 0, none⟩)) ∧ w.heap.size ≤ q ∧ w'.heap[q]? = some (.cells #[.pointer (some ⟨g, 0, none⟩), .int .i64 ns.length, .int .i64 0] 454 (0, 0)) ∧ Below w.heap.size w w' := by
 have HT := zA_ hT
 have HB := zA_ (Below.refl w.heap.size w)
 clear hT
 go_enter Tryz.func300, Tryz.ntmps300
 go_wp2_with (first | (go_at_call 243; refine (tape_Len g base ns v _ (HT.out.below (by exact zw0_ HB))).mono ?_; rintro e w7 ⟨rfl, hb⟩; replace HB := zA_ (below_step (zw0_ HB) hb); clear hb) | ((with_reducible refine gate_dst (N := 7) rfl ?_); refine zB_ (#[.pointer (some ⟨g, 0, none⟩), .int .i64 ns.length, .int .i64 0]) 454 ?_; intro gb7 hg wgb7 hbox hb; have BKgb7 := zA_ (hbox); have GEgb7 := zA_ (zs_ hg (zw0_ HB));  replace HB := zA_ (below_step (zw0_ HB) hb); clear hb hbox hg))
 go_ret
 exact ⟨gb7, rfl, GEgb7.out, BKgb7.out, zw0_ HB⟩
theorem steps_leaf {xb : Nat} (q g base k : Nat) (was : Int) (ns : List S358) (v : Value) (A1 : Option Addr) (c1 : Nat) (l1 : List Int) (w : World) (hQ : w.heap[q]? = some (.cells #[.pointer (some ⟨g, 0, none⟩), .int .i64 was, .int .i64 0] 454 (0, 0))) (hT : TP w base g xb v ns) (hbg : base ≤ g) (hbq : base ≤ q) (hl : ns.length < 500) (hr1 : Kd.C (Kd.int .i64) w A1 l1.length l1) (hc1 : l1.length ≤ c1) (hg : tens_Good.f k [(l1.length : Int)] l1 = some true) (hn1 : l1.length < 17592186044416) :
  Calls Tryz.prog 302 #[.pointer (some ⟨q, 0, none⟩), .slice A1 l1.length c1] w fun e w' => e = .returned (.int .i64 ns.length) ∧ w'.heap[q]? = some (.cells #[.pointer (some ⟨g, 0, none⟩), .int .i64 was, .int .i64 0] 454 (0, 0)) ∧ (∃ v', TP w' base g xb v' (ns ++ [(⟨1, -1, -1, 0, ⟨[(l1.length : Int)], l1⟩⟩ : S358)])) ∧ Below base w w' ∧ TF w w' := by
 have HT := zA_ hT
 have HR1 := zA_ hr1
 have BQ := zA_ hQ
 have HG := zA_ hg
 have hz0 := (blk_cell hQ 0).trans rfl
 have hz2 := (blk_cell hQ 2).trans rfl
 clear hT hr1 hQ hg
 go_enter Tryz.func302, Tryz.ntmps302
 go_wp2_with (first | fail)
 go_at_call 296
 have hb0 := (Below.refl w.heap.size w).alloc (Nat.le_refl _) (.cells #[.int .i64 (l1.length : Int)] 3)
 have NQ : Aside0 (base ≤ w.heap.size) := ⟨by have := blk_lt HT.out.blk; omega⟩
 refine (tape_Leaf g base k ns v (some ⟨w.heap.size, 0, none⟩) 1 [(l1.length : Int)] A1 c1 l1 _ (HT.out.below hb0) hbg hl (C_one_ (heap_alloc_new _ _)) (by simp) (Kd.C_below HR1.out hb0) hc1 HG.out (by simp) hn1).mono ?_
 rintro e w7 ⟨rfl, ⟨v', ht⟩, hb, hf⟩
 have HT7 := zA_ ht
 have HB7 := zA_ ((below_le hb0 NQ.out).trans hb)
 have HF7 := zA_ ((TF.of_below hb0).trans hf)
 have B7 := zA_ (TF.blk HF7.out BQ.out (by decide) (by decide))
 have NE : Aside0 (q ≠ g) := ⟨fun e => by subst e; have h1 := BQ.out; rw [HT.out.blk] at h1; injection h1 with h1; injection h1 with _ h2; exact absurd h2 (by decide)⟩
 clear hz0 hz2 ht hb hf hb0
 have hz1 := (blk_cell B7.out 2).trans rfl
 have hf1 := blk_frozen B7.out 2
 go_wp2
 go_ret
 exact ⟨rfl, blk_put B7.out 2 _ rfl, ⟨v', (Below.heap_setCell _ ⟨q, 2, none⟩ _ g (Ne.symm NE.out)).trans HT7.out.blk, (by rw [World.size_setCell]; exact HT7.out.xlt), Kd.R_mono (Kd.R_far (p := ⟨q, 2, none⟩) (Kd.R_types HT7.out.row B7.out (by decide)) (fun _ h => h.2) _) (fun _ h => h.1)⟩, HB7.out.setCell (p := ⟨q, 2, none⟩) hbq _, HF7.out.trans (TF.same B7.out rfl)⟩
theorem tape_Do_two2 {xb : Nat} (g base : Nat) (ns : List S358) (v : Value) (a2 a3 a4 : Int) (d : List Int) (r : List Int) (w : World) (hT : TP w base g xb v ns) (hbg : base ≤ g) (hl : ns.length < 500) (p1 : 0 ≤ a2) (q1 : a2 < (ns.length : Int)) (p2 : 0 ≤ a3) (q2 : a3 < (ns.length : Int))
  (hpair : ∀ (A4 A5 B4 B5 : Option Addr) (c4 c5 e4 e5 : Nat) (w1 : World), Kd.C (Kd.int .i64) w1 A4 (rd_T358 ns a2).f4.f0.length (rd_T358 ns a2).f4.f0 → (rd_T358 ns a2).f4.f0.length ≤ c4 → Kd.C (Kd.int .i64) w1 A5 (rd_T358 ns a2).f4.f1.length (rd_T358 ns a2).f4.f1 → (rd_T358 ns a2).f4.f1.length ≤ c5 → Kd.C (Kd.int .i64) w1 B4 (rd_T358 ns a3).f4.f0.length (rd_T358 ns a3).f4.f0 → (rd_T358 ns a3).f4.f0.length ≤ e4 → Kd.C (Kd.int .i64) w1 B5 (rd_T358 ns a3).f4.f1.length (rd_T358 ns a3).f4.f1 → (rd_T358 ns a3).f4.f1.length ≤ e5 → Calls Tryz.prog 360 #[.int .i64 2, .agg #[.slice A4 (rd_T358 ns a2).f4.f0.length c4, .slice A5 (rd_T358 ns a2).f4.f1.length c5], .agg #[.slice B4 (rd_T358 ns a3).f4.f0.length e4, .slice B5 (rd_T358 ns a3).f4.f1.length e5], .int .i64 a4] w1 fun e w' => ∃ v0_ v1_ : Value, e = .returned (.tuple #[.agg #[v0_, v1_], .int .i64 0]) ∧ Kd.R (Kd.int .i64) 3 w' w1.heap.size (fun _ => True) v0_ d ∧ Kd.R (Kd.int .i64) 36 w' w1.heap.size (fun _ => True) v1_ r ∧ Below w1.heap.size w1 w') :
  Calls Tryz.prog 338 #[.pointer (some ⟨g, 0, none⟩), .int .i64 2, .int .i64 a2, .int .i64 a3, .int .i64 a4] w fun e w' => e = .returned (.tuple #[.int .i64 ns.length, .int .i64 0]) ∧ (∃ v', TP w' base g xb v' (ns ++ [(⟨2, a2, a3, 0, ⟨d, r⟩⟩ : S358)])) ∧ Below base w w' ∧ TF w w' := by
 have HT := zA_ hT
 have NG : Aside0 (g < w.heap.size) := ⟨blk_lt hT.blk⟩
 have HB := zA_ (Below.refl w.heap.size w)
 obtain ⟨At, ct, et⟩ := Kd.R_slice hT.row
 subst et
 have c5b : decide (512 ≤ (ns.length : Int)) = false := decide_eq_false (by omega)
 have hc_ := (blk_cell hT.blk 0).trans rfl
 have HONE := zA_ hpair
 clear hT hpair
 go_enter Tryz.func338, Tryz.ntmps338
 go_wp2_with (first | fail)
 go_at_call 306
 refine (tape_has_yes g base ns _ a2 _ (HT.out.below (by exact zw0_ HB)) p1 q1).mono ?_
 rintro e w7 ⟨rfl, hb⟩
 replace HB := zA_ (below_step (zw0_ HB) hb)
 clear hb hc_
 have hc_ := (blk_cell (HT.out.below (zw0_ HB)).blk 0).trans rfl
 go_wp2_with (first | fail)
 go_at_call 358
 refine (tape_two_b 2 true _ (by decide)).mono ?_
 rintro e w7 ⟨rfl, hb⟩
 replace HB := zA_ (below_step (zw0_ HB) hb)
 clear hb hc_
 have hc_ := (blk_cell (HT.out.below (zw0_ HB)).blk 0).trans rfl
 go_wp2_with (first | fail)
 go_at_call 306
 refine (tape_has_yes g base ns _ a3 _ (HT.out.below (by exact zw0_ HB)) p2 q2).mono ?_
 rintro e w7 ⟨rfl, hb⟩
 replace HB := zA_ (below_step (zw0_ HB) hb)
 clear hb hc_
 have hc_ := (blk_cell (HT.out.below (zw0_ HB)).blk 0).trans rfl
 go_wp2_with (first | ((with_reducible refine gate_dst (N := 12) rfl ?_); refine zB_ (#[.int .i64 0, .int .i64 0, .int .i64 0, .int .i64 0, .slice none 0 0, .slice none 0 0]) 358 ?_; intro gb12 hg wgb12 hbox hb; have BKgb12 := zA_ (hbox); have GEgb12 := zA_ (zs_ hg (zw0_ HB)); have dz0 := (blk_cell BKgb12.out 0).trans rfl; have df0 := blk_frozen BKgb12.out 0; have dz1 := (blk_cell BKgb12.out 1).trans rfl; have df1 := blk_frozen BKgb12.out 1; have dz2 := (blk_cell BKgb12.out 2).trans rfl; have df2 := blk_frozen BKgb12.out 2; have dz3 := (blk_cell BKgb12.out 3).trans rfl; have df3 := blk_frozen BKgb12.out 3; have dz4 := (blk_cell BKgb12.out 4).trans rfl; have df4 := blk_frozen BKgb12.out 4; have dz5 := (blk_cell BKgb12.out 5).trans rfl; have df5 := blk_frozen BKgb12.out 5;clear hc_; have hc_ := (blk_cell (HT.out.below (below_step (zw0_ HB) hb)).blk 0).trans rfl; replace HB := zA_ (below_step (zw0_ HB) hb); clear hb hbox hg))
 go_at_call 359
 refine (tape_counts_b 2 false _ (by decide)).mono ?_
 rintro e w8 ⟨rfl, hb⟩
 have B12 : Aside0 (w8.heap[gb12]? = some (.cells #[.int .i64 2, .int .i64 a2, .int .i64 (-1), .int .i64 0, .slice none 0 0, .slice none 0 0] 358 (0, 0))) := ⟨blk_below (blk_put (blk_put (blk_put (blk_put (blk_put (blk_put BKgb12.out 0 _ rfl) 1 _ rfl) 2 _ rfl) 3 _ rfl) 4 _ rfl) 5 _ rfl) hb⟩
 replace HB := zA_ (below_step (zw1_ HB GEgb12) hb)
 clear hb hc_ BKgb12 dz0 df0 dz1 df1 dz2 df2 dz3 df3 dz4 df4 dz5 df5
 go_wp2_with (first | (go_at_call 358; refine (tape_two_b 2 true _ (by decide)).mono ?_; rintro e w9 ⟨rfl, hb⟩; replace HB := zA_ (below_step (zw0_ HB) hb); replace B12 := zA_ (blk_below B12.out hb); clear hb; have dz2 := (blk_cell B12.out 2).trans rfl; have df2 := blk_frozen B12.out 2))
 clear dz2 df2
 refine wp_named (fun w10 hw_ => ?_)
 have hb_ : Below w.heap.size w w10 := by rw [hw_]; exact zw1_ HB GEgb12
 replace HB := zA_ hb_
 have B12_ : Aside0 (w10.heap[gb12]? = some (.cells #[.int .i64 2, .int .i64 a2, .int .i64 a3, .int .i64 0, .slice none 0 0, .slice none 0 0] 358 (0, 0))) := ⟨by rw [hw_]; exact blk_put B12.out 2 (.int .i64 a3) rfl⟩
 clear hw_ hb_
 replace B12 := zA_ (blk_drew B12_.out)
 replace HB := zA_ (below_drew1 HB.out)
 clear B12_
 obtain ⟨ad, A4, c4, A5, c5, e1, hx0, hx1, hx2, hx3, hx4, hx5, l4, k4, l5, k5⟩ := at_T358 (Kd.R_reads' (HT.out.below HB.out).row).2.2 a2 p1 q1
 cases e1
 obtain ⟨ad_, B4, e4, B5, e5, e1, hy0, hy1, hy2, hy3, hy4, hy5, m4, n4, m5, n5⟩ := at_T358 (Kd.R_reads' (HT.out.below HB.out).row).2.2 a3 p2 q2
 cases e1
 have K4 := zA_ k4
 have K5 := zA_ k5
 have N4 := zA_ n4
 have N5 := zA_ n5
 have p1e := eq_true p1
 have q1e := eq_true q1
 have p2e := eq_true p2
 have q2e := eq_true q2
 have hc_ := (blk_cell (HT.out.below HB.out).blk 0).trans rfl
 clear k4 k5 n4 n5 hx0 hx1 hx2 hx3 hy0 hy1 hy2 hy3
 refine start_ (n := 25) (S := fun w' => w'.cell? ⟨g, 0, none⟩ = some (.slice (some ad) ns.length ct) ∧ w'.cell? ⟨(ad.add (a2.toNat * 6)).block, (ad.add (a2.toNat * 6)).off + 4, none⟩ = some (.slice A4 (rd_T358 ns a2).f4.f0.length c4) ∧ w'.cell? ⟨(ad.add (a2.toNat * 6)).block, (ad.add (a2.toNat * 6)).off + 5, none⟩ = some (.slice A5 (rd_T358 ns a2).f4.f1.length c5) ∧ w'.cell? ⟨(ad.add (a3.toNat * 6)).block, (ad.add (a3.toNat * 6)).off + 4, none⟩ = some (.slice B4 (rd_T358 ns a3).f4.f0.length e4) ∧ w'.cell? ⟨(ad.add (a3.toNat * 6)).block, (ad.add (a3.toNat * 6)).off + 5, none⟩ = some (.slice B5 (rd_T358 ns a3).f4.f1.length e5)) (ds := [18, 23]) #[false, false, false, false, false, false, false, false, false, false, false, false, false, false, false, false, false, false, false, false, false, false, false, false, false] (by kernel_rfl) rfl rfl ⟨hc_, hx4, hx5, hy4, hy5⟩ (fun hHeld => ?_); refine with_tabW tape_Do.tab11 tape_Do.bits11 (fun HT_ HW_ => ?_)
 generalize w10.drew = w11 at B12 HB K4 K5 N4 N5 hHeld ⊢
 clear hx4 hx5 hy4 hy5 hc_
 refine yp_ ?_ 0 56
 refine yp_ ?_ 1 57
 refine yp_ ?_ 2 58
 refine yp_ ?_ 3 59
 refine yt5_ ?_ 4 60
 refine yp_ ?_ 5 61
 refine yp_ ?_ 6 62
 refine yp_ ?_ 7 63
 refine yt5_ ?_ 8 64
 refine yp_ ?_ 9 65
 refine yp_ ?_ 10 66
 refine yp_ ?_ 11 67
 refine yt5_ ?_ 12 68
 refine yp_ ?_ 13 69
 refine yp_ ?_ 14 70
 refine yp_ ?_ 15 71
 refine yt5_ ?_ 16 72
 refine yp_ ?_ 17 73
 refine yl_ 18 (some 74) (fun K hK => ?_)
 refine yg_ Tryz.func360 #[.int .i64 2, .agg #[.slice A4 (rd_T358 ns a2).f4.f0.length c4, .slice A5 (rd_T358 ns a2).f4.f1.length c5], .agg #[.slice B4 (rd_T358 ns a3).f4.f0.length e4, .slice B5 (rd_T358 ns a3).f4.f1.length e5], .int .i64 a4] ?_
 refine (HONE.out A4 A5 B4 B5 c4 c5 e4 e5 _ K4.out l4 K5.out l5 N4.out m4 N5.out m5).mono ?_
 rintro e w12 ⟨v4, v5, rfl, r4, r5, hb⟩
 obtain ⟨A6, c6, e6⟩ := Kd.R_slice r4
 obtain ⟨A7, c7, e7⟩ := Kd.R_slice r5
 subst e6 e7
 have R4 := zA_ (Kd.R_lower r4 (below_size HB.out))
 have R5 := zA_ (Kd.R_lower r5 (below_size HB.out))
 replace B12 := zA_ (blk_below B12.out hb)
 replace HB := zA_ (below_step HB.out hb)
 clear hb r4 r5 K4 K5 N4 N5
 refine ⟨_, rfl, ?_⟩
 refine hK.out _ _ ?_
 clear hK K
 refine zq_ (some 74) (h := ?_)
 refine yp_ ?_ 19 55
 refine yp_ ?_ 20 75
 refine yp_ ?_ 21 76
 refine yp_ ?_ 22 77
 refine yl_ 23 none (fun K hK => ?_)
 have dz4 := (blk_cell B12.out 4).trans rfl
 have df4 := blk_frozen B12.out 4
 have dz5 := (blk_cell B12.out 5).trans rfl
 have df5 := blk_frozen B12.out 5
 refine skip_ (w1 := ?_) (by rfl) rfl ?_ ?_
 rotate_left
 · go_simp
   rfl
 refine hK.out _ _ ?_
 clear hK K dz4 df4 dz5 df5
 refine yp_ ?_ 24 13
 refine done_ (done_of HT_.out (by kernel_rfl)) ?_
 refine exit_named (fun w13 hw_ => ?_)
 have x2 : Below w.heap.size w w13 := by rw [hw_]; exact zw1_ HB GEgb12
 have y2 := Kd.R_far (p := ⟨gb12, 5, none⟩) (Kd.R_far (p := ⟨gb12, 4, none⟩) (Kd.R_types R4.out B12.out (by decide)) (fun _ h => h.2) (.slice A6 d.length c6)) (fun _ h => h.2) (.slice A7 r.length c7)
 have z2 := Kd.R_far (p := ⟨gb12, 5, none⟩) (Kd.R_far (p := ⟨gb12, 4, none⟩) (Kd.R_types R5.out B12.out (by decide)) (fun _ h => h.2) (.slice A6 d.length c6)) (fun _ h => h.2) (.slice A7 r.length c7)
 rw [← hw_] at y2 z2
 have B13 : w13.heap[gb12]? = some (.cells #[.int .i64 2, .int .i64 a2, .int .i64 a3, .int .i64 0, .slice A6 d.length c6, .slice A7 r.length c7] 358 (0, 0)) := by rw [hw_]; exact blk_put (blk_put B12.out 4 (.slice A6 d.length c6) rfl) 5 (.slice A7 r.length c7) rfl
 have X2 := zA_ x2
 have Y2 := zA_ y2
 have Z2 := zA_ z2
 clear hw_ x2 y2 z2 R4 R5 B12 HB
 have dz0 := (blk_cell B13 0).trans rfl
 have dz1 := (blk_cell B13 1).trans rfl
 have dz2 := (blk_cell B13 2).trans rfl
 have dz3 := (blk_cell B13 3).trans rfl
 have dz4 := (blk_cell B13 4).trans rfl
 have dz5 := (blk_cell B13 5).trans rfl
 clear B13
 go_wp2_with (first | fail)
 go_at_call 337
 refine (tape_Tape_add.calls g base ns (⟨2, a2, a3, 0, ⟨d, r⟩⟩ : S358) _ (.slice A6 d.length c6) (.slice A7 r.length c7) _ (HT.out.below X2.out) (Kd.R_lower (Kd.R_mono (Kd.R_bound Y2.out) (fun k_ hk => by have := hk.2.1; have := NG.out; have := HT.out.xlt; exact ⟨by omega, by omega⟩)) (by have := NG.out; omega)) (Kd.R_lower (Kd.R_mono (Kd.R_bound Z2.out) (fun k_ hk => by have := hk.2.1; have := NG.out; have := HT.out.xlt; exact ⟨by omega, by omega⟩)) (by have := NG.out; omega)) hbg (by omega)).mono ?_
 rintro e w14 ⟨rfl, ⟨v', ht⟩, hb, hf⟩
 have HT9 := zA_ ht
 have HB9 := zA_ ((below_le X2.out (by have := NG.out; omega)).trans hb)
 have HF9 := zA_ ((TF.of_below X2.out).trans hf)
 clear ht hb hf dz0 dz1 dz2 dz3 dz4 dz5
 go_wp2
 go_ret2
 exact ⟨rfl, ⟨v', HT9.out⟩, HB9.out, HF9.out⟩
theorem tape_Do_two3 {xb : Nat} (g base : Nat) (ns : List S358) (v : Value) (a2 a3 a4 : Int) (d : List Int) (r : List Int) (w : World) (hT : TP w base g xb v ns) (hbg : base ≤ g) (hl : ns.length < 500) (p1 : 0 ≤ a2) (q1 : a2 < (ns.length : Int)) (p2 : 0 ≤ a3) (q2 : a3 < (ns.length : Int))
  (hpair : ∀ (A4 A5 B4 B5 : Option Addr) (c4 c5 e4 e5 : Nat) (w1 : World), Kd.C (Kd.int .i64) w1 A4 (rd_T358 ns a2).f4.f0.length (rd_T358 ns a2).f4.f0 → (rd_T358 ns a2).f4.f0.length ≤ c4 → Kd.C (Kd.int .i64) w1 A5 (rd_T358 ns a2).f4.f1.length (rd_T358 ns a2).f4.f1 → (rd_T358 ns a2).f4.f1.length ≤ c5 → Kd.C (Kd.int .i64) w1 B4 (rd_T358 ns a3).f4.f0.length (rd_T358 ns a3).f4.f0 → (rd_T358 ns a3).f4.f0.length ≤ e4 → Kd.C (Kd.int .i64) w1 B5 (rd_T358 ns a3).f4.f1.length (rd_T358 ns a3).f4.f1 → (rd_T358 ns a3).f4.f1.length ≤ e5 → Calls Tryz.prog 360 #[.int .i64 3, .agg #[.slice A4 (rd_T358 ns a2).f4.f0.length c4, .slice A5 (rd_T358 ns a2).f4.f1.length c5], .agg #[.slice B4 (rd_T358 ns a3).f4.f0.length e4, .slice B5 (rd_T358 ns a3).f4.f1.length e5], .int .i64 a4] w1 fun e w' => ∃ v0_ v1_ : Value, e = .returned (.tuple #[.agg #[v0_, v1_], .int .i64 0]) ∧ Kd.R (Kd.int .i64) 3 w' w1.heap.size (fun _ => True) v0_ d ∧ Kd.R (Kd.int .i64) 36 w' w1.heap.size (fun _ => True) v1_ r ∧ Below w1.heap.size w1 w') :
  Calls Tryz.prog 338 #[.pointer (some ⟨g, 0, none⟩), .int .i64 3, .int .i64 a2, .int .i64 a3, .int .i64 a4] w fun e w' => e = .returned (.tuple #[.int .i64 ns.length, .int .i64 0]) ∧ (∃ v', TP w' base g xb v' (ns ++ [(⟨3, a2, a3, 0, ⟨d, r⟩⟩ : S358)])) ∧ Below base w w' ∧ TF w w' := by
 have HT := zA_ hT
 have NG : Aside0 (g < w.heap.size) := ⟨blk_lt hT.blk⟩
 have HB := zA_ (Below.refl w.heap.size w)
 obtain ⟨At, ct, et⟩ := Kd.R_slice hT.row
 subst et
 have c5b : decide (512 ≤ (ns.length : Int)) = false := decide_eq_false (by omega)
 have hc_ := (blk_cell hT.blk 0).trans rfl
 have HONE := zA_ hpair
 clear hT hpair
 go_enter Tryz.func338, Tryz.ntmps338
 go_wp2_with (first | fail)
 go_at_call 306
 refine (tape_has_yes g base ns _ a2 _ (HT.out.below (by exact zw0_ HB)) p1 q1).mono ?_
 rintro e w7 ⟨rfl, hb⟩
 replace HB := zA_ (below_step (zw0_ HB) hb)
 clear hb hc_
 have hc_ := (blk_cell (HT.out.below (zw0_ HB)).blk 0).trans rfl
 go_wp2_with (first | fail)
 go_at_call 358
 refine (tape_two_b 3 true _ (by decide)).mono ?_
 rintro e w7 ⟨rfl, hb⟩
 replace HB := zA_ (below_step (zw0_ HB) hb)
 clear hb hc_
 have hc_ := (blk_cell (HT.out.below (zw0_ HB)).blk 0).trans rfl
 go_wp2_with (first | fail)
 go_at_call 306
 refine (tape_has_yes g base ns _ a3 _ (HT.out.below (by exact zw0_ HB)) p2 q2).mono ?_
 rintro e w7 ⟨rfl, hb⟩
 replace HB := zA_ (below_step (zw0_ HB) hb)
 clear hb hc_
 have hc_ := (blk_cell (HT.out.below (zw0_ HB)).blk 0).trans rfl
 go_wp2_with (first | ((with_reducible refine gate_dst (N := 12) rfl ?_); refine zB_ (#[.int .i64 0, .int .i64 0, .int .i64 0, .int .i64 0, .slice none 0 0, .slice none 0 0]) 358 ?_; intro gb12 hg wgb12 hbox hb; have BKgb12 := zA_ (hbox); have GEgb12 := zA_ (zs_ hg (zw0_ HB)); have dz0 := (blk_cell BKgb12.out 0).trans rfl; have df0 := blk_frozen BKgb12.out 0; have dz1 := (blk_cell BKgb12.out 1).trans rfl; have df1 := blk_frozen BKgb12.out 1; have dz2 := (blk_cell BKgb12.out 2).trans rfl; have df2 := blk_frozen BKgb12.out 2; have dz3 := (blk_cell BKgb12.out 3).trans rfl; have df3 := blk_frozen BKgb12.out 3; have dz4 := (blk_cell BKgb12.out 4).trans rfl; have df4 := blk_frozen BKgb12.out 4; have dz5 := (blk_cell BKgb12.out 5).trans rfl; have df5 := blk_frozen BKgb12.out 5;clear hc_; have hc_ := (blk_cell (HT.out.below (below_step (zw0_ HB) hb)).blk 0).trans rfl; replace HB := zA_ (below_step (zw0_ HB) hb); clear hb hbox hg))
 go_at_call 359
 refine (tape_counts_b 3 false _ (by decide)).mono ?_
 rintro e w8 ⟨rfl, hb⟩
 have B12 : Aside0 (w8.heap[gb12]? = some (.cells #[.int .i64 3, .int .i64 a2, .int .i64 (-1), .int .i64 0, .slice none 0 0, .slice none 0 0] 358 (0, 0))) := ⟨blk_below (blk_put (blk_put (blk_put (blk_put (blk_put (blk_put BKgb12.out 0 _ rfl) 1 _ rfl) 2 _ rfl) 3 _ rfl) 4 _ rfl) 5 _ rfl) hb⟩
 replace HB := zA_ (below_step (zw1_ HB GEgb12) hb)
 clear hb hc_ BKgb12 dz0 df0 dz1 df1 dz2 df2 dz3 df3 dz4 df4 dz5 df5
 go_wp2_with (first | (go_at_call 358; refine (tape_two_b 3 true _ (by decide)).mono ?_; rintro e w9 ⟨rfl, hb⟩; replace HB := zA_ (below_step (zw0_ HB) hb); replace B12 := zA_ (blk_below B12.out hb); clear hb; have dz2 := (blk_cell B12.out 2).trans rfl; have df2 := blk_frozen B12.out 2))
 clear dz2 df2
 refine wp_named (fun w10 hw_ => ?_)
 have hb_ : Below w.heap.size w w10 := by rw [hw_]; exact zw1_ HB GEgb12
 replace HB := zA_ hb_
 have B12_ : Aside0 (w10.heap[gb12]? = some (.cells #[.int .i64 3, .int .i64 a2, .int .i64 a3, .int .i64 0, .slice none 0 0, .slice none 0 0] 358 (0, 0))) := ⟨by rw [hw_]; exact blk_put B12.out 2 (.int .i64 a3) rfl⟩
 clear hw_ hb_
 replace B12 := zA_ (blk_drew B12_.out)
 replace HB := zA_ (below_drew1 HB.out)
 clear B12_
 obtain ⟨ad, A4, c4, A5, c5, e1, hx0, hx1, hx2, hx3, hx4, hx5, l4, k4, l5, k5⟩ := at_T358 (Kd.R_reads' (HT.out.below HB.out).row).2.2 a2 p1 q1
 cases e1
 obtain ⟨ad_, B4, e4, B5, e5, e1, hy0, hy1, hy2, hy3, hy4, hy5, m4, n4, m5, n5⟩ := at_T358 (Kd.R_reads' (HT.out.below HB.out).row).2.2 a3 p2 q2
 cases e1
 have K4 := zA_ k4
 have K5 := zA_ k5
 have N4 := zA_ n4
 have N5 := zA_ n5
 have p1e := eq_true p1
 have q1e := eq_true q1
 have p2e := eq_true p2
 have q2e := eq_true q2
 have hc_ := (blk_cell (HT.out.below HB.out).blk 0).trans rfl
 clear k4 k5 n4 n5 hx0 hx1 hx2 hx3 hy0 hy1 hy2 hy3
 refine start_ (n := 25) (S := fun w' => w'.cell? ⟨g, 0, none⟩ = some (.slice (some ad) ns.length ct) ∧ w'.cell? ⟨(ad.add (a2.toNat * 6)).block, (ad.add (a2.toNat * 6)).off + 4, none⟩ = some (.slice A4 (rd_T358 ns a2).f4.f0.length c4) ∧ w'.cell? ⟨(ad.add (a2.toNat * 6)).block, (ad.add (a2.toNat * 6)).off + 5, none⟩ = some (.slice A5 (rd_T358 ns a2).f4.f1.length c5) ∧ w'.cell? ⟨(ad.add (a3.toNat * 6)).block, (ad.add (a3.toNat * 6)).off + 4, none⟩ = some (.slice B4 (rd_T358 ns a3).f4.f0.length e4) ∧ w'.cell? ⟨(ad.add (a3.toNat * 6)).block, (ad.add (a3.toNat * 6)).off + 5, none⟩ = some (.slice B5 (rd_T358 ns a3).f4.f1.length e5)) (ds := [18, 23]) #[false, false, false, false, false, false, false, false, false, false, false, false, false, false, false, false, false, false, false, false, false, false, false, false, false] (by kernel_rfl) rfl rfl ⟨hc_, hx4, hx5, hy4, hy5⟩ (fun hHeld => ?_); refine with_tabW tape_Do.tab11 tape_Do.bits11 (fun HT_ HW_ => ?_)
 generalize w10.drew = w11 at B12 HB K4 K5 N4 N5 hHeld ⊢
 clear hx4 hx5 hy4 hy5 hc_
 refine yp_ ?_ 0 56
 refine yp_ ?_ 1 57
 refine yp_ ?_ 2 58
 refine yp_ ?_ 3 59
 refine yt5_ ?_ 4 60
 refine yp_ ?_ 5 61
 refine yp_ ?_ 6 62
 refine yp_ ?_ 7 63
 refine yt5_ ?_ 8 64
 refine yp_ ?_ 9 65
 refine yp_ ?_ 10 66
 refine yp_ ?_ 11 67
 refine yt5_ ?_ 12 68
 refine yp_ ?_ 13 69
 refine yp_ ?_ 14 70
 refine yp_ ?_ 15 71
 refine yt5_ ?_ 16 72
 refine yp_ ?_ 17 73
 refine yl_ 18 (some 74) (fun K hK => ?_)
 refine yg_ Tryz.func360 #[.int .i64 3, .agg #[.slice A4 (rd_T358 ns a2).f4.f0.length c4, .slice A5 (rd_T358 ns a2).f4.f1.length c5], .agg #[.slice B4 (rd_T358 ns a3).f4.f0.length e4, .slice B5 (rd_T358 ns a3).f4.f1.length e5], .int .i64 a4] ?_
 refine (HONE.out A4 A5 B4 B5 c4 c5 e4 e5 _ K4.out l4 K5.out l5 N4.out m4 N5.out m5).mono ?_
 rintro e w12 ⟨v4, v5, rfl, r4, r5, hb⟩
 obtain ⟨A6, c6, e6⟩ := Kd.R_slice r4
 obtain ⟨A7, c7, e7⟩ := Kd.R_slice r5
 subst e6 e7
 have R4 := zA_ (Kd.R_lower r4 (below_size HB.out))
 have R5 := zA_ (Kd.R_lower r5 (below_size HB.out))
 replace B12 := zA_ (blk_below B12.out hb)
 replace HB := zA_ (below_step HB.out hb)
 clear hb r4 r5 K4 K5 N4 N5
 refine ⟨_, rfl, ?_⟩
 refine hK.out _ _ ?_
 clear hK K
 refine zq_ (some 74) (h := ?_)
 refine yp_ ?_ 19 55
 refine yp_ ?_ 20 75
 refine yp_ ?_ 21 76
 refine yp_ ?_ 22 77
 refine yl_ 23 none (fun K hK => ?_)
 have dz4 := (blk_cell B12.out 4).trans rfl
 have df4 := blk_frozen B12.out 4
 have dz5 := (blk_cell B12.out 5).trans rfl
 have df5 := blk_frozen B12.out 5
 refine skip_ (w1 := ?_) (by rfl) rfl ?_ ?_
 rotate_left
 · go_simp
   rfl
 refine hK.out _ _ ?_
 clear hK K dz4 df4 dz5 df5
 refine yp_ ?_ 24 13
 refine done_ (done_of HT_.out (by kernel_rfl)) ?_
 refine exit_named (fun w13 hw_ => ?_)
 have x2 : Below w.heap.size w w13 := by rw [hw_]; exact zw1_ HB GEgb12
 have y2 := Kd.R_far (p := ⟨gb12, 5, none⟩) (Kd.R_far (p := ⟨gb12, 4, none⟩) (Kd.R_types R4.out B12.out (by decide)) (fun _ h => h.2) (.slice A6 d.length c6)) (fun _ h => h.2) (.slice A7 r.length c7)
 have z2 := Kd.R_far (p := ⟨gb12, 5, none⟩) (Kd.R_far (p := ⟨gb12, 4, none⟩) (Kd.R_types R5.out B12.out (by decide)) (fun _ h => h.2) (.slice A6 d.length c6)) (fun _ h => h.2) (.slice A7 r.length c7)
 rw [← hw_] at y2 z2
 have B13 : w13.heap[gb12]? = some (.cells #[.int .i64 3, .int .i64 a2, .int .i64 a3, .int .i64 0, .slice A6 d.length c6, .slice A7 r.length c7] 358 (0, 0)) := by rw [hw_]; exact blk_put (blk_put B12.out 4 (.slice A6 d.length c6) rfl) 5 (.slice A7 r.length c7) rfl
 have X2 := zA_ x2
 have Y2 := zA_ y2
 have Z2 := zA_ z2
 clear hw_ x2 y2 z2 R4 R5 B12 HB
 have dz0 := (blk_cell B13 0).trans rfl
 have dz1 := (blk_cell B13 1).trans rfl
 have dz2 := (blk_cell B13 2).trans rfl
 have dz3 := (blk_cell B13 3).trans rfl
 have dz4 := (blk_cell B13 4).trans rfl
 have dz5 := (blk_cell B13 5).trans rfl
 clear B13
 go_wp2_with (first | fail)
 go_at_call 337
 refine (tape_Tape_add.calls g base ns (⟨3, a2, a3, 0, ⟨d, r⟩⟩ : S358) _ (.slice A6 d.length c6) (.slice A7 r.length c7) _ (HT.out.below X2.out) (Kd.R_lower (Kd.R_mono (Kd.R_bound Y2.out) (fun k_ hk => by have := hk.2.1; have := NG.out; have := HT.out.xlt; exact ⟨by omega, by omega⟩)) (by have := NG.out; omega)) (Kd.R_lower (Kd.R_mono (Kd.R_bound Z2.out) (fun k_ hk => by have := hk.2.1; have := NG.out; have := HT.out.xlt; exact ⟨by omega, by omega⟩)) (by have := NG.out; omega)) hbg (by omega)).mono ?_
 rintro e w14 ⟨rfl, ⟨v', ht⟩, hb, hf⟩
 have HT9 := zA_ ht
 have HB9 := zA_ ((below_le X2.out (by have := NG.out; omega)).trans hb)
 have HF9 := zA_ ((TF.of_below X2.out).trans hf)
 clear ht hb hf dz0 dz1 dz2 dz3 dz4 dz5
 go_wp2
 go_ret2
 exact ⟨rfl, ⟨v', HT9.out⟩, HB9.out, HF9.out⟩
theorem tape_Do_two4 {xb : Nat} (g base : Nat) (ns : List S358) (v : Value) (a2 a3 a4 : Int) (d : List Int) (r : List Int) (w : World) (hT : TP w base g xb v ns) (hbg : base ≤ g) (hl : ns.length < 500) (p1 : 0 ≤ a2) (q1 : a2 < (ns.length : Int)) (p2 : 0 ≤ a3) (q2 : a3 < (ns.length : Int))
  (hpair : ∀ (A4 A5 B4 B5 : Option Addr) (c4 c5 e4 e5 : Nat) (w1 : World), Kd.C (Kd.int .i64) w1 A4 (rd_T358 ns a2).f4.f0.length (rd_T358 ns a2).f4.f0 → (rd_T358 ns a2).f4.f0.length ≤ c4 → Kd.C (Kd.int .i64) w1 A5 (rd_T358 ns a2).f4.f1.length (rd_T358 ns a2).f4.f1 → (rd_T358 ns a2).f4.f1.length ≤ c5 → Kd.C (Kd.int .i64) w1 B4 (rd_T358 ns a3).f4.f0.length (rd_T358 ns a3).f4.f0 → (rd_T358 ns a3).f4.f0.length ≤ e4 → Kd.C (Kd.int .i64) w1 B5 (rd_T358 ns a3).f4.f1.length (rd_T358 ns a3).f4.f1 → (rd_T358 ns a3).f4.f1.length ≤ e5 → Calls Tryz.prog 360 #[.int .i64 4, .agg #[.slice A4 (rd_T358 ns a2).f4.f0.length c4, .slice A5 (rd_T358 ns a2).f4.f1.length c5], .agg #[.slice B4 (rd_T358 ns a3).f4.f0.length e4, .slice B5 (rd_T358 ns a3).f4.f1.length e5], .int .i64 a4] w1 fun e w' => ∃ v0_ v1_ : Value, e = .returned (.tuple #[.agg #[v0_, v1_], .int .i64 0]) ∧ Kd.R (Kd.int .i64) 3 w' w1.heap.size (fun _ => True) v0_ d ∧ Kd.R (Kd.int .i64) 36 w' w1.heap.size (fun _ => True) v1_ r ∧ Below w1.heap.size w1 w') :
  Calls Tryz.prog 338 #[.pointer (some ⟨g, 0, none⟩), .int .i64 4, .int .i64 a2, .int .i64 a3, .int .i64 a4] w fun e w' => e = .returned (.tuple #[.int .i64 ns.length, .int .i64 0]) ∧ (∃ v', TP w' base g xb v' (ns ++ [(⟨4, a2, a3, 0, ⟨d, r⟩⟩ : S358)])) ∧ Below base w w' ∧ TF w w' := by
 have HT := zA_ hT
 have NG : Aside0 (g < w.heap.size) := ⟨blk_lt hT.blk⟩
 have HB := zA_ (Below.refl w.heap.size w)
 obtain ⟨At, ct, et⟩ := Kd.R_slice hT.row
 subst et
 have c5b : decide (512 ≤ (ns.length : Int)) = false := decide_eq_false (by omega)
 have hc_ := (blk_cell hT.blk 0).trans rfl
 have HONE := zA_ hpair
 clear hT hpair
 go_enter Tryz.func338, Tryz.ntmps338
 go_wp2_with (first | fail)
 go_at_call 306
 refine (tape_has_yes g base ns _ a2 _ (HT.out.below (by exact zw0_ HB)) p1 q1).mono ?_
 rintro e w7 ⟨rfl, hb⟩
 replace HB := zA_ (below_step (zw0_ HB) hb)
 clear hb hc_
 have hc_ := (blk_cell (HT.out.below (zw0_ HB)).blk 0).trans rfl
 go_wp2_with (first | fail)
 go_at_call 358
 refine (tape_two_b 4 true _ (by decide)).mono ?_
 rintro e w7 ⟨rfl, hb⟩
 replace HB := zA_ (below_step (zw0_ HB) hb)
 clear hb hc_
 have hc_ := (blk_cell (HT.out.below (zw0_ HB)).blk 0).trans rfl
 go_wp2_with (first | fail)
 go_at_call 306
 refine (tape_has_yes g base ns _ a3 _ (HT.out.below (by exact zw0_ HB)) p2 q2).mono ?_
 rintro e w7 ⟨rfl, hb⟩
 replace HB := zA_ (below_step (zw0_ HB) hb)
 clear hb hc_
 have hc_ := (blk_cell (HT.out.below (zw0_ HB)).blk 0).trans rfl
 go_wp2_with (first | ((with_reducible refine gate_dst (N := 12) rfl ?_); refine zB_ (#[.int .i64 0, .int .i64 0, .int .i64 0, .int .i64 0, .slice none 0 0, .slice none 0 0]) 358 ?_; intro gb12 hg wgb12 hbox hb; have BKgb12 := zA_ (hbox); have GEgb12 := zA_ (zs_ hg (zw0_ HB)); have dz0 := (blk_cell BKgb12.out 0).trans rfl; have df0 := blk_frozen BKgb12.out 0; have dz1 := (blk_cell BKgb12.out 1).trans rfl; have df1 := blk_frozen BKgb12.out 1; have dz2 := (blk_cell BKgb12.out 2).trans rfl; have df2 := blk_frozen BKgb12.out 2; have dz3 := (blk_cell BKgb12.out 3).trans rfl; have df3 := blk_frozen BKgb12.out 3; have dz4 := (blk_cell BKgb12.out 4).trans rfl; have df4 := blk_frozen BKgb12.out 4; have dz5 := (blk_cell BKgb12.out 5).trans rfl; have df5 := blk_frozen BKgb12.out 5;clear hc_; have hc_ := (blk_cell (HT.out.below (below_step (zw0_ HB) hb)).blk 0).trans rfl; replace HB := zA_ (below_step (zw0_ HB) hb); clear hb hbox hg))
 go_at_call 359
 refine (tape_counts_b 4 false _ (by decide)).mono ?_
 rintro e w8 ⟨rfl, hb⟩
 have B12 : Aside0 (w8.heap[gb12]? = some (.cells #[.int .i64 4, .int .i64 a2, .int .i64 (-1), .int .i64 0, .slice none 0 0, .slice none 0 0] 358 (0, 0))) := ⟨blk_below (blk_put (blk_put (blk_put (blk_put (blk_put (blk_put BKgb12.out 0 _ rfl) 1 _ rfl) 2 _ rfl) 3 _ rfl) 4 _ rfl) 5 _ rfl) hb⟩
 replace HB := zA_ (below_step (zw1_ HB GEgb12) hb)
 clear hb hc_ BKgb12 dz0 df0 dz1 df1 dz2 df2 dz3 df3 dz4 df4 dz5 df5
 go_wp2_with (first | (go_at_call 358; refine (tape_two_b 4 true _ (by decide)).mono ?_; rintro e w9 ⟨rfl, hb⟩; replace HB := zA_ (below_step (zw0_ HB) hb); replace B12 := zA_ (blk_below B12.out hb); clear hb; have dz2 := (blk_cell B12.out 2).trans rfl; have df2 := blk_frozen B12.out 2))
 clear dz2 df2
 refine wp_named (fun w10 hw_ => ?_)
 have hb_ : Below w.heap.size w w10 := by rw [hw_]; exact zw1_ HB GEgb12
 replace HB := zA_ hb_
 have B12_ : Aside0 (w10.heap[gb12]? = some (.cells #[.int .i64 4, .int .i64 a2, .int .i64 a3, .int .i64 0, .slice none 0 0, .slice none 0 0] 358 (0, 0))) := ⟨by rw [hw_]; exact blk_put B12.out 2 (.int .i64 a3) rfl⟩
 clear hw_ hb_
 replace B12 := zA_ (blk_drew B12_.out)
 replace HB := zA_ (below_drew1 HB.out)
 clear B12_
 obtain ⟨ad, A4, c4, A5, c5, e1, hx0, hx1, hx2, hx3, hx4, hx5, l4, k4, l5, k5⟩ := at_T358 (Kd.R_reads' (HT.out.below HB.out).row).2.2 a2 p1 q1
 cases e1
 obtain ⟨ad_, B4, e4, B5, e5, e1, hy0, hy1, hy2, hy3, hy4, hy5, m4, n4, m5, n5⟩ := at_T358 (Kd.R_reads' (HT.out.below HB.out).row).2.2 a3 p2 q2
 cases e1
 have K4 := zA_ k4
 have K5 := zA_ k5
 have N4 := zA_ n4
 have N5 := zA_ n5
 have p1e := eq_true p1
 have q1e := eq_true q1
 have p2e := eq_true p2
 have q2e := eq_true q2
 have hc_ := (blk_cell (HT.out.below HB.out).blk 0).trans rfl
 clear k4 k5 n4 n5 hx0 hx1 hx2 hx3 hy0 hy1 hy2 hy3
 refine start_ (n := 25) (S := fun w' => w'.cell? ⟨g, 0, none⟩ = some (.slice (some ad) ns.length ct) ∧ w'.cell? ⟨(ad.add (a2.toNat * 6)).block, (ad.add (a2.toNat * 6)).off + 4, none⟩ = some (.slice A4 (rd_T358 ns a2).f4.f0.length c4) ∧ w'.cell? ⟨(ad.add (a2.toNat * 6)).block, (ad.add (a2.toNat * 6)).off + 5, none⟩ = some (.slice A5 (rd_T358 ns a2).f4.f1.length c5) ∧ w'.cell? ⟨(ad.add (a3.toNat * 6)).block, (ad.add (a3.toNat * 6)).off + 4, none⟩ = some (.slice B4 (rd_T358 ns a3).f4.f0.length e4) ∧ w'.cell? ⟨(ad.add (a3.toNat * 6)).block, (ad.add (a3.toNat * 6)).off + 5, none⟩ = some (.slice B5 (rd_T358 ns a3).f4.f1.length e5)) (ds := [18, 23]) #[false, false, false, false, false, false, false, false, false, false, false, false, false, false, false, false, false, false, false, false, false, false, false, false, false] (by kernel_rfl) rfl rfl ⟨hc_, hx4, hx5, hy4, hy5⟩ (fun hHeld => ?_); refine with_tabW tape_Do.tab11 tape_Do.bits11 (fun HT_ HW_ => ?_)
 generalize w10.drew = w11 at B12 HB K4 K5 N4 N5 hHeld ⊢
 clear hx4 hx5 hy4 hy5 hc_
 refine yp_ ?_ 0 56
 refine yp_ ?_ 1 57
 refine yp_ ?_ 2 58
 refine yp_ ?_ 3 59
 refine yt5_ ?_ 4 60
 refine yp_ ?_ 5 61
 refine yp_ ?_ 6 62
 refine yp_ ?_ 7 63
 refine yt5_ ?_ 8 64
 refine yp_ ?_ 9 65
 refine yp_ ?_ 10 66
 refine yp_ ?_ 11 67
 refine yt5_ ?_ 12 68
 refine yp_ ?_ 13 69
 refine yp_ ?_ 14 70
 refine yp_ ?_ 15 71
 refine yt5_ ?_ 16 72
 refine yp_ ?_ 17 73
 refine yl_ 18 (some 74) (fun K hK => ?_)
 refine yg_ Tryz.func360 #[.int .i64 4, .agg #[.slice A4 (rd_T358 ns a2).f4.f0.length c4, .slice A5 (rd_T358 ns a2).f4.f1.length c5], .agg #[.slice B4 (rd_T358 ns a3).f4.f0.length e4, .slice B5 (rd_T358 ns a3).f4.f1.length e5], .int .i64 a4] ?_
 refine (HONE.out A4 A5 B4 B5 c4 c5 e4 e5 _ K4.out l4 K5.out l5 N4.out m4 N5.out m5).mono ?_
 rintro e w12 ⟨v4, v5, rfl, r4, r5, hb⟩
 obtain ⟨A6, c6, e6⟩ := Kd.R_slice r4
 obtain ⟨A7, c7, e7⟩ := Kd.R_slice r5
 subst e6 e7
 have R4 := zA_ (Kd.R_lower r4 (below_size HB.out))
 have R5 := zA_ (Kd.R_lower r5 (below_size HB.out))
 replace B12 := zA_ (blk_below B12.out hb)
 replace HB := zA_ (below_step HB.out hb)
 clear hb r4 r5 K4 K5 N4 N5
 refine ⟨_, rfl, ?_⟩
 refine hK.out _ _ ?_
 clear hK K
 refine zq_ (some 74) (h := ?_)
 refine yp_ ?_ 19 55
 refine yp_ ?_ 20 75
 refine yp_ ?_ 21 76
 refine yp_ ?_ 22 77
 refine yl_ 23 none (fun K hK => ?_)
 have dz4 := (blk_cell B12.out 4).trans rfl
 have df4 := blk_frozen B12.out 4
 have dz5 := (blk_cell B12.out 5).trans rfl
 have df5 := blk_frozen B12.out 5
 refine skip_ (w1 := ?_) (by rfl) rfl ?_ ?_
 rotate_left
 · go_simp
   rfl
 refine hK.out _ _ ?_
 clear hK K dz4 df4 dz5 df5
 refine yp_ ?_ 24 13
 refine done_ (done_of HT_.out (by kernel_rfl)) ?_
 refine exit_named (fun w13 hw_ => ?_)
 have x2 : Below w.heap.size w w13 := by rw [hw_]; exact zw1_ HB GEgb12
 have y2 := Kd.R_far (p := ⟨gb12, 5, none⟩) (Kd.R_far (p := ⟨gb12, 4, none⟩) (Kd.R_types R4.out B12.out (by decide)) (fun _ h => h.2) (.slice A6 d.length c6)) (fun _ h => h.2) (.slice A7 r.length c7)
 have z2 := Kd.R_far (p := ⟨gb12, 5, none⟩) (Kd.R_far (p := ⟨gb12, 4, none⟩) (Kd.R_types R5.out B12.out (by decide)) (fun _ h => h.2) (.slice A6 d.length c6)) (fun _ h => h.2) (.slice A7 r.length c7)
 rw [← hw_] at y2 z2
 have B13 : w13.heap[gb12]? = some (.cells #[.int .i64 4, .int .i64 a2, .int .i64 a3, .int .i64 0, .slice A6 d.length c6, .slice A7 r.length c7] 358 (0, 0)) := by rw [hw_]; exact blk_put (blk_put B12.out 4 (.slice A6 d.length c6) rfl) 5 (.slice A7 r.length c7) rfl
 have X2 := zA_ x2
 have Y2 := zA_ y2
 have Z2 := zA_ z2
 clear hw_ x2 y2 z2 R4 R5 B12 HB
 have dz0 := (blk_cell B13 0).trans rfl
 have dz1 := (blk_cell B13 1).trans rfl
 have dz2 := (blk_cell B13 2).trans rfl
 have dz3 := (blk_cell B13 3).trans rfl
 have dz4 := (blk_cell B13 4).trans rfl
 have dz5 := (blk_cell B13 5).trans rfl
 clear B13
 go_wp2_with (first | fail)
 go_at_call 337
 refine (tape_Tape_add.calls g base ns (⟨4, a2, a3, 0, ⟨d, r⟩⟩ : S358) _ (.slice A6 d.length c6) (.slice A7 r.length c7) _ (HT.out.below X2.out) (Kd.R_lower (Kd.R_mono (Kd.R_bound Y2.out) (fun k_ hk => by have := hk.2.1; have := NG.out; have := HT.out.xlt; exact ⟨by omega, by omega⟩)) (by have := NG.out; omega)) (Kd.R_lower (Kd.R_mono (Kd.R_bound Z2.out) (fun k_ hk => by have := hk.2.1; have := NG.out; have := HT.out.xlt; exact ⟨by omega, by omega⟩)) (by have := NG.out; omega)) hbg (by omega)).mono ?_
 rintro e w14 ⟨rfl, ⟨v', ht⟩, hb, hf⟩
 have HT9 := zA_ ht
 have HB9 := zA_ ((below_le X2.out (by have := NG.out; omega)).trans hb)
 have HF9 := zA_ ((TF.of_below X2.out).trans hf)
 clear ht hb hf dz0 dz1 dz2 dz3 dz4 dz5
 go_wp2
 go_ret2
 exact ⟨rfl, ⟨v', HT9.out⟩, HB9.out, HF9.out⟩
end Go.Proofs.YtmddclifcgcpcaaGreatDoor.PTopNames.TX
namespace Go.Proofs.YtmddclifcgcpcaaGreatDoor.PTopNames
open Go.RowKit Go.Proofs.YtmddclifcgcpcaaGreatDoorW.PrintWords Go.Proofs.YtmddclifcgcpcaaGreatDoorW.PrintLast Go.Proofs.YtmddclifcgcpcaaGreatDoorW.PrintMore
theorem below_of_grown_ {w w' : World} (h : w.grownBy w' none) : Below w.heap.size w w' := ⟨h.os, h.tape, h.output, h.size, fun k hk => h.block k hk (by simp)⟩
theorem layers_Clone (ad : Addr) (c : Nat) (ls : List S84) (hl : ls.length = 1) (w : World) (hC : Kd.C k84 w (some ad) 1 ls) :
  Calls Tryz.prog 172 #[.slice (some ad) 1 c] w fun e w' => ∃ A1 c1, e = .returned (.slice A1 1 c1) ∧ Below w.heap.size w w' := by
 have HB := zA_ (Below.refl w.heap.size w)
 have HC := zA_ hC
 have heq : ∀ w, (binOp .eql 33 (.slice (some ad) 1 c) (.slice none 0 0)).run Tryz.prog w = .ok (.bool false) w := fun w => by kernel_rfl
 clear hC
 go_enter Tryz.func172, Tryz.ntmps172
 go_wp2_with (first | ((with_reducible refine gate_dst (N := 5) rfl ?_); refine Kd.R_lit k84 (w0 := w) w.heap.size 84 ?hg (N := 5) ?hd (xs := ([] : List S84)) (inner := []) (ok := fun _ => True) (okp := fun _ => True) ?hr ?hp (fun _ hk => hk) trivial (by exact zw0_ HB) (below_size (by exact zw0_ HB)) (by simp) ?_; (case hd => rfl); (case hg => rfl); (case hr => first | (go_simp; done) | (go_simp; rfl)); (case hp => exact (Reps.none _ _)); intro v2 w2 ho hb hg_ hnew_; have HO := zA_ ho; replace HC := zA_ (Kd.C_below HC.out (below_of_grown_ hg_)); replace HB := zA_ hb; clear ho hb hg_ hnew_) | ((with_reducible refine gate_builtin (b := .append) (xs := #[.tmp 5, .tmp 6]) rfl ?_); at_builtin; refine Kd.R_append_rows k84 (Rr := k84.K _) (w0 := w) w.heap.size rfl (.tmp 5) (.tmp 6) 33 84 (.agg #[.string ByteArray.empty, .int .i64 0, .int .i64 0]) 32 rfl Tryz.underlying33 (by kernel_rfl) rfl (by decide) (by decide) v2 [] ls (some ad) 1 c (fun _ => True) (fun _ => False) (by first | rfl | (go_simp; done)) (by first | rfl | (go_simp; done)) HO.out HC.out (fun x cs h => by obtain rfl := k84_open h; exact k84_mkM _ _ _ x) (fun _ h => h.elim) (fun _ _ => trivial) HB.out (below_size HB.out) (by decide) ?_; intro v3 w3 ho hb hg hat; have HO3 := zA_ ho; replace HB := zA_ hb; clear ho hb hg hat))
 obtain ⟨A1, c1, e1⟩ := Kd.R_slice HO3.out
 go_ret
 rw [e1, List.nil_append, hl]
 exact ⟨A1, c1, rfl, HB.out⟩
def model_Copy.T1 : Bool × List (List Nat × List Nat) := (true, [([], []), ([0], [0]), ([1], [1]), ([], []), ([3], [3]), ([4, 2], [4]), ([2, 5], [2, 5]), ([6, 5, 0, 1, 2, 3, 4, 5, 6], [6])])
def model_Copy.B1 : List Nat := [0, 1, 3, 0, 8, 31, 63, 127]
theorem model_Copy.tab1 : rtab .any (opsOf Tryz.f110 1) = model_Copy.T1 := by kernel_rfl
theorem model_Copy.bits1 : waitsOk model_Copy.T1.2 model_Copy.B1 = true := by kernel_rfl
def opt_New.T1 : Bool × List (List Nat × List Nat) := (true, [([], []), ([0], [0]), ([], []), ([2], [2]), ([3, 3], [3]), ([1, 4], [1, 4]), ([5, 1, 0, 1, 2, 3, 4, 5], [5])])
def opt_New.B1 : List Nat := [0, 1, 0, 4, 12, 31, 63]
theorem opt_New.tab1 : rtab .any (opsOf Tryz.f62 1) = opt_New.T1 := by kernel_rfl
theorem opt_New.bits1 : waitsOk opt_New.T1.2 opt_New.B1 = true := by kernel_rfl
def solo_Copy.T7 : Bool × List (List Nat × List Nat) := (true, [([], []), ([0], [0]), ([1], [1]), ([], []), ([3], [3]), ([4, 2], [4]), ([0, 1, 2, 3, 4], []), ([6, 2, 5, 0, 1, 2, 3, 4], [2, 6]), ([0, 1, 2, 3, 4, 5, 6, 7], []), ([8, 5, 7, 0, 1, 2, 3, 4, 5, 6, 7], [5, 8])])
def solo_Copy.B7 : List Nat := [0, 1, 3, 0, 8, 31, 31, 127, 255, 511]
theorem solo_Copy.tab7 : rtab .any (opsOf Tryz.f61 7) = solo_Copy.T7 := by kernel_rfl
theorem solo_Copy.bits7 : waitsOk solo_Copy.T7.2 solo_Copy.B7 = true := by kernel_rfl
theorem model_Copy (A1 : Option Addr) (c1 : Nat) (ad : Addr) (c2 : Nat) (ls : List S84) (hl : ls.length = 1) (w : World) (hI : Kd.C (Kd.int .i64) w A1 1 [1]) (h1 : 1 ≤ c1) (hC : Kd.C k84 w (some ad) 1 ls) :
  Calls Tryz.prog 110 #[.agg #[.slice A1 1 c1, .slice (some ad) 1 c2]] w fun e w' => ∃ A3 c3 A4 c4, e = .returned (.agg #[.slice A3 1 c3, .slice A4 1 c4]) ∧ Below w.heap.size w w' := by
 have HB := zA_ (Below.refl w.heap.size w)
 have HI := zA_ hI
 have HC := zA_ hC
 clear hI hC
 go_enter Tryz.func110, Tryz.ntmps110
 go_wp2_with (first | ((with_reducible refine gate_dst (N := 1) rfl ?_); refine zB_ (#[.slice A1 1 c1, .slice (some ad) 1 c2]) 35 ?_; intro g1 hg wg1 hbox hb; have BKg1 := zA_ (hbox); have GEg1 := zA_ (zs_ hg (zw0_ HB)); replace HB := zA_ (below_step (zw0_ HB) hb);  clear hb hbox hg) | ((with_reducible refine gate_dst (N := 2) rfl ?_); refine zB_ (#[.slice none 0 0, .slice none 0 0]) 35 ?_; intro g2 hg wg2 hbox hb; have BKg2 := zA_ (hbox); have GEg2 := zA_ (zs_ hg (zw0_ HB)); replace HB := zA_ (below_step (zw0_ HB) hb); replace BKg1 := zA_ (blk_below BKg1.out hb); clear hb hbox hg))
 replace BKg1 := zA_ (blk_drew BKg1.out)
 replace BKg2 := zA_ (blk_drew BKg2.out)
 replace HB := zA_ (below_drew1 HB.out)
 refine start_ (n := 8) (S := fun w' => w'.cell? ⟨g1, 0, none⟩ = some (.slice A1 1 c1) ∧ w'.cell? ⟨g1, 1, none⟩ = some (.slice (some ad) 1 c2)) (ds := [7]) #[false, false, false, false, false, false, false, false] (by kernel_rfl) rfl rfl ⟨(blk_cell BKg1.out 0).trans rfl, (blk_cell BKg1.out 1).trans rfl⟩ (fun hHeld => ?_); refine with_tabW model_Copy.tab1 model_Copy.bits1 (fun HT_ HW_ => ?_)
 generalize wg2.drew = w3 at BKg1 BKg2 HB hHeld ⊢
 refine yp_ ?_ 0 3
 refine yp_ ?_ 3 6
 refine yt2_ ?_ 1 4
 refine yt2_ ?_ 4 7
 refine yo_ 2 (some 5) (fun K hK => ?_)
 refine yg_ Tryz.func14 #[.slice A1 1 c1] ?_
 refine (slices_Clone_int_int.calls A1 c1 [1] [1] _ (Kd.C_below HI.out HB.out) h1 (by decide +kernel)).mono ?_
 rintro e w4 ⟨v3, rfl, hR, hb⟩
 obtain ⟨A3, c3, rfl⟩ := Kd.R_slice hR
 replace BKg1 := zA_ (blk_below BKg1.out hb)
 replace BKg2 := zA_ (blk_below BKg2.out hb)
 replace HB := zA_ (below_step HB.out hb)
 clear hb hR
 refine ⟨_, rfl, ?_⟩
 refine hK.out _ _ ⟨(blk_cell BKg1.out 0).trans rfl, (blk_cell BKg1.out 1).trans rfl⟩ (fun hHeld => ?_)
 clear hK K
 refine zq_ (some 5) (h := ?_)
 refine yo_ 5 (some 8) (fun K hK => ?_)
 refine yg_ Tryz.func172 #[.slice (some ad) 1 c2] ?_
 refine (layers_Clone ad c2 ls hl _ (Kd.C_below HC.out HB.out)).mono ?_
 rintro e w5 ⟨A4, c4, rfl, hb⟩
 replace BKg1 := zA_ (blk_below BKg1.out hb)
 replace BKg2 := zA_ (blk_below BKg2.out hb)
 replace HB := zA_ (below_step HB.out hb)
 clear hb
 refine ⟨_, rfl, ?_⟩
 refine hK.out _ _ ⟨(blk_cell BKg1.out 0).trans rfl, (blk_cell BKg1.out 1).trans rfl⟩ (fun hHeld => ?_)
 clear hK K
 refine zq_ (some 8) (h := ?_)
 refine yp_ ?_ 6 9
 refine yl_ 7 none (fun K hK => ?_)
 have hs0 := (blk_cell BKg2.out 0).trans rfl
 have hs1 := (blk_cell BKg2.out 1).trans rfl
 have hf0 := blk_frozen BKg2.out 0
 have hf1 := blk_frozen BKg2.out 1
 refine skip_ (w1 := ?_) (by rfl) rfl ?_ ?_
 rotate_left
 · go_simp
   rfl
 refine hK.out _ _ ?_
 clear hK K hs0 hs1 hf0 hf1
 refine done_ (done_of HT_.out (by kernel_rfl)) ?_
 go_wp2
 refine bodyPost_ret (results_cell_row rfl _ _ g2 35 #[.slice A3 1 c3, .slice A4 1 c4] (0, 0) _ rfl (blk_put (blk_put BKg2.out 0 (.slice A3 1 c3) rfl) 1 (.slice A4 1 c4) rfl) Tryz.underlying35 rfl (by kernel_rfl)) rfl ?_
 exact ⟨_, _, _, _, rfl, zw1_ HB GEg2⟩
theorem opt_New (A : Option Addr) (c : Nat) (w : World) (hC : Kd.C (Kd.int .i64) w A 2 [0, 0]) (hc : 2 ≤ c) :
  Calls Tryz.prog 62 #[.slice A 2 c] w fun e w' => ∃ A3 c3 A4 c4, e = .returned (.agg #[.slice A3 2 c3, .slice A4 2 c4]) ∧ Below w.heap.size w w' := by
 have HB := zA_ (Below.refl w.heap.size w)
 have HC := zA_ hC
 clear hC
 go_enter Tryz.func62, Tryz.ntmps62
 go_wp2_with (first | ((with_reducible refine gate_dst (N := 2) rfl ?_); refine zB_ (#[.slice none 0 0, .slice none 0 0]) 115 ?_; intro g2 hg wg2 hbox hb; have BKg2 := zA_ (hbox); have GEg2 := zA_ (zs_ hg (zw0_ HB)); replace HB := zA_ (below_step (zw0_ HB) hb);  clear hb hbox hg))
 replace BKg2 := zA_ (blk_drew BKg2.out)
 replace HB := zA_ (below_drew1 HB.out)
 refine start_ (n := 7) (S := fun w' => True ∧ True) (ds := [6]) #[false, false, false, false, false, false, false] (by kernel_rfl) rfl rfl ⟨trivial, trivial⟩ (fun hHeld => ?_); refine with_tabW opt_New.tab1 opt_New.bits1 (fun HT_ HW_ => ?_)
 generalize wg2.drew = w3 at BKg2 HB hHeld ⊢
 refine yp_ ?_ 0 3
 refine yp_ ?_ 2 5
 refine yp_ ?_ 3 6
 refine join_ (σ := Value × Value) 2 #[true, true, true, true, true, false, false] (fun s_ => [(4, s_.1), (7, s_.2)]) (fun s_ w' => (∃ A3 c3, s_.1 = .slice A3 2 c3) ∧ (∃ A4, s_.2 = .slice A4 2 2) ∧ (w'.heap[g2]? = some (.cells #[.slice none 0 0, .slice none 0 0] 115 (0, 0))) ∧ (Below w.heap.size w w')) ?_ ?_
 rotate_left
 ·intro hCont
  refine two_ (i := 1) (j := 4) (Ni := some 4) (Nj := some 7) #[true, true, true, true, false, false, false] #[true, false, true, true, true, false, false] rfl rfl rfl rfl (two_of HT_.out (by kernel_rfl)) (by decide) (by decide) (fun K hK => ?_) (fun K hK => ?_)
  ·skip
   refine yg_ Tryz.func111 #[.slice A 2 c] ?_
   refine (slices_Clone_Fix.calls A c [0, 0] [0, 0] _ (Kd.C_below HC.out HB.out) hc (by decide +kernel)).mono ?_
   rintro e w4 ⟨v3, rfl, hR, hb⟩
   obtain ⟨A3, c3, rfl⟩ := Kd.R_slice hR
   replace BKg2 := zA_ (blk_below BKg2.out hb)
   replace HB := zA_ (below_step HB.out hb)
   clear hb hR
   refine ⟨_, rfl, ?_⟩
   refine hK.out _ _ ⟨trivial, trivial⟩ (fun hHeld => ?_)
   clear hK K
   refine zq_ (some 4) (h := ?_)
   refine yo_ 4 (some 7) (fun K hK => ?_)
   refine value_ (w1 := w4.alloc (.cells #[.int .i64 0, .int .i64 0] 36)) (v := .slice (some ⟨w4.heap.size, 0, none⟩) 2 2) (by rfl) rfl ?_ ?_
   · have hms : (Instr.makeSlice 40 (.int .i64 2) (.int .i64 2)).run Tryz.prog w4 = .ok (.slice (some ⟨w4.heap.size, 0, none⟩) 2 2) (w4.alloc (.cells #[.int .i64 0, .int .i64 0] 36)) := by kernel_rfl
     go_simp
   have hb := (Below.refl w4.heap.size w4).alloc (Nat.le_refl _) (.cells #[.int .i64 0, .int .i64 0] 36)
   obtain ⟨A4, hA4⟩ : ∃ A4, A4 = some (⟨w4.heap.size, 0, none⟩ : Addr) := ⟨_, rfl⟩
   rw [← hA4]
   replace BKg2 := zA_ (blk_below BKg2.out hb)
   replace HB := zA_ (below_step HB.out hb)
   clear hb
   refine hK.out _ _ ⟨trivial, trivial⟩ (fun hHeld => ?_)
   clear hK K
   refine zq_ (some 7) (h := ?_)
   exact zj_ (hCont (.slice A3 2 c3, .slice A4 2 2) _ ⟨⟨_, _, rfl⟩, ⟨_, rfl⟩, BKg2.out, HB.out⟩)
  skip
  refine value_ (w1 := w3.alloc (.cells #[.int .i64 0, .int .i64 0] 36)) (v := .slice (some ⟨w3.heap.size, 0, none⟩) 2 2) (by rfl) rfl ?_ ?_
  · have hms : (Instr.makeSlice 40 (.int .i64 2) (.int .i64 2)).run Tryz.prog w3 = .ok (.slice (some ⟨w3.heap.size, 0, none⟩) 2 2) (w3.alloc (.cells #[.int .i64 0, .int .i64 0] 36)) := by kernel_rfl
    go_simp
  have hb := (Below.refl w3.heap.size w3).alloc (Nat.le_refl _) (.cells #[.int .i64 0, .int .i64 0] 36)
  obtain ⟨A4, hA4⟩ : ∃ A4, A4 = some (⟨w3.heap.size, 0, none⟩ : Addr) := ⟨_, rfl⟩
  rw [← hA4]
  replace BKg2 := zA_ (blk_below BKg2.out hb)
  replace HB := zA_ (below_step HB.out hb)
  clear hb
  refine hK.out _ _ ⟨trivial, trivial⟩ (fun hHeld => ?_)
  clear hK K
  refine zq_ (some 7) (h := ?_)
  refine yo_ 1 (some 4) (fun K hK => ?_)
  refine yg_ Tryz.func111 #[.slice A 2 c] ?_
  refine (slices_Clone_Fix.calls A c [0, 0] [0, 0] _ (Kd.C_below HC.out HB.out) hc (by decide +kernel)).mono ?_
  rintro e w4 ⟨v3, rfl, hR, hb⟩
  obtain ⟨A3, c3, rfl⟩ := Kd.R_slice hR
  replace BKg2 := zA_ (blk_below BKg2.out hb)
  replace HB := zA_ (below_step HB.out hb)
  clear hb hR
  refine ⟨_, rfl, ?_⟩
  refine hK.out _ _ ⟨trivial, trivial⟩ (fun hHeld => ?_)
  clear hK K
  refine zq_ (some 4) (h := ?_)
  exact zj_ (hCont (.slice A3 2 c3, .slice A4 2 2) _ ⟨⟨_, _, rfl⟩, ⟨_, rfl⟩, BKg2.out, HB.out⟩)
 rintro ⟨s1, s2⟩ w6 ⟨⟨A3, c3, h3⟩, ⟨A4, h4⟩, hbk, hb⟩
 simp only at h3 h4
 subst h3 h4
 replace BKg2 := zA_ hbk
 replace HB := zA_ hb
 clear hbk hb
 refine zi_ (h := ?_)
 refine yp_ ?_ 5 8
 refine yl_ 6 none (fun K hK => ?_)
 have hs0 := (blk_cell BKg2.out 0).trans rfl
 have hs1 := (blk_cell BKg2.out 1).trans rfl
 have hf0 := blk_frozen BKg2.out 0
 have hf1 := blk_frozen BKg2.out 1
 refine skip_ (w1 := ?_) (by rfl) rfl ?_ ?_
 rotate_left
 · go_simp
   rfl
 refine hK.out _ _ ?_
 clear hK K hs0 hs1 hf0 hf1
 refine done_ (done_of HT_.out (by kernel_rfl)) ?_
 go_wp2
 refine bodyPost_ret (results_cell_row rfl _ _ g2 115 #[.slice A3 2 c3, .slice A4 2 2] (0, 0) _ rfl (blk_put (blk_put BKg2.out 0 (.slice A3 2 c3) rfl) 1 (.slice A4 2 2) rfl) Tryz.underlying115 rfl (by kernel_rfl)) rfl ?_
 exact ⟨_, _, _, _, rfl, zw1_ HB GEg2⟩
def exs4 : List S87 := [⟨[0], [4294967296], 0⟩, ⟨[4294967296], [12884901888], 0⟩, ⟨[8589934592], [21474836480], 0⟩, ⟨[12884901888], [30064771072], 0⟩]
def lay1 : List S84 := [⟨⟨#[100, 101, 110, 115, 101]⟩, 1, 0⟩]
structure JP (w : World) (A1 : Option Addr) (c1 : Nat) (a2 : Addr) (c2 : Nat) (g3 c3 : Nat) (A4 : Option Addr) (c4 : Nat) : Prop where
  i : Kd.C (Kd.int .i64) w A1 1 [1]
  hi : 1 ≤ c1
  l : Kd.C k84 w (some a2) 1 lay1
  hl : 1 ≤ c2
  d : Kd.C k87 w (some ⟨g3, 0, none⟩) 4 exs4
  hd : 4 ≤ c3
  p : Kd.C (Kd.int .i64) w A4 2 [0, 0]
  hp : 2 ≤ c4
theorem JP.below {w w' : World} {A1 : Option Addr} {c1 : Nat} {a2 : Addr} {c2 g3 c3 : Nat} {A4 : Option Addr} {c4 : Nat} (h : JP w A1 c1 a2 c2 g3 c3 A4 c4) (hb : Below w.heap.size w w') : JP w' A1 c1 a2 c2 g3 c3 A4 c4 :=
  ⟨Kd.C_below h.i hb, h.hi, Kd.C_below h.l hb, h.hl, Kd.C_below h.d hb, h.hd, Kd.C_below h.p hb, h.hp⟩
theorem own_below {w w' : World} {base e size n : Nat} {v : Value} {xs : List Value} (h : w.ownsRow base e size v n xs) (hb : Below w.heap.size w w') : w'.ownsRow base e size v n xs := by
  obtain ⟨h1, h2⟩ := h
  exact ⟨h1, h2.imp id (fun ⟨g, cap, cur, a1, a2, a3, a4⟩ => ⟨g, cap, cur, a1, a2, blk_below a3 hb, a4⟩)⟩
theorem own_slice {w : World} {base e size n : Nat} {v : Value} {xs : List Value} (h : w.ownsRow base e size v n xs) : ∃ A c, v = .slice A n c := by
  obtain ⟨h1, ⟨h2, h3⟩ | ⟨g, cap, cur, a1, _⟩⟩ := h
  · subst h3; exact ⟨_, _, h2⟩
  · exact ⟨_, _, a1⟩
theorem ne_own_ {w : World} {base e size n g t : Nat} {v : Value} {xs : List Value} {cs : Array Value} (h : w.ownsRow base e size v n xs) (hg : base ≤ g) (hk : w.heap[g]? = some (.cells cs t (0, 0))) (ht : t ≠ e := by decide) : some g ≠ v.ownBlock := by
  obtain ⟨h1, ⟨h2, h3⟩ | ⟨q, cap, cur, a1, _, a3, _⟩⟩ := h
  · subst h2; intro e_; cases e_
  · subst a1
    intro e_
    have e_ : g = q := by simpa [Value.ownBlock] using e_
    subst e_
    rw [hk] at a3
    injection a3 with a3
    injection a3 with _ a3
    exact ht a3
theorem solo_Copy (A1 : Option Addr) (c1 : Nat) (a2 : Addr) (c2 g3 c3 : Nat) (A4 : Option Addr) (c4 : Nat) (w : World) (hJ : JP w A1 c1 a2 c2 g3 c3 A4 c4) :
  Calls Tryz.prog 61 #[.agg #[.slice A1 1 c1, .slice (some a2) 1 c2, .int .i64 1, .int .i64 2, .int .i64 1073741824, .int .i64 2147483648, .int .i64 0, .slice (some ⟨g3, 0, none⟩) 4 c3, .slice A4 2 c4]] w fun e w' => ∃ v0 v1 v2 v3 v4 v5 v6 v7 v8, e = .returned (.agg #[v0, v1, v2, v3, v4, v5, v6, v7, v8]) ∧ Below w.heap.size w w' := by
 have HB := zA_ (Below.refl w.heap.size w)
 have HJ := zA_ hJ
 clear hJ
 go_enter Tryz.func61, Tryz.ntmps61
 go_wp2_with (first | ((with_reducible refine gate_dst (N := 1) rfl ?_); refine zB_ (#[.slice A1 1 c1, .slice (some a2) 1 c2, .int .i64 1, .int .i64 2, .int .i64 1073741824, .int .i64 2147483648, .int .i64 0, .slice (some ⟨g3, 0, none⟩) 4 c3, .slice A4 2 c4]) 42 ?_; intro g1 hg wg1 hbox hb; have BKg1 := zA_ (hbox); have GEg1 := zA_ (zs_ hg (zw0_ HB)); replace HB := zA_ (below_step (zw0_ HB) hb); have hz0 := (blk_cell BKg1.out 0).trans rfl; have hz1 := (blk_cell BKg1.out 1).trans rfl; have hf0 := blk_frozen BKg1.out 0; have hf1 := blk_frozen BKg1.out 1; clear hb hbox hg) | ((with_reducible refine gate_dst (N := 2) rfl ?_); refine zB_ (#[.slice none 0 0, .slice none 0 0, .int .i64 0, .int .i64 0, .int .i64 0, .int .i64 0, .int .i64 0, .slice none 0 0, .slice none 0 0]) 42 ?_; intro g2 hg wg2 hbox hb; have BKg2 := zA_ (hbox); have GEg2 := zA_ (zs_ hg (zw0_ HB)); replace HB := zA_ (below_step (zw0_ HB) hb); have NE := zA_ (show g1 ≠ g2 from by have := blk_lt BKg1.out; omega); replace BKg1 := zA_ (blk_below BKg1.out hb); clear hz0 hz1 hf0 hf1; have hz0 := (blk_cell BKg1.out 0).trans rfl; have hz1 := (blk_cell BKg1.out 1).trans rfl; have hf0 := blk_frozen BKg1.out 0; have hf1 := blk_frozen BKg1.out 1; clear hb hbox hg) | (go_at_call 110; refine (model_Copy A1 c1 a2 c2 lay1 rfl _ (Kd.C_below HJ.out.i (by exact zw0_ HB)) HJ.out.hi (Kd.C_below HJ.out.l (by exact zw0_ HB))).mono ?_; rintro e w5 ⟨A5, c5, A6, c6, rfl, hb⟩; replace BKg1 := zA_ (blk_below BKg1.out hb); replace BKg2 := zA_ (blk_below BKg2.out hb); replace HB := zA_ (below_step (zw0_ HB) hb); clear hb hz0 hz1 hf0 hf1; have hz0 := (blk_cell BKg1.out 0).trans rfl; have hz1 := (blk_cell BKg1.out 1).trans rfl; have hz8 := (blk_cell BKg1.out 8).trans rfl; have hf0 := blk_frozen BKg1.out 0; have hf1 := blk_frozen BKg1.out 1) | (go_at_call 111; refine (slices_Clone_Fix.calls A4 c4 [0, 0] [0, 0] _ (Kd.C_below HJ.out.p (by exact zw1_ HB GEg1)) HJ.out.hp (by decide +kernel)).mono ?_; rintro e w6 ⟨v7, rfl, hR, hb⟩; obtain ⟨A7, c7, rfl⟩ := Kd.R_slice hR; replace BKg2 := zA_ (blk_below ((Below.heap_setCell _ ⟨g1, 1, none⟩ (.slice A6 1 c6) g2 (Ne.symm NE.out)).trans ((Below.heap_setCell _ ⟨g1, 0, none⟩ (.slice A5 1 c5) g2 (Ne.symm NE.out)).trans BKg2.out)) hb); replace BKg1 := zA_ (blk_below (blk_put (blk_put BKg1.out 0 (.slice A5 1 c5) rfl) 1 (.slice A6 1 c6) rfl) hb); replace HB := zA_ (below_step (zw1_ HB GEg1) hb); clear hb hR hz0 hz1 hf0 hf1 hz8; have hz8 := (blk_cell BKg1.out 8).trans rfl; have hf8 := blk_frozen BKg1.out 8; have hz7 := (blk_cell BKg1.out 7).trans rfl))
 refine wp_named (fun w7 hw_ => ?_)
 have hb_ : Below w.heap.size w w7 := by rw [hw_]; exact zw1_ HB GEg1
 replace HB := zA_ hb_
 have BK_ : Aside0 (w7.heap[g1]? = some (.cells #[.slice A5 1 c5, .slice A6 1 c6, .int .i64 1, .int .i64 2, .int .i64 1073741824, .int .i64 2147483648, .int .i64 0, .slice (some ⟨g3, 0, none⟩) 4 c3, .slice A7 2 c7] 42 (0, 0))) := ⟨by rw [hw_]; exact blk_put BKg1.out 8 (.slice A7 2 c7) rfl⟩
 replace BKg1 := BK_
 replace BKg2 : Aside0 (w7.heap[g2]? = some (.cells #[.slice none 0 0, .slice none 0 0, .int .i64 0, .int .i64 0, .int .i64 0, .int .i64 0, .int .i64 0, .slice none 0 0, .slice none 0 0] 42 (0, 0))) := ⟨by rw [hw_]; exact (Below.heap_setCell _ ⟨g1, 8, none⟩ _ g2 (Ne.symm NE.out)).trans BKg2.out⟩
 clear hw_ hb_ BK_
 have HO : Aside0 (w7.ownsRow w.heap.size 87 3 (.slice none 0 0) 0 []) := ⟨⟨by simp, Or.inl ⟨rfl, rfl⟩⟩⟩
 refine wp_loop_rounds 5 ?_
 rw [rounds_succ]
 obtain ⟨ad_, X0, cx0, Y0, cy0, e_, hx0, hx1, hx2, lx, kx, ly, ky⟩ := at_T87 (Kd.C_below HJ.out.d HB.out) 0 (by decide) (by decide)
 cases e_
 replace hx0 : w7.cell? ⟨g3, 0, none⟩ = some (.slice X0 1 cx0) := hx0
 replace hx1 : w7.cell? ⟨g3, 1, none⟩ = some (.slice Y0 1 cy0) := hx1
 replace hx2 : w7.cell? ⟨g3, 2, none⟩ = some (.int .i64 0) := hx2
 have KX := zA_ kx
 have KY := zA_ ky
 have LX := zA_ lx
 have LY := zA_ ly
 clear lx kx ly ky
 go_wp2_with (first | fail)
 clear hx0 hx1 hx2
 have SB : Aside0 (g1 < w7.heap.size ∧ g2 < w7.heap.size) := ⟨blk_lt BKg1.out, blk_lt BKg2.out⟩
 have HBr := zA_ ((Below.refl w7.heap.size w7).alloc (Nat.le_refl _) (.cells #[.slice X0 1 cx0, .slice Y0 1 cy0, .int .i64 0] 87))
 have BX := zA_ (blk_drew (heap_alloc_new w7 (.cells #[.slice X0 1 cx0, .slice Y0 1 cy0, .int .i64 0] 87)))
 obtain ⟨b, hb_⟩ : ∃ b, b = w7.heap.size := ⟨_, rfl⟩
 have GB : Aside0 (w7.heap.size ≤ b) := ⟨by omega⟩
 rw [← hb_] at BX
 rw [← hb_]
 replace HBr := zA_ (below_drew1 HBr.out)
 refine start_ (n := 10) (S := fun w' => w'.cell? ⟨b, 0, none⟩ = some (.slice X0 1 cx0) ∧ w'.cell? ⟨b, 1, none⟩ = some (.slice Y0 1 cy0)) (ds := [7, 9]) #[false, false, false, false, false, false, false, false, false, false] (by kernel_rfl) rfl rfl ⟨(blk_cell BX.out 0).trans rfl, (blk_cell BX.out 1).trans rfl⟩ (fun hHeld => ?_); refine with_tabW solo_Copy.tab7 solo_Copy.bits7 (fun HT_ HW_ => ?_)
 generalize (w7.alloc (.cells #[.slice X0 1 cx0, .slice Y0 1 cy0, .int .i64 0] 87)).drew = wa0 at BX HBr hHeld ⊢
 clear hb_
 refine yp_ ?_ 0 21
 refine yp_ ?_ 3 24
 refine yt2_ ?_ 1 22
 refine yt2_ ?_ 4 25
 refine yo_ 2 (some 23) (fun K hK => ?_)
 refine yg_ Tryz.func111 #[.slice X0 1 cx0] ?_
 refine (slices_Clone_Fix.calls X0 cx0 [0] [0] _ (Kd.C_below KX.out HBr.out) LX.out (by decide +kernel)).mono ?_
 rintro e wb0 ⟨vx, rfl, hR, hb⟩
 obtain ⟨P0, p0, rfl⟩ := Kd.R_slice hR
 replace BX := zA_ (blk_below BX.out hb)
 replace HBr := zA_ (below_step HBr.out hb)
 clear hb hR
 refine ⟨_, rfl, ?_⟩
 refine hK.out _ _ ⟨(blk_cell BX.out 0).trans rfl, (blk_cell BX.out 1).trans rfl⟩ (fun hHeld => ?_)
 clear hK K
 refine zq_ (some 23) (h := ?_)
 refine yp_ ?_ 6 27
 refine yo_ 5 (some 26) (fun K hK => ?_)
 refine yg_ Tryz.func111 #[.slice Y0 1 cy0] ?_
 refine (slices_Clone_Fix.calls Y0 cy0 [4294967296] [4294967296] _ (Kd.C_below KY.out HBr.out) LY.out (by decide +kernel)).mono ?_
 rintro e wc0 ⟨vy, rfl, hR, hb⟩
 obtain ⟨Q0, q0, rfl⟩ := Kd.R_slice hR
 replace BX := zA_ (blk_below BX.out hb)
 replace HBr := zA_ (below_step HBr.out hb)
 clear hb hR
 refine ⟨_, rfl, ?_⟩
 refine hK.out _ _ ⟨(blk_cell BX.out 0).trans rfl, (blk_cell BX.out 1).trans rfl⟩ (fun hHeld => ?_)
 clear hK K
 refine zq_ (some 26) (h := ?_)
 refine yl_ 7 none (fun K hK => ?_)
 have hs0 := (blk_cell BX.out 0).trans rfl
 have hf0 := blk_frozen BX.out 0
 refine skip_ (w1 := ?_) (by rfl) rfl ?_ ?_
 rotate_left
 · go_simp
   rfl
 refine hK.out _ _ ?_
 clear hK K hs0 hf0
 replace BX := zA_ (blk_put BX.out 0 (.slice P0 1 p0) rfl)
 replace HBr := zA_ (HBr.out.setCell (p := ⟨b, 0, none⟩) GB.out (.slice P0 1 p0))
 refine yp_ ?_ 8 28
 refine yl_ 9 none (fun K hK => ?_)
 have hs1 := (blk_cell BX.out 1).trans rfl
 have hf1 := blk_frozen BX.out 1
 refine skip_ (w1 := ?_) (by rfl) rfl ?_ ?_
 rotate_left
 · go_simp
   rfl
 refine hK.out _ _ ?_
 clear hK K hs1 hf1
 replace BX := zA_ (blk_put BX.out 1 (.slice Q0 1 q0) rfl)
 replace HBr := zA_ (HBr.out.setCell (p := ⟨b, 1, none⟩) GB.out (.slice Q0 1 q0))
 refine done_ (done_of HT_.out (by kernel_rfl)) ?_
 have hx0 := (blk_cell BX.out 0).trans rfl
 have hx1 := (blk_cell BX.out 1).trans rfl
 have hx2 := (blk_cell BX.out 2).trans rfl
 replace BKg1 := zA_ (blk_below BKg1.out HBr.out)
 replace BKg2 := zA_ (blk_below BKg2.out HBr.out)
 replace HO := zA_ (own_below HO.out HBr.out)
 replace HB := zA_ (below_step HB.out HBr.out)
 clear KX KY LX LY
 refine exit_named (fun wd0 hw_ => ?_)
 rw [← hw_] at hx0 hx1 hx2 BKg1 BKg2 HO HB
 clear hw_ HBr
 go_wp2_with (first | ((with_reducible refine gate_builtin (b := .append) (xs := #[.tmp 29, .tmp 31]) rfl ?_); at_builtin; refine print_append_cells (w0 := w) w.heap.size rfl (.tmp 29) (.tmp 31) 39 87 (.agg #[.slice none 0 0, .slice none 0 0, .int .i64 0]) 3 56 rfl Tryz.underlying39 (by kernel_rfl) rfl (by decide) (by decide) (.slice none 0 0) 0 [] [.slice P0 1 p0, .slice Q0 1 q0, .int .i64 0] (by first | rfl | (go_simp; done)) (by first | rfl | (go_simp; done)) rfl (by intro u hu; simp only [List.mem_cons, List.not_mem_nil, or_false] at hu; rcases hu with rfl | rfl | rfl <;> rfl) HO.out HB.out (below_size HB.out) (by decide) ?_; intro v1 we0 hown hb hg hat; obtain ⟨L0, l0, rfl⟩ := own_slice hown; replace BKg1 := zA_ (blk_grown BKg1.out hg (ne_own_ HO.out GEg1.out BKg1.out)); replace BKg2 := zA_ (blk_grown BKg2.out hg (ne_own_ HO.out GEg2.out BKg2.out)); replace HO := zA_ hown; replace HB := zA_ hb; clear hown hb hg hat hx0 hx1 hx2))
 clear BX GB SB
 rw [rounds_succ]
 obtain ⟨ad_, X1, cx1, Y1, cy1, e_, hx0, hx1, hx2, lx, kx, ly, ky⟩ := at_T87 (Kd.C_below HJ.out.d HB.out) 1 (by decide) (by decide)
 cases e_
 replace hx0 : we0.cell? ⟨g3, 3, none⟩ = some (.slice X1 1 cx1) := hx0
 replace hx1 : we0.cell? ⟨g3, 4, none⟩ = some (.slice Y1 1 cy1) := hx1
 replace hx2 : we0.cell? ⟨g3, 5, none⟩ = some (.int .i64 0) := hx2
 have KX := zA_ kx
 have KY := zA_ ky
 have LX := zA_ lx
 have LY := zA_ ly
 clear lx kx ly ky
 go_wp2_with (first | fail)
 clear hx0 hx1 hx2
 have SB : Aside0 (g1 < we0.heap.size ∧ g2 < we0.heap.size) := ⟨blk_lt BKg1.out, blk_lt BKg2.out⟩
 have HBr := zA_ ((Below.refl we0.heap.size we0).alloc (Nat.le_refl _) (.cells #[.slice X1 1 cx1, .slice Y1 1 cy1, .int .i64 0] 87))
 have BX := zA_ (blk_drew (heap_alloc_new we0 (.cells #[.slice X1 1 cx1, .slice Y1 1 cy1, .int .i64 0] 87)))
 obtain ⟨b, hb_⟩ : ∃ b, b = we0.heap.size := ⟨_, rfl⟩
 have GB : Aside0 (we0.heap.size ≤ b) := ⟨by omega⟩
 rw [← hb_] at BX
 rw [← hb_]
 replace HBr := zA_ (below_drew1 HBr.out)
 refine start_ (n := 10) (S := fun w' => w'.cell? ⟨b, 0, none⟩ = some (.slice X1 1 cx1) ∧ w'.cell? ⟨b, 1, none⟩ = some (.slice Y1 1 cy1)) (ds := [7, 9]) #[false, false, false, false, false, false, false, false, false, false] (by kernel_rfl) rfl rfl ⟨(blk_cell BX.out 0).trans rfl, (blk_cell BX.out 1).trans rfl⟩ (fun hHeld => ?_); refine with_tabW solo_Copy.tab7 solo_Copy.bits7 (fun HT_ HW_ => ?_)
 generalize (we0.alloc (.cells #[.slice X1 1 cx1, .slice Y1 1 cy1, .int .i64 0] 87)).drew = wa1 at BX HBr hHeld ⊢
 clear hb_
 refine yp_ ?_ 0 21
 refine yp_ ?_ 3 24
 refine yt2_ ?_ 1 22
 refine yt2_ ?_ 4 25
 refine yo_ 2 (some 23) (fun K hK => ?_)
 refine yg_ Tryz.func111 #[.slice X1 1 cx1] ?_
 refine (slices_Clone_Fix.calls X1 cx1 [4294967296] [4294967296] _ (Kd.C_below KX.out HBr.out) LX.out (by decide +kernel)).mono ?_
 rintro e wb1 ⟨vx, rfl, hR, hb⟩
 obtain ⟨P1, p1, rfl⟩ := Kd.R_slice hR
 replace BX := zA_ (blk_below BX.out hb)
 replace HBr := zA_ (below_step HBr.out hb)
 clear hb hR
 refine ⟨_, rfl, ?_⟩
 refine hK.out _ _ ⟨(blk_cell BX.out 0).trans rfl, (blk_cell BX.out 1).trans rfl⟩ (fun hHeld => ?_)
 clear hK K
 refine zq_ (some 23) (h := ?_)
 refine yp_ ?_ 6 27
 refine yo_ 5 (some 26) (fun K hK => ?_)
 refine yg_ Tryz.func111 #[.slice Y1 1 cy1] ?_
 refine (slices_Clone_Fix.calls Y1 cy1 [12884901888] [12884901888] _ (Kd.C_below KY.out HBr.out) LY.out (by decide +kernel)).mono ?_
 rintro e wc1 ⟨vy, rfl, hR, hb⟩
 obtain ⟨Q1, q1, rfl⟩ := Kd.R_slice hR
 replace BX := zA_ (blk_below BX.out hb)
 replace HBr := zA_ (below_step HBr.out hb)
 clear hb hR
 refine ⟨_, rfl, ?_⟩
 refine hK.out _ _ ⟨(blk_cell BX.out 0).trans rfl, (blk_cell BX.out 1).trans rfl⟩ (fun hHeld => ?_)
 clear hK K
 refine zq_ (some 26) (h := ?_)
 refine yl_ 7 none (fun K hK => ?_)
 have hs0 := (blk_cell BX.out 0).trans rfl
 have hf0 := blk_frozen BX.out 0
 refine skip_ (w1 := ?_) (by rfl) rfl ?_ ?_
 rotate_left
 · go_simp
   rfl
 refine hK.out _ _ ?_
 clear hK K hs0 hf0
 replace BX := zA_ (blk_put BX.out 0 (.slice P1 1 p1) rfl)
 replace HBr := zA_ (HBr.out.setCell (p := ⟨b, 0, none⟩) GB.out (.slice P1 1 p1))
 refine yp_ ?_ 8 28
 refine yl_ 9 none (fun K hK => ?_)
 have hs1 := (blk_cell BX.out 1).trans rfl
 have hf1 := blk_frozen BX.out 1
 refine skip_ (w1 := ?_) (by rfl) rfl ?_ ?_
 rotate_left
 · go_simp
   rfl
 refine hK.out _ _ ?_
 clear hK K hs1 hf1
 replace BX := zA_ (blk_put BX.out 1 (.slice Q1 1 q1) rfl)
 replace HBr := zA_ (HBr.out.setCell (p := ⟨b, 1, none⟩) GB.out (.slice Q1 1 q1))
 refine done_ (done_of HT_.out (by kernel_rfl)) ?_
 have hx0 := (blk_cell BX.out 0).trans rfl
 have hx1 := (blk_cell BX.out 1).trans rfl
 have hx2 := (blk_cell BX.out 2).trans rfl
 replace BKg1 := zA_ (blk_below BKg1.out HBr.out)
 replace BKg2 := zA_ (blk_below BKg2.out HBr.out)
 replace HO := zA_ (own_below HO.out HBr.out)
 replace HB := zA_ (below_step HB.out HBr.out)
 clear KX KY LX LY
 refine exit_named (fun wd1 hw_ => ?_)
 rw [← hw_] at hx0 hx1 hx2 BKg1 BKg2 HO HB
 clear hw_ HBr
 go_wp2_with (first | ((with_reducible refine gate_builtin (b := .append) (xs := #[.tmp 29, .tmp 31]) rfl ?_); at_builtin; refine print_append_cells (w0 := w) w.heap.size rfl (.tmp 29) (.tmp 31) 39 87 (.agg #[.slice none 0 0, .slice none 0 0, .int .i64 0]) 3 56 rfl Tryz.underlying39 (by kernel_rfl) rfl (by decide) (by decide) (.slice L0 1 l0) 1 ([] ++ [.slice P0 1 p0, .slice Q0 1 q0, .int .i64 0]) [.slice P1 1 p1, .slice Q1 1 q1, .int .i64 0] (by first | rfl | (go_simp; done)) (by first | rfl | (go_simp; done)) rfl (by intro u hu; simp only [List.mem_cons, List.not_mem_nil, or_false] at hu; rcases hu with rfl | rfl | rfl <;> rfl) HO.out HB.out (below_size HB.out) (by decide) ?_; intro v1 we1 hown hb hg hat; obtain ⟨L1, l1, rfl⟩ := own_slice hown; replace BKg1 := zA_ (blk_grown BKg1.out hg (ne_own_ HO.out GEg1.out BKg1.out)); replace BKg2 := zA_ (blk_grown BKg2.out hg (ne_own_ HO.out GEg2.out BKg2.out)); replace HO := zA_ hown; replace HB := zA_ hb; clear hown hb hg hat hx0 hx1 hx2))
 clear BX GB SB
 rw [rounds_succ]
 obtain ⟨ad_, X2, cx2, Y2, cy2, e_, hx0, hx1, hx2, lx, kx, ly, ky⟩ := at_T87 (Kd.C_below HJ.out.d HB.out) 2 (by decide) (by decide)
 cases e_
 replace hx0 : we1.cell? ⟨g3, 6, none⟩ = some (.slice X2 1 cx2) := hx0
 replace hx1 : we1.cell? ⟨g3, 7, none⟩ = some (.slice Y2 1 cy2) := hx1
 replace hx2 : we1.cell? ⟨g3, 8, none⟩ = some (.int .i64 0) := hx2
 have KX := zA_ kx
 have KY := zA_ ky
 have LX := zA_ lx
 have LY := zA_ ly
 clear lx kx ly ky
 go_wp2_with (first | fail)
 clear hx0 hx1 hx2
 have SB : Aside0 (g1 < we1.heap.size ∧ g2 < we1.heap.size) := ⟨blk_lt BKg1.out, blk_lt BKg2.out⟩
 have HBr := zA_ ((Below.refl we1.heap.size we1).alloc (Nat.le_refl _) (.cells #[.slice X2 1 cx2, .slice Y2 1 cy2, .int .i64 0] 87))
 have BX := zA_ (blk_drew (heap_alloc_new we1 (.cells #[.slice X2 1 cx2, .slice Y2 1 cy2, .int .i64 0] 87)))
 obtain ⟨b, hb_⟩ : ∃ b, b = we1.heap.size := ⟨_, rfl⟩
 have GB : Aside0 (we1.heap.size ≤ b) := ⟨by omega⟩
 rw [← hb_] at BX
 rw [← hb_]
 replace HBr := zA_ (below_drew1 HBr.out)
 refine start_ (n := 10) (S := fun w' => w'.cell? ⟨b, 0, none⟩ = some (.slice X2 1 cx2) ∧ w'.cell? ⟨b, 1, none⟩ = some (.slice Y2 1 cy2)) (ds := [7, 9]) #[false, false, false, false, false, false, false, false, false, false] (by kernel_rfl) rfl rfl ⟨(blk_cell BX.out 0).trans rfl, (blk_cell BX.out 1).trans rfl⟩ (fun hHeld => ?_); refine with_tabW solo_Copy.tab7 solo_Copy.bits7 (fun HT_ HW_ => ?_)
 generalize (we1.alloc (.cells #[.slice X2 1 cx2, .slice Y2 1 cy2, .int .i64 0] 87)).drew = wa2 at BX HBr hHeld ⊢
 clear hb_
 refine yp_ ?_ 0 21
 refine yp_ ?_ 3 24
 refine yt2_ ?_ 1 22
 refine yt2_ ?_ 4 25
 refine yo_ 2 (some 23) (fun K hK => ?_)
 refine yg_ Tryz.func111 #[.slice X2 1 cx2] ?_
 refine (slices_Clone_Fix.calls X2 cx2 [8589934592] [8589934592] _ (Kd.C_below KX.out HBr.out) LX.out (by decide +kernel)).mono ?_
 rintro e wb2 ⟨vx, rfl, hR, hb⟩
 obtain ⟨P2, p2, rfl⟩ := Kd.R_slice hR
 replace BX := zA_ (blk_below BX.out hb)
 replace HBr := zA_ (below_step HBr.out hb)
 clear hb hR
 refine ⟨_, rfl, ?_⟩
 refine hK.out _ _ ⟨(blk_cell BX.out 0).trans rfl, (blk_cell BX.out 1).trans rfl⟩ (fun hHeld => ?_)
 clear hK K
 refine zq_ (some 23) (h := ?_)
 refine yp_ ?_ 6 27
 refine yo_ 5 (some 26) (fun K hK => ?_)
 refine yg_ Tryz.func111 #[.slice Y2 1 cy2] ?_
 refine (slices_Clone_Fix.calls Y2 cy2 [21474836480] [21474836480] _ (Kd.C_below KY.out HBr.out) LY.out (by decide +kernel)).mono ?_
 rintro e wc2 ⟨vy, rfl, hR, hb⟩
 obtain ⟨Q2, q2, rfl⟩ := Kd.R_slice hR
 replace BX := zA_ (blk_below BX.out hb)
 replace HBr := zA_ (below_step HBr.out hb)
 clear hb hR
 refine ⟨_, rfl, ?_⟩
 refine hK.out _ _ ⟨(blk_cell BX.out 0).trans rfl, (blk_cell BX.out 1).trans rfl⟩ (fun hHeld => ?_)
 clear hK K
 refine zq_ (some 26) (h := ?_)
 refine yl_ 7 none (fun K hK => ?_)
 have hs0 := (blk_cell BX.out 0).trans rfl
 have hf0 := blk_frozen BX.out 0
 refine skip_ (w1 := ?_) (by rfl) rfl ?_ ?_
 rotate_left
 · go_simp
   rfl
 refine hK.out _ _ ?_
 clear hK K hs0 hf0
 replace BX := zA_ (blk_put BX.out 0 (.slice P2 1 p2) rfl)
 replace HBr := zA_ (HBr.out.setCell (p := ⟨b, 0, none⟩) GB.out (.slice P2 1 p2))
 refine yp_ ?_ 8 28
 refine yl_ 9 none (fun K hK => ?_)
 have hs1 := (blk_cell BX.out 1).trans rfl
 have hf1 := blk_frozen BX.out 1
 refine skip_ (w1 := ?_) (by rfl) rfl ?_ ?_
 rotate_left
 · go_simp
   rfl
 refine hK.out _ _ ?_
 clear hK K hs1 hf1
 replace BX := zA_ (blk_put BX.out 1 (.slice Q2 1 q2) rfl)
 replace HBr := zA_ (HBr.out.setCell (p := ⟨b, 1, none⟩) GB.out (.slice Q2 1 q2))
 refine done_ (done_of HT_.out (by kernel_rfl)) ?_
 have hx0 := (blk_cell BX.out 0).trans rfl
 have hx1 := (blk_cell BX.out 1).trans rfl
 have hx2 := (blk_cell BX.out 2).trans rfl
 replace BKg1 := zA_ (blk_below BKg1.out HBr.out)
 replace BKg2 := zA_ (blk_below BKg2.out HBr.out)
 replace HO := zA_ (own_below HO.out HBr.out)
 replace HB := zA_ (below_step HB.out HBr.out)
 clear KX KY LX LY
 refine exit_named (fun wd2 hw_ => ?_)
 rw [← hw_] at hx0 hx1 hx2 BKg1 BKg2 HO HB
 clear hw_ HBr
 go_wp2_with (first | ((with_reducible refine gate_builtin (b := .append) (xs := #[.tmp 29, .tmp 31]) rfl ?_); at_builtin; refine print_append_cells (w0 := w) w.heap.size rfl (.tmp 29) (.tmp 31) 39 87 (.agg #[.slice none 0 0, .slice none 0 0, .int .i64 0]) 3 56 rfl Tryz.underlying39 (by kernel_rfl) rfl (by decide) (by decide) (.slice L1 2 l1) 2 (([] ++ [.slice P0 1 p0, .slice Q0 1 q0, .int .i64 0]) ++ [.slice P1 1 p1, .slice Q1 1 q1, .int .i64 0]) [.slice P2 1 p2, .slice Q2 1 q2, .int .i64 0] (by first | rfl | (go_simp; done)) (by first | rfl | (go_simp; done)) rfl (by intro u hu; simp only [List.mem_cons, List.not_mem_nil, or_false] at hu; rcases hu with rfl | rfl | rfl <;> rfl) HO.out HB.out (below_size HB.out) (by decide) ?_; intro v1 we2 hown hb hg hat; obtain ⟨L2, l2, rfl⟩ := own_slice hown; replace BKg1 := zA_ (blk_grown BKg1.out hg (ne_own_ HO.out GEg1.out BKg1.out)); replace BKg2 := zA_ (blk_grown BKg2.out hg (ne_own_ HO.out GEg2.out BKg2.out)); replace HO := zA_ hown; replace HB := zA_ hb; clear hown hb hg hat hx0 hx1 hx2))
 clear BX GB SB
 rw [rounds_succ]
 obtain ⟨ad_, X3, cx3, Y3, cy3, e_, hx0, hx1, hx2, lx, kx, ly, ky⟩ := at_T87 (Kd.C_below HJ.out.d HB.out) 3 (by decide) (by decide)
 cases e_
 replace hx0 : we2.cell? ⟨g3, 9, none⟩ = some (.slice X3 1 cx3) := hx0
 replace hx1 : we2.cell? ⟨g3, 10, none⟩ = some (.slice Y3 1 cy3) := hx1
 replace hx2 : we2.cell? ⟨g3, 11, none⟩ = some (.int .i64 0) := hx2
 have KX := zA_ kx
 have KY := zA_ ky
 have LX := zA_ lx
 have LY := zA_ ly
 clear lx kx ly ky
 go_wp2_with (first | fail)
 clear hx0 hx1 hx2
 have SB : Aside0 (g1 < we2.heap.size ∧ g2 < we2.heap.size) := ⟨blk_lt BKg1.out, blk_lt BKg2.out⟩
 have HBr := zA_ ((Below.refl we2.heap.size we2).alloc (Nat.le_refl _) (.cells #[.slice X3 1 cx3, .slice Y3 1 cy3, .int .i64 0] 87))
 have BX := zA_ (blk_drew (heap_alloc_new we2 (.cells #[.slice X3 1 cx3, .slice Y3 1 cy3, .int .i64 0] 87)))
 obtain ⟨b, hb_⟩ : ∃ b, b = we2.heap.size := ⟨_, rfl⟩
 have GB : Aside0 (we2.heap.size ≤ b) := ⟨by omega⟩
 rw [← hb_] at BX
 rw [← hb_]
 replace HBr := zA_ (below_drew1 HBr.out)
 refine start_ (n := 10) (S := fun w' => w'.cell? ⟨b, 0, none⟩ = some (.slice X3 1 cx3) ∧ w'.cell? ⟨b, 1, none⟩ = some (.slice Y3 1 cy3)) (ds := [7, 9]) #[false, false, false, false, false, false, false, false, false, false] (by kernel_rfl) rfl rfl ⟨(blk_cell BX.out 0).trans rfl, (blk_cell BX.out 1).trans rfl⟩ (fun hHeld => ?_); refine with_tabW solo_Copy.tab7 solo_Copy.bits7 (fun HT_ HW_ => ?_)
 generalize (we2.alloc (.cells #[.slice X3 1 cx3, .slice Y3 1 cy3, .int .i64 0] 87)).drew = wa3 at BX HBr hHeld ⊢
 clear hb_
 refine yp_ ?_ 0 21
 refine yp_ ?_ 3 24
 refine yt2_ ?_ 1 22
 refine yt2_ ?_ 4 25
 refine yo_ 2 (some 23) (fun K hK => ?_)
 refine yg_ Tryz.func111 #[.slice X3 1 cx3] ?_
 refine (slices_Clone_Fix.calls X3 cx3 [12884901888] [12884901888] _ (Kd.C_below KX.out HBr.out) LX.out (by decide +kernel)).mono ?_
 rintro e wb3 ⟨vx, rfl, hR, hb⟩
 obtain ⟨P3, p3, rfl⟩ := Kd.R_slice hR
 replace BX := zA_ (blk_below BX.out hb)
 replace HBr := zA_ (below_step HBr.out hb)
 clear hb hR
 refine ⟨_, rfl, ?_⟩
 refine hK.out _ _ ⟨(blk_cell BX.out 0).trans rfl, (blk_cell BX.out 1).trans rfl⟩ (fun hHeld => ?_)
 clear hK K
 refine zq_ (some 23) (h := ?_)
 refine yp_ ?_ 6 27
 refine yo_ 5 (some 26) (fun K hK => ?_)
 refine yg_ Tryz.func111 #[.slice Y3 1 cy3] ?_
 refine (slices_Clone_Fix.calls Y3 cy3 [30064771072] [30064771072] _ (Kd.C_below KY.out HBr.out) LY.out (by decide +kernel)).mono ?_
 rintro e wc3 ⟨vy, rfl, hR, hb⟩
 obtain ⟨Q3, q3, rfl⟩ := Kd.R_slice hR
 replace BX := zA_ (blk_below BX.out hb)
 replace HBr := zA_ (below_step HBr.out hb)
 clear hb hR
 refine ⟨_, rfl, ?_⟩
 refine hK.out _ _ ⟨(blk_cell BX.out 0).trans rfl, (blk_cell BX.out 1).trans rfl⟩ (fun hHeld => ?_)
 clear hK K
 refine zq_ (some 26) (h := ?_)
 refine yl_ 7 none (fun K hK => ?_)
 have hs0 := (blk_cell BX.out 0).trans rfl
 have hf0 := blk_frozen BX.out 0
 refine skip_ (w1 := ?_) (by rfl) rfl ?_ ?_
 rotate_left
 · go_simp
   rfl
 refine hK.out _ _ ?_
 clear hK K hs0 hf0
 replace BX := zA_ (blk_put BX.out 0 (.slice P3 1 p3) rfl)
 replace HBr := zA_ (HBr.out.setCell (p := ⟨b, 0, none⟩) GB.out (.slice P3 1 p3))
 refine yp_ ?_ 8 28
 refine yl_ 9 none (fun K hK => ?_)
 have hs1 := (blk_cell BX.out 1).trans rfl
 have hf1 := blk_frozen BX.out 1
 refine skip_ (w1 := ?_) (by rfl) rfl ?_ ?_
 rotate_left
 · go_simp
   rfl
 refine hK.out _ _ ?_
 clear hK K hs1 hf1
 replace BX := zA_ (blk_put BX.out 1 (.slice Q3 1 q3) rfl)
 replace HBr := zA_ (HBr.out.setCell (p := ⟨b, 1, none⟩) GB.out (.slice Q3 1 q3))
 refine done_ (done_of HT_.out (by kernel_rfl)) ?_
 have hx0 := (blk_cell BX.out 0).trans rfl
 have hx1 := (blk_cell BX.out 1).trans rfl
 have hx2 := (blk_cell BX.out 2).trans rfl
 replace BKg1 := zA_ (blk_below BKg1.out HBr.out)
 replace BKg2 := zA_ (blk_below BKg2.out HBr.out)
 replace HO := zA_ (own_below HO.out HBr.out)
 replace HB := zA_ (below_step HB.out HBr.out)
 clear KX KY LX LY
 refine exit_named (fun wd3 hw_ => ?_)
 rw [← hw_] at hx0 hx1 hx2 BKg1 BKg2 HO HB
 clear hw_ HBr
 go_wp2_with (first | ((with_reducible refine gate_builtin (b := .append) (xs := #[.tmp 29, .tmp 31]) rfl ?_); at_builtin; refine print_append_cells (w0 := w) w.heap.size rfl (.tmp 29) (.tmp 31) 39 87 (.agg #[.slice none 0 0, .slice none 0 0, .int .i64 0]) 3 56 rfl Tryz.underlying39 (by kernel_rfl) rfl (by decide) (by decide) (.slice L2 3 l2) 3 ((([] ++ [.slice P0 1 p0, .slice Q0 1 q0, .int .i64 0]) ++ [.slice P1 1 p1, .slice Q1 1 q1, .int .i64 0]) ++ [.slice P2 1 p2, .slice Q2 1 q2, .int .i64 0]) [.slice P3 1 p3, .slice Q3 1 q3, .int .i64 0] (by first | rfl | (go_simp; done)) (by first | rfl | (go_simp; done)) rfl (by intro u hu; simp only [List.mem_cons, List.not_mem_nil, or_false] at hu; rcases hu with rfl | rfl | rfl <;> rfl) HO.out HB.out (below_size HB.out) (by decide) ?_; intro v1 we3 hown hb hg hat; obtain ⟨L3, l3, rfl⟩ := own_slice hown; replace BKg1 := zA_ (blk_grown BKg1.out hg (ne_own_ HO.out GEg1.out BKg1.out)); replace BKg2 := zA_ (blk_grown BKg2.out hg (ne_own_ HO.out GEg2.out BKg2.out)); replace HO := zA_ hown; replace HB := zA_ hb; clear hown hb hg hat hx0 hx1 hx2))
 clear BX GB SB
 rw [rounds_succ]
 have hz0 := (blk_cell BKg1.out 0).trans rfl
 have hzf0 := blk_frozen BKg1.out 0
 have hz1 := (blk_cell BKg1.out 1).trans rfl
 have hzf1 := blk_frozen BKg1.out 1
 have hz2 := (blk_cell BKg1.out 2).trans rfl
 have hzf2 := blk_frozen BKg1.out 2
 have hz3 := (blk_cell BKg1.out 3).trans rfl
 have hzf3 := blk_frozen BKg1.out 3
 have hz4 := (blk_cell BKg1.out 4).trans rfl
 have hzf4 := blk_frozen BKg1.out 4
 have hz5 := (blk_cell BKg1.out 5).trans rfl
 have hzf5 := blk_frozen BKg1.out 5
 have hz6 := (blk_cell BKg1.out 6).trans rfl
 have hzf6 := blk_frozen BKg1.out 6
 have hz7 := (blk_cell BKg1.out 7).trans rfl
 have hzf7 := blk_frozen BKg1.out 7
 have hz8 := (blk_cell BKg1.out 8).trans rfl
 have hzf8 := blk_frozen BKg1.out 8
 have hy0 := (blk_cell BKg2.out 0).trans rfl
 have hyf0 := blk_frozen BKg2.out 0
 have hy1 := (blk_cell BKg2.out 1).trans rfl
 have hyf1 := blk_frozen BKg2.out 1
 have hy2 := (blk_cell BKg2.out 2).trans rfl
 have hyf2 := blk_frozen BKg2.out 2
 have hy3 := (blk_cell BKg2.out 3).trans rfl
 have hyf3 := blk_frozen BKg2.out 3
 have hy4 := (blk_cell BKg2.out 4).trans rfl
 have hyf4 := blk_frozen BKg2.out 4
 have hy5 := (blk_cell BKg2.out 5).trans rfl
 have hyf5 := blk_frozen BKg2.out 5
 have hy6 := (blk_cell BKg2.out 6).trans rfl
 have hyf6 := blk_frozen BKg2.out 6
 have hy7 := (blk_cell BKg2.out 7).trans rfl
 have hyf7 := blk_frozen BKg2.out 7
 have hy8 := (blk_cell BKg2.out 8).trans rfl
 have hyf8 := blk_frozen BKg2.out 8
 have hne := NE.out
 have hne2 := Ne.symm NE.out
 go_wp2_with (first | fail)
 clear hne hne2
 clear hz0 hzf0 hz1 hzf1 hz2 hzf2 hz3 hzf3 hz4 hzf4 hz5 hzf5 hz6 hzf6 hz7 hzf7 hz8 hzf8
 clear hy0 hyf0 hy1 hyf1 hy2 hyf2 hy3 hyf3 hy4 hyf4 hy5 hyf5 hy6 hyf6 hy7 hyf7 hy8 hyf8
 refine bodyPost_ret (results_cell_row rfl _ _ g2 42 #[.slice A5 1 c5, .slice A6 1 c6, .int .i64 1, .int .i64 2, .int .i64 1073741824, .int .i64 2147483648, .int .i64 0, .slice L3 4 l3, .slice A7 2 c7] (0, 0) _ rfl (blk_put (blk_put (blk_put (blk_put (blk_put (blk_put (blk_put (blk_put (blk_put ((Below.heap_setCell _ ⟨g1, 7, none⟩ (.slice L3 4 l3) g2 (Ne.symm NE.out)).trans BKg2.out) 0 (.slice A5 1 c5) rfl) 1 (.slice A6 1 c6) rfl) 2 (.int .i64 1) rfl) 3 (.int .i64 2) rfl) 4 (.int .i64 1073741824) rfl) 5 (.int .i64 2147483648) rfl) 6 (.int .i64 0) rfl) 7 (.slice L3 4 l3) rfl) 8 (.slice A7 2 c7) rfl) Tryz.underlying42 rfl (by kernel_rfl)) rfl ?_
 exact ⟨_, _, _, _, _, _, _, _, _, rfl, zw2_ HB GEg1 GEg2⟩
def layer_params.T3 : Bool × List (List Nat × List Nat) := (true, [([], []), ([0], [0]), ([], []), ([2], [2]), ([1, 3], [1, 3]), ([], []), ([5], [5]), ([6], [6]), ([4, 7], [4, 7]), ([8, 3, 0, 1, 2, 3, 4, 5, 6, 7, 8], [8])])
def layer_params.B3 : List Nat := [0, 1, 0, 4, 15, 0, 32, 96, 255, 511]
theorem layer_params.tab3 : rtab .any (opsOf Tryz.f240 3) = layer_params.T3 := by kernel_rfl
theorem layer_params.bits3 : waitsOk layer_params.T3.2 layer_params.B3 = true := by kernel_rfl
theorem layer_params_ok (A : Option Addr) (c : Nat) (w : World) (hC : Kd.C (Kd.int .i64) w A 1 [1]) (hc : 1 ≤ c) :
  Calls Tryz.prog 240 #[.agg #[.string ⟨#[100, 101, 110, 115, 101]⟩, .int .i64 1, .int .i64 0], .slice A 1 c] w fun e w' => ∃ h1 h2 ho : Nat, e = .returned (.slice (some ⟨ho, 0, none⟩) 2 2) ∧ w'.heap[h1]? = some (.cells #[.int .i64 1, .int .i64 1] 3 (0, 0)) ∧ w'.heap[h2]? = some (.cells #[.int .i64 1] 3 (0, 0)) ∧ w'.heap[ho]? = some (.cells #[.slice (some ⟨h1, 0, none⟩) 2 2, .slice (some ⟨h2, 0, none⟩) 1 1] 32 (0, 0)) ∧ Below w.heap.size w w' := by
 have HB := zA_ (Below.refl w.heap.size w)
 have HC := zA_ hC
 clear hC
 go_enter Tryz.func240, Tryz.ntmps240
 go_wp2_with (first | ((with_reducible refine gate_dst (N := 2) rfl ?_); refine zB_ (#[.string ⟨#[100, 101, 110, 115, 101]⟩, .int .i64 1, .int .i64 0]) 84 ?_; intro gb hg wgb hbox hb; have BKgb := zA_ (hbox); have GEgb := zA_ (zs_ hg (zw0_ HB)); replace HB := zA_ (below_step (zw0_ HB) hb); have hz0 := (blk_cell BKgb.out 0).trans rfl; clear hb hbox hg))
 clear hz0
 have BK := zA_ (blk_drew BKgb.out)
 replace HB := zA_ (below_drew1 HB.out)
 clear BKgb
 refine start_ (n := 10) (S := fun w' => w'.cell? ⟨gb, 0, none⟩ = some (.string ⟨#[100, 101, 110, 115, 101]⟩) ∧ w'.cell? ⟨gb, 1, none⟩ = some (.int .i64 1)) (ds := []) #[false, false, false, false, false, false, false, false, false, false] (by kernel_rfl) rfl rfl ⟨(blk_cell BK.out 0).trans rfl, (blk_cell BK.out 1).trans rfl⟩ (fun hHeld => ?_); refine with_tabW layer_params.tab3 layer_params.bits3 (fun HT_ HW_ => ?_)
 generalize wgb.drew = w1 at BK HB hHeld ⊢
 refine yp_ ?_ 0 9
 refine yp_ ?_ 2 11
 refine yp_ ?_ 5 14
 refine yt2_ ?_ 1 10
 refine yt2_ ?_ 6 15
 refine join_ (σ := Nat × Nat) 2 #[true, true, true, true, true, true, true, true, false, false] (fun s_ => [(12, .int .i64 1), (13, .slice (some ⟨s_.1, 0, none⟩) 2 2), (16, .slice (some ⟨s_.2, 0, none⟩) 1 1)]) (fun s_ w' => (w'.cell? ⟨gb, 0, none⟩ = some (.string ⟨#[100, 101, 110, 115, 101]⟩) ∧ w'.cell? ⟨gb, 1, none⟩ = some (.int .i64 1)) ∧ (w'.heap[s_.1]? = some (.cells #[.int .i64 1, .int .i64 1] 3 (0, 0))) ∧ (w'.heap[s_.2]? = some (.cells #[.int .i64 1] 3 (0, 0))) ∧ (w'.heap[gb]? = some (.cells #[.string ⟨#[100, 101, 110, 115, 101]⟩, .int .i64 1, .int .i64 0] 84 (0, 0))) ∧ (Below w.heap.size w w')) ?_ ?_
 rotate_left
 ·intro hCont
  refine two_ (i := 3) (j := 7) (Ni := some 12) (Nj := some 16) #[true, true, true, true, false, true, true, false, false, false] #[true, true, true, false, false, true, true, true, false, false] rfl rfl rfl rfl (two_of HT_.out (by kernel_rfl)) (by decide) (by decide) (fun K hK => ?_) (fun K hK => ?_)
  ·skip
   refine yg_ Tryz.func241 #[.slice A 1 c] ?_
   refine (model_product.calls 100 A c [1] 1 _ (Kd.C_below HC.out HB.out) hc (by decide +kernel)).mono ?_
   rintro e w2 ⟨rfl, hd⟩
   have hb := below_dr hd
   replace BK := zA_ (blk_below BK.out hb); replace HB := zA_ (below_step HB.out hb)
   clear hb hd
   refine ⟨_, rfl, ?_⟩
   refine hK.out _ _ ⟨(blk_cell BK.out 0).trans rfl, (blk_cell BK.out 1).trans rfl⟩ (fun hHeld => ?_)
   clear hK K
   refine zq_ (some 12) (h := ?_)
   refine two_ (i := 4) (j := 7) (Ni := some 13) (Nj := some 16) #[true, true, true, true, true, true, true, false, false, false] #[true, true, true, true, false, true, true, true, false, false] rfl rfl rfl rfl (two_of HT_.out (by kernel_rfl)) (by decide) (by decide) (fun K hK => ?_) (fun K hK => ?_)
   ·skip
    refine value_ (w1 := w2.alloc (.cells #[.int .i64 1, .int .i64 1] 3)) (v := .slice (some ⟨w2.heap.size, 0, none⟩) 2 2) (by rfl) rfl ?_ ?_
    · first | (go_simp; done) | (go_simp; rfl)
    have hb := (Below.refl w2.heap.size w2).alloc (Nat.le_refl _) (.cells #[.int .i64 1, .int .i64 1] 3)
    have Bh1 := zA_ (heap_alloc_new w2 (.cells #[.int .i64 1, .int .i64 1] 3))
    obtain ⟨h1, e_⟩ : ∃ h1, h1 = w2.heap.size := ⟨_, rfl⟩
    rw [← e_] at Bh1 ⊢
    generalize hgw_ : w2.alloc (.cells #[.int .i64 1, .int .i64 1] 3) = w3 at hb Bh1 ⊢
    clear hgw_ e_
    replace BK := zA_ (blk_below BK.out hb); replace HB := zA_ (below_step HB.out hb)
    clear hb
    refine hK.out _ _ ⟨(blk_cell BK.out 0).trans rfl, (blk_cell BK.out 1).trans rfl⟩ (fun hHeld => ?_)
    clear hK K
    refine zq_ (some 13) (h := ?_)
    refine yo_ 7 (some 16) (fun K hK => ?_)
    refine value_ (w1 := w3.alloc (.cells #[.int .i64 1] 3)) (v := .slice (some ⟨w3.heap.size, 0, none⟩) 1 1) (by rfl) rfl ?_ ?_
    · first | (go_simp; done) | (go_simp; rfl)
    have hb := (Below.refl w3.heap.size w3).alloc (Nat.le_refl _) (.cells #[.int .i64 1] 3)
    have Bh2 := zA_ (heap_alloc_new w3 (.cells #[.int .i64 1] 3))
    obtain ⟨h2, e_⟩ : ∃ h2, h2 = w3.heap.size := ⟨_, rfl⟩
    rw [← e_] at Bh2 ⊢
    generalize hgw_ : w3.alloc (.cells #[.int .i64 1] 3) = w4 at hb Bh2 ⊢
    clear hgw_ e_
    replace BK := zA_ (blk_below BK.out hb); replace Bh1 := zA_ (blk_below Bh1.out hb); replace HB := zA_ (below_step HB.out hb)
    clear hb
    refine hK.out _ _ ⟨(blk_cell BK.out 0).trans rfl, (blk_cell BK.out 1).trans rfl⟩ (fun hHeld => ?_)
    clear hK K
    refine zq_ (some 16) (h := ?_)
    exact zj_ (hCont (h1, h2) _ ⟨hHeld, Bh1.out, Bh2.out, BK.out, HB.out⟩)
   skip
   refine value_ (w1 := w2.alloc (.cells #[.int .i64 1] 3)) (v := .slice (some ⟨w2.heap.size, 0, none⟩) 1 1) (by rfl) rfl ?_ ?_
   · first | (go_simp; done) | (go_simp; rfl)
   have hb := (Below.refl w2.heap.size w2).alloc (Nat.le_refl _) (.cells #[.int .i64 1] 3)
   have Bh2 := zA_ (heap_alloc_new w2 (.cells #[.int .i64 1] 3))
   obtain ⟨h2, e_⟩ : ∃ h2, h2 = w2.heap.size := ⟨_, rfl⟩
   rw [← e_] at Bh2 ⊢
   generalize hgw_ : w2.alloc (.cells #[.int .i64 1] 3) = w3 at hb Bh2 ⊢
   clear hgw_ e_
   replace BK := zA_ (blk_below BK.out hb); replace HB := zA_ (below_step HB.out hb)
   clear hb
   refine hK.out _ _ ⟨(blk_cell BK.out 0).trans rfl, (blk_cell BK.out 1).trans rfl⟩ (fun hHeld => ?_)
   clear hK K
   refine zq_ (some 16) (h := ?_)
   refine yo_ 4 (some 13) (fun K hK => ?_)
   refine value_ (w1 := w3.alloc (.cells #[.int .i64 1, .int .i64 1] 3)) (v := .slice (some ⟨w3.heap.size, 0, none⟩) 2 2) (by rfl) rfl ?_ ?_
   · first | (go_simp; done) | (go_simp; rfl)
   have hb := (Below.refl w3.heap.size w3).alloc (Nat.le_refl _) (.cells #[.int .i64 1, .int .i64 1] 3)
   have Bh1 := zA_ (heap_alloc_new w3 (.cells #[.int .i64 1, .int .i64 1] 3))
   obtain ⟨h1, e_⟩ : ∃ h1, h1 = w3.heap.size := ⟨_, rfl⟩
   rw [← e_] at Bh1 ⊢
   generalize hgw_ : w3.alloc (.cells #[.int .i64 1, .int .i64 1] 3) = w4 at hb Bh1 ⊢
   clear hgw_ e_
   replace BK := zA_ (blk_below BK.out hb); replace Bh2 := zA_ (blk_below Bh2.out hb); replace HB := zA_ (below_step HB.out hb)
   clear hb
   refine hK.out _ _ ⟨(blk_cell BK.out 0).trans rfl, (blk_cell BK.out 1).trans rfl⟩ (fun hHeld => ?_)
   clear hK K
   refine zq_ (some 13) (h := ?_)
   exact zj_ (hCont (h1, h2) _ ⟨hHeld, Bh1.out, Bh2.out, BK.out, HB.out⟩)
  skip
  refine value_ (w1 := w1.alloc (.cells #[.int .i64 1] 3)) (v := .slice (some ⟨w1.heap.size, 0, none⟩) 1 1) (by rfl) rfl ?_ ?_
  · first | (go_simp; done) | (go_simp; rfl)
  have hb := (Below.refl w1.heap.size w1).alloc (Nat.le_refl _) (.cells #[.int .i64 1] 3)
  have Bh2 := zA_ (heap_alloc_new w1 (.cells #[.int .i64 1] 3))
  obtain ⟨h2, e_⟩ : ∃ h2, h2 = w1.heap.size := ⟨_, rfl⟩
  rw [← e_] at Bh2 ⊢
  generalize hgw_ : w1.alloc (.cells #[.int .i64 1] 3) = w2 at hb Bh2 ⊢
  clear hgw_ e_
  replace BK := zA_ (blk_below BK.out hb); replace HB := zA_ (below_step HB.out hb)
  clear hb
  refine hK.out _ _ ⟨(blk_cell BK.out 0).trans rfl, (blk_cell BK.out 1).trans rfl⟩ (fun hHeld => ?_)
  clear hK K
  refine zq_ (some 16) (h := ?_)
  refine yo_ 3 (some 12) (fun K hK => ?_)
  refine yg_ Tryz.func241 #[.slice A 1 c] ?_
  refine (model_product.calls 100 A c [1] 1 _ (Kd.C_below HC.out HB.out) hc (by decide +kernel)).mono ?_
  rintro e w3 ⟨rfl, hd⟩
  have hb := below_dr hd
  replace BK := zA_ (blk_below BK.out hb); replace Bh2 := zA_ (blk_below Bh2.out hb); replace HB := zA_ (below_step HB.out hb)
  clear hb hd
  refine ⟨_, rfl, ?_⟩
  refine hK.out _ _ ⟨(blk_cell BK.out 0).trans rfl, (blk_cell BK.out 1).trans rfl⟩ (fun hHeld => ?_)
  clear hK K
  refine zq_ (some 12) (h := ?_)
  refine yo_ 4 (some 13) (fun K hK => ?_)
  refine value_ (w1 := w3.alloc (.cells #[.int .i64 1, .int .i64 1] 3)) (v := .slice (some ⟨w3.heap.size, 0, none⟩) 2 2) (by rfl) rfl ?_ ?_
  · first | (go_simp; done) | (go_simp; rfl)
  have hb := (Below.refl w3.heap.size w3).alloc (Nat.le_refl _) (.cells #[.int .i64 1, .int .i64 1] 3)
  have Bh1 := zA_ (heap_alloc_new w3 (.cells #[.int .i64 1, .int .i64 1] 3))
  obtain ⟨h1, e_⟩ : ∃ h1, h1 = w3.heap.size := ⟨_, rfl⟩
  rw [← e_] at Bh1 ⊢
  generalize hgw_ : w3.alloc (.cells #[.int .i64 1, .int .i64 1] 3) = w4 at hb Bh1 ⊢
  clear hgw_ e_
  replace BK := zA_ (blk_below BK.out hb); replace Bh2 := zA_ (blk_below Bh2.out hb); replace HB := zA_ (below_step HB.out hb)
  clear hb
  refine hK.out _ _ ⟨(blk_cell BK.out 0).trans rfl, (blk_cell BK.out 1).trans rfl⟩ (fun hHeld => ?_)
  clear hK K
  refine zq_ (some 13) (h := ?_)
  exact zj_ (hCont (h1, h2) _ ⟨hHeld, Bh1.out, Bh2.out, BK.out, HB.out⟩)
 rintro ⟨h1, h2⟩ w6 ⟨hHeld, b1, b2, bk, hb⟩
 simp only at b1 b2
 have Bh1 := zA_ b1
 have Bh2 := zA_ b2
 replace BK := zA_ bk
 replace HB := zA_ hb
 clear b1 b2 bk hb
 refine zi_ (h := ?_)
 refine yo_ 8 (some 17) (fun K hK => ?_)
 refine value_ (w1 := w6.alloc (.cells #[.slice (some ⟨h1, 0, none⟩) 2 2, .slice (some ⟨h2, 0, none⟩) 1 1] 32)) (v := .slice (some ⟨w6.heap.size, 0, none⟩) 2 2) (by rfl) rfl ?_ ?_
 · first | (go_simp; done) | (go_simp; rfl)
 have hb := (Below.refl w6.heap.size w6).alloc (Nat.le_refl _) (.cells #[.slice (some ⟨h1, 0, none⟩) 2 2, .slice (some ⟨h2, 0, none⟩) 1 1] 32)
 have Bho := zA_ (heap_alloc_new w6 (.cells #[.slice (some ⟨h1, 0, none⟩) 2 2, .slice (some ⟨h2, 0, none⟩) 1 1] 32))
 replace Bh1 := zA_ (blk_below Bh1.out hb)
 replace Bh2 := zA_ (blk_below Bh2.out hb)
 replace BK := zA_ (blk_below BK.out hb)
 replace HB := zA_ (below_step HB.out hb)
 clear hb
 refine hK.out _ _ ⟨(blk_cell BK.out 0).trans rfl, (blk_cell BK.out 1).trans rfl⟩ (fun hHeld => ?_)
 clear hK K
 refine zq_ (some 17) (h := ?_)
 refine yp_ ?_ 9 4
 refine done_ (done_of HT_.out (by kernel_rfl)) ?_
 go_wp2
 go_ret
 exact ⟨h1, h2, _, rfl, Bh1.out, Bh2.out, Bho.out, HB.out⟩
theorem work_others (own a b : Int) (hc : (own = 0 ∧ a = 1 ∧ b = 2) ∨ (own = 1 ∧ a = 0 ∧ b = 2) ∨ (own = 2 ∧ a = 0 ∧ b = 1)) (k : Nat) (cs : Array Value) (A : Option Addr) (c : Nat) (w : World) (hk : w.heap[k]? = some (.cells cs 155 (0, 0))) (h9 : cs[9]? = some (.int .i64 own)) (h17 : cs[17]? = some (.slice A 3 c)) (hr : RM w A c) :
  Calls Tryz.prog 114 #[.pointer (some ⟨k, 0, none⟩)] w fun e w' => ∃ g c1, e = .returned (.slice (some ⟨g, 0, none⟩) 2 c1) ∧ w.heap.size ≤ g ∧ w'.cell? ⟨g, 0, none⟩ = some (.int .i64 a) ∧ w'.cell? ⟨g, 1, none⟩ = some (.int .i64 b) ∧ Below w.heap.size w w' := by
  rcases hc with h | h | h <;> obtain ⟨rfl, rfl, rfl⟩ := h
  · exact work_others0 k cs A c w hk h9 h17 hr
  · exact work_others1 k cs A c w hk h9 h17 hr
  · exact work_others2 k cs A c w hk h9 h17 hr
theorem work_install3 (own a b : Int) (hc : (own = 0 ∧ a = 1 ∧ b = 2) ∨ (own = 1 ∧ a = 0 ∧ b = 2) ∨ (own = 2 ∧ a = 0 ∧ b = 1)) (k m : Nat) (v0 v1 v2 v3 v4 v5 v6 v7 v8 v10 v12 v13 : Value) (w : World) (hk : w.heap[k]? = some (.cells #[v0, v1, v2, v3, v4, v5, v6, v7, v8, .int .i64 own, v10, .int .i64 0, v12, v13, .int .i64 0, .pointer (some ⟨m, 0, none⟩), .int .u32 0, .slice none 0 0, .pointer none, .map none, .map none, .map none, .slice none 0 0, .slice none 0 0, .slice none 0 0] 155 (0, 0))) (hm : MB w m own) :
  Calls Tryz.prog 63 #[.pointer (some ⟨k, 0, none⟩)] w fun e w' => e = .returned (.tuple #[]) ∧ (∃ cs, w'.heap[k]? = some (.cells cs 155 (0, 0)) ∧ cs[14]? = some (.int .i64 0)) ∧ KP (fun q => q = k) w w' := by
 have BK := zA_ hk
 have HC := zA_ hc
 have HM := zA_ hm
 have KK := zA_ (KP.refl (fun q => q = k) w)
 have hz15 := (blk_cell hk 15).trans rfl
 clear hk hm hc
 go_enter Tryz.func63, Tryz.ntmps63
 go_wp2_with (first | (go_at_call 112; refine (member_Current m own _ HM.out).mono ?_; rintro e w1 ⟨A, c, rfl, hr, hb⟩; replace KK := zA_ (KK.out.trans (KP.of_below hb)); replace BK := zA_ (blk_below BK.out hb); have HR := zA_ hr; clear hb hr hz15; have hz16 := (blk_cell BK.out 16).trans rfl; have hz17 := (blk_cell BK.out 17).trans rfl; have hf16 := blk_frozen BK.out 16; have hf17 := blk_frozen BK.out 17))
 clear hz16 hf16 hz17 hf17
 refine wp_named (fun wn1 hw_ => ?_)
 have LK_ : KP (fun q => q = k) w1 wn1 := by rw [hw_]; (repeat (first | exact KP.refl _ _ | with_reducible refine KP.drewNc ?_ | with_reducible refine KP.drewc ?_ | with_reducible refine KP.allocc ?_ | with_reducible refine KP.setc ?_ rfl))
 have HR_ := zA_ (HR.out.kp LK_ (fun q_ hq_ => by subst hq_; exact RM.not BK.out (by decide)))
 have KK_ := zA_ (KK.out.trans (LK_))
 have BK_ : Aside0 (wn1.heap[k]? = some (.cells #[v0, v1, v2, v3, v4, v5, v6, v7, v8, .int .i64 own, v10, .int .i64 0, v12, v13, .int .i64 0, .pointer (some ⟨m, 0, none⟩), .int .u32 1, .slice A 3 c, .pointer none, .map none, .map none, .map none, .slice none 0 0, .slice none 0 0, .slice none 0 0] 155 (0, 0))) := ⟨by rw [hw_]; (repeat (first | exact BK.out | with_reducible refine blk_drewN ?_ _ | with_reducible refine blk_drew ?_ | with_reducible refine blk_alloc ?_ _ | apply blk_put)); all_goals rfl⟩
 clear hw_ LK_
 replace HR := HR_
 clear HR_
 replace BK := BK_
 clear BK_
 replace KK := KK_
 clear KK_
 clear HM
 refine start_ (n := 17) (S := fun w' => w'.cell? ⟨k, 9, none⟩ = some (.int .i64 own) ∧ w'.cell? ⟨k, 17, none⟩ = some (.slice A 3 c)) (ds := [16]) #[false, false, false, false, false, false, false, false, false, false, false, false, false, false, false, false, false] (by kernel_rfl) rfl rfl ⟨(blk_cell BK.out 9).trans rfl, (blk_cell BK.out 17).trans rfl⟩ (fun hHeld => ?_); refine with_tabW work_install.tab1 work_install.bits1 (fun HT_ HW_ => ?_)
 have LK_ : KP (fun q => q = k) wn1 wn1.drew := KP.drewc (KP.refl _ _)
 have HR_ := zA_ (HR.out.kp LK_ (fun q_ hq_ => by subst hq_; exact RM.not BK.out (by decide)))
 have KK_ := zA_ (KK.out.trans (LK_))
 have BK_ : Aside0 (wn1.drew.heap[k]? = some (.cells #[v0, v1, v2, v3, v4, v5, v6, v7, v8, .int .i64 own, v10, .int .i64 0, v12, v13, .int .i64 0, .pointer (some ⟨m, 0, none⟩), .int .u32 1, .slice A 3 c, .pointer none, .map none, .map none, .map none, .slice none 0 0, .slice none 0 0, .slice none 0 0] 155 (0, 0))) := ⟨blk_drew BK.out⟩
 clear LK_
 replace HR := HR_
 clear HR_
 replace BK := BK_
 clear BK_
 replace KK := KK_
 clear KK_
 generalize wn1.drew = wn2 at HR BK KK hHeld ⊢
 refine yp_ ?_ 0 13
 refine yp_ ?_ 1 14
 refine yp_ ?_ 2 15
 refine yp_ ?_ 3 16
 refine yt2_ ?_ 4 17
 refine yp_ ?_ 5 18
 refine yp_ ?_ 6 19
 refine yp_ ?_ 7 20
 refine yp_ ?_ 8 21
 refine yt2_ ?_ 9 22
 refine yo_ 10 (some 23) (fun K hK => ?_)
 refine yg_ Tryz.func113 #[.int .i64 own, .slice A 3 c, .int .i64 3, .int .i64 30] ?_
 refine (beat_New A c own _ HR.out (by rcases HC.out with h_ | h_ | h_ <;> (obtain ⟨rfl, rfl, rfl⟩ := h_; decide))).mono ?_
 rintro e w2 ⟨gb, bm, rfl, hgb, hbm, hp, hb⟩
 have NE : Aside0 (gb ≠ k ∧ bm ≠ k ∧ w.heap.size ≤ gb ∧ w.heap.size ≤ bm) := ⟨by have := blk_lt BK.out; have := KK.out.1.size; omega⟩
 have LK_ : KP (fun q => q = k) wn2 w2 := KP.of_below hb
 have HR_ := zA_ (HR.out.kp LK_ (fun q_ hq_ => by subst hq_; exact RM.not BK.out (by decide)))
 have KK_ := zA_ (KK.out.trans (LK_))
 have BK_ := zA_ (blk_below BK.out hb)
 clear LK_ hb
 replace HR := HR_
 clear HR_
 replace BK := BK_
 clear BK_
 replace KK := KK_
 clear KK_
 have HP := zA_ hp
 clear hp hgb hbm
 refine ⟨_, rfl, ?_⟩
 refine hK.out _ _ ⟨(blk_cell BK.out 9).trans rfl, (blk_cell BK.out 17).trans rfl⟩ (fun hHeld => ?_)
 clear hK K
 refine zq_ (some 23) (h := ?_)
 refine yp_ ?_ 11 12
 refine yp_ ?_ 12 24
 refine yp_ ?_ 13 25
 refine yp_ ?_ 14 26
 refine yp_ ?_ 15 27
 refine yl_ 16 none (fun K hK => ?_)
 have hs_ := (blk_cell BK.out 18).trans rfl
 have hfs_ := blk_frozen BK.out 18
 refine skip_ (w1 := ?_) (by rfl) rfl ?_ ?_
 rotate_left
 · go_simp
   rfl
 refine hK.out _ _ ?_
 clear hK K hs_ hfs_
 refine done_ (done_of HT_.out (by kernel_rfl)) ?_
 refine exit_named (fun wn3 hw_ => ?_)
 have LK_ : KP (fun q => q = k) w2 wn3 := by rw [hw_]; (repeat (first | exact KP.refl _ _ | with_reducible refine KP.drewNc ?_ | with_reducible refine KP.drewc ?_ | with_reducible refine KP.allocc ?_ | with_reducible refine KP.setc ?_ rfl))
 have HR_ := zA_ (HR.out.kp LK_ (fun q_ hq_ => by subst hq_; exact RM.not BK.out (by decide)))
 have HP_ := zA_ (HP.out.kp LK_ (by have ne_ := NE.out; intro h_; first | omega | (rcases h_ with h_ | h_ <;> omega)) (by have ne_ := NE.out; intro h_; first | omega | (rcases h_ with h_ | h_ <;> omega)) (fun q_ hq_ => by subst hq_; exact RM.not BK.out (by decide)))
 have KK_ := zA_ (KK.out.trans (LK_))
 have BK_ : Aside0 (wn3.heap[k]? = some (.cells #[v0, v1, v2, v3, v4, v5, v6, v7, v8, .int .i64 own, v10, .int .i64 0, v12, v13, .int .i64 0, .pointer (some ⟨m, 0, none⟩), .int .u32 1, .slice A 3 c, .pointer (some ⟨gb, 0, none⟩), .map none, .map none, .map none, .slice none 0 0, .slice none 0 0, .slice none 0 0] 155 (0, 0))) := ⟨by rw [hw_]; (repeat (first | exact BK.out | with_reducible refine blk_drewN ?_ _ | with_reducible refine blk_drew ?_ | with_reducible refine blk_alloc ?_ _ | apply blk_put)); all_goals rfl⟩
 clear hw_ LK_
 replace HR := HR_
 clear HR_
 replace HP := HP_
 clear HP_
 replace BK := BK_
 clear BK_
 replace KK := KK_
 clear KK_
 have hz19 : ∀ o1 o2, ((wn3.alloc o1).alloc o2).cell? ⟨k, 19, none⟩ = some (.map none) := fun o1 o2 => (blk_cell (blk_alloc (blk_alloc BK.out o1) o2) 19).trans rfl
 have hf19 : ∀ o1 o2, ((wn3.alloc o1).alloc o2).frozen? ⟨k, 19, none⟩ = false := fun o1 o2 => blk_frozen (blk_alloc (blk_alloc BK.out o1) o2) 19
 have hz20 : ∀ o1 o2, ((wn3.alloc o1).alloc o2).cell? ⟨k, 20, none⟩ = some (.map none) := fun o1 o2 => (blk_cell (blk_alloc (blk_alloc BK.out o1) o2) 20).trans rfl
 have hf20 : ∀ o1 o2, ((wn3.alloc o1).alloc o2).frozen? ⟨k, 20, none⟩ = false := fun o1 o2 => blk_frozen (blk_alloc (blk_alloc BK.out o1) o2) 20
 have hmm := @run_makeMap Tryz.prog
 go_wp2_with (first | fail)
 clear hz19 hf19 hz20 hf20
 obtain ⟨ml, hml⟩ : ∃ ml, ml = wn3.heap.size := ⟨_, rfl⟩
 obtain ⟨la, hla⟩ : ∃ la, la = wn3.heap.size + 1 := ⟨_, rfl⟩
 rw [← hla, ← hml]
 have NE_ : Aside0 (gb ≠ k ∧ bm ≠ k ∧ ml ≠ k ∧ la ≠ k ∧ ml ≠ gb ∧ ml ≠ bm ∧ la ≠ gb ∧ la ≠ bm ∧ la ≠ ml ∧ gb ≠ bm ∧ w.heap.size ≤ gb ∧ w.heap.size ≤ bm ∧ w.heap.size ≤ ml ∧ w.heap.size ≤ la) := ⟨by have := NE.out; have := HP.out.lt; have := blk_lt BK.out; have := KK.out.1.size; omega⟩
 replace NE := NE_
 clear NE_
 have HL0 : Aside0 (∀ o1 o2, o1 = Obj.map #[] 0 → o2 = Obj.map #[] 0 → WM ((wn3.alloc o1).alloc o2) ml 0 (fun _ => True) ∧ LM ((wn3.alloc o1).alloc o2) la 0 []) := ⟨by rintro o1 o2 rfl rfl; exact ⟨(by rw [hml]; exact (WM.made _ _).below (below_alloc (Below.refl _ _) _)), (by rw [hla, ← size2 wn3 (Obj.map #[] 0)]; exact LM.made _)⟩⟩
 clear hml hla
 refine wp_named (fun wn4 hw_ => ?_)
 have LK_ : KP (fun q => q = k) wn3 wn4 := by rw [hw_]; (repeat (first | exact KP.refl _ _ | with_reducible refine KP.drewNc ?_ | with_reducible refine KP.drewc ?_ | with_reducible refine KP.allocc ?_ | with_reducible refine KP.setc ?_ rfl))
 have HR_ := zA_ (HR.out.kp LK_ (fun q_ hq_ => by subst hq_; exact RM.not BK.out (by decide)))
 have HP_ := zA_ (HP.out.kp LK_ (by have ne_ := NE.out; intro h_; first | omega | (rcases h_ with h_ | h_ <;> omega)) (by have ne_ := NE.out; intro h_; first | omega | (rcases h_ with h_ | h_ <;> omega)) (fun q_ hq_ => by subst hq_; exact RM.not BK.out (by decide)))
 have KK_ := zA_ (KK.out.trans (LK_))
 have BK_ : Aside0 (wn4.heap[k]? = some (.cells #[v0, v1, v2, v3, v4, v5, v6, v7, v8, .int .i64 own, v10, .int .i64 0, v12, v13, .int .i64 0, .pointer (some ⟨m, 0, none⟩), .int .u32 1, .slice A 3 c, .pointer (some ⟨gb, 0, none⟩), .map (some ml), .map (some la), .map none, .slice none 0 0, .slice none 0 0, .slice none 0 0] 155 (0, 0))) := ⟨by rw [hw_]; (repeat (first | exact BK.out | with_reducible refine blk_drewN ?_ _ | with_reducible refine blk_drew ?_ | with_reducible refine blk_alloc ?_ _ | apply blk_put)); all_goals rfl⟩
 have HL := zA_ (show WM wn4 ml 0 (fun _ => True) from by rw [hw_]; exact (HL0.out _ _ rfl rfl).1.kp (S := fun q => q = k) (KP.setc (KP.setc (KP.refl _ _) rfl) rfl) (by have ne_ := NE.out; intro h_; omega))
 have HA := zA_ (show LM wn4 la 0 [] from by rw [hw_]; exact (HL0.out _ _ rfl rfl).2.kp (S := fun q => q = k) (KP.setc (KP.setc (KP.refl _ _) rfl) rfl) (by have ne_ := NE.out; intro h_; omega))
 clear HL0
 clear hw_ LK_
 replace HR := HR_
 clear HR_
 replace HP := HP_
 clear HP_
 replace BK := BK_
 clear BK_
 replace KK := KK_
 clear KK_
 refine start_ (n := 15) (S := fun w' => w'.cell? ⟨k, 9, none⟩ = some (.int .i64 own) ∧ w'.cell? ⟨k, 14, none⟩ = some (.int .i64 0)) (ds := [14]) #[false, false, false, false, false, false, false, false, false, false, false, false, false, false, false] (by kernel_rfl) rfl rfl ⟨(blk_cell BK.out 9).trans rfl, (blk_cell BK.out 14).trans rfl⟩ (fun hHeld => ?_); refine with_tabW work_install.tab3 work_install.bits3 (fun HT_ HW_ => ?_)
 have LK_ : KP (fun q => q = k) wn4 wn4.drew := KP.drewc (KP.refl _ _)
 have HR_ := zA_ (HR.out.kp LK_ (fun q_ hq_ => by subst hq_; exact RM.not BK.out (by decide)))
 have HP_ := zA_ (HP.out.kp LK_ (by have ne_ := NE.out; intro h_; first | omega | (rcases h_ with h_ | h_ <;> omega)) (by have ne_ := NE.out; intro h_; first | omega | (rcases h_ with h_ | h_ <;> omega)) (fun q_ hq_ => by subst hq_; exact RM.not BK.out (by decide)))
 have HL_ := zA_ (HL.out.kp LK_ (by have ne_ := NE.out; intro h_; first | omega | (rcases h_ with h_ | h_ <;> omega)))
 have HA_ := zA_ (HA.out.kp LK_ (by have ne_ := NE.out; intro h_; first | omega | (rcases h_ with h_ | h_ <;> omega)))
 have KK_ := zA_ (KK.out.trans (LK_))
 have BK_ : Aside0 (wn4.drew.heap[k]? = some (.cells #[v0, v1, v2, v3, v4, v5, v6, v7, v8, .int .i64 own, v10, .int .i64 0, v12, v13, .int .i64 0, .pointer (some ⟨m, 0, none⟩), .int .u32 1, .slice A 3 c, .pointer (some ⟨gb, 0, none⟩), .map (some ml), .map (some la), .map none, .slice none 0 0, .slice none 0 0, .slice none 0 0] 155 (0, 0))) := ⟨blk_drew BK.out⟩
 clear LK_
 replace HR := HR_
 clear HR_
 replace HP := HP_
 clear HP_
 replace HL := HL_
 clear HL_
 replace HA := HA_
 clear HA_
 replace BK := BK_
 clear BK_
 replace KK := KK_
 clear KK_
 generalize wn4.drew = wn5 at HR HP HL HA BK KK hHeld ⊢
 refine yp_ ?_ 0 36
 refine yp_ ?_ 2 38
 refine yp_ ?_ 3 39
 refine yp_ ?_ 4 40
 refine yp_ ?_ 6 42
 refine yp_ ?_ 7 43
 refine yp_ ?_ 8 44
 refine yt2_ ?_ 5 41
 refine yt2_ ?_ 9 45
 refine yo_ 1 (some 37) (fun K hK => ?_)
 refine value_ (w1 := wn5.alloc (.map #[] 0)) (v := .map (some wn5.heap.size)) (by rfl) rfl ?_ ?_
 · have hmm := @run_makeMap Tryz.prog
   go_simp
 have hb := (Below.refl wn5.heap.size wn5).alloc (Nat.le_refl _) (.map #[] 0)
 have HH := zA_ (WM.made wn5 (fun _ => True))
 have NE_ : Aside0 (gb ≠ k ∧ bm ≠ k ∧ ml ≠ k ∧ la ≠ k ∧ ml ≠ gb ∧ ml ≠ bm ∧ la ≠ gb ∧ la ≠ bm ∧ la ≠ ml ∧ gb ≠ bm ∧ w.heap.size ≤ gb ∧ w.heap.size ≤ bm ∧ w.heap.size ≤ ml ∧ w.heap.size ≤ la ∧ w.heap.size ≤ wn5.heap.size ∧ wn5.heap.size ≠ k ∧ wn5.heap.size ≠ gb ∧ wn5.heap.size ≠ bm ∧ wn5.heap.size ≠ ml ∧ wn5.heap.size ≠ la) := ⟨by have := NE.out; have := HP.out.lt; have := blk_lt BK.out; have := HL.out.lt; have := HA.out.lt; have := KK.out.1.size; omega⟩
 replace NE := NE_
 clear NE_
 generalize wn5.heap.size = mh at HH NE ⊢
 generalize hgw_ : wn5.alloc (.map #[] 0) = w3 at hb HH ⊢
 clear hgw_
 have LK_ : KP (fun q => q = k) wn5 w3 := KP.of_below hb
 have HR_ := zA_ (HR.out.kp LK_ (fun q_ hq_ => by subst hq_; exact RM.not BK.out (by decide)))
 have HP_ := zA_ (HP.out.kp LK_ (by have ne_ := NE.out; intro h_; first | omega | (rcases h_ with h_ | h_ <;> omega)) (by have ne_ := NE.out; intro h_; first | omega | (rcases h_ with h_ | h_ <;> omega)) (fun q_ hq_ => by subst hq_; exact RM.not BK.out (by decide)))
 have HL_ := zA_ (HL.out.kp LK_ (by have ne_ := NE.out; intro h_; first | omega | (rcases h_ with h_ | h_ <;> omega)))
 have HA_ := zA_ (HA.out.kp LK_ (by have ne_ := NE.out; intro h_; first | omega | (rcases h_ with h_ | h_ <;> omega)))
 have KK_ := zA_ (KK.out.trans (LK_))
 have BK_ := zA_ (blk_below BK.out hb)
 clear LK_ hb
 replace HR := HR_
 clear HR_
 replace HP := HP_
 clear HP_
 replace HL := HL_
 clear HL_
 replace HA := HA_
 clear HA_
 replace BK := BK_
 clear BK_
 replace KK := KK_
 clear KK_
 refine hK.out _ _ ⟨(blk_cell BK.out 9).trans rfl, (blk_cell BK.out 14).trans rfl⟩ (fun hHeld => ?_)
 clear hK K
 refine zq_ (some 37) (h := ?_)
 refine yo_ 10 none (fun K hK => ?_)
 obtain ⟨w4, hrun, hm4, hg4⟩ := HH.out.putr (t := 151) (e := 2) Tryz.underlying151 (by decide) own (by rcases HC.out with h_ | h_ | h_ <;> (obtain ⟨rfl, rfl, rfl⟩ := h_; decide)) (.int .i64 0) trivial
 refine skip_ (w1 := w4) (by rfl) rfl ?_ ?_
 · go_simp
 have LK_ : KP (fun q => q = mh) w3 w4 := KP.grown hg4 rfl
 have HR_ := zA_ (HR.out.kp LK_ (fun q_ hq_ => by subst hq_; exact RM.notmap HH.out))
 have HP_ := zA_ (HP.out.kp LK_ (by have ne_ := NE.out; intro h_; first | omega | (rcases h_ with h_ | h_ <;> omega)) (by have ne_ := NE.out; intro h_; first | omega | (rcases h_ with h_ | h_ <;> omega)) (fun q_ hq_ => by subst hq_; exact RM.notmap HH.out))
 have HL_ := zA_ (HL.out.kp LK_ (by have ne_ := NE.out; intro h_; first | omega | (rcases h_ with h_ | h_ <;> omega)))
 have HA_ := zA_ (HA.out.kp LK_ (by have ne_ := NE.out; intro h_; first | omega | (rcases h_ with h_ | h_ <;> omega)))
 have BK_ := zA_ (KP.blk LK_ BK.out (by have ne_ := NE.out; intro h_; first | omega | (rcases h_ with h_ | h_ <;> omega)))
 have KK_ := zA_ (KK.out.trans_new LK_ (by have ne_ := NE.out; intro q_ h_; first | omega | (rcases h_ with h_ | h_ <;> omega)))
 clear LK_ hrun hm4 hg4 HH
 replace HR := HR_
 clear HR_
 replace HP := HP_
 clear HP_
 replace HL := HL_
 clear HL_
 replace HA := HA_
 clear HA_
 replace BK := BK_
 clear BK_
 replace KK := KK_
 clear KK_
 refine hK.out _ _ ⟨(blk_cell BK.out 9).trans rfl, (blk_cell BK.out 14).trans rfl⟩ (fun hHeld => ?_)
 clear hK K
 refine yp_ ?_ 11 46
 refine yp_ ?_ 12 47
 refine yp_ ?_ 13 48
 refine yl_ 14 none (fun K hK => ?_)
 have hs_ := (blk_cell BK.out 21).trans rfl
 have hfs_ := blk_frozen BK.out 21
 refine skip_ (w1 := ?_) (by rfl) rfl ?_ ?_
 rotate_left
 · go_simp
   rfl
 refine hK.out _ _ ?_
 clear hK K hs_ hfs_
 refine done_ (done_of HT_.out (by kernel_rfl)) ?_
 refine exit_named (fun wn6 hw_ => ?_)
 have LK_ : KP (fun q => q = k) w4 wn6 := by rw [hw_]; (repeat (first | exact KP.refl _ _ | with_reducible refine KP.drewNc ?_ | with_reducible refine KP.drewc ?_ | with_reducible refine KP.allocc ?_ | with_reducible refine KP.setc ?_ rfl))
 have HR_ := zA_ (HR.out.kp LK_ (fun q_ hq_ => by subst hq_; exact RM.not BK.out (by decide)))
 have HP_ := zA_ (HP.out.kp LK_ (by have ne_ := NE.out; intro h_; first | omega | (rcases h_ with h_ | h_ <;> omega)) (by have ne_ := NE.out; intro h_; first | omega | (rcases h_ with h_ | h_ <;> omega)) (fun q_ hq_ => by subst hq_; exact RM.not BK.out (by decide)))
 have HL_ := zA_ (HL.out.kp LK_ (by have ne_ := NE.out; intro h_; first | omega | (rcases h_ with h_ | h_ <;> omega)))
 have HA_ := zA_ (HA.out.kp LK_ (by have ne_ := NE.out; intro h_; first | omega | (rcases h_ with h_ | h_ <;> omega)))
 have KK_ := zA_ (KK.out.trans (LK_))
 have BK_ : Aside0 (wn6.heap[k]? = some (.cells #[v0, v1, v2, v3, v4, v5, v6, v7, v8, .int .i64 own, v10, .int .i64 0, v12, v13, .int .i64 0, .pointer (some ⟨m, 0, none⟩), .int .u32 1, .slice A 3 c, .pointer (some ⟨gb, 0, none⟩), .map (some ml), .map (some la), .map (some mh), .slice none 0 0, .slice none 0 0, .slice none 0 0] 155 (0, 0))) := ⟨by rw [hw_]; (repeat (first | exact BK.out | with_reducible refine blk_drewN ?_ _ | with_reducible refine blk_drew ?_ | with_reducible refine blk_alloc ?_ _ | apply blk_put)); all_goals rfl⟩
 clear hw_ LK_
 replace HR := HR_
 clear HR_
 replace HP := HP_
 clear HP_
 replace HL := HL_
 clear HL_
 replace HA := HA_
 clear HA_
 replace BK := BK_
 clear BK_
 replace KK := KK_
 clear KK_
 have hz22 := (blk_cell BK.out 22).trans rfl
 have hf22 := blk_frozen BK.out 22
 have hz23 := (blk_cell BK.out 23).trans rfl
 have hf23 := blk_frozen BK.out 23
 have hz24 := (blk_cell BK.out 24).trans rfl
 have hf24 := blk_frozen BK.out 24
 go_wp2_with (first | fail)
 clear hz22 hf22 hz23 hf23 hz24 hf24
 refine calls_named (fun wn7 hw_ => ?_)
 have LK_ : KP (fun q => q = k) wn6 wn7 := by rw [hw_]; (repeat (first | exact KP.refl _ _ | with_reducible refine KP.drewNc ?_ | with_reducible refine KP.drewc ?_ | with_reducible refine KP.allocc ?_ | with_reducible refine KP.setc ?_ rfl))
 have HR_ := zA_ (HR.out.kp LK_ (fun q_ hq_ => by subst hq_; exact RM.not BK.out (by decide)))
 have HP_ := zA_ (HP.out.kp LK_ (by have ne_ := NE.out; intro h_; first | omega | (rcases h_ with h_ | h_ <;> omega)) (by have ne_ := NE.out; intro h_; first | omega | (rcases h_ with h_ | h_ <;> omega)) (fun q_ hq_ => by subst hq_; exact RM.not BK.out (by decide)))
 have HL_ := zA_ (HL.out.kp LK_ (by have ne_ := NE.out; intro h_; first | omega | (rcases h_ with h_ | h_ <;> omega)))
 have HA_ := zA_ (HA.out.kp LK_ (by have ne_ := NE.out; intro h_; first | omega | (rcases h_ with h_ | h_ <;> omega)))
 have KK_ := zA_ (KK.out.trans (LK_))
 have BK_ : Aside0 (wn7.heap[k]? = some (.cells #[v0, v1, v2, v3, v4, v5, v6, v7, v8, .int .i64 own, v10, .int .i64 0, v12, v13, .int .i64 0, .pointer (some ⟨m, 0, none⟩), .int .u32 1, .slice A 3 c, .pointer (some ⟨gb, 0, none⟩), .map (some ml), .map (some la), .map (some mh), .slice none 0 0, .slice none 0 0, .slice none 0 0] 155 (0, 0))) := ⟨by rw [hw_]; (repeat (first | exact BK.out | with_reducible refine blk_drewN ?_ _ | with_reducible refine blk_drew ?_ | with_reducible refine blk_alloc ?_ _ | apply blk_put)); all_goals rfl⟩
 clear hw_ LK_
 replace HR := HR_
 clear HR_
 replace HP := HP_
 clear HP_
 replace HL := HL_
 clear HL_
 replace HA := HA_
 clear HA_
 replace BK := BK_
 clear BK_
 replace KK := KK_
 clear KK_
 refine (work_others own a b HC.out k _ A c _ BK.out rfl rfl HR.out).mono ?_
 rintro e w5 ⟨go, co, rfl, hgo, o0, o1, hb⟩
 have NE_ : Aside0 (gb ≠ k ∧ bm ≠ k ∧ ml ≠ k ∧ la ≠ k ∧ ml ≠ gb ∧ ml ≠ bm ∧ la ≠ gb ∧ la ≠ bm ∧ la ≠ ml ∧ gb ≠ bm ∧ w.heap.size ≤ gb ∧ w.heap.size ≤ bm ∧ w.heap.size ≤ ml ∧ w.heap.size ≤ la ∧ go ≠ k ∧ go ≠ gb ∧ go ≠ bm ∧ go ≠ ml ∧ go ≠ la) := ⟨by have := NE.out; have := HP.out.lt; have := blk_lt BK.out; have := HL.out.lt; have := HA.out.lt; omega⟩
 replace NE := NE_
 clear NE_
 have LK_ : KP (fun q => q = k) wn7 w5 := KP.of_below hb
 have HR_ := zA_ (HR.out.kp LK_ (fun q_ hq_ => by subst hq_; exact RM.not BK.out (by decide)))
 have HP_ := zA_ (HP.out.kp LK_ (by have ne_ := NE.out; intro h_; first | omega | (rcases h_ with h_ | h_ <;> omega)) (by have ne_ := NE.out; intro h_; first | omega | (rcases h_ with h_ | h_ <;> omega)) (fun q_ hq_ => by subst hq_; exact RM.not BK.out (by decide)))
 have HL_ := zA_ (HL.out.kp LK_ (by have ne_ := NE.out; intro h_; first | omega | (rcases h_ with h_ | h_ <;> omega)))
 have HA_ := zA_ (HA.out.kp LK_ (by have ne_ := NE.out; intro h_; first | omega | (rcases h_ with h_ | h_ <;> omega)))
 have KK_ := zA_ (KK.out.trans (LK_))
 have BK_ := zA_ (blk_below BK.out hb)
 clear LK_ hb
 replace HR := HR_
 clear HR_
 replace HP := HP_
 clear HP_
 replace HL := HL_
 clear HL_
 replace HA := HA_
 clear HA_
 replace BK := BK_
 clear BK_
 replace KK := KK_
 clear KK_
 have HO0 := zA_ o0
 have HO1 := zA_ o1
 clear o0 o1 hgo
 go_wp2_with (first | fail)
 refine wp_loop_rounds 3 ?_
 rw [rounds_succ]
 have ho_ := HO0.out
 go_wp2_with (first | fail)
 clear ho_
 refine start_ (n := 20) (S := fun w' => w'.cell? ⟨k, 19, none⟩ = some (.map (some ml)) ∧ w'.cell? ⟨k, 9, none⟩ = some (.int .i64 own) ∧ w'.cell? ⟨k, 16, none⟩ = some (.int .u32 1)) (ds := [19]) #[false, false, false, false, false, false, false, false, false, false, false, false, false, false, false, false, false, false, false, false] (by kernel_rfl) rfl rfl ⟨(blk_cell BK.out 19).trans rfl, (blk_cell BK.out 9).trans rfl, (blk_cell BK.out 16).trans rfl⟩ (fun hHeld => ?_); refine with_tabW work_install.tab8 work_install.bits8 (fun HT_ HW_ => ?_)
 have LK_ : KP (fun q => q = k) w5 w5.drew := KP.drewc (KP.refl _ _)
 have HR_ := zA_ (HR.out.kp LK_ (fun q_ hq_ => by subst hq_; exact RM.not BK.out (by decide)))
 have HP_ := zA_ (HP.out.kp LK_ (by have ne_ := NE.out; intro h_; first | omega | (rcases h_ with h_ | h_ <;> omega)) (by have ne_ := NE.out; intro h_; first | omega | (rcases h_ with h_ | h_ <;> omega)) (fun q_ hq_ => by subst hq_; exact RM.not BK.out (by decide)))
 have HL_ := zA_ (HL.out.kp LK_ (by have ne_ := NE.out; intro h_; first | omega | (rcases h_ with h_ | h_ <;> omega)))
 have HA_ := zA_ (HA.out.kp LK_ (by have ne_ := NE.out; intro h_; first | omega | (rcases h_ with h_ | h_ <;> omega)))
 have HO0_ := zA_ (KP.cell LK_ HO0.out (fun h_ => by have ne_ := NE.out; have h2_ : go = k := h_; omega))
 have HO1_ := zA_ (KP.cell LK_ HO1.out (fun h_ => by have ne_ := NE.out; have h2_ : go = k := h_; omega))
 have KK_ := zA_ (KK.out.trans (LK_))
 have BK_ : Aside0 (w5.drew.heap[k]? = some (.cells #[v0, v1, v2, v3, v4, v5, v6, v7, v8, .int .i64 own, v10, .int .i64 0, v12, v13, .int .i64 0, .pointer (some ⟨m, 0, none⟩), .int .u32 1, .slice A 3 c, .pointer (some ⟨gb, 0, none⟩), .map (some ml), .map (some la), .map (some mh), .slice none 0 0, .slice none 0 0, .slice none 0 0] 155 (0, 0))) := ⟨blk_drew BK.out⟩
 clear LK_
 replace HR := HR_
 clear HR_
 replace HP := HP_
 clear HP_
 replace HL := HL_
 clear HL_
 replace HA := HA_
 clear HA_
 replace HO0 := HO0_
 clear HO0_
 replace HO1 := HO1_
 clear HO1_
 replace BK := BK_
 clear BK_
 replace KK := KK_
 clear KK_
 generalize w5.drew = wn8 at HR HP HL HA HO0 HO1 BK KK hHeld ⊢
 refine yp_ ?_ 0 66
 refine yp_ ?_ 1 67
 refine yp_ ?_ 2 68
 refine yp_ ?_ 4 70
 refine yp_ ?_ 5 71
 refine yp_ ?_ 6 72
 refine yp_ ?_ 7 73
 refine yp_ ?_ 9 75
 refine yp_ ?_ 10 76
 refine yp_ ?_ 11 77
 refine yp_ ?_ 12 78
 refine yp_ ?_ 13 79
 refine yt3_ ?_ 3 69
 refine yt3_ ?_ 8 74
 refine yt3_ ?_ 14 80
 refine yo_ 15 (some 81) (fun K hK => ?_)
 refine yg_ Tryz.func115 #[.int .i64 own, .int .i64 a, .int .u32 1] ?_
 refine (link_New own a _ (by rcases HC.out with h_ | h_ | h_ <;> (obtain ⟨rfl, rfl, rfl⟩ := h_; decide)) (by rcases HC.out with h_ | h_ | h_ <;> (obtain ⟨rfl, rfl, rfl⟩ := h_; decide)) (by rcases HC.out with h_ | h_ | h_ <;> (obtain ⟨rfl, rfl, rfl⟩ := h_; decide))).mono ?_
 rintro e w6 ⟨lv, rfl, hb⟩
 have LK_ : KP (fun q => q = k) wn8 w6 := KP.of_below hb
 have HR_ := zA_ (HR.out.kp LK_ (fun q_ hq_ => by subst hq_; exact RM.not BK.out (by decide)))
 have HP_ := zA_ (HP.out.kp LK_ (by have ne_ := NE.out; intro h_; first | omega | (rcases h_ with h_ | h_ <;> omega)) (by have ne_ := NE.out; intro h_; first | omega | (rcases h_ with h_ | h_ <;> omega)) (fun q_ hq_ => by subst hq_; exact RM.not BK.out (by decide)))
 have HL_ := zA_ (HL.out.kp LK_ (by have ne_ := NE.out; intro h_; first | omega | (rcases h_ with h_ | h_ <;> omega)))
 have HA_ := zA_ (HA.out.kp LK_ (by have ne_ := NE.out; intro h_; first | omega | (rcases h_ with h_ | h_ <;> omega)))
 have HO0_ := zA_ (KP.cell LK_ HO0.out (fun h_ => by have ne_ := NE.out; have h2_ : go = k := h_; omega))
 have HO1_ := zA_ (KP.cell LK_ HO1.out (fun h_ => by have ne_ := NE.out; have h2_ : go = k := h_; omega))
 have KK_ := zA_ (KK.out.trans (LK_))
 have BK_ := zA_ (blk_below BK.out hb)
 clear LK_ hb
 replace HR := HR_
 clear HR_
 replace HP := HP_
 clear HP_
 replace HL := HL_
 clear HL_
 replace HA := HA_
 clear HA_
 replace HO0 := HO0_
 clear HO0_
 replace HO1 := HO1_
 clear HO1_
 replace BK := BK_
 clear BK_
 replace KK := KK_
 clear KK_
 refine ⟨_, rfl, ?_⟩
 refine hK.out _ _ ⟨(blk_cell BK.out 19).trans rfl, (blk_cell BK.out 9).trans rfl, (blk_cell BK.out 16).trans rfl⟩ (fun hHeld => ?_)
 clear hK K
 refine zq_ (some 81) (h := ?_)
 refine yp_ ?_ 16 65
 refine yp_ ?_ 17 82
 refine yp_ ?_ 18 83
 refine yl_ 19 none (fun K hK => ?_)
 obtain ⟨w7, hrun, hm7, hg7⟩ := HL.out.putr (t := 149) (e := 212) Tryz.underlying149 (by decide) a (by rcases HC.out with h_ | h_ | h_ <;> (obtain ⟨rfl, rfl, rfl⟩ := h_; decide)) lv trivial
 refine skip_ (w1 := w7) (by rfl) rfl ?_ ?_
 · go_simp
 have LK_ : KP (fun q => q = ml) w6 w7 := KP.grown hg7 rfl
 have HR_ := zA_ (HR.out.kp LK_ (fun q_ hq_ => by subst hq_; exact RM.notmap HL.out))
 have HP_ := zA_ (HP.out.kp LK_ (by have ne_ := NE.out; intro h_; first | omega | (rcases h_ with h_ | h_ <;> omega)) (by have ne_ := NE.out; intro h_; first | omega | (rcases h_ with h_ | h_ <;> omega)) (fun q_ hq_ => by subst hq_; exact RM.notmap HL.out))
 have HA_ := zA_ (HA.out.kp LK_ (by have ne_ := NE.out; intro h_; first | omega | (rcases h_ with h_ | h_ <;> omega)))
 have HO0_ := zA_ (KP.cell LK_ HO0.out (fun h_ => by have ne_ := NE.out; have h2_ : go = ml := h_; omega))
 have HO1_ := zA_ (KP.cell LK_ HO1.out (fun h_ => by have ne_ := NE.out; have h2_ : go = ml := h_; omega))
 have BK_ := zA_ (KP.blk LK_ BK.out (by have ne_ := NE.out; intro h_; first | omega | (rcases h_ with h_ | h_ <;> omega)))
 have KK_ := zA_ (KK.out.trans_new LK_ (by have ne_ := NE.out; intro q_ h_; first | omega | (rcases h_ with h_ | h_ <;> omega)))
 have HL_ := zA_ hm7
 clear LK_ hrun hm7 hg7
 replace HR := HR_
 clear HR_
 replace HP := HP_
 clear HP_
 replace HL := HL_
 clear HL_
 replace HA := HA_
 clear HA_
 replace HO0 := HO0_
 clear HO0_
 replace HO1 := HO1_
 clear HO1_
 replace BK := BK_
 clear BK_
 replace KK := KK_
 clear KK_
 refine hK.out _ _ ?_
 clear hK K
 refine done_ (done_of HT_.out (by kernel_rfl)) ?_
 go_wp2_with (first | fail)
 refine start_ (n := 10) (S := fun w' => w'.cell? ⟨k, 18, none⟩ = some (.pointer (some ⟨gb, 0, none⟩)) ∧ w'.cell? ⟨k, 11, none⟩ = some (.int .i64 0)) (ds := []) #[false, false, false, false, false, false, false, false, false, false] (by kernel_rfl) rfl rfl ⟨(blk_cell BK.out 18).trans rfl, (blk_cell BK.out 11).trans rfl⟩ (fun hHeld => ?_); refine with_tabW work_install.tab9 work_install.bits9 (fun HT_ HW_ => ?_)
 have LK_ : KP (fun q => q = k) w7 w7.drew := KP.drewc (KP.refl _ _)
 have HR_ := zA_ (HR.out.kp LK_ (fun q_ hq_ => by subst hq_; exact RM.not BK.out (by decide)))
 have HP_ := zA_ (HP.out.kp LK_ (by have ne_ := NE.out; intro h_; first | omega | (rcases h_ with h_ | h_ <;> omega)) (by have ne_ := NE.out; intro h_; first | omega | (rcases h_ with h_ | h_ <;> omega)) (fun q_ hq_ => by subst hq_; exact RM.not BK.out (by decide)))
 have HL_ := zA_ (HL.out.kp LK_ (by have ne_ := NE.out; intro h_; first | omega | (rcases h_ with h_ | h_ <;> omega)))
 have HA_ := zA_ (HA.out.kp LK_ (by have ne_ := NE.out; intro h_; first | omega | (rcases h_ with h_ | h_ <;> omega)))
 have HO0_ := zA_ (KP.cell LK_ HO0.out (fun h_ => by have ne_ := NE.out; have h2_ : go = k := h_; omega))
 have HO1_ := zA_ (KP.cell LK_ HO1.out (fun h_ => by have ne_ := NE.out; have h2_ : go = k := h_; omega))
 have KK_ := zA_ (KK.out.trans (LK_))
 have BK_ : Aside0 (w7.drew.heap[k]? = some (.cells #[v0, v1, v2, v3, v4, v5, v6, v7, v8, .int .i64 own, v10, .int .i64 0, v12, v13, .int .i64 0, .pointer (some ⟨m, 0, none⟩), .int .u32 1, .slice A 3 c, .pointer (some ⟨gb, 0, none⟩), .map (some ml), .map (some la), .map (some mh), .slice none 0 0, .slice none 0 0, .slice none 0 0] 155 (0, 0))) := ⟨blk_drew BK.out⟩
 clear LK_
 replace HR := HR_
 clear HR_
 replace HP := HP_
 clear HP_
 replace HL := HL_
 clear HL_
 replace HA := HA_
 clear HA_
 replace HO0 := HO0_
 clear HO0_
 replace HO1 := HO1_
 clear HO1_
 replace BK := BK_
 clear BK_
 replace KK := KK_
 clear KK_
 generalize w7.drew = wn9 at HR HP HL HA HO0 HO1 BK KK hHeld ⊢
 refine yp_ ?_ 0 84
 refine yp_ ?_ 1 85
 refine yp_ ?_ 2 86
 refine yp_ ?_ 4 88
 refine yp_ ?_ 5 89
 refine yp_ ?_ 6 90
 refine yp_ ?_ 7 91
 refine yt2_ ?_ 3 87
 refine yt2_ ?_ 8 92
 refine yo_ 9 (some 93) (fun K hK => ?_)
 refine yg_ Tryz.func116 #[.pointer (some ⟨gb, 0, none⟩), .int .i64 a, .int .i64 0] ?_
 refine (beat_Heard gb bm own a _ 0 (by decide) HP.out (by rcases HC.out with h_ | h_ | h_ <;> (obtain ⟨rfl, rfl, rfl⟩ := h_; decide)) (by rcases HC.out with h_ | h_ | h_ <;> (obtain ⟨rfl, rfl, rfl⟩ := h_; decide))).mono ?_
 rintro e w8 ⟨rfl, hp8, LK_⟩
 have HR_ := zA_ (HR.out.kp LK_ HP.out.not3)
 have HL_ := zA_ (HL.out.kp LK_ (by have ne_ := NE.out; intro h_; first | omega | (rcases h_ with h_ | h_ <;> omega)))
 have HA_ := zA_ (HA.out.kp LK_ (by have ne_ := NE.out; intro h_; first | omega | (rcases h_ with h_ | h_ <;> omega)))
 have HO0_ := zA_ (KP.cell LK_ HO0.out (fun h_ => by have ne_ := NE.out; have h2_ : go = gb ∨ go = bm := h_; omega))
 have HO1_ := zA_ (KP.cell LK_ HO1.out (fun h_ => by have ne_ := NE.out; have h2_ : go = gb ∨ go = bm := h_; omega))
 have BK_ := zA_ (KP.blk LK_ BK.out (by have ne_ := NE.out; intro h_; first | omega | (rcases h_ with h_ | h_ <;> omega)))
 have KK_ := zA_ (KK.out.trans_new LK_ (by have ne_ := NE.out; intro q_ h_; first | omega | (rcases h_ with h_ | h_ <;> omega)))
 have HP_ := zA_ hp8
 clear LK_ hp8
 replace HR := HR_
 clear HR_
 replace HP := HP_
 clear HP_
 replace HL := HL_
 clear HL_
 replace HA := HA_
 clear HA_
 replace HO0 := HO0_
 clear HO0_
 replace HO1 := HO1_
 clear HO1_
 replace BK := BK_
 clear BK_
 replace KK := KK_
 clear KK_
 refine ⟨_, rfl, ?_⟩
 refine hK.out _ _ ⟨(blk_cell BK.out 18).trans rfl, (blk_cell BK.out 11).trans rfl⟩ (fun hHeld => ?_)
 clear hK K
 refine zq_ (some 93) (h := ?_)
 refine done_ (done_of HT_.out (by kernel_rfl)) ?_
 have hz14 := (blk_cell BK.out 14).trans rfl
 have hf14 := blk_frozen BK.out 14
 go_wp2_with (first | fail)
 clear hz14 hf14
 refine calls_named (fun wn10 hw_ => ?_)
 have LK_ : KP (fun q => q = k) w8 wn10 := by rw [hw_]; (repeat (first | exact KP.refl _ _ | with_reducible refine KP.drewNc ?_ | with_reducible refine KP.drewc ?_ | with_reducible refine KP.allocc ?_ | with_reducible refine KP.setc ?_ rfl))
 have HR_ := zA_ (HR.out.kp LK_ (fun q_ hq_ => by subst hq_; exact RM.not BK.out (by decide)))
 have HP_ := zA_ (HP.out.kp LK_ (by have ne_ := NE.out; intro h_; first | omega | (rcases h_ with h_ | h_ <;> omega)) (by have ne_ := NE.out; intro h_; first | omega | (rcases h_ with h_ | h_ <;> omega)) (fun q_ hq_ => by subst hq_; exact RM.not BK.out (by decide)))
 have HL_ := zA_ (HL.out.kp LK_ (by have ne_ := NE.out; intro h_; first | omega | (rcases h_ with h_ | h_ <;> omega)))
 have HA_ := zA_ (HA.out.kp LK_ (by have ne_ := NE.out; intro h_; first | omega | (rcases h_ with h_ | h_ <;> omega)))
 have HO0_ := zA_ (KP.cell LK_ HO0.out (fun h_ => by have ne_ := NE.out; have h2_ : go = k := h_; omega))
 have HO1_ := zA_ (KP.cell LK_ HO1.out (fun h_ => by have ne_ := NE.out; have h2_ : go = k := h_; omega))
 have KK_ := zA_ (KK.out.trans (LK_))
 have BK_ : Aside0 (wn10.heap[k]? = some (.cells #[v0, v1, v2, v3, v4, v5, v6, v7, v8, .int .i64 own, v10, .int .i64 0, v12, v13, .int .i64 0, .pointer (some ⟨m, 0, none⟩), .int .u32 1, .slice A 3 c, .pointer (some ⟨gb, 0, none⟩), .map (some ml), .map (some la), .map (some mh), .slice none 0 0, .slice none 0 0, .slice none 0 0] 155 (0, 0))) := ⟨by rw [hw_]; (repeat (first | exact BK.out | with_reducible refine blk_drewN ?_ _ | with_reducible refine blk_drew ?_ | with_reducible refine blk_alloc ?_ _ | apply blk_put)); all_goals rfl⟩
 clear hw_ LK_
 replace HR := HR_
 clear HR_
 replace HP := HP_
 clear HP_
 replace HL := HL_
 clear HL_
 replace HA := HA_
 clear HA_
 replace HO0 := HO0_
 clear HO0_
 replace HO1 := HO1_
 clear HO1_
 replace BK := BK_
 clear BK_
 replace KK := KK_
 clear KK_
 refine (work_push k la 0 _ [] a _ rfl _ BK.out rfl HA.out (by rcases HC.out with h_ | h_ | h_ <;> (obtain ⟨rfl, rfl, rfl⟩ := h_; decide)) (by rcases HC.out with h_ | h_ | h_ <;> (obtain ⟨rfl, rfl, rfl⟩ := h_; decide)) (by decide)).mono ?_
 rintro e w9 ⟨rfl, hl9, LK_⟩
 have HR_ := zA_ (HR.out.kp LK_ (fun q_ hq_ => by subst hq_; exact LM.not3 HA.out))
 have HP_ := zA_ (HP.out.kp LK_ (by have ne_ := NE.out; intro h_; first | omega | (rcases h_ with h_ | h_ <;> omega)) (by have ne_ := NE.out; intro h_; first | omega | (rcases h_ with h_ | h_ <;> omega)) (fun q_ hq_ => by subst hq_; exact LM.not3 HA.out))
 have HL_ := zA_ (HL.out.kp LK_ (by have ne_ := NE.out; intro h_; first | omega | (rcases h_ with h_ | h_ <;> omega)))
 have HO0_ := zA_ (KP.cell LK_ HO0.out (fun h_ => by have ne_ := NE.out; have h2_ : go = la := h_; omega))
 have HO1_ := zA_ (KP.cell LK_ HO1.out (fun h_ => by have ne_ := NE.out; have h2_ : go = la := h_; omega))
 have BK_ := zA_ (KP.blk LK_ BK.out (by have ne_ := NE.out; intro h_; first | omega | (rcases h_ with h_ | h_ <;> omega)))
 have KK_ := zA_ (KK.out.trans_new LK_ (by have ne_ := NE.out; intro q_ h_; first | omega | (rcases h_ with h_ | h_ <;> omega)))
 have HA_ := zA_ hl9
 clear LK_ hl9
 replace HR := HR_
 clear HR_
 replace HP := HP_
 clear HP_
 replace HL := HL_
 clear HL_
 replace HA := HA_
 clear HA_
 replace HO0 := HO0_
 clear HO0_
 replace HO1 := HO1_
 clear HO1_
 replace BK := BK_
 clear BK_
 replace KK := KK_
 clear KK_
 go_wp2_with (first | fail)
 rw [rounds_succ]
 have ho_ := HO1.out
 go_wp2_with (first | fail)
 clear ho_
 refine start_ (n := 20) (S := fun w' => w'.cell? ⟨k, 19, none⟩ = some (.map (some ml)) ∧ w'.cell? ⟨k, 9, none⟩ = some (.int .i64 own) ∧ w'.cell? ⟨k, 16, none⟩ = some (.int .u32 1)) (ds := [19]) #[false, false, false, false, false, false, false, false, false, false, false, false, false, false, false, false, false, false, false, false] (by kernel_rfl) rfl rfl ⟨(blk_cell BK.out 19).trans rfl, (blk_cell BK.out 9).trans rfl, (blk_cell BK.out 16).trans rfl⟩ (fun hHeld => ?_); refine with_tabW work_install.tab8 work_install.bits8 (fun HT_ HW_ => ?_)
 have LK_ : KP (fun q => q = k) w9 w9.drew := KP.drewc (KP.refl _ _)
 have HR_ := zA_ (HR.out.kp LK_ (fun q_ hq_ => by subst hq_; exact RM.not BK.out (by decide)))
 have HP_ := zA_ (HP.out.kp LK_ (by have ne_ := NE.out; intro h_; first | omega | (rcases h_ with h_ | h_ <;> omega)) (by have ne_ := NE.out; intro h_; first | omega | (rcases h_ with h_ | h_ <;> omega)) (fun q_ hq_ => by subst hq_; exact RM.not BK.out (by decide)))
 have HL_ := zA_ (HL.out.kp LK_ (by have ne_ := NE.out; intro h_; first | omega | (rcases h_ with h_ | h_ <;> omega)))
 have HA_ := zA_ (HA.out.kp LK_ (by have ne_ := NE.out; intro h_; first | omega | (rcases h_ with h_ | h_ <;> omega)))
 have HO0_ := zA_ (KP.cell LK_ HO0.out (fun h_ => by have ne_ := NE.out; have h2_ : go = k := h_; omega))
 have HO1_ := zA_ (KP.cell LK_ HO1.out (fun h_ => by have ne_ := NE.out; have h2_ : go = k := h_; omega))
 have KK_ := zA_ (KK.out.trans (LK_))
 have BK_ : Aside0 (w9.drew.heap[k]? = some (.cells #[v0, v1, v2, v3, v4, v5, v6, v7, v8, .int .i64 own, v10, .int .i64 0, v12, v13, .int .i64 0, .pointer (some ⟨m, 0, none⟩), .int .u32 1, .slice A 3 c, .pointer (some ⟨gb, 0, none⟩), .map (some ml), .map (some la), .map (some mh), .slice none 0 0, .slice none 0 0, .slice none 0 0] 155 (0, 0))) := ⟨blk_drew BK.out⟩
 clear LK_
 replace HR := HR_
 clear HR_
 replace HP := HP_
 clear HP_
 replace HL := HL_
 clear HL_
 replace HA := HA_
 clear HA_
 replace HO0 := HO0_
 clear HO0_
 replace HO1 := HO1_
 clear HO1_
 replace BK := BK_
 clear BK_
 replace KK := KK_
 clear KK_
 generalize w9.drew = wn11 at HR HP HL HA HO0 HO1 BK KK hHeld ⊢
 refine yp_ ?_ 0 66
 refine yp_ ?_ 1 67
 refine yp_ ?_ 2 68
 refine yp_ ?_ 4 70
 refine yp_ ?_ 5 71
 refine yp_ ?_ 6 72
 refine yp_ ?_ 7 73
 refine yp_ ?_ 9 75
 refine yp_ ?_ 10 76
 refine yp_ ?_ 11 77
 refine yp_ ?_ 12 78
 refine yp_ ?_ 13 79
 refine yt3_ ?_ 3 69
 refine yt3_ ?_ 8 74
 refine yt3_ ?_ 14 80
 refine yo_ 15 (some 81) (fun K hK => ?_)
 refine yg_ Tryz.func115 #[.int .i64 own, .int .i64 b, .int .u32 1] ?_
 refine (link_New own b _ (by rcases HC.out with h_ | h_ | h_ <;> (obtain ⟨rfl, rfl, rfl⟩ := h_; decide)) (by rcases HC.out with h_ | h_ | h_ <;> (obtain ⟨rfl, rfl, rfl⟩ := h_; decide)) (by rcases HC.out with h_ | h_ | h_ <;> (obtain ⟨rfl, rfl, rfl⟩ := h_; decide))).mono ?_
 rintro e w6 ⟨lv, rfl, hb⟩
 have LK_ : KP (fun q => q = k) wn11 w6 := KP.of_below hb
 have HR_ := zA_ (HR.out.kp LK_ (fun q_ hq_ => by subst hq_; exact RM.not BK.out (by decide)))
 have HP_ := zA_ (HP.out.kp LK_ (by have ne_ := NE.out; intro h_; first | omega | (rcases h_ with h_ | h_ <;> omega)) (by have ne_ := NE.out; intro h_; first | omega | (rcases h_ with h_ | h_ <;> omega)) (fun q_ hq_ => by subst hq_; exact RM.not BK.out (by decide)))
 have HL_ := zA_ (HL.out.kp LK_ (by have ne_ := NE.out; intro h_; first | omega | (rcases h_ with h_ | h_ <;> omega)))
 have HA_ := zA_ (HA.out.kp LK_ (by have ne_ := NE.out; intro h_; first | omega | (rcases h_ with h_ | h_ <;> omega)))
 have HO0_ := zA_ (KP.cell LK_ HO0.out (fun h_ => by have ne_ := NE.out; have h2_ : go = k := h_; omega))
 have HO1_ := zA_ (KP.cell LK_ HO1.out (fun h_ => by have ne_ := NE.out; have h2_ : go = k := h_; omega))
 have KK_ := zA_ (KK.out.trans (LK_))
 have BK_ := zA_ (blk_below BK.out hb)
 clear LK_ hb
 replace HR := HR_
 clear HR_
 replace HP := HP_
 clear HP_
 replace HL := HL_
 clear HL_
 replace HA := HA_
 clear HA_
 replace HO0 := HO0_
 clear HO0_
 replace HO1 := HO1_
 clear HO1_
 replace BK := BK_
 clear BK_
 replace KK := KK_
 clear KK_
 refine ⟨_, rfl, ?_⟩
 refine hK.out _ _ ⟨(blk_cell BK.out 19).trans rfl, (blk_cell BK.out 9).trans rfl, (blk_cell BK.out 16).trans rfl⟩ (fun hHeld => ?_)
 clear hK K
 refine zq_ (some 81) (h := ?_)
 refine yp_ ?_ 16 65
 refine yp_ ?_ 17 82
 refine yp_ ?_ 18 83
 refine yl_ 19 none (fun K hK => ?_)
 obtain ⟨w7, hrun, hm7, hg7⟩ := HL.out.putr (t := 149) (e := 212) Tryz.underlying149 (by decide) b (by rcases HC.out with h_ | h_ | h_ <;> (obtain ⟨rfl, rfl, rfl⟩ := h_; decide)) lv trivial
 refine skip_ (w1 := w7) (by rfl) rfl ?_ ?_
 · go_simp
 have LK_ : KP (fun q => q = ml) w6 w7 := KP.grown hg7 rfl
 have HR_ := zA_ (HR.out.kp LK_ (fun q_ hq_ => by subst hq_; exact RM.notmap HL.out))
 have HP_ := zA_ (HP.out.kp LK_ (by have ne_ := NE.out; intro h_; first | omega | (rcases h_ with h_ | h_ <;> omega)) (by have ne_ := NE.out; intro h_; first | omega | (rcases h_ with h_ | h_ <;> omega)) (fun q_ hq_ => by subst hq_; exact RM.notmap HL.out))
 have HA_ := zA_ (HA.out.kp LK_ (by have ne_ := NE.out; intro h_; first | omega | (rcases h_ with h_ | h_ <;> omega)))
 have HO0_ := zA_ (KP.cell LK_ HO0.out (fun h_ => by have ne_ := NE.out; have h2_ : go = ml := h_; omega))
 have HO1_ := zA_ (KP.cell LK_ HO1.out (fun h_ => by have ne_ := NE.out; have h2_ : go = ml := h_; omega))
 have BK_ := zA_ (KP.blk LK_ BK.out (by have ne_ := NE.out; intro h_; first | omega | (rcases h_ with h_ | h_ <;> omega)))
 have KK_ := zA_ (KK.out.trans_new LK_ (by have ne_ := NE.out; intro q_ h_; first | omega | (rcases h_ with h_ | h_ <;> omega)))
 have HL_ := zA_ hm7
 clear LK_ hrun hm7 hg7
 replace HR := HR_
 clear HR_
 replace HP := HP_
 clear HP_
 replace HL := HL_
 clear HL_
 replace HA := HA_
 clear HA_
 replace HO0 := HO0_
 clear HO0_
 replace HO1 := HO1_
 clear HO1_
 replace BK := BK_
 clear BK_
 replace KK := KK_
 clear KK_
 refine hK.out _ _ ?_
 clear hK K
 refine done_ (done_of HT_.out (by kernel_rfl)) ?_
 go_wp2_with (first | fail)
 refine start_ (n := 10) (S := fun w' => w'.cell? ⟨k, 18, none⟩ = some (.pointer (some ⟨gb, 0, none⟩)) ∧ w'.cell? ⟨k, 11, none⟩ = some (.int .i64 0)) (ds := []) #[false, false, false, false, false, false, false, false, false, false] (by kernel_rfl) rfl rfl ⟨(blk_cell BK.out 18).trans rfl, (blk_cell BK.out 11).trans rfl⟩ (fun hHeld => ?_); refine with_tabW work_install.tab9 work_install.bits9 (fun HT_ HW_ => ?_)
 have LK_ : KP (fun q => q = k) w7 w7.drew := KP.drewc (KP.refl _ _)
 have HR_ := zA_ (HR.out.kp LK_ (fun q_ hq_ => by subst hq_; exact RM.not BK.out (by decide)))
 have HP_ := zA_ (HP.out.kp LK_ (by have ne_ := NE.out; intro h_; first | omega | (rcases h_ with h_ | h_ <;> omega)) (by have ne_ := NE.out; intro h_; first | omega | (rcases h_ with h_ | h_ <;> omega)) (fun q_ hq_ => by subst hq_; exact RM.not BK.out (by decide)))
 have HL_ := zA_ (HL.out.kp LK_ (by have ne_ := NE.out; intro h_; first | omega | (rcases h_ with h_ | h_ <;> omega)))
 have HA_ := zA_ (HA.out.kp LK_ (by have ne_ := NE.out; intro h_; first | omega | (rcases h_ with h_ | h_ <;> omega)))
 have HO0_ := zA_ (KP.cell LK_ HO0.out (fun h_ => by have ne_ := NE.out; have h2_ : go = k := h_; omega))
 have HO1_ := zA_ (KP.cell LK_ HO1.out (fun h_ => by have ne_ := NE.out; have h2_ : go = k := h_; omega))
 have KK_ := zA_ (KK.out.trans (LK_))
 have BK_ : Aside0 (w7.drew.heap[k]? = some (.cells #[v0, v1, v2, v3, v4, v5, v6, v7, v8, .int .i64 own, v10, .int .i64 0, v12, v13, .int .i64 0, .pointer (some ⟨m, 0, none⟩), .int .u32 1, .slice A 3 c, .pointer (some ⟨gb, 0, none⟩), .map (some ml), .map (some la), .map (some mh), .slice none 0 0, .slice none 0 0, .slice none 0 0] 155 (0, 0))) := ⟨blk_drew BK.out⟩
 clear LK_
 replace HR := HR_
 clear HR_
 replace HP := HP_
 clear HP_
 replace HL := HL_
 clear HL_
 replace HA := HA_
 clear HA_
 replace HO0 := HO0_
 clear HO0_
 replace HO1 := HO1_
 clear HO1_
 replace BK := BK_
 clear BK_
 replace KK := KK_
 clear KK_
 generalize w7.drew = wn12 at HR HP HL HA HO0 HO1 BK KK hHeld ⊢
 refine yp_ ?_ 0 84
 refine yp_ ?_ 1 85
 refine yp_ ?_ 2 86
 refine yp_ ?_ 4 88
 refine yp_ ?_ 5 89
 refine yp_ ?_ 6 90
 refine yp_ ?_ 7 91
 refine yt2_ ?_ 3 87
 refine yt2_ ?_ 8 92
 refine yo_ 9 (some 93) (fun K hK => ?_)
 refine yg_ Tryz.func116 #[.pointer (some ⟨gb, 0, none⟩), .int .i64 b, .int .i64 0] ?_
 refine (beat_Heard gb bm own b _ 1 (by decide) HP.out (by rcases HC.out with h_ | h_ | h_ <;> (obtain ⟨rfl, rfl, rfl⟩ := h_; decide)) (by rcases HC.out with h_ | h_ | h_ <;> (obtain ⟨rfl, rfl, rfl⟩ := h_; decide))).mono ?_
 rintro e w8 ⟨rfl, hp8, LK_⟩
 have HR_ := zA_ (HR.out.kp LK_ HP.out.not3)
 have HL_ := zA_ (HL.out.kp LK_ (by have ne_ := NE.out; intro h_; first | omega | (rcases h_ with h_ | h_ <;> omega)))
 have HA_ := zA_ (HA.out.kp LK_ (by have ne_ := NE.out; intro h_; first | omega | (rcases h_ with h_ | h_ <;> omega)))
 have HO0_ := zA_ (KP.cell LK_ HO0.out (fun h_ => by have ne_ := NE.out; have h2_ : go = gb ∨ go = bm := h_; omega))
 have HO1_ := zA_ (KP.cell LK_ HO1.out (fun h_ => by have ne_ := NE.out; have h2_ : go = gb ∨ go = bm := h_; omega))
 have BK_ := zA_ (KP.blk LK_ BK.out (by have ne_ := NE.out; intro h_; first | omega | (rcases h_ with h_ | h_ <;> omega)))
 have KK_ := zA_ (KK.out.trans_new LK_ (by have ne_ := NE.out; intro q_ h_; first | omega | (rcases h_ with h_ | h_ <;> omega)))
 have HP_ := zA_ hp8
 clear LK_ hp8
 replace HR := HR_
 clear HR_
 replace HP := HP_
 clear HP_
 replace HL := HL_
 clear HL_
 replace HA := HA_
 clear HA_
 replace HO0 := HO0_
 clear HO0_
 replace HO1 := HO1_
 clear HO1_
 replace BK := BK_
 clear BK_
 replace KK := KK_
 clear KK_
 refine ⟨_, rfl, ?_⟩
 refine hK.out _ _ ⟨(blk_cell BK.out 18).trans rfl, (blk_cell BK.out 11).trans rfl⟩ (fun hHeld => ?_)
 clear hK K
 refine zq_ (some 93) (h := ?_)
 refine done_ (done_of HT_.out (by kernel_rfl)) ?_
 have hz14 := (blk_cell BK.out 14).trans rfl
 have hf14 := blk_frozen BK.out 14
 go_wp2_with (first | fail)
 clear hz14 hf14
 refine calls_named (fun wn13 hw_ => ?_)
 have LK_ : KP (fun q => q = k) w8 wn13 := by rw [hw_]; (repeat (first | exact KP.refl _ _ | with_reducible refine KP.drewNc ?_ | with_reducible refine KP.drewc ?_ | with_reducible refine KP.allocc ?_ | with_reducible refine KP.setc ?_ rfl))
 have HR_ := zA_ (HR.out.kp LK_ (fun q_ hq_ => by subst hq_; exact RM.not BK.out (by decide)))
 have HP_ := zA_ (HP.out.kp LK_ (by have ne_ := NE.out; intro h_; first | omega | (rcases h_ with h_ | h_ <;> omega)) (by have ne_ := NE.out; intro h_; first | omega | (rcases h_ with h_ | h_ <;> omega)) (fun q_ hq_ => by subst hq_; exact RM.not BK.out (by decide)))
 have HL_ := zA_ (HL.out.kp LK_ (by have ne_ := NE.out; intro h_; first | omega | (rcases h_ with h_ | h_ <;> omega)))
 have HA_ := zA_ (HA.out.kp LK_ (by have ne_ := NE.out; intro h_; first | omega | (rcases h_ with h_ | h_ <;> omega)))
 have HO0_ := zA_ (KP.cell LK_ HO0.out (fun h_ => by have ne_ := NE.out; have h2_ : go = k := h_; omega))
 have HO1_ := zA_ (KP.cell LK_ HO1.out (fun h_ => by have ne_ := NE.out; have h2_ : go = k := h_; omega))
 have KK_ := zA_ (KK.out.trans (LK_))
 have BK_ : Aside0 (wn13.heap[k]? = some (.cells #[v0, v1, v2, v3, v4, v5, v6, v7, v8, .int .i64 own, v10, .int .i64 0, v12, v13, .int .i64 0, .pointer (some ⟨m, 0, none⟩), .int .u32 1, .slice A 3 c, .pointer (some ⟨gb, 0, none⟩), .map (some ml), .map (some la), .map (some mh), .slice none 0 0, .slice none 0 0, .slice none 0 0] 155 (0, 0))) := ⟨by rw [hw_]; (repeat (first | exact BK.out | with_reducible refine blk_drewN ?_ _ | with_reducible refine blk_drew ?_ | with_reducible refine blk_alloc ?_ _ | apply blk_put)); all_goals rfl⟩
 clear hw_ LK_
 replace HR := HR_
 clear HR_
 replace HP := HP_
 clear HP_
 replace HL := HL_
 clear HL_
 replace HA := HA_
 clear HA_
 replace HO0 := HO0_
 clear HO0_
 replace HO1 := HO1_
 clear HO1_
 replace BK := BK_
 clear BK_
 replace KK := KK_
 clear KK_
 refine (work_push k la 1 _ [a] b _ rfl _ BK.out rfl HA.out (by rcases HC.out with h_ | h_ | h_ <;> (obtain ⟨rfl, rfl, rfl⟩ := h_; decide)) (by rcases HC.out with h_ | h_ | h_ <;> (obtain ⟨rfl, rfl, rfl⟩ := h_; decide)) (by decide)).mono ?_
 rintro e w9 ⟨rfl, hl9, LK_⟩
 have HR_ := zA_ (HR.out.kp LK_ (fun q_ hq_ => by subst hq_; exact LM.not3 HA.out))
 have HP_ := zA_ (HP.out.kp LK_ (by have ne_ := NE.out; intro h_; first | omega | (rcases h_ with h_ | h_ <;> omega)) (by have ne_ := NE.out; intro h_; first | omega | (rcases h_ with h_ | h_ <;> omega)) (fun q_ hq_ => by subst hq_; exact LM.not3 HA.out))
 have HL_ := zA_ (HL.out.kp LK_ (by have ne_ := NE.out; intro h_; first | omega | (rcases h_ with h_ | h_ <;> omega)))
 have HO0_ := zA_ (KP.cell LK_ HO0.out (fun h_ => by have ne_ := NE.out; have h2_ : go = la := h_; omega))
 have HO1_ := zA_ (KP.cell LK_ HO1.out (fun h_ => by have ne_ := NE.out; have h2_ : go = la := h_; omega))
 have BK_ := zA_ (KP.blk LK_ BK.out (by have ne_ := NE.out; intro h_; first | omega | (rcases h_ with h_ | h_ <;> omega)))
 have KK_ := zA_ (KK.out.trans_new LK_ (by have ne_ := NE.out; intro q_ h_; first | omega | (rcases h_ with h_ | h_ <;> omega)))
 have HA_ := zA_ hl9
 clear LK_ hl9
 replace HR := HR_
 clear HR_
 replace HP := HP_
 clear HP_
 replace HL := HL_
 clear HL_
 replace HA := HA_
 clear HA_
 replace HO0 := HO0_
 clear HO0_
 replace HO1 := HO1_
 clear HO1_
 replace BK := BK_
 clear BK_
 replace KK := KK_
 clear KK_
 go_wp2_with (first | fail)
 rw [rounds_succ]
 go_wp2_with (first | fail)
 go_end0
 exact ⟨rfl, ⟨_, BK.out, rfl⟩, KK.out⟩
def work_New.T9 : Bool × List (List Nat × List Nat) := (true, [([], []), ([0], [0]), ([], []), ([], []), ([], []), ([4], [4]), ([5, 1], [5]), ([], []), ([1, 2, 3, 6, 7], [1, 2, 3, 6, 7]), ([8], [8]), ([9, 6, 0, 1, 2, 3, 4, 5, 6, 7, 8, 9], [9])])
def work_New.B9 : List Nat := [0, 1, 0, 0, 0, 16, 51, 0, 255, 511, 1023]
theorem work_New.tab9 : rtab .any (opsOf Tryz.f30 9) = work_New.T9 := by kernel_rfl
theorem work_New.bits9 : waitsOk work_New.T9.2 work_New.B9 = true := by kernel_rfl
theorem work_install (own : Int) (ho : own = 0 ∨ own = 1 ∨ own = 2) (k m : Nat) (v0 v1 v2 v3 v4 v5 v6 v7 v8 v10 v12 v13 : Value) (w : World) (hk : w.heap[k]? = some (.cells #[v0, v1, v2, v3, v4, v5, v6, v7, v8, .int .i64 own, v10, .int .i64 0, v12, v13, .int .i64 0, .pointer (some ⟨m, 0, none⟩), .int .u32 0, .slice none 0 0, .pointer none, .map none, .map none, .map none, .slice none 0 0, .slice none 0 0, .slice none 0 0] 155 (0, 0))) (hm : MB w m own) :
  Calls Tryz.prog 63 #[.pointer (some ⟨k, 0, none⟩)] w fun e w' => e = .returned (.tuple #[]) ∧ (∃ cs, w'.heap[k]? = some (.cells cs 155 (0, 0)) ∧ cs[14]? = some (.int .i64 0)) ∧ KP (fun q => q = k) w w' := by
  rcases ho with rfl | rfl | rfl
  · exact work_install3 0 1 2 (.inl ⟨rfl, rfl, rfl⟩) k m v0 v1 v2 v3 v4 v5 v6 v7 v8 v10 v12 v13 w hk hm
  · exact work_install3 1 0 2 (.inr (.inl ⟨rfl, rfl, rfl⟩)) k m v0 v1 v2 v3 v4 v5 v6 v7 v8 v10 v12 v13 w hk hm
  · exact work_install3 2 0 1 (.inr (.inr ⟨rfl, rfl, rfl⟩)) k m v0 v1 v2 v3 v4 v5 v6 v7 v8 v10 v12 v13 w hk hm
def GoodH : Prop := ∀ (A1 : Option Addr) (c1 : Nat) (a2 : Addr) (c2 g3 c3 : Nat) (A4 : Option Addr) (c4 : Nat) (w : World), JP w A1 c1 a2 c2 g3 c3 A4 c4 → Calls Tryz.prog 57 #[.agg #[.slice A1 1 c1, .slice (some a2) 1 c2, .int .i64 1, .int .i64 2, .int .i64 1073741824, .int .i64 2147483648, .int .i64 0, .slice (some ⟨g3, 0, none⟩) 4 c3, .slice A4 2 c4]] w fun e w' => e = .returned (.int .i64 0) ∧ Below w.heap.size w w'
theorem work_New (A1 : Option Addr) (c1 : Nat) (a2 : Addr) (c2 g3 c3 : Nat) (A4 : Option Addr) (c4 : Nat) (A : Option Addr) (c : Nat) (own : Int) (w : World) (hG : GoodH) (hJ : JP w A1 c1 a2 c2 g3 c3 A4 c4) (hr : RM w A c) (ho : own = 0 ∨ own = 1 ∨ own = 2) :
  Calls Tryz.prog 30 #[.agg #[.slice A1 1 c1, .slice (some a2) 1 c2, .int .i64 1, .int .i64 2, .int .i64 1073741824, .int .i64 2147483648, .int .i64 0, .slice (some ⟨g3, 0, none⟩) 4 c3, .slice A4 2 c4], .int .i64 own, .slice A 3 c, .int .i64 8] w fun e w' => ∃ k cs, e = .returned (.tuple #[.pointer (some ⟨k, 0, none⟩), .int .i64 0]) ∧ w'.heap[k]? = some (.cells cs 155 (0, 0)) ∧ cs[14]? = some (.int .i64 0) ∧ Below w.heap.size w w' := by
 have HB := zA_ (Below.refl w.heap.size w)
 have HJ := zA_ hJ
 have HR := zA_ hr
 have HO := zA_ ho
 have HG := zA_ hG
 clear hJ hr ho hG
 have hnot : ∀ (x : Bool) (w : World), (Op.unary .not (.bool x)).run Tryz.prog w = .ok (.bool (!x)) w := fun _ _ => rfl
 go_enter Tryz.func30, Tryz.ntmps30
 go_wp2_with (first | ((with_reducible refine gate_dst (N := 4) rfl ?_); refine zB_ (#[.slice A1 1 c1, .slice (some a2) 1 c2, .int .i64 1, .int .i64 2, .int .i64 1073741824, .int .i64 2147483648, .int .i64 0, .slice (some ⟨g3, 0, none⟩) 4 c3, .slice A4 2 c4]) 42 ?_; intro g4 hg wg4 hbox hb; have BKg4 := zA_ (hbox); have GEg4 := zA_ (zs_ hg (zw0_ HB)); replace HB := zA_ (below_step (zw0_ HB) hb); (try clear hz0 hz1 hz2 hz3 hz4 hz5 hz6 hz7 hz8); have hz0 := (blk_cell BKg4.out 0).trans rfl; have hz1 := (blk_cell BKg4.out 1).trans rfl; have hz2 := (blk_cell BKg4.out 2).trans rfl; have hz3 := (blk_cell BKg4.out 3).trans rfl; have hz4 := (blk_cell BKg4.out 4).trans rfl; have hz5 := (blk_cell BKg4.out 5).trans rfl; have hz6 := (blk_cell BKg4.out 6).trans rfl; have hz7 := (blk_cell BKg4.out 7).trans rfl; have hz8 := (blk_cell BKg4.out 8).trans rfl; clear hb hbox hg) | (go_at_call 57; refine (HG.out A1 c1 a2 c2 g3 c3 A4 c4 _ (HJ.out.below (by exact zw0_ HB))).mono ?_; rintro e w5 ⟨rfl, hb⟩; replace BKg4 := zA_ (blk_below BKg4.out hb); replace HB := zA_ (below_step (zw0_ HB) hb); (try clear hz0 hz1 hz2 hz3 hz4 hz5 hz6 hz7 hz8); have hz0 := (blk_cell BKg4.out 0).trans rfl; have hz1 := (blk_cell BKg4.out 1).trans rfl; have hz2 := (blk_cell BKg4.out 2).trans rfl; have hz3 := (blk_cell BKg4.out 3).trans rfl; have hz4 := (blk_cell BKg4.out 4).trans rfl; have hz5 := (blk_cell BKg4.out 5).trans rfl; have hz6 := (blk_cell BKg4.out 6).trans rfl; have hz7 := (blk_cell BKg4.out 7).trans rfl; have hz8 := (blk_cell BKg4.out 8).trans rfl; clear hb) | (go_at_call 58; refine (c_dgood A c _ (HR.out.below (by exact zw0_ HB))).mono ?_; rintro e w6 ⟨rfl, hb⟩; replace BKg4 := zA_ (blk_below BKg4.out hb); replace HB := zA_ (below_step (zw0_ HB) hb); (try clear hz0 hz1 hz2 hz3 hz4 hz5 hz6 hz7 hz8); have hz0 := (blk_cell BKg4.out 0).trans rfl; have hz1 := (blk_cell BKg4.out 1).trans rfl; have hz2 := (blk_cell BKg4.out 2).trans rfl; have hz3 := (blk_cell BKg4.out 3).trans rfl; have hz4 := (blk_cell BKg4.out 4).trans rfl; have hz5 := (blk_cell BKg4.out 5).trans rfl; have hz6 := (blk_cell BKg4.out 6).trans rfl; have hz7 := (blk_cell BKg4.out 7).trans rfl; have hz8 := (blk_cell BKg4.out 8).trans rfl; clear hb) | (go_at_call 59; refine (c_contains A c own _ (HR.out.below (by exact zw0_ HB)) HO.out).mono ?_; rintro e w7 ⟨rfl, hb⟩; replace BKg4 := zA_ (blk_below BKg4.out hb); replace HB := zA_ (below_step (zw0_ HB) hb); (try clear hz0 hz1 hz2 hz3 hz4 hz5 hz6 hz7 hz8); have hz0 := (blk_cell BKg4.out 0).trans rfl; have hz1 := (blk_cell BKg4.out 1).trans rfl; have hz2 := (blk_cell BKg4.out 2).trans rfl; have hz3 := (blk_cell BKg4.out 3).trans rfl; have hz4 := (blk_cell BKg4.out 4).trans rfl; have hz5 := (blk_cell BKg4.out 5).trans rfl; have hz6 := (blk_cell BKg4.out 6).trans rfl; have hz7 := (blk_cell BKg4.out 7).trans rfl; have hz8 := (blk_cell BKg4.out 8).trans rfl; clear hb) | (go_at_call 60; refine (view_New A c own _ (HR.out.below (by exact zw0_ HB)) HO.out).mono ?_; rintro e w8 ⟨m, rfl, hm, hmb, hb⟩; replace BKg4 := zA_ (blk_below BKg4.out hb); replace HB := zA_ (below_step (zw0_ HB) hb); have HMB := zA_ hmb; clear hb hm hmb))
 clear hz0 hz1 hz2 hz3 hz4 hz5 hz6 hz7 hz8
 replace BKg4 := zA_ (blk_drew BKg4.out)
 replace HB := zA_ (below_drew1 HB.out)
 replace HMB := zA_ (HMB.out.below (below_drew1 (Below.refl _ _)))
 refine start_ (n := 11) (S := fun w' => w'.cell? ⟨g4, 0, none⟩ = some (.slice A1 1 c1) ∧ w'.cell? ⟨g4, 1, none⟩ = some (.slice (some a2) 1 c2) ∧ w'.cell? ⟨g4, 2, none⟩ = some (.int .i64 1) ∧ w'.cell? ⟨g4, 3, none⟩ = some (.int .i64 2) ∧ w'.cell? ⟨g4, 4, none⟩ = some (.int .i64 1073741824) ∧ w'.cell? ⟨g4, 5, none⟩ = some (.int .i64 2147483648) ∧ w'.cell? ⟨g4, 6, none⟩ = some (.int .i64 0) ∧ w'.cell? ⟨g4, 7, none⟩ = some (.slice (some ⟨g3, 0, none⟩) 4 c3) ∧ w'.cell? ⟨g4, 8, none⟩ = some (.slice A4 2 c4)) (ds := []) #[false, false, false, false, false, false, false, false, false, false, false] (by kernel_rfl) rfl rfl ⟨(blk_cell BKg4.out 0).trans rfl, (blk_cell BKg4.out 1).trans rfl, (blk_cell BKg4.out 2).trans rfl, (blk_cell BKg4.out 3).trans rfl, (blk_cell BKg4.out 4).trans rfl, (blk_cell BKg4.out 5).trans rfl, (blk_cell BKg4.out 6).trans rfl, (blk_cell BKg4.out 7).trans rfl, (blk_cell BKg4.out 8).trans rfl⟩ (fun hHeld => ?_); refine with_tabW work_New.tab9 work_New.bits9 (fun HT_ HW_ => ?_)
 generalize w8.drew = w9 at BKg4 HMB HB hHeld ⊢
 refine yp_ ?_ 2 48
 refine yp_ ?_ 3 49
 refine yp_ ?_ 4 50
 refine yp_ ?_ 7 53
 refine yt9_ ?_ 0 46
 refine yt9_ ?_ 5 51
 refine yo_ 1 (some 47) (fun K hK => ?_)
 refine yg_ Tryz.func61 #[.agg #[.slice A1 1 c1, .slice (some a2) 1 c2, .int .i64 1, .int .i64 2, .int .i64 1073741824, .int .i64 2147483648, .int .i64 0, .slice (some ⟨g3, 0, none⟩) 4 c3, .slice A4 2 c4]] ?_
 refine (solo_Copy A1 c1 a2 c2 g3 c3 A4 c4 _ (HJ.out.below HB.out)).mono ?_
 rintro e w10 ⟨v0, v1, v2, v3, v4, v5, v6, v7, v8, rfl, hb⟩
 replace BKg4 := zA_ (blk_below BKg4.out hb)
 replace HMB := zA_ (HMB.out.below hb)
 replace HB := zA_ (below_step HB.out hb)
 clear hb
 refine ⟨_, rfl, ?_⟩
 refine hK.out _ _ ⟨(blk_cell BKg4.out 0).trans rfl, (blk_cell BKg4.out 1).trans rfl, (blk_cell BKg4.out 2).trans rfl, (blk_cell BKg4.out 3).trans rfl, (blk_cell BKg4.out 4).trans rfl, (blk_cell BKg4.out 5).trans rfl, (blk_cell BKg4.out 6).trans rfl, (blk_cell BKg4.out 7).trans rfl, (blk_cell BKg4.out 8).trans rfl⟩ (fun hHeld => ?_)
 clear hK K
 refine zq_ (some 47) (h := ?_)
 refine yo_ 6 (some 52) (fun K hK => ?_)
 refine yg_ Tryz.func62 #[.slice A4 2 c4] ?_
 refine (opt_New A4 c4 _ (HJ.out.below HB.out).p HJ.out.hp).mono ?_
 rintro e w11 ⟨A5, c5, A6, c6, rfl, hb⟩
 replace BKg4 := zA_ (blk_below BKg4.out hb)
 replace HMB := zA_ (HMB.out.below hb)
 replace HB := zA_ (below_step HB.out hb)
 clear hb
 refine ⟨_, rfl, ?_⟩
 refine hK.out _ _ ⟨(blk_cell BKg4.out 0).trans rfl, (blk_cell BKg4.out 1).trans rfl, (blk_cell BKg4.out 2).trans rfl, (blk_cell BKg4.out 3).trans rfl, (blk_cell BKg4.out 4).trans rfl, (blk_cell BKg4.out 5).trans rfl, (blk_cell BKg4.out 6).trans rfl, (blk_cell BKg4.out 7).trans rfl, (blk_cell BKg4.out 8).trans rfl⟩ (fun hHeld => ?_)
 clear hK K
 refine zq_ (some 52) (h := ?_)
 refine yp_ ?_ 8 54
 refine yo_ 9 (some 55) (fun K hK => ?_)
 refine box_step (N := 55) (by rfl) rfl (cs := #[v0, v1, v2, v3, v4, v5, v6, v7, v8, .int .i64 own, .int .i64 8, .int .i64 0, .slice A5 2 c5, .slice A6 2 c6, .int .i64 0, .pointer (some ⟨m, 0, none⟩), .int .u32 0, .slice none 0 0, .pointer none, .map none, .map none, .map none, .slice none 0 0, .slice none 0 0, .slice none 0 0]) (t := 155) ?hr ?_
 (case hr => first | (go_simp; done) | (go_simp; rfl))
 intro k hk_ w12 hbox hb
 have GK := zA_ (show w.heap.size ≤ k from by have := HB.out.size; omega)
 have BK := zA_ hbox
 replace BKg4 := zA_ (blk_below BKg4.out hb)
 replace HMB := zA_ (HMB.out.below hb)
 replace HB := zA_ (below_step HB.out hb)
 clear hb hbox hk_
 refine hK.out _ _ ⟨(blk_cell BKg4.out 0).trans rfl, (blk_cell BKg4.out 1).trans rfl, (blk_cell BKg4.out 2).trans rfl, (blk_cell BKg4.out 3).trans rfl, (blk_cell BKg4.out 4).trans rfl, (blk_cell BKg4.out 5).trans rfl, (blk_cell BKg4.out 6).trans rfl, (blk_cell BKg4.out 7).trans rfl, (blk_cell BKg4.out 8).trans rfl⟩ (fun hHeld => ?_)
 clear hK K
 refine zq_ (some 55) (h := ?_)
 refine yp_ ?_ 10 13
 refine done_ (done_of HT_.out (by kernel_rfl)) ?_
 go_wp2_with (first | (go_at_call 63; refine (work_install own HO.out k m v0 v1 v2 v3 v4 v5 v6 v7 v8 _ _ _ _ BK.out HMB.out).mono ?_; rintro e w13 ⟨rfl, ⟨cs, hcs, h14⟩, hkp⟩; have HCS := zA_ hcs; have H14 := zA_ h14; replace HB := zA_ (HB.out.trans (hkp.below HB.out.size (fun q _ hq => by rw [hq]; exact GK.out))); clear hcs h14 hkp BK))
 go_ret2
 exact ⟨_, _, rfl, HCS.out, H14.out, HB.out⟩
end Go.Proofs.YtmddclifcgcpcaaGreatDoor.PTopNames
