/- The law FixKnown, tied: for every input the call returns true, and each argument reads behind the call as it read before; the listed package variables (tables of the standard library) stand as the program lays them, and the proof leans on none of them. -/
import Derived.Test.YtjiloachlemlcaaDoorRows
import Derived.Test.YtjiloachlemlcaaDoorTie
import Derived.Test.YtjiloachlemlcaaDoorCards
import Derived.Lay
import Derived.LaidMore
import Derived.SevenTiedAt
import Derived.MakeChecks
import Derived.Test.YtjiloachlemlcaaDoorPFixKnownx7
import Derived.Test.YtjiloachlemlcaaDoorPureFixKnown
import Derived.WalkKit
import Derived.ProofKit
import Derived.OpenShut
import Derived.ShutString
import Derived.ChangeOld
import Derived.Below
import Derived.SizedLaws
namespace Go.Proofs.YtjiloachlemlcaaDoor.fixKnown
open Go.ChangeShapes Go.WideShapes Go.ChangeAt Go.RowKit
open Go.ChangeMaps (open_string shut_string)
set_option linter.unusedVariables false
theorem own : ownKnob Tryd.prog.godebug = none := by kernel_rfl
theorem pow_lits : ∀ i : Nat, i < 20 → ([.lit (.int .u64 1), .lit (.int .u64 10), .lit (.int .u64 100), .lit (.int .u64 1000), .lit (.int .u64 10000), .lit (.int .u64 100000), .lit (.int .u64 1000000), .lit (.int .u64 10000000), .lit (.int .u64 100000000), .lit (.int .u64 1000000000), .lit (.int .u64 10000000000), .lit (.int .u64 100000000000), .lit (.int .u64 1000000000000), .lit (.int .u64 10000000000000), .lit (.int .u64 100000000000000), .lit (.int .u64 1000000000000000), .lit (.int .u64 10000000000000000), .lit (.int .u64 100000000000000000), .lit (.int .u64 1000000000000000000), .lit (.int .u64 10000000000000000000)] : List (DataW Unit))[i]? = some (.lit (.int .u64 ((10 : Int) ^ i))) := by
  intro i hi
  have h : i = 0 ∨ i = 1 ∨ i = 2 ∨ i = 3 ∨ i = 4 ∨ i = 5 ∨ i = 6 ∨ i = 7 ∨ i = 8 ∨ i = 9 ∨ i = 10 ∨ i = 11 ∨ i = 12 ∨ i = 13 ∨ i = 14 ∨ i = 15 ∨ i = 16 ∨ i = 17 ∨ i = 18 ∨ i = 19 := by omega
  rcases h with rfl | rfl | rfl | rfl | rfl | rfl | rfl | rfl | rfl | rfl | rfl | rfl | rfl | rfl | rfl | rfl | rfl | rfl | rfl | rfl <;> simp
theorem p10_of_laid {w : World} (h : laidMetH Tryd.prog Rows.fixKnownRow.laid w) : PFixKnown.P10_ w := by
  rw [MakeChecks.laidMetH_plain _ _ _ (by kernel_rfl)] at h
  obtain ⟨ps, hL, _, hrow⟩ := h
  obtain ⟨_, _, _, _, _, _, _, _, _, _, hL2, _⟩ := hL
  obtain ⟨_, _, _, _, _, _, _, _, _, _, hL3, _⟩ := hL2
  obtain ⟨g, t, cs, fuel, p, q, hg, ht, hv, htr, _, _⟩ := hL3
  have eg : g = 2 := Option.some.inj (hg.symm.trans (show Tryd.prog.globalNamed "internal/strconv.uint64pow10" = some 2 by kernel_rfl))
  subst eg
  have et : t = 87 := Option.some.inj (ht.symm.trans (show (Tryd.prog.globals[2]?).map (·.type) = some 87 by kernel_rfl))
  subst et
  have hh : ∃ tt fr, w.heap[2]? = some (.cells cs tt fr) := by
    unfold World.var? at hv
    rw [hg] at hv
    simp only [Option.bind_some] at hv
    split at hv
    · rename_i c tt fr hc
      cases hv
      exact ⟨tt, fr, hc⟩
    · cases hv
  obtain ⟨tt, fr, hc⟩ := hh
  obtain ⟨xs, m, _, hx, hl, hn, hi⟩ := DataW.trod_array (n := 20) (e := 38) (show Tryd.prog.underlying 87 = some (.array 20 38) by kernel_rfl) htr
  have c38 : Tryd.prog.cellsOf 38 = 1 := by kernel_rfl
  rw [c38] at hi
  have hm : xs.map (·.1) = _ := (DataW.agg.inj (congrArg Prod.fst hx)).symm
  refine ⟨?_, fun i hi20 => ?_⟩
  · have := Array.getElem?_eq_some_iff.mp hc
    exact this.1
  · have h1 := hi i hi20
    have h2 := pow_lits i hi20
    have h3 : (xs.map (·.1))[i]? = some (.lit (.int .u64 ((10 : Int) ^ i))) := by rw [hm]; exact h2
    rw [List.getElem?_map, Option.map_eq_some_iff] at h3
    obtain ⟨x, hx1, hx2⟩ := h3
    rw [hx1] at h1
    obtain ⟨n, e1, e2, _⟩ := DataW.trod_int (show Tryd.prog.underlying 38 = some (.int .u64) by kernel_rfl) h1
    subst e2
    have en : n = (10 : Int) ^ i := by
      injection hx2 with hx3
      injection hx3
    subst en
    rw [cell_of_row w 2 i cs tt fr hc]
    have e3 : (cs.toList.drop (i * 1)).take 1 = [.int .u64 ((10 : Int) ^ i)] := e1
    have e4 : cs.toList[i]? = some (.int .u64 ((10 : Int) ^ i)) := by
      have := congrArg (fun l => l[0]?) e3
      simpa [List.getElem?_take, List.getElem?_drop] using this
    rw [← Array.getElem?_toList]
    exact e4
theorem returns_laid {a : Assume} {C : Checked} {os : Os} {f : FuncId} {fn : Func} {s : ChangeSpec} {conds : List PathCond} {apart fresh handsOn again : Bool} {H : Type} {enc : TypeId × Value → H} {X : World → Array Value → Prop}
    (Y : World → Prop) (hY : ∀ w args, X w args → Y w) (hYh : ∀ w w1 : World, w.heap = w1.heap → Y w → Y w1) (own : ownKnob C.prog.godebug = none) (started : os.Started) (noInit : C.prog.inits.idxOf? f = none) (hfn : C.prog.funcs[f]? = some fn)
    (witness : ∃ (w : World) (tape : Tape) (i : Input), w.os = os ∧ (w.forCall tape i).Shaped C.prog ∧ i.vars = [] ∧ Input.okWide C.prog (w.forCall tape i) .any w.heap.size f i ∧
      ((s.pre enc C.prog fn conds apart (w.forCall tape i).memory i.args ∧ X (w.forCall tape i).memory i.args) ∧ sizedMet enc C.prog fn (OpenSpec.ofChange s) apart (w.forCall tape i).memory i.args) ∧ a.holds C.prog (lone (Frame.enter C.prog f i.args .normal) [] (w.forCall tape i)))
    (contract : ∀ (W : World) (base : Nat) (args : Array Value) (ds gs : List (DataW H)) (before : List MemPlace), Y W →
      (∀ (j : Nat) t v, fn.params[j]? = some t → args[j]? = some v → Value.okWide C.prog W .any base t v) →
      DataW.Whole enc C.prog fn.params.toList s.vars apart W args.toList ds gs before →
      conds.all (PathCond.test C.prog ⟨fn.params.toList, ds, s.plain.varTypes C.prog, gs⟩) = true →
      (DataW.weightsEach C.prog (fn.params.toList ++ s.plain.varTypes C.prog) (ds ++ gs)).all (· ≤ reachBytes) = true →
      a.holds C.prog (lone (Frame.enter C.prog f args .normal) [] W) →
      Calls C.prog f args W fun e W' => ∃ v, e = .returned v ∧ s.post enc C.prog fn apart fresh handsOn again W args v W') :
    ReturnsInHanded a C os f .any (fun w args => (s.pre enc C.prog fn conds apart w args ∧ X w args) ∧ sizedMet enc C.prog fn (OpenSpec.ofChange s) apart w args) (s.post enc C.prog fn apart fresh handsOn again) := by
  refine returnsInHanded_of_calls own started noInit witness ?_
  intro w tape i _ _ _ hok hpre hholds
  obtain ⟨_, _, _, fn', hfn', _, _, _, _, hval⟩ := hok
  have e : fn' = fn := Option.some.inj (hfn'.symm.trans hfn)
  subst e
  obtain ⟨⟨⟨ds, gs, before, hw, hc⟩, hx⟩, hz⟩ := hpre
  have hw' := DataW.Whole.of_heap (w' := w.forCall tape i) (by rfl) hw
  refine (contract (w.forCall tape i) w.heap.size i.args ds gs before (hYh _ _ (by rfl) (hY _ _ hx)) hval hw' hc (hz.weights hw) hholds).mono fun e W' ⟨v, he, hp⟩ => ?_
  subst he
  exact ChangeSpec.post_blind hp
theorem witness_laid {f : FuncId} {fn : Func} {H : Type} {enc : TypeId × Value → H} {C : Checked} {os : Os} {s : ChangeSpec} {conds : List PathCond} {apart : Bool} {X : World → Array Value → Prop} (w0 : World) (args : Array Value) (fuel : Nat) (hos : w0.os = os)
    (hsh : (w0.forCall (fun _ _ => 0) ⟨#[], args, []⟩).Shaped C.prog)
    (hok : Input.okWideB C.prog (w0.forCall (fun _ _ => 0) ⟨#[], args, []⟩) f ⟨#[], args, []⟩ = true)
    (hpre : s.preB enc C.prog fn conds apart (w0.forCall (fun _ _ => 0) ⟨#[], args, []⟩).memory args fuel = true)
    (hsz : s.sizedB enc C.prog fn apart (w0.forCall (fun _ _ => 0) ⟨#[], args, []⟩).memory args fuel = true)
    (hx : X (w0.forCall (fun _ _ => 0) ⟨#[], args, []⟩).memory args) :
    ∃ (w : World) (tape : Tape) (i : Input), w.os = os ∧ (w.forCall tape i).Shaped C.prog ∧ i.vars = [] ∧ Input.okWide C.prog (w.forCall tape i) .any w.heap.size f i ∧
      ((s.pre enc C.prog fn conds apart (w.forCall tape i).memory i.args ∧ X (w.forCall tape i).memory i.args) ∧ sizedMet enc C.prog fn (OpenSpec.ofChange s) apart (w.forCall tape i).memory i.args) ∧ ({} : Assume).holds C.prog (lone (Frame.enter C.prog f i.args .normal) [] (w.forCall tape i)) :=
  ⟨w0, fun _ _ => 0, ⟨#[], args, []⟩, hos, hsh, (Input.okWide_of_okWideB (base := 0) hok).1, (Input.okWide_of_okWideB hok).2, ⟨⟨ChangeSpec.pre_of_preB hpre, hx⟩, sizedMet_of_sizedB hsz⟩, by simp [Assume.holds]⟩
set_option maxRecDepth 100000 in
theorem lifted (os : Os) (started : os.Started) (H : Type) (enc : TypeId × Value → H) :
    ReturnsInHanded {} Tryd.checked os 7 .any (fun w args => (Rows.fixKnownSpec.pre enc Tryd.prog Tryd.f7 Rows.fixKnownRow.domain false w args ∧ laidMetH Tryd.prog Rows.fixKnownRow.laid w) ∧ sizedMet enc Tryd.prog Tryd.f7 (OpenSpec.ofChange Rows.fixKnownSpec) false w args) (Rows.fixKnownSpec.post enc Tryd.prog Tryd.f7 false true false false) := by
  refine returns_laid (C := Tryd.checked) (X := fun w _ => laidMetH Tryd.prog Rows.fixKnownRow.laid w) PFixKnown.P10_ (fun w args h => p10_of_laid h) (fun w w1 e h => by unfold PFixKnown.P10_ World.cell? at *; rw [← e]; exact h) own started (by kernel_rfl) Tryd.func7
    (witness_laid (enc := enc) (C := Tryd.checked) (X := fun w _ => laidMetH Tryd.prog Rows.fixKnownRow.laid w) (World.laidAll Tryd.prog os Rows.fixKnownRow.laid) #[] 8 (World.laidAll_os _ _ _) (World.shaped_of_ZipB (by kernel_rfl) (by kernel_rfl)) (by kernel_rfl) (by kernel_rfl) (by kernel_rfl)
      (by rw [MakeChecks.laidMetH_plain _ _ _ (by kernel_rfl)]; exact laidMet_laidAll _ (by kernel_rfl) (by kernel_rfl))) ?_
  intro W base args ds gs before hp10 hval0 hW hcnd hsz0 _
  have hsz : (DataW.weightsEach Tryd.prog (Tryd.f7.params.toList ++ Rows.fixKnownSpec.plain.varTypes Tryd.prog) (ds ++ gs)).all (· ≤ reachBytes) = true := hsz0
  have hval : ∀ (j : Nat) t v, Tryd.f7.params[j]? = some t → args[j]? = some v → Value.okWide Tryd.prog W .any base t v := hval0
  have hW' := hW
  obtain ⟨p, q, hA0, hV, rfl, hfz, hnd⟩ := hW
  have hA : DataW.TrodAll enc Tryd.prog W 0 (fun _ => true) true Tryd.f7.params.toList args.toList ds p := hA0
  rw [Tryd.params7] at hA hval hsz
  obtain ⟨rfl, rfl, rfl⟩ := trodAll_none hA
  obtain ⟨rfl, rfl⟩ := trodVars_none hV
  clear hA0 hval0 hsz0 hsz
  refine (PFixKnown.carousellaw1_FixKnown.walk Pure.FixKnown  W  hp10).mono fun e W' ⟨he, bel⟩ => ?_
  subst he
  exact ⟨_, rfl, _, _, _, [], _, [], hW', trodAll_mk1 (shut_bool Tryd.underlying4 _), trodAll_mk0, rfl, bel.frame _, fun h => by cases h⟩
theorem over : Rows.fixKnownRow.holds Tryd.pinned (OpenSpec.ofChange Rows.fixKnownSpec) :=
  OpenClaim.holds_of_wide 7 Tryd.f7 rfl rfl rfl rfl rfl rfl rfl ⟨rfl, rfl, rfl, rfl, rfl⟩ rfl rfl rfl rfl rfl (by kernel_rfl) Tryd.func7 (by kernel_rfl)
    (of_decide_eq_true (by kernel_rfl)) (by unfold Func.isWrapper; first | (rw [if_pos (by decide +kernel)]; kernel_rfl) | (rw [if_neg (by decide +kernel)]; exact ⟨rfl, rfl⟩))
    (fun os started H enc _ => lifted os started H enc)
theorem proved : Rows.FixKnownCardSaid :=
  Claim7.holds_tied_plain_at .later [] [.data, .data, .data] true (true, "f772dcf0a1879f9f3fca9ea14e5490e1b9de49d97345201e67be1eb0c251e0e9") false over (fun _ h => by cases h) (by kernel_rfl) (fun _ h => by cases h) fixKnown_row_tie rfl ⟨rfl, rfl⟩ (by kernel_rfl) rfl
    (fun f fn hf hfn => by
      obtain rfl : f = 7 := Option.some.inj ((show Tryd.prog.funcNamed Rows.fixKnownRow.func = some 7 by kernel_rfl).symm.trans hf) |>.symm
      obtain rfl : fn = Tryd.f7 := (Option.some.inj (Tryd.func7.symm.trans hfn)).symm
      exact ⟨by kernel_rfl, fun j t ht => by
        have hm : t ∈ Tryd.f7.params.toList := Array.mem_toList_iff.2 (Array.mem_of_getElem? ht)
        have hall : (Tryd.f7.params.toList.all fun u => !Tryd.prog.wantsStandIn u) = true := by kernel_rfl
        exact (show Tryd.prog.wantsStandIn t = false by simpa using List.all_eq_true.1 hall t hm)⟩)
    (by kernel_rfl)
#print axioms proved
end Go.Proofs.YtjiloachlemlcaaDoor.fixKnown
namespace Go.Proofs.YtjiloachlemlcaaDoor
/-- The row, under a short name, for the claim. -/
theorem fixKnown_holds : Rows.FixKnownCardSaid := fixKnown.proved
end Go.Proofs.YtjiloachlemlcaaDoor
