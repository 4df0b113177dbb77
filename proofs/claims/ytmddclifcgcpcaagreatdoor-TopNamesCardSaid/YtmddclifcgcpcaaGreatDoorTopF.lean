/- The closed facts of the row TopNames, each by the kernel: one declaration each, for its memory. -/
import Derived.Test.YtmddclifcgcpcaaGreatDoorRows
import Derived.JoinedOf
import Derived.SevenTiedAt
import Derived.KernelRfl
namespace Go.Proofs.YtmddclifcgcpcaaGreatDoor.topNames
set_option maxRecDepth 100000
theorem closed_laid : laidOutB Tryz.prog = true := by kernel_rfl
theorem closed_maps : mapsRowed Tryz.prog = true := by kernel_rfl
theorem closed_heard : Tryz.prog.stopsHeard = true := by kernel_rfl
theorem closed_enter : Tryz.prog.mayEnter = true := by kernel_rfl
theorem closed_inPlace : (Rows.topNamesRow.inPlace == Tryz.prog.inPlace 3) = true := by kernel_rfl
theorem closed_unfollowed : (Rows.topNamesRow.unfollowed == Tryz.prog.unfollowed 3) = true := by kernel_rfl
theorem closed_recurses : (Rows.topNamesRow.recurses == Tryz.prog.recurses 3) = true := by kernel_rfl
theorem closed_named : (Rows.topNamesRow.named == Tryz.prog.varsNamed 3) = true := by kernel_rfl
theorem closed_func : Tryz.prog.funcNamed Rows.topNamesRow.func = some 3 := by kernel_rfl
theorem closed_any : Tryz.prog.funcs.any Func.goes = false := by kernel_rfl
theorem goes_no {P : Program} (h : P.funcs.any Func.goes = false) (f : FuncId) : P.goes f = false := by
  unfold Program.goes
  rw [h, Bool.and_false, Bool.or_false, List.any_eq_false]
  intro g _
  cases hq : P.funcs[g]? with
  | none => simp
  | some fn =>
    rw [Array.any_eq_false] at h
    obtain ⟨hi, he⟩ := Array.getElem?_eq_some_iff.1 hq
    have := h g hi
    rw [he] at this
    simpa using this
theorem goesBy_no {P : Program} {c : OpenClaim} (h : P.funcs.any Func.goes = false) (hs : c.start = .entering) : false = c.goesBy P := by
  unfold OpenClaim.goesBy Program.goesAt Program.goesFrom
  rw [hs]
  cases P.funcNamed c.func with
  | none => rfl
  | some f =>
    show false = (P.goes f || false)
    rw [goes_no h f]
    rfl
theorem closed_goes : false = Rows.topNamesRow.goesBy Tryz.prog := goesBy_no closed_any rfl
theorem joined_of {P : Program} {f : FuncId} {fn : Func} {s : ChangeSpec} {c : OpenClaim} (h2 : laidOutB P = true) (h3 : mapsRowed P = true) (h10 : (c.inPlace == P.inPlace f) = true) (h11 : (c.unfollowed == P.unfollowed f) = true) (h12 : (c.recurses == P.recurses f) = true) (h13 : (c.named == P.varsNamed f) = true) (h23 : P.stopsHeard = true) (h24 : P.mayEnter = true)
    (h1 : c.wf (OpenSpec.ofChange s) = true) (h4 : fn.params.all (P.readableRec ·) = true) (h5 : namedTie P c.named s.vars = true) (h6 : (c.stops == []) = true) (h7 : (P.stops == []) = true) (h8 : (c.knobs == []) = true) (h9 : (P.stopKnobs == []) = true)
    (h14 : (c.maps == (fn.params.toList ++ s.plain.varTypes P).any (P.mapsRec ·)) = true) (h15 : (c.ifaces == (fn.params.toList ++ s.plain.varTypes P).any (P.ifacesRec ·)) = true) (h16 : (c.mapsOut == P.mapsAmong fn.resultTypes.toList) = true) (h17 : (c.loops == (fn.params.toList ++ s.plain.varTypes P).any (P.loopsFrom ·)) = true) (h17b : (c.wideKeys == (fn.params.toList ++ s.plain.varTypes P ++ fn.resultTypes.toList).any (P.wideKeysFrom ·)) = true)
    (h18 : s.vars.all (P.varReadable ·) = true) (h19 : fn.resultTypes.all (fun t => P.readableRec t && decide (t < P.types.size)) = true) (h20 : (c.ifacesOut == fn.resultTypes.toList.any (P.ifacesRec ·)) = true) (h21 : (c.loopsOut == fn.resultTypes.toList.any (P.loopsFrom ·)) = true) (h22 : (c.plainKeys == P.plainKeys) = true) (h22b : c.shortTexts.isNone = true) (h24b : (c.lifted == P.liftsFinal) = true) (h24c : (P.make == some c.make) = true)
    (h25 : (c.kinds == (if c.domain.isEmpty then [] else fn.params.toList.map fun t => match P.underlying t with | some (.int k) => some k | _ => none)) = true) (h26 : (c.pinned == c.pinnedBy) = true) (h27 : (c.veiled == (fn.params.toList ++ s.plain.varTypes P ++ fn.resultTypes.toList).any (P.veiledRec ·)) = true) (h28 : c.veiledFits P fn.params.toList (fn.params.toList ++ s.plain.varTypes P ++ fn.resultTypes.toList) = true) : joinedFacts P f fn s c = true := by
  unfold joinedFacts
  simp only [Bool.and_eq_true]
  exact ⟨⟨⟨⟨⟨⟨⟨⟨⟨⟨⟨⟨⟨⟨⟨⟨⟨⟨⟨⟨⟨⟨⟨⟨⟨⟨⟨⟨⟨⟨⟨h1, h2⟩, h3⟩, h4⟩, h5⟩, h6⟩, h7⟩, h8⟩, h9⟩, h10⟩, h11⟩, h12⟩, h13⟩, h14⟩, h15⟩, h16⟩, h17⟩, h17b⟩, h18⟩, h19⟩, h20⟩, h21⟩, h22⟩, h22b⟩, h23⟩, h24⟩, h24b⟩, h24c⟩, h25⟩, h26⟩, h27⟩, h28⟩
theorem closed_all : joinedFacts Tryz.prog 3 Tryz.f3 Rows.topNamesSpec Rows.topNamesRow = true :=
  joined_of closed_laid closed_maps closed_inPlace closed_unfollowed closed_recurses closed_named closed_heard closed_enter (by kernel_rfl) (by kernel_rfl) (by kernel_rfl) (by kernel_rfl) (by kernel_rfl) (by kernel_rfl) (by kernel_rfl) (by kernel_rfl) (by kernel_rfl) (by kernel_rfl) (by kernel_rfl) (by kernel_rfl) (by kernel_rfl) (by kernel_rfl) (by kernel_rfl) (by kernel_rfl) (by kernel_rfl) (by kernel_rfl) (by kernel_rfl) (by kernel_rfl) (by kernel_rfl) (by kernel_rfl) (by kernel_rfl) (by kernel_rfl)
theorem closed_main : Tryz.prog.mainIs = some (true, "7e3b937ef33b37bda995ac0f983f7cf9206586bc2ae9c45e2f04db998dc0be11".toList) := by kernel_rfl
end Go.Proofs.YtmddclifcgcpcaaGreatDoor.topNames
