/- The closed facts of a row, one by one: those of the whole program once. -/
import Derived.Test.YtmcfihpbiilbcaaRows
import Derived.JoinedOf
import Derived.KernelRfl
namespace Go.Proofs.Ytmcfihpbiilbcaa.J
open Go
set_option maxRecDepth 100000
theorem p1 : laidOutB Try.prog = true := by kernel_rfl
theorem p2 : mapsRowed Try.prog = true := by kernel_rfl
theorem p3 : (Try.prog.stops == []) = true := by kernel_rfl
theorem p4 : (Try.prog.stopKnobs == []) = true := by kernel_rfl
theorem p5 : Try.prog.stopsHeard = true := by kernel_rfl
theorem p6 : Try.prog.mayEnter = true := by kernel_rfl
theorem p7 : (Rows.scanTriesRow.lifted == Try.prog.liftsFinal) = true := by kernel_rfl
theorem p8 : (Try.prog.make == some Rows.scanTriesRow.make) = true := by kernel_rfl
theorem p9 : (Rows.scanTriesRow.plainKeys == Try.prog.plainKeys) = true := by kernel_rfl
theorem joined (f : FuncId) (fn : Func) (s : ChangeSpec) (c : OpenClaim)
    (e1 : c.lifted = Rows.scanTriesRow.lifted) (e2 : c.make = Rows.scanTriesRow.make) (e3 : c.plainKeys = Rows.scanTriesRow.plainKeys)
    (h0 : c.wf (OpenSpec.ofChange s) = true)
    (h1 : (fn.params.all (Try.prog.readableRec ·) && namedTie Try.prog c.named s.vars) = true)
    (h2 : ((c.stops == []) && (c.knobs == [])) = true)
    (h3 : (c.inPlace == Try.prog.inPlace f) = true) (h4 : (c.unfollowed == Try.prog.unfollowed f) = true) (h5 : (c.recurses == Try.prog.recurses f) = true) (h6 : (c.named == Try.prog.varsNamed f) = true)
    (h7 : ((c.maps == (fn.params.toList ++ s.plain.varTypes Try.prog).any (Try.prog.mapsRec ·)) && (c.ifaces == (fn.params.toList ++ s.plain.varTypes Try.prog).any (Try.prog.ifacesRec ·)) && (c.mapsOut == Try.prog.mapsAmong fn.resultTypes.toList)) = true)
    (h8 : ((c.loops == (fn.params.toList ++ s.plain.varTypes Try.prog).any (Try.prog.loopsFrom ·)) && (c.wideKeys == (fn.params.toList ++ s.plain.varTypes Try.prog ++ fn.resultTypes.toList).any (Try.prog.wideKeysFrom ·))) = true)
    (h9 : (s.vars.all (Try.prog.varReadable ·) && fn.resultTypes.all (fun t => Try.prog.readableRec t && decide (t < Try.prog.types.size)) && (c.ifacesOut == fn.resultTypes.toList.any (Try.prog.ifacesRec ·)) && (c.loopsOut == fn.resultTypes.toList.any (Try.prog.loopsFrom ·)) && c.shortTexts.isNone) = true)
    (h10 : ((c.kinds == (if c.domain.isEmpty then [] else fn.params.toList.map fun t => match Try.prog.underlying t with | some (.int k) => some k | _ => none)) && (c.pinned == c.pinnedBy) &&
      (c.veiled == (fn.params.toList ++ s.plain.varTypes Try.prog ++ fn.resultTypes.toList).any (Try.prog.veiledRec ·)) && c.veiledFits Try.prog fn.params.toList (fn.params.toList ++ s.plain.varTypes Try.prog ++ fn.resultTypes.toList)) = true) :
    joinedFacts Try.prog f fn s c = true := by
  have q7 := p7; have q8 := p8; have q9 := p9
  rw [← e1] at q7; rw [← e2] at q8; rw [← e3] at q9
  unfold joinedFacts
  simp only [Bool.and_eq_true] at *
  obtain ⟨h1a, h1b⟩ := h1
  obtain ⟨h2a, h2b⟩ := h2
  obtain ⟨⟨h7a, h7b⟩, h7c⟩ := h7
  obtain ⟨h8a, h8b⟩ := h8
  obtain ⟨⟨⟨⟨h9a, h9b⟩, h9c⟩, h9d⟩, h9e⟩ := h9
  obtain ⟨⟨⟨h10a, h10b⟩, h10c⟩, h10d⟩ := h10
  exact ⟨⟨⟨⟨⟨⟨⟨⟨⟨⟨⟨⟨⟨⟨⟨⟨⟨⟨⟨⟨⟨⟨⟨⟨⟨⟨⟨⟨⟨⟨⟨h0, p1⟩, p2⟩, h1a⟩, h1b⟩, h2a⟩, p3⟩, h2b⟩, p4⟩, h3⟩, h4⟩, h5⟩, h6⟩, h7a⟩, h7b⟩, h7c⟩, h8a⟩, h8b⟩, h9a⟩, h9b⟩, h9c⟩, h9d⟩, q9⟩, h9e⟩, p5⟩, p6⟩, q7⟩, q8⟩, h10a⟩, h10b⟩, h10c⟩, h10d⟩
end Go.Proofs.Ytmcfihpbiilbcaa.J
