/-
  What the row's cells say of the program, each apart.
-/
import Derived.Test.YtpklnjegimchoaaGreatDoorRows
import Derived.JoinedOf
import Derived.KernelRfl
namespace Go.Proofs.YtpklnjegimchoaaGreatDoor
open Go
set_option maxRecDepth 1000000
theorem joined_parts {P : Program} {f : FuncId} {fn : Func} {s : ChangeSpec} {c : OpenClaim} (h1 : (c.wf (OpenSpec.ofChange s)) = true) (h2 : (laidOutB P) = true) (h3 : (mapsRowed P) = true) (h4 : (fn.params.all (P.readableRec ·)) = true) (h5 : (namedTie P c.named s.vars) = true) (h6 : ((c.stops == [])) = true) (h7 : ((P.stops == [])) = true) (h8 : ((c.knobs == [])) = true) (h9 : ((P.stopKnobs == [])) = true) (h10 : ((c.inPlace == P.inPlace f)) = true) (h11 : ((c.unfollowed == P.unfollowed f)) = true) (h12 : ((c.recurses == P.recurses f)) = true) (h13 : ((c.named == P.varsNamed f)) = true) (h14 : ((c.maps == (fn.params.toList ++ s.plain.varTypes P).any (P.mapsRec ·))) = true) (h15 : ((c.ifaces == (fn.params.toList ++ s.plain.varTypes P).any (P.ifacesRec ·))) = true) (h16 : ((c.mapsOut == P.mapsAmong fn.resultTypes.toList)) = true) (h17 : ((c.loops == (fn.params.toList ++ s.plain.varTypes P).any (P.loopsFrom ·))) = true) (h18 : ((c.wideKeys == (fn.params.toList ++ s.plain.varTypes P ++ fn.resultTypes.toList).any (P.wideKeysFrom ·))) = true) (h19 : (s.vars.all (P.varReadable ·)) = true) (h20 : (fn.resultTypes.all (fun t => P.readableRec t && decide (t < P.types.size))) = true) (h21 : ((c.ifacesOut == fn.resultTypes.toList.any (P.ifacesRec ·))) = true) (h22 : ((c.loopsOut == fn.resultTypes.toList.any (P.loopsFrom ·))) = true) (h23 : ((c.plainKeys == P.plainKeys)) = true) (h24 : (c.shortTexts.isNone) = true) (h25 : (P.stopsHeard) = true) (h26 : (P.mayEnter) = true) (h27 : ((c.lifted == P.liftsFinal)) = true) (h28 : ((P.make == some c.make)) = true) (h29 : ((c.kinds == (if c.domain.isEmpty then [] else fn.params.toList.map fun t => match P.underlying t with | some (.int k) => some k | _ => none))) = true) (h30 : ((c.pinned == c.pinnedBy)) = true) (h31 : ((c.veiled == (fn.params.toList ++ s.plain.varTypes P ++ fn.resultTypes.toList).any (P.veiledRec ·))) = true) (h32 : (c.veiledFits P fn.params.toList (fn.params.toList ++ s.plain.varTypes P ++ fn.resultTypes.toList)) = true) : joinedFacts P f fn s c = true := by
  unfold joinedFacts
  simp only [h1, h2, h3, h4, h5, h6, h7, h8, h9, h10, h11, h12, h13, h14, h15, h16, h17, h18, h19, h20, h21, h22, h23, h24, h25, h26, h27, h28, h30, h31, h32, Bool.and_self, Bool.true_and, Bool.and_true]
  exact h29
theorem cell1 : (Rows.topTwiceRow.wf (OpenSpec.ofChange (OpenSpec.ofChange Rows.topTwiceSpec).bare)) = true := by kernel_rfl
theorem cell2 : (laidOutB Tryz.pinned.checked.prog) = true := by kernel_rfl
theorem cell3 : (mapsRowed Tryz.pinned.checked.prog) = true := by kernel_rfl
theorem cell4 : (Tryz.f3.params.all (Tryz.pinned.checked.prog.readableRec ·)) = true := by kernel_rfl
theorem cell5 : (namedTie Tryz.pinned.checked.prog Rows.topTwiceRow.named (OpenSpec.ofChange Rows.topTwiceSpec).bare.vars) = true := by kernel_rfl
theorem cell6 : ((Rows.topTwiceRow.stops == [])) = true := by kernel_rfl
theorem cell7 : ((Tryz.pinned.checked.prog.stops == [])) = true := by kernel_rfl
theorem cell8 : ((Rows.topTwiceRow.knobs == [])) = true := by kernel_rfl
theorem cell9 : ((Tryz.pinned.checked.prog.stopKnobs == [])) = true := by kernel_rfl
theorem cell10 : ((Rows.topTwiceRow.inPlace == Tryz.pinned.checked.prog.inPlace 3)) = true := by kernel_rfl
theorem cell11 : ((Rows.topTwiceRow.unfollowed == Tryz.pinned.checked.prog.unfollowed 3)) = true := by kernel_rfl
theorem cell12 : ((Rows.topTwiceRow.recurses == Tryz.pinned.checked.prog.recurses 3)) = true := by kernel_rfl
theorem cell13 : ((Rows.topTwiceRow.named == Tryz.pinned.checked.prog.varsNamed 3)) = true := by kernel_rfl
theorem cell14 : ((Rows.topTwiceRow.maps == (Tryz.f3.params.toList ++ (OpenSpec.ofChange Rows.topTwiceSpec).bare.plain.varTypes Tryz.pinned.checked.prog).any (Tryz.pinned.checked.prog.mapsRec ·))) = true := by kernel_rfl
theorem cell15 : ((Rows.topTwiceRow.ifaces == (Tryz.f3.params.toList ++ (OpenSpec.ofChange Rows.topTwiceSpec).bare.plain.varTypes Tryz.pinned.checked.prog).any (Tryz.pinned.checked.prog.ifacesRec ·))) = true := by kernel_rfl
theorem cell16 : ((Rows.topTwiceRow.mapsOut == Tryz.pinned.checked.prog.mapsAmong Tryz.f3.resultTypes.toList)) = true := by kernel_rfl
theorem cell17 : ((Rows.topTwiceRow.loops == (Tryz.f3.params.toList ++ (OpenSpec.ofChange Rows.topTwiceSpec).bare.plain.varTypes Tryz.pinned.checked.prog).any (Tryz.pinned.checked.prog.loopsFrom ·))) = true := by kernel_rfl
theorem cell18 : ((Rows.topTwiceRow.wideKeys == (Tryz.f3.params.toList ++ (OpenSpec.ofChange Rows.topTwiceSpec).bare.plain.varTypes Tryz.pinned.checked.prog ++ Tryz.f3.resultTypes.toList).any (Tryz.pinned.checked.prog.wideKeysFrom ·))) = true := by kernel_rfl
theorem cell19 : ((OpenSpec.ofChange Rows.topTwiceSpec).bare.vars.all (Tryz.pinned.checked.prog.varReadable ·)) = true := by kernel_rfl
theorem cell20 : (Tryz.f3.resultTypes.all (fun t => Tryz.pinned.checked.prog.readableRec t && decide (t < Tryz.pinned.checked.prog.types.size))) = true := by kernel_rfl
theorem cell21 : ((Rows.topTwiceRow.ifacesOut == Tryz.f3.resultTypes.toList.any (Tryz.pinned.checked.prog.ifacesRec ·))) = true := by kernel_rfl
theorem cell22 : ((Rows.topTwiceRow.loopsOut == Tryz.f3.resultTypes.toList.any (Tryz.pinned.checked.prog.loopsFrom ·))) = true := by kernel_rfl
theorem cell23 : ((Rows.topTwiceRow.plainKeys == Tryz.pinned.checked.prog.plainKeys)) = true := by kernel_rfl
theorem cell24 : (Rows.topTwiceRow.shortTexts.isNone) = true := by kernel_rfl
theorem cell25 : (Tryz.pinned.checked.prog.stopsHeard) = true := by kernel_rfl
theorem cell26 : (Tryz.pinned.checked.prog.mayEnter) = true := by kernel_rfl
theorem cell27 : ((Rows.topTwiceRow.lifted == Tryz.pinned.checked.prog.liftsFinal)) = true := by kernel_rfl
theorem cell28 : ((Tryz.pinned.checked.prog.make == some Rows.topTwiceRow.make)) = true := by kernel_rfl
theorem cell29 : ((Rows.topTwiceRow.kinds == (if Rows.topTwiceRow.domain.isEmpty then [] else Tryz.f3.params.toList.map fun t => match Tryz.pinned.checked.prog.underlying t with | some (.int k) => some k | _ => none))) = true := by kernel_rfl
theorem cell30 : ((Rows.topTwiceRow.pinned == Rows.topTwiceRow.pinnedBy)) = true := by kernel_rfl
theorem cell31 : ((Rows.topTwiceRow.veiled == (Tryz.f3.params.toList ++ (OpenSpec.ofChange Rows.topTwiceSpec).bare.plain.varTypes Tryz.pinned.checked.prog ++ Tryz.f3.resultTypes.toList).any (Tryz.pinned.checked.prog.veiledRec ·))) = true := by kernel_rfl
theorem cell32 : (Rows.topTwiceRow.veiledFits Tryz.pinned.checked.prog Tryz.f3.params.toList (Tryz.f3.params.toList ++ (OpenSpec.ofChange Rows.topTwiceSpec).bare.plain.varTypes Tryz.pinned.checked.prog ++ Tryz.f3.resultTypes.toList)) = true := by kernel_rfl
theorem closed : joinedFacts Tryz.pinned.checked.prog 3 Tryz.f3 (OpenSpec.ofChange Rows.topTwiceSpec).bare Rows.topTwiceRow = true := joined_parts cell1 cell2 cell3 cell4 cell5 cell6 cell7 cell8 cell9 cell10 cell11 cell12 cell13 cell14 cell15 cell16 cell17 cell18 cell19 cell20 cell21 cell22 cell23 cell24 cell25 cell26 cell27 cell28 cell29 cell30 cell31 cell32
end Go.Proofs.YtpklnjegimchoaaGreatDoor
