/-
  sheavelaw09.OctetsWhole: a text that is put is taken, whatever stands behind: proved as the row says it, of arguments that are together of bulk at most 1048576.
-/
import Derived.Test.YtmkjnefongjniaaO12
import Derived.Test.YtmkjnefongjniaaLift
import Derived.Test.YtmkjnefongjniaaRoom
import Derived.OpenShut
import Derived.LaidLaws
import Derived.Deep.DeepHandedRow
namespace Go.Proofs.Ytmkjnefongjniaa
open Go Go.X Go.ChangeShapes Go.WideShapes Go.ChangeAt Go.RowKit

namespace octetsWholeUpto
set_option maxRecDepth 100000 in
theorem contract (H : Type) (enc : TypeId × Value → H) (W : World) (base : Nat) (args : Array Value) (ds gs : List (DataW H)) (before : List MemPlace)
    (hval : ∀ (j : Nat) t v, Try.f6.params[j]? = some t → args[j]? = some v → Value.okWide Try.prog W .any base t v)
    (hW : DataW.Whole enc Try.prog Try.f6.params.toList Rows.octetsWholeSpec.vars false W args.toList ds gs before)
    (hwt : (DataW.weightsEach Try.prog (Try.f6.params.toList ++ (Rows.OpenSpec.upto Rows.octetsWholeSpec).bare.plain.varTypes Try.prog) (ds ++ gs)).all (· ≤ reachBytes) = true) (hk0 : Rows.uptoSmall H (ds ++ gs) = true) :
    Calls Try.prog 6 args W fun e W' => ∃ v, e = .returned v ∧ Rows.octetsWholeSpec.post enc Try.prog Try.f6 false true false false W args v W' := by
  have hW' := hW
  obtain ⟨p, q, hA0, hV, rfl, hfz, hnd⟩ := hW
  have hA : DataW.TrodAll enc Try.prog W 0 (fun _ => true) true Try.f6.params.toList args.toList ds p := hA0
  rw [Try.params6] at hA hval hwt
  obtain ⟨v0, vs0, d0, ds0, p0, q0, hargs, rfl, rfl, h0, r0⟩ := trodAll_cons hA
  obtain ⟨v1, vs1, d1, ds1, p1, q1, rfl, rfl, rfl, h1, r1⟩ := trodAll_cons r0
  obtain ⟨rfl, rfl, rfl⟩ := trodAll_nil r1
  obtain rfl : args = #[v0, v1] := by cases args; simp_all
  obtain ⟨rfl, rfl⟩ := trodVars_none hV
  obtain ⟨TA, tc, tx, rfl, htc, htcb, hT, htby⟩ := open_slice s22 u5 (hval 0 22 v0 rfl rfl) h0 (weights_at hwt 0 22 d0 rfl rfl)
  obtain ⟨BA, bc, b, rfl, hbc, hbcb, hB, hbby⟩ := open_slice s22 u5 (hval 1 22 v1 rfl rfl) h1 (weights_at hwt 1 22 d1 rfl rfl)
  clear hA0
  have hk := bulks.bound hk0
  simp only [List.append_nil, Rows.uptoBulkAll] at hk
  have hn0 := slice_len s22 u5 h0
  have hn1 := slice_len s22 u5 h1
  have hw := whole_law b BA bc hbc (by unfold reachBytes at hbcb; omega) (bytes_of hbby) tx TA tc htc (by unfold reachBytes at htcb; omega) (bytes_of htby) (by omega) W hB hT
  unfold Does at hw
  refine hw.mono ?_
  rintro e W' ⟨v, F, he, hm, rfl, hG⟩
  exact ⟨_, he, law_post (by kernel_rfl) rfl (by kernel_rfl) tbool hW' rfl hm.kept⟩
theorem laid_met (os : Os) : laidMet Try.prog Rows.octetsWholeUptoRow.laid ((laidWorld os).forCall (fun _ _ => 0) ⟨#[], #[.slice none 0 0, .slice none 0 0], []⟩).memory :=
  laidMet_of_run' 8 (by kernel_rfl) (by kernel_rfl)
theorem reads (os : Os) {H : Type} (enc : TypeId × Value → H) : ∃ places, DataW.whole enc Try.prog ((laidWorld os).forCall (fun _ _ => 0) ⟨#[], #[.slice none 0 0, .slice none 0 0], []⟩).memory Try.f6.params.toList Rows.octetsWholeSpec.vars false #[.slice none 0 0, .slice none 0 0].toList 8 = some ([.nil, .nil], [], places) :=
  ⟨[], by kernel_rfl⟩
set_option maxRecDepth 100000 in
theorem lifted (os : Os) (started : os.Started) (H : Type) (enc : TypeId × Value → H) (F : Stop.Interp) :
    ReturnsInHanded {} Try.checked os 6 .any ((Rows.OpenSpec.upto Rows.octetsWholeSpec).preRow enc Try.prog Try.f6 Rows.octetsWholeUptoRow.domain false Rows.octetsWholeUptoRow.laid) (((Rows.OpenSpec.upto Rows.octetsWholeSpec).at F).post enc Try.prog Try.f6 false true false false) := by
  obtain ⟨places, hx⟩ := reads os enc
  refine returnsInHanded_of_row (C := Try.checked) (s := Rows.OpenSpec.upto Rows.octetsWholeSpec) own started (by kernel_rfl) Try.func6
    (witness_row_at (enc := enc) (C := Try.checked) false (laidWorld os) #[.slice none 0 0, .slice none 0 0] rfl (by kernel_rfl) (by kernel_rfl) (by kernel_rfl)
      (OpenSpec.preRow_of_cond 8 hx (by kernel_rfl) (fun k hk => by cases hk; kernel_rfl) (by kernel_rfl) (laid_met os))) ?_
  intro W base args ds gs before hval hW _ hcond hwt _ _ _
  exact contract H enc W base args ds gs before hval hW hwt (hcond _ rfl)
theorem said : Rows.OctetsWholeUptoSaid :=
  OpenClaim.holds_of_cond 6 Try.f6 rfl rfl rfl rfl rfl rfl rfl ⟨rfl, rfl, rfl, rfl, rfl⟩ rfl rfl rfl rfl rfl (by kernel_rfl) Try.func6 (by kernel_rfl)
    (of_decide_eq_true (by kernel_rfl)) (by unfold Func.isWrapper; first | (rw [if_pos (by decide +kernel)]; kernel_rfl) | (rw [if_neg (by decide +kernel)]; exact ⟨rfl, rfl⟩))
    (fun os started H enc _ F => by rw [OpenClaim.pre_eq_preRow]; exact lifted os started H enc F)
end octetsWholeUpto
end Go.Proofs.Ytmkjnefongjniaa
