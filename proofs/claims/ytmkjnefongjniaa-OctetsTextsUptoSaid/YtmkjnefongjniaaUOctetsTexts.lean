/-
  sheavelaw09.OctetsTexts: any text is put, and taken, as the document says: proved as the row says it, of arguments that are together of bulk at most 1048576.
-/
import Derived.Test.YtmkjnefongjniaaO12
import Derived.Test.YtmkjnefongjniaaLift
import Derived.Test.YtmkjnefongjniaaRoom
import Derived.OpenShut
import Derived.LaidLaws
import Derived.Deep.DeepHandedRow
namespace Go.Proofs.Ytmkjnefongjniaa
open Go Go.X Go.ChangeShapes Go.WideShapes Go.ChangeAt Go.RowKit

namespace octetsTextsUpto
set_option maxRecDepth 100000 in
theorem contract (H : Type) (enc : TypeId × Value → H) (W : World) (base : Nat) (args : Array Value) (ds gs : List (DataW H)) (before : List MemPlace)
    (hval : ∀ (j : Nat) t v, Try.f5.params[j]? = some t → args[j]? = some v → Value.okWide Try.prog W .any base t v)
    (hW : DataW.Whole enc Try.prog Try.f5.params.toList Rows.octetsTextsSpec.vars false W args.toList ds gs before)
    (hwt : (DataW.weightsEach Try.prog (Try.f5.params.toList ++ (Rows.OpenSpec.upto Rows.octetsTextsSpec).bare.plain.varTypes Try.prog) (ds ++ gs)).all (· ≤ reachBytes) = true) (hk0 : Rows.uptoSmall H (ds ++ gs) = true) :
    Calls Try.prog 5 args W fun e W' => ∃ v, e = .returned v ∧ Rows.octetsTextsSpec.post enc Try.prog Try.f5 false true false false W args v W' := by
  have hW' := hW
  obtain ⟨p, q, hA0, hV, rfl, hfz, hnd⟩ := hW
  have hA : DataW.TrodAll enc Try.prog W 0 (fun _ => true) true Try.f5.params.toList args.toList ds p := hA0
  rw [Try.params5] at hA hval hwt
  obtain ⟨v0, vs0, d0, ds0, p0, q0, hargs, rfl, rfl, h0, r0⟩ := trodAll_cons hA
  obtain ⟨v1, vs1, d1, ds1, p1, q1, rfl, rfl, rfl, h1, r1⟩ := trodAll_cons r0
  obtain ⟨v2, vs2, d2, ds2, p2, q2, rfl, rfl, rfl, h2, r2⟩ := trodAll_cons r1
  obtain ⟨rfl, rfl, rfl⟩ := trodAll_nil r2
  obtain rfl : args = #[v0, v1, v2] := by cases args; simp_all
  obtain ⟨rfl, rfl⟩ := trodVars_none hV
  obtain ⟨BA, bc, b, rfl, hbc, hbcb, hB, hbby⟩ := open_slice s22 u5 (hval 0 22 v0 rfl rfl) h0 (weights_at hwt 0 22 d0 rfl rfl)
  obtain ⟨TA, tc, tx, rfl, htc, htcb, hT, htby⟩ := open_slice s22 u5 (hval 1 22 v1 rfl rfl) h1 (weights_at hwt 1 22 d1 rfl rfl)
  obtain ⟨z, rfl, hz⟩ := open_i u3 (hval 2 3 v2 rfl rfl) h2
  clear hA0
  have hk := bulks.bound hk0
  simp only [List.append_nil, Rows.uptoBulkAll] at hk
  have hn0 := slice_len s22 u5 h0
  have hn1 := slice_len s22 u5 h1
  have hw := texts_law b BA bc hbc (by unfold reachBytes at hbcb; omega) (bytes_of hbby) tx TA tc htc (by unfold reachBytes at htcb; omega) (bytes_of htby) (by omega) z W hB hT
  unfold Does at hw
  refine hw.mono ?_
  rintro e W' ⟨v, F, he, hm, rfl, hG⟩
  exact ⟨_, he, law_post (by kernel_rfl) rfl (by kernel_rfl) tbool hW' rfl hm.kept⟩
theorem laid_met (os : Os) : laidMet Try.prog Rows.octetsTextsUptoRow.laid ((laidWorld os).forCall (fun _ _ => 0) ⟨#[], #[.slice none 0 0, .slice none 0 0, .int .i64 0], []⟩).memory :=
  laidMet_of_run' 8 (by kernel_rfl) (by kernel_rfl)
theorem reads (os : Os) {H : Type} (enc : TypeId × Value → H) : ∃ places, DataW.whole enc Try.prog ((laidWorld os).forCall (fun _ _ => 0) ⟨#[], #[.slice none 0 0, .slice none 0 0, .int .i64 0], []⟩).memory Try.f5.params.toList Rows.octetsTextsSpec.vars false #[.slice none 0 0, .slice none 0 0, .int .i64 0].toList 8 = some ([.nil, .nil, .lit (.int .i64 0)], [], places) :=
  ⟨[], by kernel_rfl⟩
set_option maxRecDepth 100000 in
theorem lifted (os : Os) (started : os.Started) (H : Type) (enc : TypeId × Value → H) (F : Stop.Interp) :
    ReturnsInHanded {} Try.checked os 5 .any ((Rows.OpenSpec.upto Rows.octetsTextsSpec).preRow enc Try.prog Try.f5 Rows.octetsTextsUptoRow.domain false Rows.octetsTextsUptoRow.laid) (((Rows.OpenSpec.upto Rows.octetsTextsSpec).at F).post enc Try.prog Try.f5 false true false false) := by
  obtain ⟨places, hx⟩ := reads os enc
  refine returnsInHanded_of_row (C := Try.checked) (s := Rows.OpenSpec.upto Rows.octetsTextsSpec) own started (by kernel_rfl) Try.func5
    (witness_row_at (enc := enc) (C := Try.checked) false (laidWorld os) #[.slice none 0 0, .slice none 0 0, .int .i64 0] rfl (by kernel_rfl) (by kernel_rfl) (by kernel_rfl)
      (OpenSpec.preRow_of_cond 8 hx (by kernel_rfl) (fun k hk => by cases hk; kernel_rfl) (by kernel_rfl) (laid_met os))) ?_
  intro W base args ds gs before hval hW _ hcond hwt _ _ _
  exact contract H enc W base args ds gs before hval hW hwt (hcond _ rfl)
theorem said : Rows.OctetsTextsUptoSaid :=
  OpenClaim.holds_of_cond 5 Try.f5 rfl rfl rfl rfl rfl rfl rfl ⟨rfl, rfl, rfl, rfl, rfl⟩ rfl rfl rfl rfl rfl (by kernel_rfl) Try.func5 (by kernel_rfl)
    (of_decide_eq_true (by kernel_rfl)) (by unfold Func.isWrapper; first | (rw [if_pos (by decide +kernel)]; kernel_rfl) | (rw [if_neg (by decide +kernel)]; exact ⟨rfl, rfl⟩))
    (fun os started H enc _ F => by rw [OpenClaim.pre_eq_preRow]; exact lifted os started H enc F)
end octetsTextsUpto
end Go.Proofs.Ytmkjnefongjniaa
