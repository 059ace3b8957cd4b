/-
  sheavelaw15.KeysPlays: keys go on as the document says, from any root, clones too: proved as the row says it, of every argument that the row lets in, the three tables of package blake holding what the text lays, and as the card that ties these tables to the text.
-/
import Derived.Test.YtkoomaoelekpaaaDoorP3
import Derived.Test.YtkoomaoelekpaaaDoorLiftP
import Derived.Test.YtkoomaoelekpaaaDoorCards
import Derived.Test.YtkoomaoelekpaaaDoorTie
import Derived.OpenShut
import Derived.Deep.DeepHandedRow
namespace Go.Proofs.YtkoomaoelekpaaaDoor
open Go Go.X Go.ChangeShapes Go.WideShapes Go.ChangeAt Go.RowKit

namespace keysPlays
set_option maxRecDepth 100000 in
theorem contract (H : Type) (enc : TypeId × Value → H) (W : World) (base : Nat) (args : Array Value) (ds gs : List (DataW H)) (before : List MemPlace)
    (hval : ∀ (j : Nat) t v, Tryd.f17.params[j]? = some t → args[j]? = some v → Value.okWide Tryd.prog W .any base t v)
    (hW : DataW.Whole enc Tryd.prog Tryd.f17.params.toList Rows.keysPlaysSpec.vars false W args.toList ds gs before)
    (hwt : (DataW.weightsEach Tryd.prog (Tryd.f17.params.toList ++ (OpenSpec.ofChange Rows.keysPlaysSpec).bare.plain.varTypes Tryd.prog) (ds ++ gs)).all (· ≤ reachBytes) = true) (hL : laidMetH Tryd.prog Rows.keysPlaysRow.laid W) :
    Calls Tryd.prog 17 args W fun e W' => ∃ v, e = .returned v ∧ Rows.keysPlaysSpec.post enc Tryd.prog Tryd.f17 false true false false W args v W' := by
  have hg0 := table0 hL
  have hg1 := table1 hL
  have hg2 := table2 hL
  have hW' := hW
  obtain ⟨p, q, hA0, hV, rfl, hfz, hnd⟩ := hW
  have hA : DataW.TrodAll enc Tryd.prog W 0 (fun _ => true) true Tryd.f17.params.toList args.toList ds p := hA0
  rw [Tryd.params17] at hA hval hwt
  obtain ⟨v0, vs0, d0, ds0, p0, q0, hargs, rfl, rfl, h0, r0⟩ := trodAll_cons hA
  obtain ⟨v1, vs1, d1, ds1, p1, q1, rfl, rfl, rfl, h1, r1⟩ := trodAll_cons r0
  obtain ⟨rfl, rfl, rfl⟩ := trodAll_nil r1
  obtain rfl : args = #[v0, v1] := by cases args; simp_all
  obtain ⟨rfl, rfl⟩ := trodVars_none hV
  obtain ⟨k, rfl, hk, hkb_⟩ := open_arr a29 u5 ce29 (hval 0 29 v0 rfl rfl) h0
  obtain ⟨LA, lc, xs, rfl, hlc, hlcb, hL, hlby⟩ := open_slice s57 u3 (hval 1 57 v1 rfl rfl) h1 (weights_at hwt 1 57 d1 rfl rfl)
  clear hA0
  have hw := plays_law k hk xs LA lc hlc W hL hg0 hg1 hg2
  unfold Does at hw
  refine hw.mono ?_
  rintro e W' ⟨v, F, he, hm, rfl, hG⟩
  exact ⟨_, he, law_post (by kernel_rfl) rfl (by kernel_rfl) tbool hW' rfl hm.kept⟩
theorem laid_met (os : Os) : laidMet Tryd.prog Rows.keysPlaysRow.laid ((laidWorld os).forCall (fun _ _ => 0) ⟨#[], #[.agg (List.replicate 32 (Value.int .u8 0)).toArray, .slice none 0 0], []⟩).memory :=
  laidMet_of_run' 8 (by kernel_rfl) (by kernel_rfl)
theorem reads (os : Os) {H : Type} (enc : TypeId × Value → H) : ∃ places, DataW.whole enc Tryd.prog ((laidWorld os).forCall (fun _ _ => 0) ⟨#[], #[.agg (List.replicate 32 (Value.int .u8 0)).toArray, .slice none 0 0], []⟩).memory Tryd.f17.params.toList Rows.keysPlaysSpec.vars false #[.agg (List.replicate 32 (Value.int .u8 0)).toArray, .slice none 0 0].toList 8 = some ([.agg (List.replicate 32 (DataW.lit (.int .u8 0))), .nil], [], places) :=
  ⟨[], by kernel_rfl⟩
set_option maxRecDepth 100000 in
theorem lifted (os : Os) (started : os.Started) (H : Type) (enc : TypeId × Value → H) (F : Stop.Interp) :
    ReturnsInHanded {} Tryd.checked os 17 .any ((OpenSpec.ofChange Rows.keysPlaysSpec).preRow enc Tryd.prog Tryd.f17 Rows.keysPlaysRow.domain false Rows.keysPlaysRow.laid) (((OpenSpec.ofChange Rows.keysPlaysSpec).at F).post enc Tryd.prog Tryd.f17 false true false false) := by
  obtain ⟨places, hx⟩ := reads os enc
  refine returnsInHanded_of_row (C := Tryd.checked) (s := OpenSpec.ofChange Rows.keysPlaysSpec) own started (by kernel_rfl) Tryd.func17
    (witness_row_at (enc := enc) (C := Tryd.checked) false (laidWorld os) #[.agg (List.replicate 32 (Value.int .u8 0)).toArray, .slice none 0 0] rfl (by kernel_rfl) (by kernel_rfl) (by kernel_rfl)
      (OpenSpec.preRow_of_cond 8 hx (by kernel_rfl) (fun k hk => by cases hk) (by kernel_rfl) (laid_met os))) ?_
  intro W base args ds gs before hval hW _ _ hwt hL _ _
  exact contract H enc W base args ds gs before hval hW hwt hL
theorem said : Rows.KeysPlaysSaid :=
  OpenClaim.holds_of_cond 17 Tryd.f17 rfl rfl rfl rfl rfl rfl rfl ⟨rfl, rfl, rfl, rfl, rfl⟩ rfl rfl rfl rfl rfl (by kernel_rfl) Tryd.func17 (by kernel_rfl)
    (of_decide_eq_true (by kernel_rfl)) (by unfold Func.isWrapper; first | (rw [if_pos (by decide +kernel)]; kernel_rfl) | (rw [if_neg (by decide +kernel)]; exact ⟨rfl, rfl⟩))
    (fun os started H enc _ F => by rw [OpenClaim.pre_eq_preRow]; exact lifted os started H enc F)
theorem plain (f : FuncId) (fn : Func) (hf : Tryd.pinned.checked.prog.funcNamed "sheave/sheavelaw15.KeysPlays" = some f) (hfn : Tryd.pinned.checked.prog.funcs[f]? = some fn) :
    false = Tryd.pinned.checked.prog.looks [] ∧ ∀ (j : Nat) t, fn.params[j]? = some t → Tryd.pinned.checked.prog.wantsStandIn t = false := by
  obtain rfl : f = 17 := Option.some.inj ((show Tryd.prog.funcNamed "sheave/sheavelaw15.KeysPlays" = some 17 by kernel_rfl).symm.trans hf) |>.symm
  obtain rfl : fn = Tryd.f17 := (Option.some.inj (Tryd.func17.symm.trans hfn)).symm
  refine ⟨by kernel_rfl, fun j t ht => ?_⟩
  rw [Tryd.params17] at ht
  have hm := Array.mem_of_getElem? ht
  simp only [List.mem_toArray, List.mem_cons, List.not_mem_nil, or_false] at hm
  rcases hm with rfl | rfl
  · exact (show Tryd.prog.wantsStandIn 29 = false by kernel_rfl)
  · exact (show Tryd.prog.wantsStandIn 57 = false by kernel_rfl)
/-- The card. -/
theorem card : Rows.KeysPlaysCardSaid :=
  Claim7.holds_tied_plain_at .later [] _ _ _ _ said (fun _ h => by cases h) (by kernel_rfl) (fun _ h => by cases h) keysPlays_row_tie rfl ⟨rfl, rfl⟩ (by kernel_rfl) rfl plain (by kernel_rfl)
end keysPlays
end Go.Proofs.YtkoomaoelekpaaaDoor
