/-
 EmitPlaces returns true for every input where what it reads is of bulk at most 1048576; the arguments read behind the call as before. Conditions: those of the given card.
-/
import Derived.SevenTiedAt
import Derived.Test.YtklpioocdgfbmaaGreatDoorCards
import Derived.Test.YtklpioocdgfbmaaGreatDoorTie
import Derived.Test.YtklpioocdgfbmaaGreatDoorP8
set_option linter.unusedSimpArgs false
set_option linter.unusedVariables false
namespace Go.Proofs.YtklpioocdgfbmaaGreatDoor
set_option maxRecDepth 100000
set_option maxHeartbeats 4000000
open Go Go.Cb Go.ChangeShapes Go.WideShapes Go.ChangeAt Go.RowKit
theorem emitPlaces_contract (H : Type) (enc : TypeId × Value → H) (F : Stop.Interp) (W : World) (base : Nat) (args : Array Value) (ds gs : List (DataW H)) (before : List MemPlace)
  (hval : ∀ (j : Nat) t v, Tryz.f7.params[j]? = some t → args[j]? = some v → Value.okWide Tryz.prog W .any base t v)
  (hW : DataW.Whole enc Tryz.prog Tryz.f7.params.toList ((Rows.OpenSpec.upto Rows.emitPlacesSpec).at F).vars false W args.toList ds gs before)
  (hcond : Rows.uptoSmall H (ds ++ gs) = true) :
  Calls Tryz.prog 7 args W fun e W' => ∃ v, e = .returned v ∧ ((Rows.OpenSpec.upto Rows.emitPlacesSpec).at F).post enc Tryz.prog Tryz.f7 false true false false W args v W' := by
 have hW' := hW
 obtain ⟨p, q, hA0, hV, rfl, hfz, hnd⟩ := hW
 have hA : DataW.TrodAll enc Tryz.prog W 0 (fun _ => true) true Tryz.f7.params.toList args.toList ds p := hA0
 rw [Tryz.params7] at hA hval
 obtain ⟨v0, vs0, d0, ds0, p0, q0, hargs, rfl, rfl, h0, r0⟩ := trodAll_cons hA
 obtain ⟨rfl, rfl, rfl⟩ := trodAll_nil r0
 obtain rfl : args = #[v0] := by cases args; simp_all
 obtain ⟨a0, hp0, hb0⟩ := arg_struct Tryz.underlying45 rdU (hval 0 _ v0 rfl rfl) h0
 have hb := of_decide_eq_true hcond
 simp only [List.cons_append, Rows.uptoBulkAll] at hb
 refine (calls_true (emitPlaces_c a0) (vs := [v0]) (by simp only [RepT, and_true]; exact hp0)).mono ?_
 rintro e W' ⟨rfl, hbel⟩
 exact ⟨_, rfl, law_post laidOut (fun t ht => by
  rw [Tryz.params7] at ht
  simp only [List.mem_cons, List.mem_nil_iff, or_false] at ht
  subst ht
  exact okU) (by kernel_rfl) Tryz.underlying4 rfl (fun ds hd => by
  rw [Tryz.params7] at hd
  match ds, hd with
  | [a], _ => rfl) hW' hbel⟩
def emitPlaces_args : Array Value := #[.agg #[.slice none 0 0, .slice none 0 0]]
theorem emitPlaces_witness (os : Os) {H : Type} (enc : TypeId × Value → H) :
  (Rows.OpenSpec.upto Rows.emitPlacesSpec).preRow enc Tryz.prog Tryz.f7 Rows.emitPlacesUptoRow.domain false Rows.emitPlacesUptoRow.laid ((laidWorld os).forCall (fun _ _ => 0) ⟨#[], emitPlaces_args, []⟩).memory emitPlaces_args := by
 have hw : (DataW.whole enc Tryz.prog ((laidWorld os).forCall (fun _ _ => 0) ⟨#[], emitPlaces_args, []⟩).memory Tryz.f7.params.toList (Rows.OpenSpec.upto Rows.emitPlacesSpec).vars false emitPlaces_args.toList 8).map (fun x => (x.1, x.2.1)) =
   some ([.agg [.nil, .nil]], []) := by kernel_rfl
 obtain ⟨⟨x1, x2, x3⟩, hx, hx1⟩ := Option.map_eq_some_iff.1 hw
 simp only [Prod.mk.injEq] at hx1
 obtain ⟨rfl, rfl⟩ := hx1
 exact OpenSpec.preRow_of_cond 8 hx (by kernel_rfl) (fun k hk => by cases hk; kernel_rfl) (by kernel_rfl) (laid_met os _)
theorem emitPlaces_lifted (os : Os) (started : os.Started) (H : Type) (enc : TypeId × Value → H) (F : Stop.Interp) :
  ReturnsInHanded {} Tryz.checked os 7 .any ((Rows.OpenSpec.upto Rows.emitPlacesSpec).preRow enc Tryz.prog Tryz.f7 Rows.emitPlacesUptoRow.domain false Rows.emitPlacesUptoRow.laid) (((Rows.OpenSpec.upto Rows.emitPlacesSpec).at F).post enc Tryz.prog Tryz.f7 false true false false) := by
 refine returnsInHanded_of_row (C := Tryz.checked) (s := Rows.OpenSpec.upto Rows.emitPlacesSpec) own_none started (by kernel_rfl) Tryz.func7
  (witness_row_atRef (enc := enc) (C := Tryz.checked) false (laidWorld os) emitPlaces_args rfl (by kernel_rfl) (by kernel_rfl) (by kernel_rfl) (emitPlaces_witness os enc)) ?_
 intro W base args ds gs before hval hW _ hcond _ hL _ _
 exact emitPlaces_contract H enc F W base args ds gs before hval hW (hcond _ rfl)
theorem emitPlaces_name : Tryz.prog.funcNamed Rows.emitPlacesUptoRow.func = some 7 := by kernel_rfl
theorem emitPlaces_inst : Tryz.f7.isInstance Tryz.prog Rows.emitPlacesUptoRow.origin Rows.emitPlacesUptoRow.targs := of_decide_eq_true (by kernel_rfl)
theorem emitPlaces_wrap : Tryz.f7.isWrapper Tryz.prog Rows.emitPlacesUptoRow.wrapper Rows.emitPlacesUptoRow.mainSum := by
 unfold Func.isWrapper
 rw [if_neg (of_decide_eq_false (by kernel_rfl))]
 exact ⟨rfl, rfl⟩
theorem andI {a b : Bool} (h : a = true) (k : b = true) : (a && b) = true := by rw [h, k]; rfl
theorem emitPlaces_f1 : (Rows.emitPlacesUptoRow.wf (OpenSpec.ofChange ((Rows.OpenSpec.upto Rows.emitPlacesSpec).bare))) = true := by kernel_rfl
theorem emitPlaces_f2 : (laidOutB Tryz.prog) = true := by kernel_rfl
theorem emitPlaces_f3 : (mapsRowed Tryz.prog) = true := by kernel_rfl
theorem emitPlaces_f4 : (Tryz.f7.params.all (Tryz.prog.readableRec ·)) = true := by kernel_rfl
theorem emitPlaces_f5 : (namedTie Tryz.prog Rows.emitPlacesUptoRow.named ((Rows.OpenSpec.upto Rows.emitPlacesSpec).bare).vars) = true := by kernel_rfl
theorem emitPlaces_f6 : ((Rows.emitPlacesUptoRow.stops == [])) = true := by kernel_rfl
theorem emitPlaces_f7 : ((Tryz.prog.stops == [])) = true := by kernel_rfl
theorem emitPlaces_f8 : ((Rows.emitPlacesUptoRow.knobs == [])) = true := by kernel_rfl
theorem emitPlaces_f9 : ((Tryz.prog.stopKnobs == [])) = true := by kernel_rfl
theorem emitPlaces_f10 : ((Rows.emitPlacesUptoRow.inPlace == Tryz.prog.inPlace 7)) = true := by kernel_rfl
theorem emitPlaces_f11 : ((Rows.emitPlacesUptoRow.unfollowed == Tryz.prog.unfollowed 7)) = true := by kernel_rfl
theorem emitPlaces_f12 : ((Rows.emitPlacesUptoRow.recurses == Tryz.prog.recurses 7)) = true := by kernel_rfl
theorem emitPlaces_f13 : ((Rows.emitPlacesUptoRow.named == Tryz.prog.varsNamed 7)) = true := by kernel_rfl
theorem emitPlaces_f14 : ((Rows.emitPlacesUptoRow.maps == (Tryz.f7.params.toList ++ ((Rows.OpenSpec.upto Rows.emitPlacesSpec).bare).plain.varTypes Tryz.prog).any (Tryz.prog.mapsRec ·))) = true := by kernel_rfl
theorem emitPlaces_f15 : ((Rows.emitPlacesUptoRow.ifaces == (Tryz.f7.params.toList ++ ((Rows.OpenSpec.upto Rows.emitPlacesSpec).bare).plain.varTypes Tryz.prog).any (Tryz.prog.ifacesRec ·))) = true := by kernel_rfl
theorem emitPlaces_f16 : ((Rows.emitPlacesUptoRow.mapsOut == Tryz.prog.mapsAmong Tryz.f7.resultTypes.toList)) = true := by kernel_rfl
theorem emitPlaces_f17 : ((Rows.emitPlacesUptoRow.loops == (Tryz.f7.params.toList ++ ((Rows.OpenSpec.upto Rows.emitPlacesSpec).bare).plain.varTypes Tryz.prog).any (Tryz.prog.loopsFrom ·))) = true := by kernel_rfl
theorem emitPlaces_f18 : ((Rows.emitPlacesUptoRow.wideKeys == (Tryz.f7.params.toList ++ ((Rows.OpenSpec.upto Rows.emitPlacesSpec).bare).plain.varTypes Tryz.prog ++ Tryz.f7.resultTypes.toList).any (Tryz.prog.wideKeysFrom ·))) = true := by kernel_rfl
theorem emitPlaces_f19 : (((Rows.OpenSpec.upto Rows.emitPlacesSpec).bare).vars.all (Tryz.prog.varReadable ·)) = true := by kernel_rfl
theorem emitPlaces_f20 : (Tryz.f7.resultTypes.all (fun t => Tryz.prog.readableRec t && decide (t < Tryz.prog.types.size))) = true := by kernel_rfl
theorem emitPlaces_f21 : ((Rows.emitPlacesUptoRow.ifacesOut == Tryz.f7.resultTypes.toList.any (Tryz.prog.ifacesRec ·))) = true := by kernel_rfl
theorem emitPlaces_f22 : ((Rows.emitPlacesUptoRow.loopsOut == Tryz.f7.resultTypes.toList.any (Tryz.prog.loopsFrom ·))) = true := by kernel_rfl
theorem emitPlaces_f23 : ((Rows.emitPlacesUptoRow.plainKeys == Tryz.prog.plainKeys)) = true := by kernel_rfl
theorem emitPlaces_f24 : (Rows.emitPlacesUptoRow.shortTexts.isNone) = true := by kernel_rfl
theorem emitPlaces_f25 : (Tryz.prog.stopsHeard) = true := by kernel_rfl
theorem emitPlaces_f26 : (Tryz.prog.mayEnter) = true := by kernel_rfl
theorem emitPlaces_f27 : ((Rows.emitPlacesUptoRow.lifted == Tryz.prog.liftsFinal)) = true := by kernel_rfl
theorem emitPlaces_f28 : ((Tryz.prog.make == some Rows.emitPlacesUptoRow.make)) = true := by kernel_rfl
theorem emitPlaces_f29 : ((Rows.emitPlacesUptoRow.kinds == (if Rows.emitPlacesUptoRow.domain.isEmpty then [] else Tryz.f7.params.toList.map fun t => match Tryz.prog.underlying t with | some (.int k) => some k | _ => none))) = true := by kernel_rfl
theorem emitPlaces_f30 : ((Rows.emitPlacesUptoRow.pinned == Rows.emitPlacesUptoRow.pinnedBy)) = true := by kernel_rfl
theorem emitPlaces_f31 : ((Rows.emitPlacesUptoRow.veiled == (Tryz.f7.params.toList ++ ((Rows.OpenSpec.upto Rows.emitPlacesSpec).bare).plain.varTypes Tryz.prog ++ Tryz.f7.resultTypes.toList).any (Tryz.prog.veiledRec ·))) = true := by kernel_rfl
theorem emitPlaces_f32 : (Rows.emitPlacesUptoRow.veiledFits Tryz.prog Tryz.f7.params.toList (Tryz.f7.params.toList ++ ((Rows.OpenSpec.upto Rows.emitPlacesSpec).bare).plain.varTypes Tryz.prog ++ Tryz.f7.resultTypes.toList)) = true := by kernel_rfl
theorem emitPlaces_facts : joinedFacts Tryz.prog 7 Tryz.f7 (Rows.OpenSpec.upto Rows.emitPlacesSpec).bare Rows.emitPlacesUptoRow = true := by
 unfold joinedFacts
 exact (andI (andI (andI (andI (andI (andI (andI (andI (andI (andI (andI (andI (andI (andI (andI (andI (andI (andI (andI (andI (andI (andI (andI (andI (andI (andI (andI (andI (andI (andI (andI emitPlaces_f1 emitPlaces_f2) emitPlaces_f3) emitPlaces_f4) emitPlaces_f5) emitPlaces_f6) emitPlaces_f7) emitPlaces_f8) emitPlaces_f9) emitPlaces_f10) emitPlaces_f11) emitPlaces_f12) emitPlaces_f13) emitPlaces_f14) emitPlaces_f15) emitPlaces_f16) emitPlaces_f17) emitPlaces_f18) emitPlaces_f19) emitPlaces_f20) emitPlaces_f21) emitPlaces_f22) emitPlaces_f23) emitPlaces_f24) emitPlaces_f25) emitPlaces_f26) emitPlaces_f27) emitPlaces_f28) emitPlaces_f29) emitPlaces_f30) emitPlaces_f31) emitPlaces_f32)
theorem emitPlaces_said : Rows.EmitPlacesUptoSaid :=
 OpenClaim.holds_of_cond 7 Tryz.f7 rfl rfl rfl rfl rfl rfl rfl ⟨rfl, rfl, rfl, rfl, rfl⟩ rfl rfl rfl rfl rfl emitPlaces_name Tryz.func7 emitPlaces_facts emitPlaces_inst emitPlaces_wrap
  (fun os started H enc _ F => by rw [OpenClaim.pre_eq_preRow]; exact emitPlaces_lifted os started H enc F)
theorem emitPlaces_plain (f : FuncId) (fn : Func) (hf : Tryz.pinned.checked.prog.funcNamed Rows.emitPlacesUptoRow.func = some f) (hfn : Tryz.pinned.checked.prog.funcs[f]? = some fn) :
  true = Tryz.pinned.checked.prog.looks [] ∧ ∀ (j : Nat) t, fn.params[j]? = some t → Tryz.pinned.checked.prog.wantsStandIn t = false := by
 obtain rfl : f = 7 := Option.some.inj (emitPlaces_name.symm.trans hf) |>.symm
 obtain rfl : fn = Tryz.f7 := (Option.some.inj (Tryz.func7.symm.trans hfn)).symm
 refine ⟨by kernel_rfl, fun j t ht => ?_⟩
 rw [Tryz.params7] at ht
 have hm := Array.mem_of_getElem? ht
 simp only [List.mem_toArray, List.mem_cons, List.mem_nil_iff, or_false] at hm
 subst hm
 exact (show Tryz.prog.wantsStandIn 45 = false by kernel_rfl)
theorem emitPlaces_card : Rows.EmitPlacesUptoCardSaid :=
 Claim7.holds_tied_plain_at .later [] _ _ _ _ emitPlaces_said (fun _ h => by cases h) (by kernel_rfl) (fun _ h => by cases h) emitPlacesUpto_row_tie rfl ⟨rfl, rfl⟩ (by kernel_rfl) rfl emitPlaces_plain (by kernel_rfl)
end Go.Proofs.YtklpioocdgfbmaaGreatDoor

