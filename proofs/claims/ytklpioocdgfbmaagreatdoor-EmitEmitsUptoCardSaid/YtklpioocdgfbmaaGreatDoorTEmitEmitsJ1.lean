/-
 EmitEmits returns true for every input where what it reads is of bulk at most 1048576; the arguments read behind the call as before. Conditions: those of the given card.
-/
import Derived.SevenTiedAt
import Derived.Test.YtklpioocdgfbmaaGreatDoorCards
import Derived.Test.YtklpioocdgfbmaaGreatDoorTie
import Derived.Test.YtklpioocdgfbmaaGreatDoorE8
set_option linter.unusedSimpArgs false
set_option linter.unusedVariables false
namespace Go.Proofs.YtklpioocdgfbmaaGreatDoor
set_option maxRecDepth 100000
set_option maxHeartbeats 4000000
open Go Go.Cb Go.ChangeShapes Go.WideShapes Go.ChangeAt Go.RowKit
theorem emitEmits_contract (H : Type) (enc : TypeId × Value → H) (F : Stop.Interp) (W : World) (base : Nat) (args : Array Value) (ds gs : List (DataW H)) (before : List MemPlace)
  (hval : ∀ (j : Nat) t v, Tryz.f5.params[j]? = some t → args[j]? = some v → Value.okWide Tryz.prog W .any base t v)
  (hW : DataW.Whole enc Tryz.prog Tryz.f5.params.toList ((Rows.OpenSpec.upto Rows.emitEmitsSpec).at F).vars false W args.toList ds gs before)
  (hcond : Rows.uptoSmall H (ds ++ gs) = true) :
  Calls Tryz.prog 5 args W fun e W' => ∃ v, e = .returned v ∧ ((Rows.OpenSpec.upto Rows.emitEmitsSpec).at F).post enc Tryz.prog Tryz.f5 false true false false W args v W' := by
 have hW' := hW
 obtain ⟨p, q, hA0, hV, rfl, hfz, hnd⟩ := hW
 have hA : DataW.TrodAll enc Tryz.prog W 0 (fun _ => true) true Tryz.f5.params.toList args.toList ds p := hA0
 rw [Tryz.params5] at hA hval
 obtain ⟨v0, vs0, d0, ds0, p0, q0, hargs, rfl, rfl, h0, r0⟩ := trodAll_cons hA
 obtain ⟨rfl, rfl, rfl⟩ := trodAll_nil r0
 obtain rfl : args = #[v0] := by cases args; simp_all
 obtain ⟨a0, hp0, hb0⟩ := arg_struct Tryz.underlying45 rdU (hval 0 _ v0 rfl rfl) h0
 have hb := of_decide_eq_true hcond
 simp only [List.cons_append, Rows.uptoBulkAll] at hb
 refine (calls_true (emitEmits_c a0) (vs := [v0]) (by simp only [RepT, and_true]; exact hp0)).mono ?_
 rintro e W' ⟨rfl, hbel⟩
 exact ⟨_, rfl, law_post laidOut (fun t ht => by
  rw [Tryz.params5] at ht
  simp only [List.mem_cons, List.mem_nil_iff, or_false] at ht
  subst ht
  exact okU) (by kernel_rfl) Tryz.underlying4 rfl (fun ds hd => by
  rw [Tryz.params5] at hd
  match ds, hd with
  | [a], _ => rfl) hW' hbel⟩
def emitEmits_args : Array Value := #[.agg #[.slice none 0 0, .slice none 0 0]]
theorem emitEmits_witness (os : Os) {H : Type} (enc : TypeId × Value → H) :
  (Rows.OpenSpec.upto Rows.emitEmitsSpec).preRow enc Tryz.prog Tryz.f5 Rows.emitEmitsUptoRow.domain false Rows.emitEmitsUptoRow.laid ((laidWorld os).forCall (fun _ _ => 0) ⟨#[], emitEmits_args, []⟩).memory emitEmits_args := by
 have hw : (DataW.whole enc Tryz.prog ((laidWorld os).forCall (fun _ _ => 0) ⟨#[], emitEmits_args, []⟩).memory Tryz.f5.params.toList (Rows.OpenSpec.upto Rows.emitEmitsSpec).vars false emitEmits_args.toList 8).map (fun x => (x.1, x.2.1)) =
   some ([.agg [.nil, .nil]], []) := by kernel_rfl
 obtain ⟨⟨x1, x2, x3⟩, hx, hx1⟩ := Option.map_eq_some_iff.1 hw
 simp only [Prod.mk.injEq] at hx1
 obtain ⟨rfl, rfl⟩ := hx1
 exact OpenSpec.preRow_of_cond 8 hx (by kernel_rfl) (fun k hk => by cases hk; kernel_rfl) (by kernel_rfl) (laid_met os _)
theorem emitEmits_lifted (os : Os) (started : os.Started) (H : Type) (enc : TypeId × Value → H) (F : Stop.Interp) :
  ReturnsInHanded {} Tryz.checked os 5 .any ((Rows.OpenSpec.upto Rows.emitEmitsSpec).preRow enc Tryz.prog Tryz.f5 Rows.emitEmitsUptoRow.domain false Rows.emitEmitsUptoRow.laid) (((Rows.OpenSpec.upto Rows.emitEmitsSpec).at F).post enc Tryz.prog Tryz.f5 false true false false) := by
 refine returnsInHanded_of_row (C := Tryz.checked) (s := Rows.OpenSpec.upto Rows.emitEmitsSpec) own_none started (by kernel_rfl) Tryz.func5
  (witness_row_atRef (enc := enc) (C := Tryz.checked) false (laidWorld os) emitEmits_args rfl (by kernel_rfl) (by kernel_rfl) (by kernel_rfl) (emitEmits_witness os enc)) ?_
 intro W base args ds gs before hval hW _ hcond _ hL _ _
 exact emitEmits_contract H enc F W base args ds gs before hval hW (hcond _ rfl)
theorem emitEmits_name : Tryz.prog.funcNamed Rows.emitEmitsUptoRow.func = some 5 := by kernel_rfl
theorem emitEmits_inst : Tryz.f5.isInstance Tryz.prog Rows.emitEmitsUptoRow.origin Rows.emitEmitsUptoRow.targs := of_decide_eq_true (by kernel_rfl)
theorem emitEmits_wrap : Tryz.f5.isWrapper Tryz.prog Rows.emitEmitsUptoRow.wrapper Rows.emitEmitsUptoRow.mainSum := by
 unfold Func.isWrapper
 rw [if_neg (of_decide_eq_false (by kernel_rfl))]
 exact ⟨rfl, rfl⟩
theorem andI {a b : Bool} (h : a = true) (k : b = true) : (a && b) = true := by rw [h, k]; rfl
theorem emitEmits_f1 : (Rows.emitEmitsUptoRow.wf (OpenSpec.ofChange ((Rows.OpenSpec.upto Rows.emitEmitsSpec).bare))) = true := by kernel_rfl
theorem emitEmits_f2 : (laidOutB Tryz.prog) = true := by kernel_rfl
theorem emitEmits_f3 : (mapsRowed Tryz.prog) = true := by kernel_rfl
theorem emitEmits_f4 : (Tryz.f5.params.all (Tryz.prog.readableRec ·)) = true := by kernel_rfl
theorem emitEmits_f5 : (namedTie Tryz.prog Rows.emitEmitsUptoRow.named ((Rows.OpenSpec.upto Rows.emitEmitsSpec).bare).vars) = true := by kernel_rfl
theorem emitEmits_f6 : ((Rows.emitEmitsUptoRow.stops == [])) = true := by kernel_rfl
theorem emitEmits_f7 : ((Tryz.prog.stops == [])) = true := by kernel_rfl
theorem emitEmits_f8 : ((Rows.emitEmitsUptoRow.knobs == [])) = true := by kernel_rfl
theorem emitEmits_f9 : ((Tryz.prog.stopKnobs == [])) = true := by kernel_rfl
theorem emitEmits_f10 : ((Rows.emitEmitsUptoRow.inPlace == Tryz.prog.inPlace 5)) = true := by kernel_rfl
theorem emitEmits_f11 : ((Rows.emitEmitsUptoRow.unfollowed == Tryz.prog.unfollowed 5)) = true := by kernel_rfl
theorem emitEmits_f12 : ((Rows.emitEmitsUptoRow.recurses == Tryz.prog.recurses 5)) = true := by kernel_rfl
theorem emitEmits_f13 : ((Rows.emitEmitsUptoRow.named == Tryz.prog.varsNamed 5)) = true := by kernel_rfl
theorem emitEmits_f14 : ((Rows.emitEmitsUptoRow.maps == (Tryz.f5.params.toList ++ ((Rows.OpenSpec.upto Rows.emitEmitsSpec).bare).plain.varTypes Tryz.prog).any (Tryz.prog.mapsRec ·))) = true := by kernel_rfl
theorem emitEmits_f15 : ((Rows.emitEmitsUptoRow.ifaces == (Tryz.f5.params.toList ++ ((Rows.OpenSpec.upto Rows.emitEmitsSpec).bare).plain.varTypes Tryz.prog).any (Tryz.prog.ifacesRec ·))) = true := by kernel_rfl
theorem emitEmits_f16 : ((Rows.emitEmitsUptoRow.mapsOut == Tryz.prog.mapsAmong Tryz.f5.resultTypes.toList)) = true := by kernel_rfl
theorem emitEmits_f17 : ((Rows.emitEmitsUptoRow.loops == (Tryz.f5.params.toList ++ ((Rows.OpenSpec.upto Rows.emitEmitsSpec).bare).plain.varTypes Tryz.prog).any (Tryz.prog.loopsFrom ·))) = true := by kernel_rfl
theorem emitEmits_f18 : ((Rows.emitEmitsUptoRow.wideKeys == (Tryz.f5.params.toList ++ ((Rows.OpenSpec.upto Rows.emitEmitsSpec).bare).plain.varTypes Tryz.prog ++ Tryz.f5.resultTypes.toList).any (Tryz.prog.wideKeysFrom ·))) = true := by kernel_rfl
theorem emitEmits_f19 : (((Rows.OpenSpec.upto Rows.emitEmitsSpec).bare).vars.all (Tryz.prog.varReadable ·)) = true := by kernel_rfl
theorem emitEmits_f20 : (Tryz.f5.resultTypes.all (fun t => Tryz.prog.readableRec t && decide (t < Tryz.prog.types.size))) = true := by kernel_rfl
theorem emitEmits_f21 : ((Rows.emitEmitsUptoRow.ifacesOut == Tryz.f5.resultTypes.toList.any (Tryz.prog.ifacesRec ·))) = true := by kernel_rfl
theorem emitEmits_f22 : ((Rows.emitEmitsUptoRow.loopsOut == Tryz.f5.resultTypes.toList.any (Tryz.prog.loopsFrom ·))) = true := by kernel_rfl
theorem emitEmits_f23 : ((Rows.emitEmitsUptoRow.plainKeys == Tryz.prog.plainKeys)) = true := by kernel_rfl
theorem emitEmits_f24 : (Rows.emitEmitsUptoRow.shortTexts.isNone) = true := by kernel_rfl
theorem emitEmits_f25 : (Tryz.prog.stopsHeard) = true := by kernel_rfl
theorem emitEmits_f26 : (Tryz.prog.mayEnter) = true := by kernel_rfl
theorem emitEmits_f27 : ((Rows.emitEmitsUptoRow.lifted == Tryz.prog.liftsFinal)) = true := by kernel_rfl
theorem emitEmits_f28 : ((Tryz.prog.make == some Rows.emitEmitsUptoRow.make)) = true := by kernel_rfl
theorem emitEmits_f29 : ((Rows.emitEmitsUptoRow.kinds == (if Rows.emitEmitsUptoRow.domain.isEmpty then [] else Tryz.f5.params.toList.map fun t => match Tryz.prog.underlying t with | some (.int k) => some k | _ => none))) = true := by kernel_rfl
theorem emitEmits_f30 : ((Rows.emitEmitsUptoRow.pinned == Rows.emitEmitsUptoRow.pinnedBy)) = true := by kernel_rfl
theorem emitEmits_f31 : ((Rows.emitEmitsUptoRow.veiled == (Tryz.f5.params.toList ++ ((Rows.OpenSpec.upto Rows.emitEmitsSpec).bare).plain.varTypes Tryz.prog ++ Tryz.f5.resultTypes.toList).any (Tryz.prog.veiledRec ·))) = true := by kernel_rfl
theorem emitEmits_f32 : (Rows.emitEmitsUptoRow.veiledFits Tryz.prog Tryz.f5.params.toList (Tryz.f5.params.toList ++ ((Rows.OpenSpec.upto Rows.emitEmitsSpec).bare).plain.varTypes Tryz.prog ++ Tryz.f5.resultTypes.toList)) = true := by kernel_rfl
theorem emitEmits_facts : joinedFacts Tryz.prog 5 Tryz.f5 (Rows.OpenSpec.upto Rows.emitEmitsSpec).bare Rows.emitEmitsUptoRow = true := by
 unfold joinedFacts
 exact (andI (andI (andI (andI (andI (andI (andI (andI (andI (andI (andI (andI (andI (andI (andI (andI (andI (andI (andI (andI (andI (andI (andI (andI (andI (andI (andI (andI (andI (andI (andI emitEmits_f1 emitEmits_f2) emitEmits_f3) emitEmits_f4) emitEmits_f5) emitEmits_f6) emitEmits_f7) emitEmits_f8) emitEmits_f9) emitEmits_f10) emitEmits_f11) emitEmits_f12) emitEmits_f13) emitEmits_f14) emitEmits_f15) emitEmits_f16) emitEmits_f17) emitEmits_f18) emitEmits_f19) emitEmits_f20) emitEmits_f21) emitEmits_f22) emitEmits_f23) emitEmits_f24) emitEmits_f25) emitEmits_f26) emitEmits_f27) emitEmits_f28) emitEmits_f29) emitEmits_f30) emitEmits_f31) emitEmits_f32)
theorem emitEmits_said : Rows.EmitEmitsUptoSaid :=
 OpenClaim.holds_of_cond 5 Tryz.f5 rfl rfl rfl rfl rfl rfl rfl ⟨rfl, rfl, rfl, rfl, rfl⟩ rfl rfl rfl rfl rfl emitEmits_name Tryz.func5 emitEmits_facts emitEmits_inst emitEmits_wrap
  (fun os started H enc _ F => by rw [OpenClaim.pre_eq_preRow]; exact emitEmits_lifted os started H enc F)
theorem emitEmits_plain (f : FuncId) (fn : Func) (hf : Tryz.pinned.checked.prog.funcNamed Rows.emitEmitsUptoRow.func = some f) (hfn : Tryz.pinned.checked.prog.funcs[f]? = some fn) :
  true = Tryz.pinned.checked.prog.looks [] ∧ ∀ (j : Nat) t, fn.params[j]? = some t → Tryz.pinned.checked.prog.wantsStandIn t = false := by
 obtain rfl : f = 5 := Option.some.inj (emitEmits_name.symm.trans hf) |>.symm
 obtain rfl : fn = Tryz.f5 := (Option.some.inj (Tryz.func5.symm.trans hfn)).symm
 refine ⟨by kernel_rfl, fun j t ht => ?_⟩
 rw [Tryz.params5] at ht
 have hm := Array.mem_of_getElem? ht
 simp only [List.mem_toArray, List.mem_cons, List.mem_nil_iff, or_false] at hm
 subst hm
 exact (show Tryz.prog.wantsStandIn 45 = false by kernel_rfl)
theorem emitEmits_card : Rows.EmitEmitsUptoCardSaid :=
 Claim7.holds_tied_plain_at .later [] _ _ _ _ emitEmits_said (fun _ h => by cases h) (by kernel_rfl) (fun _ h => by cases h) emitEmitsUpto_row_tie rfl ⟨rfl, rfl⟩ (by kernel_rfl) rfl emitEmits_plain (by kernel_rfl)
end Go.Proofs.YtklpioocdgfbmaaGreatDoor

