/-
 EmitRound returns true for every input where what it reads is of bulk at most 1048576; the arguments read behind the call as before. Conditions: those of the given card.
-/
import Derived.SevenTiedAt
import Derived.Test.YtklpioocdgfbmaaGreatDoorCards
import Derived.Test.YtklpioocdgfbmaaGreatDoorTie
import Derived.Test.YtklpioocdgfbmaaGreatDoorR8
set_option linter.unusedSimpArgs false
set_option linter.unusedVariables false
namespace Go.Proofs.YtklpioocdgfbmaaGreatDoor
set_option maxRecDepth 100000
set_option maxHeartbeats 4000000
open Go Go.Cb Go.ChangeShapes Go.WideShapes Go.ChangeAt Go.RowKit
theorem emitRound_contract (H : Type) (enc : TypeId × Value → H) (F : Stop.Interp) (W : World) (base : Nat) (args : Array Value) (ds gs : List (DataW H)) (before : List MemPlace)
  (hval : ∀ (j : Nat) t v, Tryz.f8.params[j]? = some t → args[j]? = some v → Value.okWide Tryz.prog W .any base t v)
  (hW : DataW.Whole enc Tryz.prog Tryz.f8.params.toList ((Rows.OpenSpec.upto Rows.emitRoundSpec).at F).vars false W args.toList ds gs before)
  (hcond : Rows.uptoSmall H (ds ++ gs) = true) :
  Calls Tryz.prog 8 args W fun e W' => ∃ v, e = .returned v ∧ ((Rows.OpenSpec.upto Rows.emitRoundSpec).at F).post enc Tryz.prog Tryz.f8 false true false false W args v W' := by
 have hW' := hW
 obtain ⟨p, q, hA0, hV, rfl, hfz, hnd⟩ := hW
 have hA : DataW.TrodAll enc Tryz.prog W 0 (fun _ => true) true Tryz.f8.params.toList args.toList ds p := hA0
 rw [Tryz.params8] at hA hval
 obtain ⟨v0, vs0, d0, ds0, p0, q0, hargs, rfl, rfl, h0, r0⟩ := trodAll_cons hA
 obtain ⟨rfl, rfl, rfl⟩ := trodAll_nil r0
 obtain rfl : args = #[v0] := by cases args; simp_all
 obtain ⟨a0, hp0, hb0⟩ := arg_struct Tryz.underlying45 rdU (hval 0 _ v0 rfl rfl) h0
 have hb := of_decide_eq_true hcond
 simp only [List.cons_append, Rows.uptoBulkAll] at hb
 refine (calls_true (emitRound_c a0) (vs := [v0]) (by simp only [RepT, and_true]; exact hp0)).mono ?_
 rintro e W' ⟨rfl, hbel⟩
 exact ⟨_, rfl, law_post laidOut (fun t ht => by
  rw [Tryz.params8] at ht
  simp only [List.mem_cons, List.mem_nil_iff, or_false] at ht
  subst ht
  exact okU) (by kernel_rfl) Tryz.underlying4 rfl (fun ds hd => by
  rw [Tryz.params8] at hd
  match ds, hd with
  | [a], _ => rfl) hW' hbel⟩
def emitRound_args : Array Value := #[.agg #[.slice none 0 0, .slice none 0 0]]
theorem emitRound_witness (os : Os) {H : Type} (enc : TypeId × Value → H) :
  (Rows.OpenSpec.upto Rows.emitRoundSpec).preRow enc Tryz.prog Tryz.f8 Rows.emitRoundUptoRow.domain false Rows.emitRoundUptoRow.laid ((laidWorld os).forCall (fun _ _ => 0) ⟨#[], emitRound_args, []⟩).memory emitRound_args := by
 have hw : (DataW.whole enc Tryz.prog ((laidWorld os).forCall (fun _ _ => 0) ⟨#[], emitRound_args, []⟩).memory Tryz.f8.params.toList (Rows.OpenSpec.upto Rows.emitRoundSpec).vars false emitRound_args.toList 8).map (fun x => (x.1, x.2.1)) =
   some ([.agg [.nil, .nil]], []) := by kernel_rfl
 obtain ⟨⟨x1, x2, x3⟩, hx, hx1⟩ := Option.map_eq_some_iff.1 hw
 simp only [Prod.mk.injEq] at hx1
 obtain ⟨rfl, rfl⟩ := hx1
 exact OpenSpec.preRow_of_cond 8 hx (by kernel_rfl) (fun k hk => by cases hk; kernel_rfl) (by kernel_rfl) (laid_met os _)
theorem emitRound_lifted (os : Os) (started : os.Started) (H : Type) (enc : TypeId × Value → H) (F : Stop.Interp) :
  ReturnsInHanded {} Tryz.checked os 8 .any ((Rows.OpenSpec.upto Rows.emitRoundSpec).preRow enc Tryz.prog Tryz.f8 Rows.emitRoundUptoRow.domain false Rows.emitRoundUptoRow.laid) (((Rows.OpenSpec.upto Rows.emitRoundSpec).at F).post enc Tryz.prog Tryz.f8 false true false false) := by
 refine returnsInHanded_of_row (C := Tryz.checked) (s := Rows.OpenSpec.upto Rows.emitRoundSpec) own_none started (by kernel_rfl) Tryz.func8
  (witness_row_atRef (enc := enc) (C := Tryz.checked) false (laidWorld os) emitRound_args rfl (by kernel_rfl) (by kernel_rfl) (by kernel_rfl) (emitRound_witness os enc)) ?_
 intro W base args ds gs before hval hW _ hcond _ hL _ _
 exact emitRound_contract H enc F W base args ds gs before hval hW (hcond _ rfl)
theorem emitRound_name : Tryz.prog.funcNamed Rows.emitRoundUptoRow.func = some 8 := by kernel_rfl
theorem emitRound_inst : Tryz.f8.isInstance Tryz.prog Rows.emitRoundUptoRow.origin Rows.emitRoundUptoRow.targs := of_decide_eq_true (by kernel_rfl)
theorem emitRound_wrap : Tryz.f8.isWrapper Tryz.prog Rows.emitRoundUptoRow.wrapper Rows.emitRoundUptoRow.mainSum := by
 unfold Func.isWrapper
 rw [if_neg (of_decide_eq_false (by kernel_rfl))]
 exact ⟨rfl, rfl⟩
theorem andI {a b : Bool} (h : a = true) (k : b = true) : (a && b) = true := by rw [h, k]; rfl
theorem emitRound_f1 : (Rows.emitRoundUptoRow.wf (OpenSpec.ofChange ((Rows.OpenSpec.upto Rows.emitRoundSpec).bare))) = true := by kernel_rfl
theorem emitRound_f2 : (laidOutB Tryz.prog) = true := by kernel_rfl
theorem emitRound_f3 : (mapsRowed Tryz.prog) = true := by kernel_rfl
theorem emitRound_f4 : (Tryz.f8.params.all (Tryz.prog.readableRec ·)) = true := by kernel_rfl
theorem emitRound_f5 : (namedTie Tryz.prog Rows.emitRoundUptoRow.named ((Rows.OpenSpec.upto Rows.emitRoundSpec).bare).vars) = true := by kernel_rfl
theorem emitRound_f6 : ((Rows.emitRoundUptoRow.stops == [])) = true := by kernel_rfl
theorem emitRound_f7 : ((Tryz.prog.stops == [])) = true := by kernel_rfl
theorem emitRound_f8 : ((Rows.emitRoundUptoRow.knobs == [])) = true := by kernel_rfl
theorem emitRound_f9 : ((Tryz.prog.stopKnobs == [])) = true := by kernel_rfl
theorem emitRound_f10 : ((Rows.emitRoundUptoRow.inPlace == Tryz.prog.inPlace 8)) = true := by kernel_rfl
theorem emitRound_f11 : ((Rows.emitRoundUptoRow.unfollowed == Tryz.prog.unfollowed 8)) = true := by kernel_rfl
theorem emitRound_f12 : ((Rows.emitRoundUptoRow.recurses == Tryz.prog.recurses 8)) = true := by kernel_rfl
theorem emitRound_f13 : ((Rows.emitRoundUptoRow.named == Tryz.prog.varsNamed 8)) = true := by kernel_rfl
theorem emitRound_f14 : ((Rows.emitRoundUptoRow.maps == (Tryz.f8.params.toList ++ ((Rows.OpenSpec.upto Rows.emitRoundSpec).bare).plain.varTypes Tryz.prog).any (Tryz.prog.mapsRec ·))) = true := by kernel_rfl
theorem emitRound_f15 : ((Rows.emitRoundUptoRow.ifaces == (Tryz.f8.params.toList ++ ((Rows.OpenSpec.upto Rows.emitRoundSpec).bare).plain.varTypes Tryz.prog).any (Tryz.prog.ifacesRec ·))) = true := by kernel_rfl
theorem emitRound_f16 : ((Rows.emitRoundUptoRow.mapsOut == Tryz.prog.mapsAmong Tryz.f8.resultTypes.toList)) = true := by kernel_rfl
theorem emitRound_f17 : ((Rows.emitRoundUptoRow.loops == (Tryz.f8.params.toList ++ ((Rows.OpenSpec.upto Rows.emitRoundSpec).bare).plain.varTypes Tryz.prog).any (Tryz.prog.loopsFrom ·))) = true := by kernel_rfl
theorem emitRound_f18 : ((Rows.emitRoundUptoRow.wideKeys == (Tryz.f8.params.toList ++ ((Rows.OpenSpec.upto Rows.emitRoundSpec).bare).plain.varTypes Tryz.prog ++ Tryz.f8.resultTypes.toList).any (Tryz.prog.wideKeysFrom ·))) = true := by kernel_rfl
theorem emitRound_f19 : (((Rows.OpenSpec.upto Rows.emitRoundSpec).bare).vars.all (Tryz.prog.varReadable ·)) = true := by kernel_rfl
theorem emitRound_f20 : (Tryz.f8.resultTypes.all (fun t => Tryz.prog.readableRec t && decide (t < Tryz.prog.types.size))) = true := by kernel_rfl
theorem emitRound_f21 : ((Rows.emitRoundUptoRow.ifacesOut == Tryz.f8.resultTypes.toList.any (Tryz.prog.ifacesRec ·))) = true := by kernel_rfl
theorem emitRound_f22 : ((Rows.emitRoundUptoRow.loopsOut == Tryz.f8.resultTypes.toList.any (Tryz.prog.loopsFrom ·))) = true := by kernel_rfl
theorem emitRound_f23 : ((Rows.emitRoundUptoRow.plainKeys == Tryz.prog.plainKeys)) = true := by kernel_rfl
theorem emitRound_f24 : (Rows.emitRoundUptoRow.shortTexts.isNone) = true := by kernel_rfl
theorem emitRound_f25 : (Tryz.prog.stopsHeard) = true := by kernel_rfl
theorem emitRound_f26 : (Tryz.prog.mayEnter) = true := by kernel_rfl
theorem emitRound_f27 : ((Rows.emitRoundUptoRow.lifted == Tryz.prog.liftsFinal)) = true := by kernel_rfl
theorem emitRound_f28 : ((Tryz.prog.make == some Rows.emitRoundUptoRow.make)) = true := by kernel_rfl
theorem emitRound_f29 : ((Rows.emitRoundUptoRow.kinds == (if Rows.emitRoundUptoRow.domain.isEmpty then [] else Tryz.f8.params.toList.map fun t => match Tryz.prog.underlying t with | some (.int k) => some k | _ => none))) = true := by kernel_rfl
theorem emitRound_f30 : ((Rows.emitRoundUptoRow.pinned == Rows.emitRoundUptoRow.pinnedBy)) = true := by kernel_rfl
theorem emitRound_f31 : ((Rows.emitRoundUptoRow.veiled == (Tryz.f8.params.toList ++ ((Rows.OpenSpec.upto Rows.emitRoundSpec).bare).plain.varTypes Tryz.prog ++ Tryz.f8.resultTypes.toList).any (Tryz.prog.veiledRec ·))) = true := by kernel_rfl
theorem emitRound_f32 : (Rows.emitRoundUptoRow.veiledFits Tryz.prog Tryz.f8.params.toList (Tryz.f8.params.toList ++ ((Rows.OpenSpec.upto Rows.emitRoundSpec).bare).plain.varTypes Tryz.prog ++ Tryz.f8.resultTypes.toList)) = true := by kernel_rfl
theorem emitRound_facts : joinedFacts Tryz.prog 8 Tryz.f8 (Rows.OpenSpec.upto Rows.emitRoundSpec).bare Rows.emitRoundUptoRow = true := by
 unfold joinedFacts
 exact (andI (andI (andI (andI (andI (andI (andI (andI (andI (andI (andI (andI (andI (andI (andI (andI (andI (andI (andI (andI (andI (andI (andI (andI (andI (andI (andI (andI (andI (andI (andI emitRound_f1 emitRound_f2) emitRound_f3) emitRound_f4) emitRound_f5) emitRound_f6) emitRound_f7) emitRound_f8) emitRound_f9) emitRound_f10) emitRound_f11) emitRound_f12) emitRound_f13) emitRound_f14) emitRound_f15) emitRound_f16) emitRound_f17) emitRound_f18) emitRound_f19) emitRound_f20) emitRound_f21) emitRound_f22) emitRound_f23) emitRound_f24) emitRound_f25) emitRound_f26) emitRound_f27) emitRound_f28) emitRound_f29) emitRound_f30) emitRound_f31) emitRound_f32)
theorem emitRound_said : Rows.EmitRoundUptoSaid :=
 OpenClaim.holds_of_cond 8 Tryz.f8 rfl rfl rfl rfl rfl rfl rfl ⟨rfl, rfl, rfl, rfl, rfl⟩ rfl rfl rfl rfl rfl emitRound_name Tryz.func8 emitRound_facts emitRound_inst emitRound_wrap
  (fun os started H enc _ F => by rw [OpenClaim.pre_eq_preRow]; exact emitRound_lifted os started H enc F)
theorem emitRound_plain (f : FuncId) (fn : Func) (hf : Tryz.pinned.checked.prog.funcNamed Rows.emitRoundUptoRow.func = some f) (hfn : Tryz.pinned.checked.prog.funcs[f]? = some fn) :
  true = Tryz.pinned.checked.prog.looks [] ∧ ∀ (j : Nat) t, fn.params[j]? = some t → Tryz.pinned.checked.prog.wantsStandIn t = false := by
 obtain rfl : f = 8 := Option.some.inj (emitRound_name.symm.trans hf) |>.symm
 obtain rfl : fn = Tryz.f8 := (Option.some.inj (Tryz.func8.symm.trans hfn)).symm
 refine ⟨by kernel_rfl, fun j t ht => ?_⟩
 rw [Tryz.params8] at ht
 have hm := Array.mem_of_getElem? ht
 simp only [List.mem_toArray, List.mem_cons, List.mem_nil_iff, or_false] at hm
 subst hm
 exact (show Tryz.prog.wantsStandIn 45 = false by kernel_rfl)
theorem emitRound_card : Rows.EmitRoundUptoCardSaid :=
 Claim7.holds_tied_plain_at .later [] _ _ _ _ emitRound_said (fun _ h => by cases h) (by kernel_rfl) (fun _ h => by cases h) emitRoundUpto_row_tie rfl ⟨rfl, rfl⟩ (by kernel_rfl) rfl emitRound_plain (by kernel_rfl)
end Go.Proofs.YtklpioocdgfbmaaGreatDoor

