/-
 EmitReads returns true for every input where what it reads is of bulk at most 1048576; the arguments read behind the call as before. Conditions: those of the given card.
-/
import Derived.SevenTiedAt
import Derived.Test.YtklpioocdgfbmaaGreatDoorCards
import Derived.Test.YtklpioocdgfbmaaGreatDoorTie
import Derived.Test.YtklpioocdgfbmaaGreatDoorE7
set_option linter.unusedSimpArgs false
set_option linter.unusedVariables false
namespace Go.Proofs.YtklpioocdgfbmaaGreatDoor
set_option maxRecDepth 100000
set_option maxHeartbeats 4000000
open Go Go.Cb Go.ChangeShapes Go.WideShapes Go.ChangeAt Go.RowKit
theorem emitReads_contract (H : Type) (enc : TypeId × Value → H) (F : Stop.Interp) (W : World) (base : Nat) (args : Array Value) (ds gs : List (DataW H)) (before : List MemPlace)
  (hval : ∀ (j : Nat) t v, Tryz.f4.params[j]? = some t → args[j]? = some v → Value.okWide Tryz.prog W .any base t v)
  (hW : DataW.Whole enc Tryz.prog Tryz.f4.params.toList ((Rows.OpenSpec.upto Rows.emitReadsSpec).at F).vars false W args.toList ds gs before)
  (hcond : Rows.uptoSmall H (ds ++ gs) = true) :
  Calls Tryz.prog 4 args W fun e W' => ∃ v, e = .returned v ∧ ((Rows.OpenSpec.upto Rows.emitReadsSpec).at F).post enc Tryz.prog Tryz.f4 false true false false W args v W' := by
 have hW' := hW
 obtain ⟨p, q, hA0, hV, rfl, hfz, hnd⟩ := hW
 have hA : DataW.TrodAll enc Tryz.prog W 0 (fun _ => true) true Tryz.f4.params.toList args.toList ds p := hA0
 rw [Tryz.params4] at hA hval
 obtain ⟨v0, vs0, d0, ds0, p0, q0, hargs, rfl, rfl, h0, r0⟩ := trodAll_cons hA
 obtain ⟨rfl, rfl, rfl⟩ := trodAll_nil r0
 obtain rfl : args = #[v0] := by cases args; simp_all
 obtain ⟨a0, hp0, hb0⟩ := arg_row Tryz.underlying23 rdL (hval 0 _ v0 rfl rfl) h0
 have hb := of_decide_eq_true hcond
 simp only [List.cons_append, Rows.uptoBulkAll] at hb
 refine (calls_true (emitReads_c a0 (by omega)) (vs := [v0]) (by simp only [RepT, and_true]; exact hp0)).mono ?_
 rintro e W' ⟨rfl, hbel⟩
 exact ⟨_, rfl, law_post laidOut (fun t ht => by
  rw [Tryz.params4] at ht
  simp only [List.mem_cons, List.mem_nil_iff, or_false] at ht
  subst ht
  exact okL) (by kernel_rfl) Tryz.underlying4 rfl (fun ds hd => by
  rw [Tryz.params4] at hd
  match ds, hd with
  | [a], _ => rfl) hW' hbel⟩
def emitReads_args : Array Value := #[.slice none 0 0]
theorem emitReads_witness (os : Os) {H : Type} (enc : TypeId × Value → H) :
  (Rows.OpenSpec.upto Rows.emitReadsSpec).preRow enc Tryz.prog Tryz.f4 Rows.emitReadsUptoRow.domain false Rows.emitReadsUptoRow.laid ((laidWorld os).forCall (fun _ _ => 0) ⟨#[], emitReads_args, []⟩).memory emitReads_args := by
 have hw : (DataW.whole enc Tryz.prog ((laidWorld os).forCall (fun _ _ => 0) ⟨#[], emitReads_args, []⟩).memory Tryz.f4.params.toList (Rows.OpenSpec.upto Rows.emitReadsSpec).vars false emitReads_args.toList 8).map (fun x => (x.1, x.2.1)) =
   some ([.nil], []) := by kernel_rfl
 obtain ⟨⟨x1, x2, x3⟩, hx, hx1⟩ := Option.map_eq_some_iff.1 hw
 simp only [Prod.mk.injEq] at hx1
 obtain ⟨rfl, rfl⟩ := hx1
 exact OpenSpec.preRow_of_cond 8 hx (by kernel_rfl) (fun k hk => by cases hk; kernel_rfl) (by kernel_rfl) (laid_met os _)
theorem emitReads_lifted (os : Os) (started : os.Started) (H : Type) (enc : TypeId × Value → H) (F : Stop.Interp) :
  ReturnsInHanded {} Tryz.checked os 4 .any ((Rows.OpenSpec.upto Rows.emitReadsSpec).preRow enc Tryz.prog Tryz.f4 Rows.emitReadsUptoRow.domain false Rows.emitReadsUptoRow.laid) (((Rows.OpenSpec.upto Rows.emitReadsSpec).at F).post enc Tryz.prog Tryz.f4 false true false false) := by
 refine returnsInHanded_of_row (C := Tryz.checked) (s := Rows.OpenSpec.upto Rows.emitReadsSpec) own_none started (by kernel_rfl) Tryz.func4
  (witness_row_atRef (enc := enc) (C := Tryz.checked) false (laidWorld os) emitReads_args rfl (by kernel_rfl) (by kernel_rfl) (by kernel_rfl) (emitReads_witness os enc)) ?_
 intro W base args ds gs before hval hW _ hcond _ hL _ _
 exact emitReads_contract H enc F W base args ds gs before hval hW (hcond _ rfl)
theorem emitReads_name : Tryz.prog.funcNamed Rows.emitReadsUptoRow.func = some 4 := by kernel_rfl
theorem emitReads_inst : Tryz.f4.isInstance Tryz.prog Rows.emitReadsUptoRow.origin Rows.emitReadsUptoRow.targs := of_decide_eq_true (by kernel_rfl)
theorem emitReads_wrap : Tryz.f4.isWrapper Tryz.prog Rows.emitReadsUptoRow.wrapper Rows.emitReadsUptoRow.mainSum := by
 unfold Func.isWrapper
 rw [if_neg (of_decide_eq_false (by kernel_rfl))]
 exact ⟨rfl, rfl⟩
theorem andI {a b : Bool} (h : a = true) (k : b = true) : (a && b) = true := by rw [h, k]; rfl
theorem emitReads_f1 : (Rows.emitReadsUptoRow.wf (OpenSpec.ofChange ((Rows.OpenSpec.upto Rows.emitReadsSpec).bare))) = true := by kernel_rfl
theorem emitReads_f2 : (laidOutB Tryz.prog) = true := by kernel_rfl
theorem emitReads_f3 : (mapsRowed Tryz.prog) = true := by kernel_rfl
theorem emitReads_f4 : (Tryz.f4.params.all (Tryz.prog.readableRec ·)) = true := by kernel_rfl
theorem emitReads_f5 : (namedTie Tryz.prog Rows.emitReadsUptoRow.named ((Rows.OpenSpec.upto Rows.emitReadsSpec).bare).vars) = true := by kernel_rfl
theorem emitReads_f6 : ((Rows.emitReadsUptoRow.stops == [])) = true := by kernel_rfl
theorem emitReads_f7 : ((Tryz.prog.stops == [])) = true := by kernel_rfl
theorem emitReads_f8 : ((Rows.emitReadsUptoRow.knobs == [])) = true := by kernel_rfl
theorem emitReads_f9 : ((Tryz.prog.stopKnobs == [])) = true := by kernel_rfl
theorem emitReads_f10 : ((Rows.emitReadsUptoRow.inPlace == Tryz.prog.inPlace 4)) = true := by kernel_rfl
theorem emitReads_f11 : ((Rows.emitReadsUptoRow.unfollowed == Tryz.prog.unfollowed 4)) = true := by kernel_rfl
theorem emitReads_f12 : ((Rows.emitReadsUptoRow.recurses == Tryz.prog.recurses 4)) = true := by kernel_rfl
theorem emitReads_f13 : ((Rows.emitReadsUptoRow.named == Tryz.prog.varsNamed 4)) = true := by kernel_rfl
theorem emitReads_f14 : ((Rows.emitReadsUptoRow.maps == (Tryz.f4.params.toList ++ ((Rows.OpenSpec.upto Rows.emitReadsSpec).bare).plain.varTypes Tryz.prog).any (Tryz.prog.mapsRec ·))) = true := by kernel_rfl
theorem emitReads_f15 : ((Rows.emitReadsUptoRow.ifaces == (Tryz.f4.params.toList ++ ((Rows.OpenSpec.upto Rows.emitReadsSpec).bare).plain.varTypes Tryz.prog).any (Tryz.prog.ifacesRec ·))) = true := by kernel_rfl
theorem emitReads_f16 : ((Rows.emitReadsUptoRow.mapsOut == Tryz.prog.mapsAmong Tryz.f4.resultTypes.toList)) = true := by kernel_rfl
theorem emitReads_f17 : ((Rows.emitReadsUptoRow.loops == (Tryz.f4.params.toList ++ ((Rows.OpenSpec.upto Rows.emitReadsSpec).bare).plain.varTypes Tryz.prog).any (Tryz.prog.loopsFrom ·))) = true := by kernel_rfl
theorem emitReads_f18 : ((Rows.emitReadsUptoRow.wideKeys == (Tryz.f4.params.toList ++ ((Rows.OpenSpec.upto Rows.emitReadsSpec).bare).plain.varTypes Tryz.prog ++ Tryz.f4.resultTypes.toList).any (Tryz.prog.wideKeysFrom ·))) = true := by kernel_rfl
theorem emitReads_f19 : (((Rows.OpenSpec.upto Rows.emitReadsSpec).bare).vars.all (Tryz.prog.varReadable ·)) = true := by kernel_rfl
theorem emitReads_f20 : (Tryz.f4.resultTypes.all (fun t => Tryz.prog.readableRec t && decide (t < Tryz.prog.types.size))) = true := by kernel_rfl
theorem emitReads_f21 : ((Rows.emitReadsUptoRow.ifacesOut == Tryz.f4.resultTypes.toList.any (Tryz.prog.ifacesRec ·))) = true := by kernel_rfl
theorem emitReads_f22 : ((Rows.emitReadsUptoRow.loopsOut == Tryz.f4.resultTypes.toList.any (Tryz.prog.loopsFrom ·))) = true := by kernel_rfl
theorem emitReads_f23 : ((Rows.emitReadsUptoRow.plainKeys == Tryz.prog.plainKeys)) = true := by kernel_rfl
theorem emitReads_f24 : (Rows.emitReadsUptoRow.shortTexts.isNone) = true := by kernel_rfl
theorem emitReads_f25 : (Tryz.prog.stopsHeard) = true := by kernel_rfl
theorem emitReads_f26 : (Tryz.prog.mayEnter) = true := by kernel_rfl
theorem emitReads_f27 : ((Rows.emitReadsUptoRow.lifted == Tryz.prog.liftsFinal)) = true := by kernel_rfl
theorem emitReads_f28 : ((Tryz.prog.make == some Rows.emitReadsUptoRow.make)) = true := by kernel_rfl
theorem emitReads_f29 : ((Rows.emitReadsUptoRow.kinds == (if Rows.emitReadsUptoRow.domain.isEmpty then [] else Tryz.f4.params.toList.map fun t => match Tryz.prog.underlying t with | some (.int k) => some k | _ => none))) = true := by kernel_rfl
theorem emitReads_f30 : ((Rows.emitReadsUptoRow.pinned == Rows.emitReadsUptoRow.pinnedBy)) = true := by kernel_rfl
theorem emitReads_f31 : ((Rows.emitReadsUptoRow.veiled == (Tryz.f4.params.toList ++ ((Rows.OpenSpec.upto Rows.emitReadsSpec).bare).plain.varTypes Tryz.prog ++ Tryz.f4.resultTypes.toList).any (Tryz.prog.veiledRec ·))) = true := by kernel_rfl
theorem emitReads_f32 : (Rows.emitReadsUptoRow.veiledFits Tryz.prog Tryz.f4.params.toList (Tryz.f4.params.toList ++ ((Rows.OpenSpec.upto Rows.emitReadsSpec).bare).plain.varTypes Tryz.prog ++ Tryz.f4.resultTypes.toList)) = true := by kernel_rfl
theorem emitReads_facts : joinedFacts Tryz.prog 4 Tryz.f4 (Rows.OpenSpec.upto Rows.emitReadsSpec).bare Rows.emitReadsUptoRow = true := by
 unfold joinedFacts
 exact (andI (andI (andI (andI (andI (andI (andI (andI (andI (andI (andI (andI (andI (andI (andI (andI (andI (andI (andI (andI (andI (andI (andI (andI (andI (andI (andI (andI (andI (andI (andI emitReads_f1 emitReads_f2) emitReads_f3) emitReads_f4) emitReads_f5) emitReads_f6) emitReads_f7) emitReads_f8) emitReads_f9) emitReads_f10) emitReads_f11) emitReads_f12) emitReads_f13) emitReads_f14) emitReads_f15) emitReads_f16) emitReads_f17) emitReads_f18) emitReads_f19) emitReads_f20) emitReads_f21) emitReads_f22) emitReads_f23) emitReads_f24) emitReads_f25) emitReads_f26) emitReads_f27) emitReads_f28) emitReads_f29) emitReads_f30) emitReads_f31) emitReads_f32)
theorem emitReads_said : Rows.EmitReadsUptoSaid :=
 OpenClaim.holds_of_cond 4 Tryz.f4 rfl rfl rfl rfl rfl rfl rfl ⟨rfl, rfl, rfl, rfl, rfl⟩ rfl rfl rfl rfl rfl emitReads_name Tryz.func4 emitReads_facts emitReads_inst emitReads_wrap
  (fun os started H enc _ F => by rw [OpenClaim.pre_eq_preRow]; exact emitReads_lifted os started H enc F)
theorem emitReads_plain (f : FuncId) (fn : Func) (hf : Tryz.pinned.checked.prog.funcNamed Rows.emitReadsUptoRow.func = some f) (hfn : Tryz.pinned.checked.prog.funcs[f]? = some fn) :
  true = Tryz.pinned.checked.prog.looks [] ∧ ∀ (j : Nat) t, fn.params[j]? = some t → Tryz.pinned.checked.prog.wantsStandIn t = false := by
 obtain rfl : f = 4 := Option.some.inj (emitReads_name.symm.trans hf) |>.symm
 obtain rfl : fn = Tryz.f4 := (Option.some.inj (Tryz.func4.symm.trans hfn)).symm
 refine ⟨by kernel_rfl, fun j t ht => ?_⟩
 rw [Tryz.params4] at ht
 have hm := Array.mem_of_getElem? ht
 simp only [List.mem_toArray, List.mem_cons, List.mem_nil_iff, or_false] at hm
 subst hm
 exact (show Tryz.prog.wantsStandIn 23 = false by kernel_rfl)
theorem emitReads_card : Rows.EmitReadsUptoCardSaid :=
 Claim7.holds_tied_plain_at .later [] _ _ _ _ emitReads_said (fun _ h => by cases h) (by kernel_rfl) (fun _ h => by cases h) emitReadsUpto_row_tie rfl ⟨rfl, rfl⟩ (by kernel_rfl) rfl emitReads_plain (by kernel_rfl)
end Go.Proofs.YtklpioocdgfbmaaGreatDoor

