/-
 EmitSame returns true for every input where what it reads is of bulk at most 1048576; the arguments read behind the call as before. Conditions: those of the given card.
-/
import Derived.SevenTiedAt
import Derived.Test.YtklpioocdgfbmaaGreatDoorCards
import Derived.Test.YtklpioocdgfbmaaGreatDoorTie
import Derived.Test.YtklpioocdgfbmaaGreatDoorS7
set_option linter.unusedSimpArgs false
set_option linter.unusedVariables false
namespace Go.Proofs.YtklpioocdgfbmaaGreatDoor
set_option maxRecDepth 100000
set_option maxHeartbeats 4000000
open Go Go.Cb Go.ChangeShapes Go.WideShapes Go.ChangeAt Go.RowKit
theorem emitSame_contract (H : Type) (enc : TypeId × Value → H) (F : Stop.Interp) (W : World) (base : Nat) (args : Array Value) (ds gs : List (DataW H)) (before : List MemPlace)
  (hval : ∀ (j : Nat) t v, Tryz.f6.params[j]? = some t → args[j]? = some v → Value.okWide Tryz.prog W .any base t v)
  (hW : DataW.Whole enc Tryz.prog Tryz.f6.params.toList ((Rows.OpenSpec.upto Rows.emitSameSpec).at F).vars false W args.toList ds gs before)
  (hcond : Rows.uptoSmall H (ds ++ gs) = true) :
  Calls Tryz.prog 6 args W fun e W' => ∃ v, e = .returned v ∧ ((Rows.OpenSpec.upto Rows.emitSameSpec).at F).post enc Tryz.prog Tryz.f6 false true false false W args v W' := by
 have hW' := hW
 obtain ⟨p, q, hA0, hV, rfl, hfz, hnd⟩ := hW
 have hA : DataW.TrodAll enc Tryz.prog W 0 (fun _ => true) true Tryz.f6.params.toList args.toList ds p := hA0
 rw [Tryz.params6] at hA hval
 obtain ⟨v0, vs0, d0, ds0, p0, q0, hargs, rfl, rfl, h0, r0⟩ := trodAll_cons hA
 obtain ⟨v1, vs1, d1, ds1, p1, q1, rfl, rfl, rfl, h1, r1⟩ := trodAll_cons r0
 obtain ⟨rfl, rfl, rfl⟩ := trodAll_nil r1
 obtain rfl : args = #[v0, v1] := by cases args; simp_all
 obtain ⟨a0, hp0, hb0⟩ := arg_struct Tryz.underlying45 rdU (hval 0 _ v0 rfl rfl) h0
 obtain ⟨a1, hp1, hb1⟩ := arg_row Tryz.underlying23 rdL (hval 1 _ v1 rfl rfl) h1
 have hb := of_decide_eq_true hcond
 simp only [List.cons_append, Rows.uptoBulkAll] at hb
 refine (calls_true (emitSame_c a0 a1 (by omega)) (vs := [v0, v1]) (by simp only [RepT, and_true]; exact ⟨hp0, hp1⟩)).mono ?_
 rintro e W' ⟨rfl, hbel⟩
 exact ⟨_, rfl, law_post laidOut (fun t ht => by
  rw [Tryz.params6] at ht
  simp only [List.mem_cons, List.mem_nil_iff, or_false] at ht
  rcases ht with rfl | rfl
  ·exact okU
  ·exact okL) (by kernel_rfl) Tryz.underlying4 rfl (fun ds hd => by
  rw [Tryz.params6] at hd
  match ds, hd with
  | [a, b], _ => rfl) hW' hbel⟩
def emitSame_args : Array Value := #[.agg #[.slice none 0 0, .slice none 0 0], .slice none 0 0]
theorem emitSame_witness (os : Os) {H : Type} (enc : TypeId × Value → H) :
  (Rows.OpenSpec.upto Rows.emitSameSpec).preRow enc Tryz.prog Tryz.f6 Rows.emitSameUptoRow.domain false Rows.emitSameUptoRow.laid ((laidWorld os).forCall (fun _ _ => 0) ⟨#[], emitSame_args, []⟩).memory emitSame_args := by
 have hw : (DataW.whole enc Tryz.prog ((laidWorld os).forCall (fun _ _ => 0) ⟨#[], emitSame_args, []⟩).memory Tryz.f6.params.toList (Rows.OpenSpec.upto Rows.emitSameSpec).vars false emitSame_args.toList 8).map (fun x => (x.1, x.2.1)) =
   some ([.agg [.nil, .nil], .nil], []) := by kernel_rfl
 obtain ⟨⟨x1, x2, x3⟩, hx, hx1⟩ := Option.map_eq_some_iff.1 hw
 simp only [Prod.mk.injEq] at hx1
 obtain ⟨rfl, rfl⟩ := hx1
 exact OpenSpec.preRow_of_cond 8 hx (by kernel_rfl) (fun k hk => by cases hk; kernel_rfl) (by kernel_rfl) (laid_met os _)
theorem emitSame_lifted (os : Os) (started : os.Started) (H : Type) (enc : TypeId × Value → H) (F : Stop.Interp) :
  ReturnsInHanded {} Tryz.checked os 6 .any ((Rows.OpenSpec.upto Rows.emitSameSpec).preRow enc Tryz.prog Tryz.f6 Rows.emitSameUptoRow.domain false Rows.emitSameUptoRow.laid) (((Rows.OpenSpec.upto Rows.emitSameSpec).at F).post enc Tryz.prog Tryz.f6 false true false false) := by
 refine returnsInHanded_of_row (C := Tryz.checked) (s := Rows.OpenSpec.upto Rows.emitSameSpec) own_none started (by kernel_rfl) Tryz.func6
  (witness_row_atRef (enc := enc) (C := Tryz.checked) false (laidWorld os) emitSame_args rfl (by kernel_rfl) (by kernel_rfl) (by kernel_rfl) (emitSame_witness os enc)) ?_
 intro W base args ds gs before hval hW _ hcond _ hL _ _
 exact emitSame_contract H enc F W base args ds gs before hval hW (hcond _ rfl)
theorem emitSame_name : Tryz.prog.funcNamed Rows.emitSameUptoRow.func = some 6 := by kernel_rfl
theorem emitSame_inst : Tryz.f6.isInstance Tryz.prog Rows.emitSameUptoRow.origin Rows.emitSameUptoRow.targs := of_decide_eq_true (by kernel_rfl)
theorem emitSame_wrap : Tryz.f6.isWrapper Tryz.prog Rows.emitSameUptoRow.wrapper Rows.emitSameUptoRow.mainSum := by
 unfold Func.isWrapper
 rw [if_neg (of_decide_eq_false (by kernel_rfl))]
 exact ⟨rfl, rfl⟩
theorem andI {a b : Bool} (h : a = true) (k : b = true) : (a && b) = true := by rw [h, k]; rfl
theorem emitSame_f1 : (Rows.emitSameUptoRow.wf (OpenSpec.ofChange ((Rows.OpenSpec.upto Rows.emitSameSpec).bare))) = true := by kernel_rfl
theorem emitSame_f2 : (laidOutB Tryz.prog) = true := by kernel_rfl
theorem emitSame_f3 : (mapsRowed Tryz.prog) = true := by kernel_rfl
theorem emitSame_f4 : (Tryz.f6.params.all (Tryz.prog.readableRec ·)) = true := by kernel_rfl
theorem emitSame_f5 : (namedTie Tryz.prog Rows.emitSameUptoRow.named ((Rows.OpenSpec.upto Rows.emitSameSpec).bare).vars) = true := by kernel_rfl
theorem emitSame_f6 : ((Rows.emitSameUptoRow.stops == [])) = true := by kernel_rfl
theorem emitSame_f7 : ((Tryz.prog.stops == [])) = true := by kernel_rfl
theorem emitSame_f8 : ((Rows.emitSameUptoRow.knobs == [])) = true := by kernel_rfl
theorem emitSame_f9 : ((Tryz.prog.stopKnobs == [])) = true := by kernel_rfl
theorem emitSame_f10 : ((Rows.emitSameUptoRow.inPlace == Tryz.prog.inPlace 6)) = true := by kernel_rfl
theorem emitSame_f11 : ((Rows.emitSameUptoRow.unfollowed == Tryz.prog.unfollowed 6)) = true := by kernel_rfl
theorem emitSame_f12 : ((Rows.emitSameUptoRow.recurses == Tryz.prog.recurses 6)) = true := by kernel_rfl
theorem emitSame_f13 : ((Rows.emitSameUptoRow.named == Tryz.prog.varsNamed 6)) = true := by kernel_rfl
theorem emitSame_f14 : ((Rows.emitSameUptoRow.maps == (Tryz.f6.params.toList ++ ((Rows.OpenSpec.upto Rows.emitSameSpec).bare).plain.varTypes Tryz.prog).any (Tryz.prog.mapsRec ·))) = true := by kernel_rfl
theorem emitSame_f15 : ((Rows.emitSameUptoRow.ifaces == (Tryz.f6.params.toList ++ ((Rows.OpenSpec.upto Rows.emitSameSpec).bare).plain.varTypes Tryz.prog).any (Tryz.prog.ifacesRec ·))) = true := by kernel_rfl
theorem emitSame_f16 : ((Rows.emitSameUptoRow.mapsOut == Tryz.prog.mapsAmong Tryz.f6.resultTypes.toList)) = true := by kernel_rfl
theorem emitSame_f17 : ((Rows.emitSameUptoRow.loops == (Tryz.f6.params.toList ++ ((Rows.OpenSpec.upto Rows.emitSameSpec).bare).plain.varTypes Tryz.prog).any (Tryz.prog.loopsFrom ·))) = true := by kernel_rfl
theorem emitSame_f18 : ((Rows.emitSameUptoRow.wideKeys == (Tryz.f6.params.toList ++ ((Rows.OpenSpec.upto Rows.emitSameSpec).bare).plain.varTypes Tryz.prog ++ Tryz.f6.resultTypes.toList).any (Tryz.prog.wideKeysFrom ·))) = true := by kernel_rfl
theorem emitSame_f19 : (((Rows.OpenSpec.upto Rows.emitSameSpec).bare).vars.all (Tryz.prog.varReadable ·)) = true := by kernel_rfl
theorem emitSame_f20 : (Tryz.f6.resultTypes.all (fun t => Tryz.prog.readableRec t && decide (t < Tryz.prog.types.size))) = true := by kernel_rfl
theorem emitSame_f21 : ((Rows.emitSameUptoRow.ifacesOut == Tryz.f6.resultTypes.toList.any (Tryz.prog.ifacesRec ·))) = true := by kernel_rfl
theorem emitSame_f22 : ((Rows.emitSameUptoRow.loopsOut == Tryz.f6.resultTypes.toList.any (Tryz.prog.loopsFrom ·))) = true := by kernel_rfl
theorem emitSame_f23 : ((Rows.emitSameUptoRow.plainKeys == Tryz.prog.plainKeys)) = true := by kernel_rfl
theorem emitSame_f24 : (Rows.emitSameUptoRow.shortTexts.isNone) = true := by kernel_rfl
theorem emitSame_f25 : (Tryz.prog.stopsHeard) = true := by kernel_rfl
theorem emitSame_f26 : (Tryz.prog.mayEnter) = true := by kernel_rfl
theorem emitSame_f27 : ((Rows.emitSameUptoRow.lifted == Tryz.prog.liftsFinal)) = true := by kernel_rfl
theorem emitSame_f28 : ((Tryz.prog.make == some Rows.emitSameUptoRow.make)) = true := by kernel_rfl
theorem emitSame_f29 : ((Rows.emitSameUptoRow.kinds == (if Rows.emitSameUptoRow.domain.isEmpty then [] else Tryz.f6.params.toList.map fun t => match Tryz.prog.underlying t with | some (.int k) => some k | _ => none))) = true := by kernel_rfl
theorem emitSame_f30 : ((Rows.emitSameUptoRow.pinned == Rows.emitSameUptoRow.pinnedBy)) = true := by kernel_rfl
theorem emitSame_f31 : ((Rows.emitSameUptoRow.veiled == (Tryz.f6.params.toList ++ ((Rows.OpenSpec.upto Rows.emitSameSpec).bare).plain.varTypes Tryz.prog ++ Tryz.f6.resultTypes.toList).any (Tryz.prog.veiledRec ·))) = true := by kernel_rfl
theorem emitSame_f32 : (Rows.emitSameUptoRow.veiledFits Tryz.prog Tryz.f6.params.toList (Tryz.f6.params.toList ++ ((Rows.OpenSpec.upto Rows.emitSameSpec).bare).plain.varTypes Tryz.prog ++ Tryz.f6.resultTypes.toList)) = true := by kernel_rfl
theorem emitSame_facts : joinedFacts Tryz.prog 6 Tryz.f6 (Rows.OpenSpec.upto Rows.emitSameSpec).bare Rows.emitSameUptoRow = true := by
 unfold joinedFacts
 exact (andI (andI (andI (andI (andI (andI (andI (andI (andI (andI (andI (andI (andI (andI (andI (andI (andI (andI (andI (andI (andI (andI (andI (andI (andI (andI (andI (andI (andI (andI (andI emitSame_f1 emitSame_f2) emitSame_f3) emitSame_f4) emitSame_f5) emitSame_f6) emitSame_f7) emitSame_f8) emitSame_f9) emitSame_f10) emitSame_f11) emitSame_f12) emitSame_f13) emitSame_f14) emitSame_f15) emitSame_f16) emitSame_f17) emitSame_f18) emitSame_f19) emitSame_f20) emitSame_f21) emitSame_f22) emitSame_f23) emitSame_f24) emitSame_f25) emitSame_f26) emitSame_f27) emitSame_f28) emitSame_f29) emitSame_f30) emitSame_f31) emitSame_f32)
theorem emitSame_said : Rows.EmitSameUptoSaid :=
 OpenClaim.holds_of_cond 6 Tryz.f6 rfl rfl rfl rfl rfl rfl rfl ⟨rfl, rfl, rfl, rfl, rfl⟩ rfl rfl rfl rfl rfl emitSame_name Tryz.func6 emitSame_facts emitSame_inst emitSame_wrap
  (fun os started H enc _ F => by rw [OpenClaim.pre_eq_preRow]; exact emitSame_lifted os started H enc F)
theorem emitSame_plain (f : FuncId) (fn : Func) (hf : Tryz.pinned.checked.prog.funcNamed Rows.emitSameUptoRow.func = some f) (hfn : Tryz.pinned.checked.prog.funcs[f]? = some fn) :
  true = Tryz.pinned.checked.prog.looks [] ∧ ∀ (j : Nat) t, fn.params[j]? = some t → Tryz.pinned.checked.prog.wantsStandIn t = false := by
 obtain rfl : f = 6 := Option.some.inj (emitSame_name.symm.trans hf) |>.symm
 obtain rfl : fn = Tryz.f6 := (Option.some.inj (Tryz.func6.symm.trans hfn)).symm
 refine ⟨by kernel_rfl, fun j t ht => ?_⟩
 rw [Tryz.params6] at ht
 have hm := Array.mem_of_getElem? ht
 simp only [List.mem_toArray, List.mem_cons, List.mem_nil_iff, or_false] at hm
 rcases hm with rfl | rfl
 ·exact (show Tryz.prog.wantsStandIn 45 = false by kernel_rfl)
 ·exact (show Tryz.prog.wantsStandIn 23 = false by kernel_rfl)
theorem emitSame_card : Rows.EmitSameUptoCardSaid :=
 Claim7.holds_tied_plain_at .later [] _ _ _ _ emitSame_said (fun _ h => by cases h) (by kernel_rfl) (fun _ h => by cases h) emitSameUpto_row_tie rfl ⟨rfl, rfl⟩ (by kernel_rfl) rfl emitSame_plain (by kernel_rfl)
end Go.Proofs.YtklpioocdgfbmaaGreatDoor

