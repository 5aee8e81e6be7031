/-
 SlotsColors returns true for every input where what it reads is of bulk at most 1048576; the arguments read behind the call as before. Conditions: those of the given card.
-/
import Derived.SevenTiedAt
import Derived.Test.YtklpioocdgfbmaaGreatDoorCards
import Derived.Test.YtklpioocdgfbmaaGreatDoorTie
import Derived.Test.YtklpioocdgfbmaaGreatDoorC10
set_option linter.unusedSimpArgs false
set_option linter.unusedVariables false
namespace Go.Proofs.YtklpioocdgfbmaaGreatDoor
set_option maxRecDepth 100000
set_option maxHeartbeats 4000000
open Go Go.Cb Go.ChangeShapes Go.WideShapes Go.ChangeAt Go.RowKit
theorem slotsColors_contract (H : Type) (enc : TypeId × Value → H) (F : Stop.Interp) (W : World) (base : Nat) (args : Array Value) (ds gs : List (DataW H)) (before : List MemPlace)
  (hval : ∀ (j : Nat) t v, Tryz.f11.params[j]? = some t → args[j]? = some v → Value.okWide Tryz.prog W .any base t v)
  (hW : DataW.Whole enc Tryz.prog Tryz.f11.params.toList ((Rows.OpenSpec.upto Rows.slotsColorsSpec).at F).vars false W args.toList ds gs before)
  (hcond : Rows.uptoSmall H (ds ++ gs) = true) :
  Calls Tryz.prog 11 args W fun e W' => ∃ v, e = .returned v ∧ ((Rows.OpenSpec.upto Rows.slotsColorsSpec).at F).post enc Tryz.prog Tryz.f11 false true false false W args v W' := by
 have hW' := hW
 obtain ⟨p, q, hA0, hV, rfl, hfz, hnd⟩ := hW
 have hA : DataW.TrodAll enc Tryz.prog W 0 (fun _ => true) true Tryz.f11.params.toList args.toList ds p := hA0
 rw [Tryz.params11] at hA hval
 obtain ⟨v0, vs0, d0, ds0, p0, q0, hargs, rfl, rfl, h0, r0⟩ := trodAll_cons hA
 obtain ⟨rfl, rfl, rfl⟩ := trodAll_nil r0
 obtain rfl : args = #[v0] := by cases args; simp_all
 obtain ⟨a0, hp0, hb0⟩ := arg_struct Tryz.underlying45 rdU (hval 0 _ v0 rfl rfl) h0
 have hb := of_decide_eq_true hcond
 simp only [List.cons_append, Rows.uptoBulkAll] at hb
 refine (calls_true (slotsColors_c a0) (vs := [v0]) (by simp only [RepT, and_true]; exact hp0)).mono ?_
 rintro e W' ⟨rfl, hbel⟩
 exact ⟨_, rfl, law_post laidOut (fun t ht => by
  rw [Tryz.params11] at ht
  simp only [List.mem_cons, List.mem_nil_iff, or_false] at ht
  subst ht
  exact okU) (by kernel_rfl) Tryz.underlying4 rfl (fun ds hd => by
  rw [Tryz.params11] at hd
  match ds, hd with
  | [a], _ => rfl) hW' hbel⟩
def slotsColors_args : Array Value := #[.agg #[.slice none 0 0, .slice none 0 0]]
theorem slotsColors_witness (os : Os) {H : Type} (enc : TypeId × Value → H) :
  (Rows.OpenSpec.upto Rows.slotsColorsSpec).preRow enc Tryz.prog Tryz.f11 Rows.slotsColorsUptoRow.domain false Rows.slotsColorsUptoRow.laid ((laidWorld os).forCall (fun _ _ => 0) ⟨#[], slotsColors_args, []⟩).memory slotsColors_args := by
 have hw : (DataW.whole enc Tryz.prog ((laidWorld os).forCall (fun _ _ => 0) ⟨#[], slotsColors_args, []⟩).memory Tryz.f11.params.toList (Rows.OpenSpec.upto Rows.slotsColorsSpec).vars false slotsColors_args.toList 8).map (fun x => (x.1, x.2.1)) =
   some ([.agg [.nil, .nil]], []) := by kernel_rfl
 obtain ⟨⟨x1, x2, x3⟩, hx, hx1⟩ := Option.map_eq_some_iff.1 hw
 simp only [Prod.mk.injEq] at hx1
 obtain ⟨rfl, rfl⟩ := hx1
 exact OpenSpec.preRow_of_cond 8 hx (by kernel_rfl) (fun k hk => by cases hk; kernel_rfl) (by kernel_rfl) (laid_met os _)
theorem slotsColors_lifted (os : Os) (started : os.Started) (H : Type) (enc : TypeId × Value → H) (F : Stop.Interp) :
  ReturnsInHanded {} Tryz.checked os 11 .any ((Rows.OpenSpec.upto Rows.slotsColorsSpec).preRow enc Tryz.prog Tryz.f11 Rows.slotsColorsUptoRow.domain false Rows.slotsColorsUptoRow.laid) (((Rows.OpenSpec.upto Rows.slotsColorsSpec).at F).post enc Tryz.prog Tryz.f11 false true false false) := by
 refine returnsInHanded_of_row (C := Tryz.checked) (s := Rows.OpenSpec.upto Rows.slotsColorsSpec) own_none started (by kernel_rfl) Tryz.func11
  (witness_row_atRef (enc := enc) (C := Tryz.checked) false (laidWorld os) slotsColors_args rfl (by kernel_rfl) (by kernel_rfl) (by kernel_rfl) (slotsColors_witness os enc)) ?_
 intro W base args ds gs before hval hW _ hcond _ hL _ _
 exact slotsColors_contract H enc F W base args ds gs before hval hW (hcond _ rfl)
theorem slotsColors_name : Tryz.prog.funcNamed Rows.slotsColorsUptoRow.func = some 11 := by kernel_rfl
theorem slotsColors_inst : Tryz.f11.isInstance Tryz.prog Rows.slotsColorsUptoRow.origin Rows.slotsColorsUptoRow.targs := of_decide_eq_true (by kernel_rfl)
theorem slotsColors_wrap : Tryz.f11.isWrapper Tryz.prog Rows.slotsColorsUptoRow.wrapper Rows.slotsColorsUptoRow.mainSum := by
 unfold Func.isWrapper
 rw [if_neg (of_decide_eq_false (by kernel_rfl))]
 exact ⟨rfl, rfl⟩
theorem andI {a b : Bool} (h : a = true) (k : b = true) : (a && b) = true := by rw [h, k]; rfl
theorem slotsColors_f1 : (Rows.slotsColorsUptoRow.wf (OpenSpec.ofChange ((Rows.OpenSpec.upto Rows.slotsColorsSpec).bare))) = true := by kernel_rfl
theorem slotsColors_f2 : (laidOutB Tryz.prog) = true := by kernel_rfl
theorem slotsColors_f3 : (mapsRowed Tryz.prog) = true := by kernel_rfl
theorem slotsColors_f4 : (Tryz.f11.params.all (Tryz.prog.readableRec ·)) = true := by kernel_rfl
theorem slotsColors_f5 : (namedTie Tryz.prog Rows.slotsColorsUptoRow.named ((Rows.OpenSpec.upto Rows.slotsColorsSpec).bare).vars) = true := by kernel_rfl
theorem slotsColors_f6 : ((Rows.slotsColorsUptoRow.stops == [])) = true := by kernel_rfl
theorem slotsColors_f7 : ((Tryz.prog.stops == [])) = true := by kernel_rfl
theorem slotsColors_f8 : ((Rows.slotsColorsUptoRow.knobs == [])) = true := by kernel_rfl
theorem slotsColors_f9 : ((Tryz.prog.stopKnobs == [])) = true := by kernel_rfl
theorem slotsColors_f10 : ((Rows.slotsColorsUptoRow.inPlace == Tryz.prog.inPlace 11)) = true := by kernel_rfl
theorem slotsColors_f11 : ((Rows.slotsColorsUptoRow.unfollowed == Tryz.prog.unfollowed 11)) = true := by kernel_rfl
theorem slotsColors_f12 : ((Rows.slotsColorsUptoRow.recurses == Tryz.prog.recurses 11)) = true := by kernel_rfl
theorem slotsColors_f13 : ((Rows.slotsColorsUptoRow.named == Tryz.prog.varsNamed 11)) = true := by kernel_rfl
theorem slotsColors_f14 : ((Rows.slotsColorsUptoRow.maps == (Tryz.f11.params.toList ++ ((Rows.OpenSpec.upto Rows.slotsColorsSpec).bare).plain.varTypes Tryz.prog).any (Tryz.prog.mapsRec ·))) = true := by kernel_rfl
theorem slotsColors_f15 : ((Rows.slotsColorsUptoRow.ifaces == (Tryz.f11.params.toList ++ ((Rows.OpenSpec.upto Rows.slotsColorsSpec).bare).plain.varTypes Tryz.prog).any (Tryz.prog.ifacesRec ·))) = true := by kernel_rfl
theorem slotsColors_f16 : ((Rows.slotsColorsUptoRow.mapsOut == Tryz.prog.mapsAmong Tryz.f11.resultTypes.toList)) = true := by kernel_rfl
theorem slotsColors_f17 : ((Rows.slotsColorsUptoRow.loops == (Tryz.f11.params.toList ++ ((Rows.OpenSpec.upto Rows.slotsColorsSpec).bare).plain.varTypes Tryz.prog).any (Tryz.prog.loopsFrom ·))) = true := by kernel_rfl
theorem slotsColors_f18 : ((Rows.slotsColorsUptoRow.wideKeys == (Tryz.f11.params.toList ++ ((Rows.OpenSpec.upto Rows.slotsColorsSpec).bare).plain.varTypes Tryz.prog ++ Tryz.f11.resultTypes.toList).any (Tryz.prog.wideKeysFrom ·))) = true := by kernel_rfl
theorem slotsColors_f19 : (((Rows.OpenSpec.upto Rows.slotsColorsSpec).bare).vars.all (Tryz.prog.varReadable ·)) = true := by kernel_rfl
theorem slotsColors_f20 : (Tryz.f11.resultTypes.all (fun t => Tryz.prog.readableRec t && decide (t < Tryz.prog.types.size))) = true := by kernel_rfl
theorem slotsColors_f21 : ((Rows.slotsColorsUptoRow.ifacesOut == Tryz.f11.resultTypes.toList.any (Tryz.prog.ifacesRec ·))) = true := by kernel_rfl
theorem slotsColors_f22 : ((Rows.slotsColorsUptoRow.loopsOut == Tryz.f11.resultTypes.toList.any (Tryz.prog.loopsFrom ·))) = true := by kernel_rfl
theorem slotsColors_f23 : ((Rows.slotsColorsUptoRow.plainKeys == Tryz.prog.plainKeys)) = true := by kernel_rfl
theorem slotsColors_f24 : (Rows.slotsColorsUptoRow.shortTexts.isNone) = true := by kernel_rfl
theorem slotsColors_f25 : (Tryz.prog.stopsHeard) = true := by kernel_rfl
theorem slotsColors_f26 : (Tryz.prog.mayEnter) = true := by kernel_rfl
theorem slotsColors_f27 : ((Rows.slotsColorsUptoRow.lifted == Tryz.prog.liftsFinal)) = true := by kernel_rfl
theorem slotsColors_f28 : ((Tryz.prog.make == some Rows.slotsColorsUptoRow.make)) = true := by kernel_rfl
theorem slotsColors_f29 : ((Rows.slotsColorsUptoRow.kinds == (if Rows.slotsColorsUptoRow.domain.isEmpty then [] else Tryz.f11.params.toList.map fun t => match Tryz.prog.underlying t with | some (.int k) => some k | _ => none))) = true := by kernel_rfl
theorem slotsColors_f30 : ((Rows.slotsColorsUptoRow.pinned == Rows.slotsColorsUptoRow.pinnedBy)) = true := by kernel_rfl
theorem slotsColors_f31 : ((Rows.slotsColorsUptoRow.veiled == (Tryz.f11.params.toList ++ ((Rows.OpenSpec.upto Rows.slotsColorsSpec).bare).plain.varTypes Tryz.prog ++ Tryz.f11.resultTypes.toList).any (Tryz.prog.veiledRec ·))) = true := by kernel_rfl
theorem slotsColors_f32 : (Rows.slotsColorsUptoRow.veiledFits Tryz.prog Tryz.f11.params.toList (Tryz.f11.params.toList ++ ((Rows.OpenSpec.upto Rows.slotsColorsSpec).bare).plain.varTypes Tryz.prog ++ Tryz.f11.resultTypes.toList)) = true := by kernel_rfl
theorem slotsColors_facts : joinedFacts Tryz.prog 11 Tryz.f11 (Rows.OpenSpec.upto Rows.slotsColorsSpec).bare Rows.slotsColorsUptoRow = true := by
 unfold joinedFacts
 exact (andI (andI (andI (andI (andI (andI (andI (andI (andI (andI (andI (andI (andI (andI (andI (andI (andI (andI (andI (andI (andI (andI (andI (andI (andI (andI (andI (andI (andI (andI (andI slotsColors_f1 slotsColors_f2) slotsColors_f3) slotsColors_f4) slotsColors_f5) slotsColors_f6) slotsColors_f7) slotsColors_f8) slotsColors_f9) slotsColors_f10) slotsColors_f11) slotsColors_f12) slotsColors_f13) slotsColors_f14) slotsColors_f15) slotsColors_f16) slotsColors_f17) slotsColors_f18) slotsColors_f19) slotsColors_f20) slotsColors_f21) slotsColors_f22) slotsColors_f23) slotsColors_f24) slotsColors_f25) slotsColors_f26) slotsColors_f27) slotsColors_f28) slotsColors_f29) slotsColors_f30) slotsColors_f31) slotsColors_f32)
theorem slotsColors_said : Rows.SlotsColorsUptoSaid :=
 OpenClaim.holds_of_cond 11 Tryz.f11 rfl rfl rfl rfl rfl rfl rfl ⟨rfl, rfl, rfl, rfl, rfl⟩ rfl rfl rfl rfl rfl slotsColors_name Tryz.func11 slotsColors_facts slotsColors_inst slotsColors_wrap
  (fun os started H enc _ F => by rw [OpenClaim.pre_eq_preRow]; exact slotsColors_lifted os started H enc F)
theorem slotsColors_plain (f : FuncId) (fn : Func) (hf : Tryz.pinned.checked.prog.funcNamed Rows.slotsColorsUptoRow.func = some f) (hfn : Tryz.pinned.checked.prog.funcs[f]? = some fn) :
  true = Tryz.pinned.checked.prog.looks [] ∧ ∀ (j : Nat) t, fn.params[j]? = some t → Tryz.pinned.checked.prog.wantsStandIn t = false := by
 obtain rfl : f = 11 := Option.some.inj (slotsColors_name.symm.trans hf) |>.symm
 obtain rfl : fn = Tryz.f11 := (Option.some.inj (Tryz.func11.symm.trans hfn)).symm
 refine ⟨by kernel_rfl, fun j t ht => ?_⟩
 rw [Tryz.params11] at ht
 have hm := Array.mem_of_getElem? ht
 simp only [List.mem_toArray, List.mem_cons, List.mem_nil_iff, or_false] at hm
 subst hm
 exact (show Tryz.prog.wantsStandIn 45 = false by kernel_rfl)
theorem slotsColors_card : Rows.SlotsColorsUptoCardSaid :=
 Claim7.holds_tied_plain_at .later [] _ _ _ _ slotsColors_said (fun _ h => by cases h) (by kernel_rfl) (fun _ h => by cases h) slotsColorsUpto_row_tie rfl ⟨rfl, rfl⟩ (by kernel_rfl) rfl slotsColors_plain (by kernel_rfl)
end Go.Proofs.YtklpioocdgfbmaaGreatDoor

