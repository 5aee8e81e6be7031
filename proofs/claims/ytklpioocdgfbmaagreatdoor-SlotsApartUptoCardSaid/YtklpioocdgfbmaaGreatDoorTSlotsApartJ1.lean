/-
 SlotsApart returns true for every input where what it reads is of bulk at most 1048576; the arguments read behind the call as before. Conditions: those of the given card.
-/
import Derived.SevenTiedAt
import Derived.Test.YtklpioocdgfbmaaGreatDoorCards
import Derived.Test.YtklpioocdgfbmaaGreatDoorTie
import Derived.Test.YtklpioocdgfbmaaGreatDoorQ10
set_option linter.unusedSimpArgs false
set_option linter.unusedVariables false
namespace Go.Proofs.YtklpioocdgfbmaaGreatDoor
set_option maxRecDepth 100000
set_option maxHeartbeats 4000000
open Go Go.Cb Go.ChangeShapes Go.WideShapes Go.ChangeAt Go.RowKit
theorem slotsApart_contract (H : Type) (enc : TypeId × Value → H) (F : Stop.Interp) (W : World) (base : Nat) (args : Array Value) (ds gs : List (DataW H)) (before : List MemPlace)
  (hval : ∀ (j : Nat) t v, Tryz.f12.params[j]? = some t → args[j]? = some v → Value.okWide Tryz.prog W .any base t v)
  (hW : DataW.Whole enc Tryz.prog Tryz.f12.params.toList ((Rows.OpenSpec.upto Rows.slotsApartSpec).at F).vars false W args.toList ds gs before)
  (hcond : Rows.uptoSmall H (ds ++ gs) = true) :
  Calls Tryz.prog 12 args W fun e W' => ∃ v, e = .returned v ∧ ((Rows.OpenSpec.upto Rows.slotsApartSpec).at F).post enc Tryz.prog Tryz.f12 false true false false W args v W' := by
 have hW' := hW
 obtain ⟨p, q, hA0, hV, rfl, hfz, hnd⟩ := hW
 have hA : DataW.TrodAll enc Tryz.prog W 0 (fun _ => true) true Tryz.f12.params.toList args.toList ds p := hA0
 rw [Tryz.params12] at hA hval
 obtain ⟨v0, vs0, d0, ds0, p0, q0, hargs, rfl, rfl, h0, r0⟩ := trodAll_cons hA
 obtain ⟨rfl, rfl, rfl⟩ := trodAll_nil r0
 obtain rfl : args = #[v0] := by cases args; simp_all
 obtain ⟨a0, hp0, hb0⟩ := arg_struct Tryz.underlying45 rdU (hval 0 _ v0 rfl rfl) h0
 have hb := of_decide_eq_true hcond
 simp only [List.cons_append, Rows.uptoBulkAll] at hb
 refine (calls_true (slotsApart_c a0) (vs := [v0]) (by simp only [RepT, and_true]; exact hp0)).mono ?_
 rintro e W' ⟨rfl, hbel⟩
 exact ⟨_, rfl, law_post laidOut (fun t ht => by
  rw [Tryz.params12] at ht
  simp only [List.mem_cons, List.mem_nil_iff, or_false] at ht
  subst ht
  exact okU) (by kernel_rfl) Tryz.underlying4 rfl (fun ds hd => by
  rw [Tryz.params12] at hd
  match ds, hd with
  | [a], _ => rfl) hW' hbel⟩
def slotsApart_args : Array Value := #[.agg #[.slice none 0 0, .slice none 0 0]]
theorem slotsApart_witness (os : Os) {H : Type} (enc : TypeId × Value → H) :
  (Rows.OpenSpec.upto Rows.slotsApartSpec).preRow enc Tryz.prog Tryz.f12 Rows.slotsApartUptoRow.domain false Rows.slotsApartUptoRow.laid ((laidWorld os).forCall (fun _ _ => 0) ⟨#[], slotsApart_args, []⟩).memory slotsApart_args := by
 have hw : (DataW.whole enc Tryz.prog ((laidWorld os).forCall (fun _ _ => 0) ⟨#[], slotsApart_args, []⟩).memory Tryz.f12.params.toList (Rows.OpenSpec.upto Rows.slotsApartSpec).vars false slotsApart_args.toList 8).map (fun x => (x.1, x.2.1)) =
   some ([.agg [.nil, .nil]], []) := by kernel_rfl
 obtain ⟨⟨x1, x2, x3⟩, hx, hx1⟩ := Option.map_eq_some_iff.1 hw
 simp only [Prod.mk.injEq] at hx1
 obtain ⟨rfl, rfl⟩ := hx1
 exact OpenSpec.preRow_of_cond 8 hx (by kernel_rfl) (fun k hk => by cases hk; kernel_rfl) (by kernel_rfl) (laid_met os _)
theorem slotsApart_lifted (os : Os) (started : os.Started) (H : Type) (enc : TypeId × Value → H) (F : Stop.Interp) :
  ReturnsInHanded {} Tryz.checked os 12 .any ((Rows.OpenSpec.upto Rows.slotsApartSpec).preRow enc Tryz.prog Tryz.f12 Rows.slotsApartUptoRow.domain false Rows.slotsApartUptoRow.laid) (((Rows.OpenSpec.upto Rows.slotsApartSpec).at F).post enc Tryz.prog Tryz.f12 false true false false) := by
 refine returnsInHanded_of_row (C := Tryz.checked) (s := Rows.OpenSpec.upto Rows.slotsApartSpec) own_none started (by kernel_rfl) Tryz.func12
  (witness_row_atRef (enc := enc) (C := Tryz.checked) false (laidWorld os) slotsApart_args rfl (by kernel_rfl) (by kernel_rfl) (by kernel_rfl) (slotsApart_witness os enc)) ?_
 intro W base args ds gs before hval hW _ hcond _ hL _ _
 exact slotsApart_contract H enc F W base args ds gs before hval hW (hcond _ rfl)
theorem slotsApart_name : Tryz.prog.funcNamed Rows.slotsApartUptoRow.func = some 12 := by kernel_rfl
theorem slotsApart_inst : Tryz.f12.isInstance Tryz.prog Rows.slotsApartUptoRow.origin Rows.slotsApartUptoRow.targs := of_decide_eq_true (by kernel_rfl)
theorem slotsApart_wrap : Tryz.f12.isWrapper Tryz.prog Rows.slotsApartUptoRow.wrapper Rows.slotsApartUptoRow.mainSum := by
 unfold Func.isWrapper
 rw [if_neg (of_decide_eq_false (by kernel_rfl))]
 exact ⟨rfl, rfl⟩
theorem andI {a b : Bool} (h : a = true) (k : b = true) : (a && b) = true := by rw [h, k]; rfl
theorem slotsApart_f1 : (Rows.slotsApartUptoRow.wf (OpenSpec.ofChange ((Rows.OpenSpec.upto Rows.slotsApartSpec).bare))) = true := by kernel_rfl
theorem slotsApart_f2 : (laidOutB Tryz.prog) = true := by kernel_rfl
theorem slotsApart_f3 : (mapsRowed Tryz.prog) = true := by kernel_rfl
theorem slotsApart_f4 : (Tryz.f12.params.all (Tryz.prog.readableRec ·)) = true := by kernel_rfl
theorem slotsApart_f5 : (namedTie Tryz.prog Rows.slotsApartUptoRow.named ((Rows.OpenSpec.upto Rows.slotsApartSpec).bare).vars) = true := by kernel_rfl
theorem slotsApart_f6 : ((Rows.slotsApartUptoRow.stops == [])) = true := by kernel_rfl
theorem slotsApart_f7 : ((Tryz.prog.stops == [])) = true := by kernel_rfl
theorem slotsApart_f8 : ((Rows.slotsApartUptoRow.knobs == [])) = true := by kernel_rfl
theorem slotsApart_f9 : ((Tryz.prog.stopKnobs == [])) = true := by kernel_rfl
theorem slotsApart_f10 : ((Rows.slotsApartUptoRow.inPlace == Tryz.prog.inPlace 12)) = true := by kernel_rfl
theorem slotsApart_f11 : ((Rows.slotsApartUptoRow.unfollowed == Tryz.prog.unfollowed 12)) = true := by kernel_rfl
theorem slotsApart_f12 : ((Rows.slotsApartUptoRow.recurses == Tryz.prog.recurses 12)) = true := by kernel_rfl
theorem slotsApart_f13 : ((Rows.slotsApartUptoRow.named == Tryz.prog.varsNamed 12)) = true := by kernel_rfl
theorem slotsApart_f14 : ((Rows.slotsApartUptoRow.maps == (Tryz.f12.params.toList ++ ((Rows.OpenSpec.upto Rows.slotsApartSpec).bare).plain.varTypes Tryz.prog).any (Tryz.prog.mapsRec ·))) = true := by kernel_rfl
theorem slotsApart_f15 : ((Rows.slotsApartUptoRow.ifaces == (Tryz.f12.params.toList ++ ((Rows.OpenSpec.upto Rows.slotsApartSpec).bare).plain.varTypes Tryz.prog).any (Tryz.prog.ifacesRec ·))) = true := by kernel_rfl
theorem slotsApart_f16 : ((Rows.slotsApartUptoRow.mapsOut == Tryz.prog.mapsAmong Tryz.f12.resultTypes.toList)) = true := by kernel_rfl
theorem slotsApart_f17 : ((Rows.slotsApartUptoRow.loops == (Tryz.f12.params.toList ++ ((Rows.OpenSpec.upto Rows.slotsApartSpec).bare).plain.varTypes Tryz.prog).any (Tryz.prog.loopsFrom ·))) = true := by kernel_rfl
theorem slotsApart_f18 : ((Rows.slotsApartUptoRow.wideKeys == (Tryz.f12.params.toList ++ ((Rows.OpenSpec.upto Rows.slotsApartSpec).bare).plain.varTypes Tryz.prog ++ Tryz.f12.resultTypes.toList).any (Tryz.prog.wideKeysFrom ·))) = true := by kernel_rfl
theorem slotsApart_f19 : (((Rows.OpenSpec.upto Rows.slotsApartSpec).bare).vars.all (Tryz.prog.varReadable ·)) = true := by kernel_rfl
theorem slotsApart_f20 : (Tryz.f12.resultTypes.all (fun t => Tryz.prog.readableRec t && decide (t < Tryz.prog.types.size))) = true := by kernel_rfl
theorem slotsApart_f21 : ((Rows.slotsApartUptoRow.ifacesOut == Tryz.f12.resultTypes.toList.any (Tryz.prog.ifacesRec ·))) = true := by kernel_rfl
theorem slotsApart_f22 : ((Rows.slotsApartUptoRow.loopsOut == Tryz.f12.resultTypes.toList.any (Tryz.prog.loopsFrom ·))) = true := by kernel_rfl
theorem slotsApart_f23 : ((Rows.slotsApartUptoRow.plainKeys == Tryz.prog.plainKeys)) = true := by kernel_rfl
theorem slotsApart_f24 : (Rows.slotsApartUptoRow.shortTexts.isNone) = true := by kernel_rfl
theorem slotsApart_f25 : (Tryz.prog.stopsHeard) = true := by kernel_rfl
theorem slotsApart_f26 : (Tryz.prog.mayEnter) = true := by kernel_rfl
theorem slotsApart_f27 : ((Rows.slotsApartUptoRow.lifted == Tryz.prog.liftsFinal)) = true := by kernel_rfl
theorem slotsApart_f28 : ((Tryz.prog.make == some Rows.slotsApartUptoRow.make)) = true := by kernel_rfl
theorem slotsApart_f29 : ((Rows.slotsApartUptoRow.kinds == (if Rows.slotsApartUptoRow.domain.isEmpty then [] else Tryz.f12.params.toList.map fun t => match Tryz.prog.underlying t with | some (.int k) => some k | _ => none))) = true := by kernel_rfl
theorem slotsApart_f30 : ((Rows.slotsApartUptoRow.pinned == Rows.slotsApartUptoRow.pinnedBy)) = true := by kernel_rfl
theorem slotsApart_f31 : ((Rows.slotsApartUptoRow.veiled == (Tryz.f12.params.toList ++ ((Rows.OpenSpec.upto Rows.slotsApartSpec).bare).plain.varTypes Tryz.prog ++ Tryz.f12.resultTypes.toList).any (Tryz.prog.veiledRec ·))) = true := by kernel_rfl
theorem slotsApart_f32 : (Rows.slotsApartUptoRow.veiledFits Tryz.prog Tryz.f12.params.toList (Tryz.f12.params.toList ++ ((Rows.OpenSpec.upto Rows.slotsApartSpec).bare).plain.varTypes Tryz.prog ++ Tryz.f12.resultTypes.toList)) = true := by kernel_rfl
theorem slotsApart_facts : joinedFacts Tryz.prog 12 Tryz.f12 (Rows.OpenSpec.upto Rows.slotsApartSpec).bare Rows.slotsApartUptoRow = true := by
 unfold joinedFacts
 exact (andI (andI (andI (andI (andI (andI (andI (andI (andI (andI (andI (andI (andI (andI (andI (andI (andI (andI (andI (andI (andI (andI (andI (andI (andI (andI (andI (andI (andI (andI (andI slotsApart_f1 slotsApart_f2) slotsApart_f3) slotsApart_f4) slotsApart_f5) slotsApart_f6) slotsApart_f7) slotsApart_f8) slotsApart_f9) slotsApart_f10) slotsApart_f11) slotsApart_f12) slotsApart_f13) slotsApart_f14) slotsApart_f15) slotsApart_f16) slotsApart_f17) slotsApart_f18) slotsApart_f19) slotsApart_f20) slotsApart_f21) slotsApart_f22) slotsApart_f23) slotsApart_f24) slotsApart_f25) slotsApart_f26) slotsApart_f27) slotsApart_f28) slotsApart_f29) slotsApart_f30) slotsApart_f31) slotsApart_f32)
theorem slotsApart_said : Rows.SlotsApartUptoSaid :=
 OpenClaim.holds_of_cond 12 Tryz.f12 rfl rfl rfl rfl rfl rfl rfl ⟨rfl, rfl, rfl, rfl, rfl⟩ rfl rfl rfl rfl rfl slotsApart_name Tryz.func12 slotsApart_facts slotsApart_inst slotsApart_wrap
  (fun os started H enc _ F => by rw [OpenClaim.pre_eq_preRow]; exact slotsApart_lifted os started H enc F)
theorem slotsApart_plain (f : FuncId) (fn : Func) (hf : Tryz.pinned.checked.prog.funcNamed Rows.slotsApartUptoRow.func = some f) (hfn : Tryz.pinned.checked.prog.funcs[f]? = some fn) :
  true = Tryz.pinned.checked.prog.looks [] ∧ ∀ (j : Nat) t, fn.params[j]? = some t → Tryz.pinned.checked.prog.wantsStandIn t = false := by
 obtain rfl : f = 12 := Option.some.inj (slotsApart_name.symm.trans hf) |>.symm
 obtain rfl : fn = Tryz.f12 := (Option.some.inj (Tryz.func12.symm.trans hfn)).symm
 refine ⟨by kernel_rfl, fun j t ht => ?_⟩
 rw [Tryz.params12] at ht
 have hm := Array.mem_of_getElem? ht
 simp only [List.mem_toArray, List.mem_cons, List.mem_nil_iff, or_false] at hm
 subst hm
 exact (show Tryz.prog.wantsStandIn 45 = false by kernel_rfl)
theorem slotsApart_card : Rows.SlotsApartUptoCardSaid :=
 Claim7.holds_tied_plain_at .later [] _ _ _ _ slotsApart_said (fun _ h => by cases h) (by kernel_rfl) (fun _ h => by cases h) slotsApartUpto_row_tie rfl ⟨rfl, rfl⟩ (by kernel_rfl) rfl slotsApart_plain (by kernel_rfl)
end Go.Proofs.YtklpioocdgfbmaaGreatDoor

