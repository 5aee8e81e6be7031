/-
 SlotsSorts returns true for every input where what it reads is of bulk at most 1048576; the arguments read behind the call as before. Conditions: those of the given card.
-/
import Derived.SevenTiedAt
import Derived.Test.YtklpioocdgfbmaaGreatDoorCards
import Derived.Test.YtklpioocdgfbmaaGreatDoorTie
import Derived.Test.YtklpioocdgfbmaaGreatDoorS10
set_option linter.unusedSimpArgs false
set_option linter.unusedVariables false
namespace Go.Proofs.YtklpioocdgfbmaaGreatDoor
set_option maxRecDepth 100000
set_option maxHeartbeats 4000000
open Go Go.Cb Go.ChangeShapes Go.WideShapes Go.ChangeAt Go.RowKit
theorem slotsSorts_contract (H : Type) (enc : TypeId × Value → H) (F : Stop.Interp) (W : World) (base : Nat) (args : Array Value) (ds gs : List (DataW H)) (before : List MemPlace)
  (hval : ∀ (j : Nat) t v, Tryz.f10.params[j]? = some t → args[j]? = some v → Value.okWide Tryz.prog W .any base t v)
  (hW : DataW.Whole enc Tryz.prog Tryz.f10.params.toList ((Rows.OpenSpec.upto Rows.slotsSortsSpec).at F).vars false W args.toList ds gs before)
  (hcond : Rows.uptoSmall H (ds ++ gs) = true) :
  Calls Tryz.prog 10 args W fun e W' => ∃ v, e = .returned v ∧ ((Rows.OpenSpec.upto Rows.slotsSortsSpec).at F).post enc Tryz.prog Tryz.f10 false true false false W args v W' := by
 have hW' := hW
 obtain ⟨p, q, hA0, hV, rfl, hfz, hnd⟩ := hW
 have hA : DataW.TrodAll enc Tryz.prog W 0 (fun _ => true) true Tryz.f10.params.toList args.toList ds p := hA0
 rw [Tryz.params10] at hA hval
 obtain ⟨v0, vs0, d0, ds0, p0, q0, hargs, rfl, rfl, h0, r0⟩ := trodAll_cons hA
 obtain ⟨rfl, rfl, rfl⟩ := trodAll_nil r0
 obtain rfl : args = #[v0] := by cases args; simp_all
 obtain ⟨a0, hp0, hb0⟩ := arg_struct Tryz.underlying45 rdU (hval 0 _ v0 rfl rfl) h0
 have hb := of_decide_eq_true hcond
 simp only [List.cons_append, Rows.uptoBulkAll] at hb
 refine (calls_true (slotsSorts_c a0) (vs := [v0]) (by simp only [RepT, and_true]; exact hp0)).mono ?_
 rintro e W' ⟨rfl, hbel⟩
 exact ⟨_, rfl, law_post laidOut (fun t ht => by
  rw [Tryz.params10] at ht
  simp only [List.mem_cons, List.mem_nil_iff, or_false] at ht
  subst ht
  exact okU) (by kernel_rfl) Tryz.underlying4 rfl (fun ds hd => by
  rw [Tryz.params10] at hd
  match ds, hd with
  | [a], _ => rfl) hW' hbel⟩
def slotsSorts_args : Array Value := #[.agg #[.slice none 0 0, .slice none 0 0]]
theorem slotsSorts_witness (os : Os) {H : Type} (enc : TypeId × Value → H) :
  (Rows.OpenSpec.upto Rows.slotsSortsSpec).preRow enc Tryz.prog Tryz.f10 Rows.slotsSortsUptoRow.domain false Rows.slotsSortsUptoRow.laid ((laidWorld os).forCall (fun _ _ => 0) ⟨#[], slotsSorts_args, []⟩).memory slotsSorts_args := by
 have hw : (DataW.whole enc Tryz.prog ((laidWorld os).forCall (fun _ _ => 0) ⟨#[], slotsSorts_args, []⟩).memory Tryz.f10.params.toList (Rows.OpenSpec.upto Rows.slotsSortsSpec).vars false slotsSorts_args.toList 8).map (fun x => (x.1, x.2.1)) =
   some ([.agg [.nil, .nil]], []) := by kernel_rfl
 obtain ⟨⟨x1, x2, x3⟩, hx, hx1⟩ := Option.map_eq_some_iff.1 hw
 simp only [Prod.mk.injEq] at hx1
 obtain ⟨rfl, rfl⟩ := hx1
 exact OpenSpec.preRow_of_cond 8 hx (by kernel_rfl) (fun k hk => by cases hk; kernel_rfl) (by kernel_rfl) (laid_met os _)
theorem slotsSorts_lifted (os : Os) (started : os.Started) (H : Type) (enc : TypeId × Value → H) (F : Stop.Interp) :
  ReturnsInHanded {} Tryz.checked os 10 .any ((Rows.OpenSpec.upto Rows.slotsSortsSpec).preRow enc Tryz.prog Tryz.f10 Rows.slotsSortsUptoRow.domain false Rows.slotsSortsUptoRow.laid) (((Rows.OpenSpec.upto Rows.slotsSortsSpec).at F).post enc Tryz.prog Tryz.f10 false true false false) := by
 refine returnsInHanded_of_row (C := Tryz.checked) (s := Rows.OpenSpec.upto Rows.slotsSortsSpec) own_none started (by kernel_rfl) Tryz.func10
  (witness_row_atRef (enc := enc) (C := Tryz.checked) false (laidWorld os) slotsSorts_args rfl (by kernel_rfl) (by kernel_rfl) (by kernel_rfl) (slotsSorts_witness os enc)) ?_
 intro W base args ds gs before hval hW _ hcond _ hL _ _
 exact slotsSorts_contract H enc F W base args ds gs before hval hW (hcond _ rfl)
theorem slotsSorts_name : Tryz.prog.funcNamed Rows.slotsSortsUptoRow.func = some 10 := by kernel_rfl
theorem slotsSorts_inst : Tryz.f10.isInstance Tryz.prog Rows.slotsSortsUptoRow.origin Rows.slotsSortsUptoRow.targs := of_decide_eq_true (by kernel_rfl)
theorem slotsSorts_wrap : Tryz.f10.isWrapper Tryz.prog Rows.slotsSortsUptoRow.wrapper Rows.slotsSortsUptoRow.mainSum := by
 unfold Func.isWrapper
 rw [if_neg (of_decide_eq_false (by kernel_rfl))]
 exact ⟨rfl, rfl⟩
theorem andI {a b : Bool} (h : a = true) (k : b = true) : (a && b) = true := by rw [h, k]; rfl
theorem slotsSorts_f1 : (Rows.slotsSortsUptoRow.wf (OpenSpec.ofChange ((Rows.OpenSpec.upto Rows.slotsSortsSpec).bare))) = true := by kernel_rfl
theorem slotsSorts_f2 : (laidOutB Tryz.prog) = true := by kernel_rfl
theorem slotsSorts_f3 : (mapsRowed Tryz.prog) = true := by kernel_rfl
theorem slotsSorts_f4 : (Tryz.f10.params.all (Tryz.prog.readableRec ·)) = true := by kernel_rfl
theorem slotsSorts_f5 : (namedTie Tryz.prog Rows.slotsSortsUptoRow.named ((Rows.OpenSpec.upto Rows.slotsSortsSpec).bare).vars) = true := by kernel_rfl
theorem slotsSorts_f6 : ((Rows.slotsSortsUptoRow.stops == [])) = true := by kernel_rfl
theorem slotsSorts_f7 : ((Tryz.prog.stops == [])) = true := by kernel_rfl
theorem slotsSorts_f8 : ((Rows.slotsSortsUptoRow.knobs == [])) = true := by kernel_rfl
theorem slotsSorts_f9 : ((Tryz.prog.stopKnobs == [])) = true := by kernel_rfl
theorem slotsSorts_f10 : ((Rows.slotsSortsUptoRow.inPlace == Tryz.prog.inPlace 10)) = true := by kernel_rfl
theorem slotsSorts_f11 : ((Rows.slotsSortsUptoRow.unfollowed == Tryz.prog.unfollowed 10)) = true := by kernel_rfl
theorem slotsSorts_f12 : ((Rows.slotsSortsUptoRow.recurses == Tryz.prog.recurses 10)) = true := by kernel_rfl
theorem slotsSorts_f13 : ((Rows.slotsSortsUptoRow.named == Tryz.prog.varsNamed 10)) = true := by kernel_rfl
theorem slotsSorts_f14 : ((Rows.slotsSortsUptoRow.maps == (Tryz.f10.params.toList ++ ((Rows.OpenSpec.upto Rows.slotsSortsSpec).bare).plain.varTypes Tryz.prog).any (Tryz.prog.mapsRec ·))) = true := by kernel_rfl
theorem slotsSorts_f15 : ((Rows.slotsSortsUptoRow.ifaces == (Tryz.f10.params.toList ++ ((Rows.OpenSpec.upto Rows.slotsSortsSpec).bare).plain.varTypes Tryz.prog).any (Tryz.prog.ifacesRec ·))) = true := by kernel_rfl
theorem slotsSorts_f16 : ((Rows.slotsSortsUptoRow.mapsOut == Tryz.prog.mapsAmong Tryz.f10.resultTypes.toList)) = true := by kernel_rfl
theorem slotsSorts_f17 : ((Rows.slotsSortsUptoRow.loops == (Tryz.f10.params.toList ++ ((Rows.OpenSpec.upto Rows.slotsSortsSpec).bare).plain.varTypes Tryz.prog).any (Tryz.prog.loopsFrom ·))) = true := by kernel_rfl
theorem slotsSorts_f18 : ((Rows.slotsSortsUptoRow.wideKeys == (Tryz.f10.params.toList ++ ((Rows.OpenSpec.upto Rows.slotsSortsSpec).bare).plain.varTypes Tryz.prog ++ Tryz.f10.resultTypes.toList).any (Tryz.prog.wideKeysFrom ·))) = true := by kernel_rfl
theorem slotsSorts_f19 : (((Rows.OpenSpec.upto Rows.slotsSortsSpec).bare).vars.all (Tryz.prog.varReadable ·)) = true := by kernel_rfl
theorem slotsSorts_f20 : (Tryz.f10.resultTypes.all (fun t => Tryz.prog.readableRec t && decide (t < Tryz.prog.types.size))) = true := by kernel_rfl
theorem slotsSorts_f21 : ((Rows.slotsSortsUptoRow.ifacesOut == Tryz.f10.resultTypes.toList.any (Tryz.prog.ifacesRec ·))) = true := by kernel_rfl
theorem slotsSorts_f22 : ((Rows.slotsSortsUptoRow.loopsOut == Tryz.f10.resultTypes.toList.any (Tryz.prog.loopsFrom ·))) = true := by kernel_rfl
theorem slotsSorts_f23 : ((Rows.slotsSortsUptoRow.plainKeys == Tryz.prog.plainKeys)) = true := by kernel_rfl
theorem slotsSorts_f24 : (Rows.slotsSortsUptoRow.shortTexts.isNone) = true := by kernel_rfl
theorem slotsSorts_f25 : (Tryz.prog.stopsHeard) = true := by kernel_rfl
theorem slotsSorts_f26 : (Tryz.prog.mayEnter) = true := by kernel_rfl
theorem slotsSorts_f27 : ((Rows.slotsSortsUptoRow.lifted == Tryz.prog.liftsFinal)) = true := by kernel_rfl
theorem slotsSorts_f28 : ((Tryz.prog.make == some Rows.slotsSortsUptoRow.make)) = true := by kernel_rfl
theorem slotsSorts_f29 : ((Rows.slotsSortsUptoRow.kinds == (if Rows.slotsSortsUptoRow.domain.isEmpty then [] else Tryz.f10.params.toList.map fun t => match Tryz.prog.underlying t with | some (.int k) => some k | _ => none))) = true := by kernel_rfl
theorem slotsSorts_f30 : ((Rows.slotsSortsUptoRow.pinned == Rows.slotsSortsUptoRow.pinnedBy)) = true := by kernel_rfl
theorem slotsSorts_f31 : ((Rows.slotsSortsUptoRow.veiled == (Tryz.f10.params.toList ++ ((Rows.OpenSpec.upto Rows.slotsSortsSpec).bare).plain.varTypes Tryz.prog ++ Tryz.f10.resultTypes.toList).any (Tryz.prog.veiledRec ·))) = true := by kernel_rfl
theorem slotsSorts_f32 : (Rows.slotsSortsUptoRow.veiledFits Tryz.prog Tryz.f10.params.toList (Tryz.f10.params.toList ++ ((Rows.OpenSpec.upto Rows.slotsSortsSpec).bare).plain.varTypes Tryz.prog ++ Tryz.f10.resultTypes.toList)) = true := by kernel_rfl
theorem slotsSorts_facts : joinedFacts Tryz.prog 10 Tryz.f10 (Rows.OpenSpec.upto Rows.slotsSortsSpec).bare Rows.slotsSortsUptoRow = true := by
 unfold joinedFacts
 exact (andI (andI (andI (andI (andI (andI (andI (andI (andI (andI (andI (andI (andI (andI (andI (andI (andI (andI (andI (andI (andI (andI (andI (andI (andI (andI (andI (andI (andI (andI (andI slotsSorts_f1 slotsSorts_f2) slotsSorts_f3) slotsSorts_f4) slotsSorts_f5) slotsSorts_f6) slotsSorts_f7) slotsSorts_f8) slotsSorts_f9) slotsSorts_f10) slotsSorts_f11) slotsSorts_f12) slotsSorts_f13) slotsSorts_f14) slotsSorts_f15) slotsSorts_f16) slotsSorts_f17) slotsSorts_f18) slotsSorts_f19) slotsSorts_f20) slotsSorts_f21) slotsSorts_f22) slotsSorts_f23) slotsSorts_f24) slotsSorts_f25) slotsSorts_f26) slotsSorts_f27) slotsSorts_f28) slotsSorts_f29) slotsSorts_f30) slotsSorts_f31) slotsSorts_f32)
theorem slotsSorts_said : Rows.SlotsSortsUptoSaid :=
 OpenClaim.holds_of_cond 10 Tryz.f10 rfl rfl rfl rfl rfl rfl rfl ⟨rfl, rfl, rfl, rfl, rfl⟩ rfl rfl rfl rfl rfl slotsSorts_name Tryz.func10 slotsSorts_facts slotsSorts_inst slotsSorts_wrap
  (fun os started H enc _ F => by rw [OpenClaim.pre_eq_preRow]; exact slotsSorts_lifted os started H enc F)
theorem slotsSorts_plain (f : FuncId) (fn : Func) (hf : Tryz.pinned.checked.prog.funcNamed Rows.slotsSortsUptoRow.func = some f) (hfn : Tryz.pinned.checked.prog.funcs[f]? = some fn) :
  true = Tryz.pinned.checked.prog.looks [] ∧ ∀ (j : Nat) t, fn.params[j]? = some t → Tryz.pinned.checked.prog.wantsStandIn t = false := by
 obtain rfl : f = 10 := Option.some.inj (slotsSorts_name.symm.trans hf) |>.symm
 obtain rfl : fn = Tryz.f10 := (Option.some.inj (Tryz.func10.symm.trans hfn)).symm
 refine ⟨by kernel_rfl, fun j t ht => ?_⟩
 rw [Tryz.params10] at ht
 have hm := Array.mem_of_getElem? ht
 simp only [List.mem_toArray, List.mem_cons, List.mem_nil_iff, or_false] at hm
 subst hm
 exact (show Tryz.prog.wantsStandIn 45 = false by kernel_rfl)
theorem slotsSorts_card : Rows.SlotsSortsUptoCardSaid :=
 Claim7.holds_tied_plain_at .later [] _ _ _ _ slotsSorts_said (fun _ h => by cases h) (by kernel_rfl) (fun _ h => by cases h) slotsSortsUpto_row_tie rfl ⟨rfl, rfl⟩ (by kernel_rfl) rfl slotsSorts_plain (by kernel_rfl)
end Go.Proofs.YtklpioocdgfbmaaGreatDoor

