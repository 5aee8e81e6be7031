/-
 SlotsAlive returns true for every input where what it reads is of bulk at most 1048576; the arguments read behind the call as before. Conditions: those of the given card.
-/
import Derived.SevenTiedAt
import Derived.Test.YtklpioocdgfbmaaGreatDoorCards
import Derived.Test.YtklpioocdgfbmaaGreatDoorTie
import Derived.Test.YtklpioocdgfbmaaGreatDoorV10
set_option linter.unusedSimpArgs false
set_option linter.unusedVariables false
namespace Go.Proofs.YtklpioocdgfbmaaGreatDoor
set_option maxRecDepth 100000
set_option maxHeartbeats 4000000
open Go Go.Cb Go.ChangeShapes Go.WideShapes Go.ChangeAt Go.RowKit
theorem slotsAlive_contract (H : Type) (enc : TypeId × Value → H) (F : Stop.Interp) (W : World) (base : Nat) (args : Array Value) (ds gs : List (DataW H)) (before : List MemPlace)
  (hval : ∀ (j : Nat) t v, Tryz.f13.params[j]? = some t → args[j]? = some v → Value.okWide Tryz.prog W .any base t v)
  (hW : DataW.Whole enc Tryz.prog Tryz.f13.params.toList ((Rows.OpenSpec.upto Rows.slotsAliveSpec).at F).vars false W args.toList ds gs before)
  (hcond : Rows.uptoSmall H (ds ++ gs) = true) :
  Calls Tryz.prog 13 args W fun e W' => ∃ v, e = .returned v ∧ ((Rows.OpenSpec.upto Rows.slotsAliveSpec).at F).post enc Tryz.prog Tryz.f13 false true false false W args v W' := by
 have hW' := hW
 obtain ⟨p, q, hA0, hV, rfl, hfz, hnd⟩ := hW
 have hA : DataW.TrodAll enc Tryz.prog W 0 (fun _ => true) true Tryz.f13.params.toList args.toList ds p := hA0
 rw [Tryz.params13] at hA hval
 obtain ⟨v0, vs0, d0, ds0, p0, q0, hargs, rfl, rfl, h0, r0⟩ := trodAll_cons hA
 obtain ⟨rfl, rfl, rfl⟩ := trodAll_nil r0
 obtain rfl : args = #[v0] := by cases args; simp_all
 obtain ⟨a0, hp0, hb0⟩ := arg_struct Tryz.underlying45 rdU (hval 0 _ v0 rfl rfl) h0
 have hb := of_decide_eq_true hcond
 simp only [List.cons_append, Rows.uptoBulkAll] at hb
 refine (calls_true (slotsAlive_c a0) (vs := [v0]) (by simp only [RepT, and_true]; exact hp0)).mono ?_
 rintro e W' ⟨rfl, hbel⟩
 exact ⟨_, rfl, law_post laidOut (fun t ht => by
  rw [Tryz.params13] at ht
  simp only [List.mem_cons, List.mem_nil_iff, or_false] at ht
  subst ht
  exact okU) (by kernel_rfl) Tryz.underlying4 rfl (fun ds hd => by
  rw [Tryz.params13] at hd
  match ds, hd with
  | [a], _ => rfl) hW' hbel⟩
def slotsAlive_args : Array Value := #[.agg #[.slice none 0 0, .slice none 0 0]]
theorem slotsAlive_witness (os : Os) {H : Type} (enc : TypeId × Value → H) :
  (Rows.OpenSpec.upto Rows.slotsAliveSpec).preRow enc Tryz.prog Tryz.f13 Rows.slotsAliveUptoRow.domain false Rows.slotsAliveUptoRow.laid ((laidWorld os).forCall (fun _ _ => 0) ⟨#[], slotsAlive_args, []⟩).memory slotsAlive_args := by
 have hw : (DataW.whole enc Tryz.prog ((laidWorld os).forCall (fun _ _ => 0) ⟨#[], slotsAlive_args, []⟩).memory Tryz.f13.params.toList (Rows.OpenSpec.upto Rows.slotsAliveSpec).vars false slotsAlive_args.toList 8).map (fun x => (x.1, x.2.1)) =
   some ([.agg [.nil, .nil]], []) := by kernel_rfl
 obtain ⟨⟨x1, x2, x3⟩, hx, hx1⟩ := Option.map_eq_some_iff.1 hw
 simp only [Prod.mk.injEq] at hx1
 obtain ⟨rfl, rfl⟩ := hx1
 exact OpenSpec.preRow_of_cond 8 hx (by kernel_rfl) (fun k hk => by cases hk; kernel_rfl) (by kernel_rfl) (laid_met os _)
theorem slotsAlive_lifted (os : Os) (started : os.Started) (H : Type) (enc : TypeId × Value → H) (F : Stop.Interp) :
  ReturnsInHanded {} Tryz.checked os 13 .any ((Rows.OpenSpec.upto Rows.slotsAliveSpec).preRow enc Tryz.prog Tryz.f13 Rows.slotsAliveUptoRow.domain false Rows.slotsAliveUptoRow.laid) (((Rows.OpenSpec.upto Rows.slotsAliveSpec).at F).post enc Tryz.prog Tryz.f13 false true false false) := by
 refine returnsInHanded_of_row (C := Tryz.checked) (s := Rows.OpenSpec.upto Rows.slotsAliveSpec) own_none started (by kernel_rfl) Tryz.func13
  (witness_row_atRef (enc := enc) (C := Tryz.checked) false (laidWorld os) slotsAlive_args rfl (by kernel_rfl) (by kernel_rfl) (by kernel_rfl) (slotsAlive_witness os enc)) ?_
 intro W base args ds gs before hval hW _ hcond _ hL _ _
 exact slotsAlive_contract H enc F W base args ds gs before hval hW (hcond _ rfl)
theorem slotsAlive_name : Tryz.prog.funcNamed Rows.slotsAliveUptoRow.func = some 13 := by kernel_rfl
theorem slotsAlive_inst : Tryz.f13.isInstance Tryz.prog Rows.slotsAliveUptoRow.origin Rows.slotsAliveUptoRow.targs := of_decide_eq_true (by kernel_rfl)
theorem slotsAlive_wrap : Tryz.f13.isWrapper Tryz.prog Rows.slotsAliveUptoRow.wrapper Rows.slotsAliveUptoRow.mainSum := by
 unfold Func.isWrapper
 rw [if_neg (of_decide_eq_false (by kernel_rfl))]
 exact ⟨rfl, rfl⟩
theorem andI {a b : Bool} (h : a = true) (k : b = true) : (a && b) = true := by rw [h, k]; rfl
theorem slotsAlive_f1 : (Rows.slotsAliveUptoRow.wf (OpenSpec.ofChange ((Rows.OpenSpec.upto Rows.slotsAliveSpec).bare))) = true := by kernel_rfl
theorem slotsAlive_f2 : (laidOutB Tryz.prog) = true := by kernel_rfl
theorem slotsAlive_f3 : (mapsRowed Tryz.prog) = true := by kernel_rfl
theorem slotsAlive_f4 : (Tryz.f13.params.all (Tryz.prog.readableRec ·)) = true := by kernel_rfl
theorem slotsAlive_f5 : (namedTie Tryz.prog Rows.slotsAliveUptoRow.named ((Rows.OpenSpec.upto Rows.slotsAliveSpec).bare).vars) = true := by kernel_rfl
theorem slotsAlive_f6 : ((Rows.slotsAliveUptoRow.stops == [])) = true := by kernel_rfl
theorem slotsAlive_f7 : ((Tryz.prog.stops == [])) = true := by kernel_rfl
theorem slotsAlive_f8 : ((Rows.slotsAliveUptoRow.knobs == [])) = true := by kernel_rfl
theorem slotsAlive_f9 : ((Tryz.prog.stopKnobs == [])) = true := by kernel_rfl
theorem slotsAlive_f10 : ((Rows.slotsAliveUptoRow.inPlace == Tryz.prog.inPlace 13)) = true := by kernel_rfl
theorem slotsAlive_f11 : ((Rows.slotsAliveUptoRow.unfollowed == Tryz.prog.unfollowed 13)) = true := by kernel_rfl
theorem slotsAlive_f12 : ((Rows.slotsAliveUptoRow.recurses == Tryz.prog.recurses 13)) = true := by kernel_rfl
theorem slotsAlive_f13 : ((Rows.slotsAliveUptoRow.named == Tryz.prog.varsNamed 13)) = true := by kernel_rfl
theorem slotsAlive_f14 : ((Rows.slotsAliveUptoRow.maps == (Tryz.f13.params.toList ++ ((Rows.OpenSpec.upto Rows.slotsAliveSpec).bare).plain.varTypes Tryz.prog).any (Tryz.prog.mapsRec ·))) = true := by kernel_rfl
theorem slotsAlive_f15 : ((Rows.slotsAliveUptoRow.ifaces == (Tryz.f13.params.toList ++ ((Rows.OpenSpec.upto Rows.slotsAliveSpec).bare).plain.varTypes Tryz.prog).any (Tryz.prog.ifacesRec ·))) = true := by kernel_rfl
theorem slotsAlive_f16 : ((Rows.slotsAliveUptoRow.mapsOut == Tryz.prog.mapsAmong Tryz.f13.resultTypes.toList)) = true := by kernel_rfl
theorem slotsAlive_f17 : ((Rows.slotsAliveUptoRow.loops == (Tryz.f13.params.toList ++ ((Rows.OpenSpec.upto Rows.slotsAliveSpec).bare).plain.varTypes Tryz.prog).any (Tryz.prog.loopsFrom ·))) = true := by kernel_rfl
theorem slotsAlive_f18 : ((Rows.slotsAliveUptoRow.wideKeys == (Tryz.f13.params.toList ++ ((Rows.OpenSpec.upto Rows.slotsAliveSpec).bare).plain.varTypes Tryz.prog ++ Tryz.f13.resultTypes.toList).any (Tryz.prog.wideKeysFrom ·))) = true := by kernel_rfl
theorem slotsAlive_f19 : (((Rows.OpenSpec.upto Rows.slotsAliveSpec).bare).vars.all (Tryz.prog.varReadable ·)) = true := by kernel_rfl
theorem slotsAlive_f20 : (Tryz.f13.resultTypes.all (fun t => Tryz.prog.readableRec t && decide (t < Tryz.prog.types.size))) = true := by kernel_rfl
theorem slotsAlive_f21 : ((Rows.slotsAliveUptoRow.ifacesOut == Tryz.f13.resultTypes.toList.any (Tryz.prog.ifacesRec ·))) = true := by kernel_rfl
theorem slotsAlive_f22 : ((Rows.slotsAliveUptoRow.loopsOut == Tryz.f13.resultTypes.toList.any (Tryz.prog.loopsFrom ·))) = true := by kernel_rfl
theorem slotsAlive_f23 : ((Rows.slotsAliveUptoRow.plainKeys == Tryz.prog.plainKeys)) = true := by kernel_rfl
theorem slotsAlive_f24 : (Rows.slotsAliveUptoRow.shortTexts.isNone) = true := by kernel_rfl
theorem slotsAlive_f25 : (Tryz.prog.stopsHeard) = true := by kernel_rfl
theorem slotsAlive_f26 : (Tryz.prog.mayEnter) = true := by kernel_rfl
theorem slotsAlive_f27 : ((Rows.slotsAliveUptoRow.lifted == Tryz.prog.liftsFinal)) = true := by kernel_rfl
theorem slotsAlive_f28 : ((Tryz.prog.make == some Rows.slotsAliveUptoRow.make)) = true := by kernel_rfl
theorem slotsAlive_f29 : ((Rows.slotsAliveUptoRow.kinds == (if Rows.slotsAliveUptoRow.domain.isEmpty then [] else Tryz.f13.params.toList.map fun t => match Tryz.prog.underlying t with | some (.int k) => some k | _ => none))) = true := by kernel_rfl
theorem slotsAlive_f30 : ((Rows.slotsAliveUptoRow.pinned == Rows.slotsAliveUptoRow.pinnedBy)) = true := by kernel_rfl
theorem slotsAlive_f31 : ((Rows.slotsAliveUptoRow.veiled == (Tryz.f13.params.toList ++ ((Rows.OpenSpec.upto Rows.slotsAliveSpec).bare).plain.varTypes Tryz.prog ++ Tryz.f13.resultTypes.toList).any (Tryz.prog.veiledRec ·))) = true := by kernel_rfl
theorem slotsAlive_f32 : (Rows.slotsAliveUptoRow.veiledFits Tryz.prog Tryz.f13.params.toList (Tryz.f13.params.toList ++ ((Rows.OpenSpec.upto Rows.slotsAliveSpec).bare).plain.varTypes Tryz.prog ++ Tryz.f13.resultTypes.toList)) = true := by kernel_rfl
theorem slotsAlive_facts : joinedFacts Tryz.prog 13 Tryz.f13 (Rows.OpenSpec.upto Rows.slotsAliveSpec).bare Rows.slotsAliveUptoRow = true := by
 unfold joinedFacts
 exact (andI (andI (andI (andI (andI (andI (andI (andI (andI (andI (andI (andI (andI (andI (andI (andI (andI (andI (andI (andI (andI (andI (andI (andI (andI (andI (andI (andI (andI (andI (andI slotsAlive_f1 slotsAlive_f2) slotsAlive_f3) slotsAlive_f4) slotsAlive_f5) slotsAlive_f6) slotsAlive_f7) slotsAlive_f8) slotsAlive_f9) slotsAlive_f10) slotsAlive_f11) slotsAlive_f12) slotsAlive_f13) slotsAlive_f14) slotsAlive_f15) slotsAlive_f16) slotsAlive_f17) slotsAlive_f18) slotsAlive_f19) slotsAlive_f20) slotsAlive_f21) slotsAlive_f22) slotsAlive_f23) slotsAlive_f24) slotsAlive_f25) slotsAlive_f26) slotsAlive_f27) slotsAlive_f28) slotsAlive_f29) slotsAlive_f30) slotsAlive_f31) slotsAlive_f32)
theorem slotsAlive_said : Rows.SlotsAliveUptoSaid :=
 OpenClaim.holds_of_cond 13 Tryz.f13 rfl rfl rfl rfl rfl rfl rfl ⟨rfl, rfl, rfl, rfl, rfl⟩ rfl rfl rfl rfl rfl slotsAlive_name Tryz.func13 slotsAlive_facts slotsAlive_inst slotsAlive_wrap
  (fun os started H enc _ F => by rw [OpenClaim.pre_eq_preRow]; exact slotsAlive_lifted os started H enc F)
theorem slotsAlive_plain (f : FuncId) (fn : Func) (hf : Tryz.pinned.checked.prog.funcNamed Rows.slotsAliveUptoRow.func = some f) (hfn : Tryz.pinned.checked.prog.funcs[f]? = some fn) :
  true = Tryz.pinned.checked.prog.looks [] ∧ ∀ (j : Nat) t, fn.params[j]? = some t → Tryz.pinned.checked.prog.wantsStandIn t = false := by
 obtain rfl : f = 13 := Option.some.inj (slotsAlive_name.symm.trans hf) |>.symm
 obtain rfl : fn = Tryz.f13 := (Option.some.inj (Tryz.func13.symm.trans hfn)).symm
 refine ⟨by kernel_rfl, fun j t ht => ?_⟩
 rw [Tryz.params13] at ht
 have hm := Array.mem_of_getElem? ht
 simp only [List.mem_toArray, List.mem_cons, List.mem_nil_iff, or_false] at hm
 subst hm
 exact (show Tryz.prog.wantsStandIn 45 = false by kernel_rfl)
theorem slotsAlive_card : Rows.SlotsAliveUptoCardSaid :=
 Claim7.holds_tied_plain_at .later [] _ _ _ _ slotsAlive_said (fun _ h => by cases h) (by kernel_rfl) (fun _ h => by cases h) slotsAliveUpto_row_tie rfl ⟨rfl, rfl⟩ (by kernel_rfl) rfl slotsAlive_plain (by kernel_rfl)
end Go.Proofs.YtklpioocdgfbmaaGreatDoor

