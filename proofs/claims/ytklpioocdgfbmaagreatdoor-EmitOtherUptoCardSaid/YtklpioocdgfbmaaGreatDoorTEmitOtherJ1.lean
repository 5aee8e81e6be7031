/-
 EmitOther returns true for every input where what it reads is of bulk at most 1048576; the arguments read behind the call as before. Conditions: those of the given card.
-/
import Derived.SevenTiedAt
import Derived.Test.YtklpioocdgfbmaaGreatDoorCards
import Derived.Test.YtklpioocdgfbmaaGreatDoorTie
import Derived.Test.YtklpioocdgfbmaaGreatDoorO8
set_option linter.unusedSimpArgs false
set_option linter.unusedVariables false
namespace Go.Proofs.YtklpioocdgfbmaaGreatDoor
set_option maxRecDepth 100000
set_option maxHeartbeats 4000000
open Go Go.Cb Go.ChangeShapes Go.WideShapes Go.ChangeAt Go.RowKit
theorem emitOther_contract (H : Type) (enc : TypeId × Value → H) (F : Stop.Interp) (W : World) (base : Nat) (args : Array Value) (ds gs : List (DataW H)) (before : List MemPlace)
  (hval : ∀ (j : Nat) t v, Tryz.f9.params[j]? = some t → args[j]? = some v → Value.okWide Tryz.prog W .any base t v)
  (hW : DataW.Whole enc Tryz.prog Tryz.f9.params.toList ((Rows.OpenSpec.upto Rows.emitOtherSpec).at F).vars false W args.toList ds gs before)
  (hcond : Rows.uptoSmall H (ds ++ gs) = true) :
  Calls Tryz.prog 9 args W fun e W' => ∃ v, e = .returned v ∧ ((Rows.OpenSpec.upto Rows.emitOtherSpec).at F).post enc Tryz.prog Tryz.f9 false true false false W args v W' := by
 have hW' := hW
 obtain ⟨p, q, hA0, hV, rfl, hfz, hnd⟩ := hW
 have hA : DataW.TrodAll enc Tryz.prog W 0 (fun _ => true) true Tryz.f9.params.toList args.toList ds p := hA0
 rw [Tryz.params9] at hA hval
 obtain ⟨v0, vs0, d0, ds0, p0, q0, hargs, rfl, rfl, h0, r0⟩ := trodAll_cons hA
 obtain ⟨v1, vs1, d1, ds1, p1, q1, rfl, rfl, rfl, h1, r1⟩ := trodAll_cons r0
 obtain ⟨v2, vs2, d2, ds2, p2, q2, rfl, rfl, rfl, h2, r2⟩ := trodAll_cons r1
 obtain ⟨rfl, rfl, rfl⟩ := trodAll_nil r2
 obtain rfl : args = #[v0, v1, v2] := by cases args; simp_all
 obtain ⟨a0, hp0, hb0⟩ := arg_struct Tryz.underlying45 rdU (hval 0 _ v0 rfl rfl) h0
 obtain ⟨a1, hp1, hw1⟩ := arg_int Tryz.underlying3 (hval 1 _ v1 rfl rfl) h1
 simp [Lit.wf, IntKind.min, IntKind.max, IntKind.signed, IntKind.bits] at hw1
 obtain ⟨a2, hp2, hw2⟩ := arg_int Tryz.underlying3 (hval 2 _ v2 rfl rfl) h2
 simp [Lit.wf, IntKind.min, IntKind.max, IntKind.signed, IntKind.bits] at hw2
 have hb := of_decide_eq_true hcond
 simp only [List.cons_append, Rows.uptoBulkAll] at hb
 refine (calls_true (emitOther_c a0 a1 a2 (by omega) (by omega)) (vs := [v0, v1, v2]) (by simp only [RepT, and_true]; exact ⟨hp0, hp1, hp2⟩)).mono ?_
 rintro e W' ⟨rfl, hbel⟩
 exact ⟨_, rfl, law_post laidOut (fun t ht => by
  rw [Tryz.params9] at ht
  simp only [List.mem_cons, List.mem_nil_iff, or_false] at ht
  rcases ht with rfl | rfl | rfl
  ·exact okU
  ·exact okI
  ·exact okI) (by kernel_rfl) Tryz.underlying4 rfl (fun ds hd => by
  rw [Tryz.params9] at hd
  match ds, hd with
  | [a, b, c], _ => rfl) hW' hbel⟩
def emitOther_args : Array Value := #[.agg #[.slice none 0 0, .slice none 0 0], .int .i64 0, .int .i64 0]
theorem emitOther_witness (os : Os) {H : Type} (enc : TypeId × Value → H) :
  (Rows.OpenSpec.upto Rows.emitOtherSpec).preRow enc Tryz.prog Tryz.f9 Rows.emitOtherUptoRow.domain false Rows.emitOtherUptoRow.laid ((laidWorld os).forCall (fun _ _ => 0) ⟨#[], emitOther_args, []⟩).memory emitOther_args := by
 have hw : (DataW.whole enc Tryz.prog ((laidWorld os).forCall (fun _ _ => 0) ⟨#[], emitOther_args, []⟩).memory Tryz.f9.params.toList (Rows.OpenSpec.upto Rows.emitOtherSpec).vars false emitOther_args.toList 8).map (fun x => (x.1, x.2.1)) =
   some ([.agg [.nil, .nil], .lit (.int .i64 0), .lit (.int .i64 0)], []) := by kernel_rfl
 obtain ⟨⟨x1, x2, x3⟩, hx, hx1⟩ := Option.map_eq_some_iff.1 hw
 simp only [Prod.mk.injEq] at hx1
 obtain ⟨rfl, rfl⟩ := hx1
 exact OpenSpec.preRow_of_cond 8 hx (by kernel_rfl) (fun k hk => by cases hk; kernel_rfl) (by kernel_rfl) (laid_met os _)
theorem emitOther_lifted (os : Os) (started : os.Started) (H : Type) (enc : TypeId × Value → H) (F : Stop.Interp) :
  ReturnsInHanded {} Tryz.checked os 9 .any ((Rows.OpenSpec.upto Rows.emitOtherSpec).preRow enc Tryz.prog Tryz.f9 Rows.emitOtherUptoRow.domain false Rows.emitOtherUptoRow.laid) (((Rows.OpenSpec.upto Rows.emitOtherSpec).at F).post enc Tryz.prog Tryz.f9 false true false false) := by
 refine returnsInHanded_of_row (C := Tryz.checked) (s := Rows.OpenSpec.upto Rows.emitOtherSpec) own_none started (by kernel_rfl) Tryz.func9
  (witness_row_atRef (enc := enc) (C := Tryz.checked) false (laidWorld os) emitOther_args rfl (by kernel_rfl) (by kernel_rfl) (by kernel_rfl) (emitOther_witness os enc)) ?_
 intro W base args ds gs before hval hW _ hcond _ hL _ _
 exact emitOther_contract H enc F W base args ds gs before hval hW (hcond _ rfl)
theorem emitOther_name : Tryz.prog.funcNamed Rows.emitOtherUptoRow.func = some 9 := by kernel_rfl
theorem emitOther_inst : Tryz.f9.isInstance Tryz.prog Rows.emitOtherUptoRow.origin Rows.emitOtherUptoRow.targs := of_decide_eq_true (by kernel_rfl)
theorem emitOther_wrap : Tryz.f9.isWrapper Tryz.prog Rows.emitOtherUptoRow.wrapper Rows.emitOtherUptoRow.mainSum := by
 unfold Func.isWrapper
 rw [if_neg (of_decide_eq_false (by kernel_rfl))]
 exact ⟨rfl, rfl⟩
theorem andI {a b : Bool} (h : a = true) (k : b = true) : (a && b) = true := by rw [h, k]; rfl
theorem emitOther_f1 : (Rows.emitOtherUptoRow.wf (OpenSpec.ofChange ((Rows.OpenSpec.upto Rows.emitOtherSpec).bare))) = true := by kernel_rfl
theorem emitOther_f2 : (laidOutB Tryz.prog) = true := by kernel_rfl
theorem emitOther_f3 : (mapsRowed Tryz.prog) = true := by kernel_rfl
theorem emitOther_f4 : (Tryz.f9.params.all (Tryz.prog.readableRec ·)) = true := by kernel_rfl
theorem emitOther_f5 : (namedTie Tryz.prog Rows.emitOtherUptoRow.named ((Rows.OpenSpec.upto Rows.emitOtherSpec).bare).vars) = true := by kernel_rfl
theorem emitOther_f6 : ((Rows.emitOtherUptoRow.stops == [])) = true := by kernel_rfl
theorem emitOther_f7 : ((Tryz.prog.stops == [])) = true := by kernel_rfl
theorem emitOther_f8 : ((Rows.emitOtherUptoRow.knobs == [])) = true := by kernel_rfl
theorem emitOther_f9 : ((Tryz.prog.stopKnobs == [])) = true := by kernel_rfl
theorem emitOther_f10 : ((Rows.emitOtherUptoRow.inPlace == Tryz.prog.inPlace 9)) = true := by kernel_rfl
theorem emitOther_f11 : ((Rows.emitOtherUptoRow.unfollowed == Tryz.prog.unfollowed 9)) = true := by kernel_rfl
theorem emitOther_f12 : ((Rows.emitOtherUptoRow.recurses == Tryz.prog.recurses 9)) = true := by kernel_rfl
theorem emitOther_f13 : ((Rows.emitOtherUptoRow.named == Tryz.prog.varsNamed 9)) = true := by kernel_rfl
theorem emitOther_f14 : ((Rows.emitOtherUptoRow.maps == (Tryz.f9.params.toList ++ ((Rows.OpenSpec.upto Rows.emitOtherSpec).bare).plain.varTypes Tryz.prog).any (Tryz.prog.mapsRec ·))) = true := by kernel_rfl
theorem emitOther_f15 : ((Rows.emitOtherUptoRow.ifaces == (Tryz.f9.params.toList ++ ((Rows.OpenSpec.upto Rows.emitOtherSpec).bare).plain.varTypes Tryz.prog).any (Tryz.prog.ifacesRec ·))) = true := by kernel_rfl
theorem emitOther_f16 : ((Rows.emitOtherUptoRow.mapsOut == Tryz.prog.mapsAmong Tryz.f9.resultTypes.toList)) = true := by kernel_rfl
theorem emitOther_f17 : ((Rows.emitOtherUptoRow.loops == (Tryz.f9.params.toList ++ ((Rows.OpenSpec.upto Rows.emitOtherSpec).bare).plain.varTypes Tryz.prog).any (Tryz.prog.loopsFrom ·))) = true := by kernel_rfl
theorem emitOther_f18 : ((Rows.emitOtherUptoRow.wideKeys == (Tryz.f9.params.toList ++ ((Rows.OpenSpec.upto Rows.emitOtherSpec).bare).plain.varTypes Tryz.prog ++ Tryz.f9.resultTypes.toList).any (Tryz.prog.wideKeysFrom ·))) = true := by kernel_rfl
theorem emitOther_f19 : (((Rows.OpenSpec.upto Rows.emitOtherSpec).bare).vars.all (Tryz.prog.varReadable ·)) = true := by kernel_rfl
theorem emitOther_f20 : (Tryz.f9.resultTypes.all (fun t => Tryz.prog.readableRec t && decide (t < Tryz.prog.types.size))) = true := by kernel_rfl
theorem emitOther_f21 : ((Rows.emitOtherUptoRow.ifacesOut == Tryz.f9.resultTypes.toList.any (Tryz.prog.ifacesRec ·))) = true := by kernel_rfl
theorem emitOther_f22 : ((Rows.emitOtherUptoRow.loopsOut == Tryz.f9.resultTypes.toList.any (Tryz.prog.loopsFrom ·))) = true := by kernel_rfl
theorem emitOther_f23 : ((Rows.emitOtherUptoRow.plainKeys == Tryz.prog.plainKeys)) = true := by kernel_rfl
theorem emitOther_f24 : (Rows.emitOtherUptoRow.shortTexts.isNone) = true := by kernel_rfl
theorem emitOther_f25 : (Tryz.prog.stopsHeard) = true := by kernel_rfl
theorem emitOther_f26 : (Tryz.prog.mayEnter) = true := by kernel_rfl
theorem emitOther_f27 : ((Rows.emitOtherUptoRow.lifted == Tryz.prog.liftsFinal)) = true := by kernel_rfl
theorem emitOther_f28 : ((Tryz.prog.make == some Rows.emitOtherUptoRow.make)) = true := by kernel_rfl
theorem emitOther_f29 : ((Rows.emitOtherUptoRow.kinds == (if Rows.emitOtherUptoRow.domain.isEmpty then [] else Tryz.f9.params.toList.map fun t => match Tryz.prog.underlying t with | some (.int k) => some k | _ => none))) = true := by kernel_rfl
theorem emitOther_f30 : ((Rows.emitOtherUptoRow.pinned == Rows.emitOtherUptoRow.pinnedBy)) = true := by kernel_rfl
theorem emitOther_f31 : ((Rows.emitOtherUptoRow.veiled == (Tryz.f9.params.toList ++ ((Rows.OpenSpec.upto Rows.emitOtherSpec).bare).plain.varTypes Tryz.prog ++ Tryz.f9.resultTypes.toList).any (Tryz.prog.veiledRec ·))) = true := by kernel_rfl
theorem emitOther_f32 : (Rows.emitOtherUptoRow.veiledFits Tryz.prog Tryz.f9.params.toList (Tryz.f9.params.toList ++ ((Rows.OpenSpec.upto Rows.emitOtherSpec).bare).plain.varTypes Tryz.prog ++ Tryz.f9.resultTypes.toList)) = true := by kernel_rfl
theorem emitOther_facts : joinedFacts Tryz.prog 9 Tryz.f9 (Rows.OpenSpec.upto Rows.emitOtherSpec).bare Rows.emitOtherUptoRow = true := by
 unfold joinedFacts
 exact (andI (andI (andI (andI (andI (andI (andI (andI (andI (andI (andI (andI (andI (andI (andI (andI (andI (andI (andI (andI (andI (andI (andI (andI (andI (andI (andI (andI (andI (andI (andI emitOther_f1 emitOther_f2) emitOther_f3) emitOther_f4) emitOther_f5) emitOther_f6) emitOther_f7) emitOther_f8) emitOther_f9) emitOther_f10) emitOther_f11) emitOther_f12) emitOther_f13) emitOther_f14) emitOther_f15) emitOther_f16) emitOther_f17) emitOther_f18) emitOther_f19) emitOther_f20) emitOther_f21) emitOther_f22) emitOther_f23) emitOther_f24) emitOther_f25) emitOther_f26) emitOther_f27) emitOther_f28) emitOther_f29) emitOther_f30) emitOther_f31) emitOther_f32)
theorem emitOther_said : Rows.EmitOtherUptoSaid :=
 OpenClaim.holds_of_cond 9 Tryz.f9 rfl rfl rfl rfl rfl rfl rfl ⟨rfl, rfl, rfl, rfl, rfl⟩ rfl rfl rfl rfl rfl emitOther_name Tryz.func9 emitOther_facts emitOther_inst emitOther_wrap
  (fun os started H enc _ F => by rw [OpenClaim.pre_eq_preRow]; exact emitOther_lifted os started H enc F)
theorem emitOther_plain (f : FuncId) (fn : Func) (hf : Tryz.pinned.checked.prog.funcNamed Rows.emitOtherUptoRow.func = some f) (hfn : Tryz.pinned.checked.prog.funcs[f]? = some fn) :
  true = Tryz.pinned.checked.prog.looks [] ∧ ∀ (j : Nat) t, fn.params[j]? = some t → Tryz.pinned.checked.prog.wantsStandIn t = false := by
 obtain rfl : f = 9 := Option.some.inj (emitOther_name.symm.trans hf) |>.symm
 obtain rfl : fn = Tryz.f9 := (Option.some.inj (Tryz.func9.symm.trans hfn)).symm
 refine ⟨by kernel_rfl, fun j t ht => ?_⟩
 rw [Tryz.params9] at ht
 have hm := Array.mem_of_getElem? ht
 simp only [List.mem_toArray, List.mem_cons, List.mem_nil_iff, or_false] at hm
 rcases hm with rfl | rfl | rfl
 ·exact (show Tryz.prog.wantsStandIn 45 = false by kernel_rfl)
 ·exact (show Tryz.prog.wantsStandIn 3 = false by kernel_rfl)
 ·exact (show Tryz.prog.wantsStandIn 3 = false by kernel_rfl)
theorem emitOther_card : Rows.EmitOtherUptoCardSaid :=
 Claim7.holds_tied_plain_at .later [] _ _ _ _ emitOther_said (fun _ h => by cases h) (by kernel_rfl) (fun _ h => by cases h) emitOtherUpto_row_tie rfl ⟨rfl, rfl⟩ (by kernel_rfl) rfl emitOther_plain (by kernel_rfl)
end Go.Proofs.YtklpioocdgfbmaaGreatDoor

