/-
 ScopeRight returns true for every input where what it reads is of bulk at most 1048576; the arguments read behind the call as before. Conditions: those of the given card.
-/
import Derived.SevenTiedAt
import Derived.Test.YtmbilkpmnpmheaaGreatDoorCards
import Derived.Test.YtmbilkpmnpmheaaGreatDoorTie
import Derived.Test.YtmbilkpmnpmheaaGreatDoorG7
set_option linter.unusedSimpArgs false
set_option linter.unusedVariables false
namespace Go.Proofs.YtmbilkpmnpmheaaGreatDoor
set_option maxRecDepth 100000
set_option maxHeartbeats 4000000
open Go Go.Cb Go.ChangeShapes Go.WideShapes Go.ChangeAt Go.RowKit
theorem scopeRight_contract (H : Type) (enc : TypeId × Value → H) (F : Stop.Interp) (W : World) (base : Nat) (args : Array Value) (ds gs : List (DataW H)) (before : List MemPlace)
  (hval : ∀ (j : Nat) t v, Tryz.f8.params[j]? = some t → args[j]? = some v → Value.okWide Tryz.prog W .any base t v)
  (hW : DataW.Whole enc Tryz.prog Tryz.f8.params.toList ((Rows.OpenSpec.upto Rows.scopeRightSpec).at F).vars false W args.toList ds gs before)
  (hcond : Rows.uptoSmall H (ds ++ gs) = true) :
  Calls Tryz.prog 8 args W fun e W' => ∃ v, e = .returned v ∧ ((Rows.OpenSpec.upto Rows.scopeRightSpec).at F).post enc Tryz.prog Tryz.f8 false true false false W args v W' := by
 have hW' := hW
 obtain ⟨p, q, hA0, hV, rfl, hfz, hnd⟩ := hW
 have hA : DataW.TrodAll enc Tryz.prog W 0 (fun _ => true) true Tryz.f8.params.toList args.toList ds p := hA0
 rw [Tryz.params8] at hA hval
 obtain ⟨v0, vs0, d0, ds0, p0, q0, hargs, rfl, rfl, h0, r0⟩ := trodAll_cons hA
 obtain ⟨rfl, rfl, rfl⟩ := trodAll_nil r0
 obtain rfl : args = #[v0] := by cases args; simp_all
 obtain ⟨a0, hp0, hb0⟩ := arg_str bulkR Tryz.underlying9 (hval 0 _ v0 rfl rfl) h0
 have hb := of_decide_eq_true hcond
 simp only [List.cons_append, Rows.uptoBulkAll] at hb
 refine (calls_true (scopeRight_c a0) (vs := [v0]) (by simp only [RepT, and_true]; exact hp0)).mono ?_
 rintro e W' ⟨rfl, hbel⟩
 exact ⟨_, rfl, law_post laidOut (fun t ht => by
  rw [Tryz.params8] at ht
  simp only [List.mem_cons, List.mem_nil_iff, or_false] at ht
  subst ht
  exact okS) (by kernel_rfl) Tryz.underlying4 rfl (fun ds hd => by
  rw [Tryz.params8] at hd
  match ds, hd with
  | [a], _ => rfl) hW' hbel⟩
def scopeRight_args : Array Value := #[.string ⟨#[]⟩]
theorem scopeRight_witness (os : Os) {H : Type} (enc : TypeId × Value → H) :
  (Rows.OpenSpec.upto Rows.scopeRightSpec).preRow enc Tryz.prog Tryz.f8 Rows.scopeRightUptoRow.domain false Rows.scopeRightUptoRow.laid ((laidWorld os).forCall (fun _ _ => 0) ⟨#[], scopeRight_args, []⟩).memory scopeRight_args := by
 have hw : (DataW.whole enc Tryz.prog ((laidWorld os).forCall (fun _ _ => 0) ⟨#[], scopeRight_args, []⟩).memory Tryz.f8.params.toList (Rows.OpenSpec.upto Rows.scopeRightSpec).vars false scopeRight_args.toList 8).map (fun x => (x.1, x.2.1)) =
   some ([.lit (.string [])], []) := by kernel_rfl
 obtain ⟨⟨x1, x2, x3⟩, hx, hx1⟩ := Option.map_eq_some_iff.1 hw
 simp only [Prod.mk.injEq] at hx1
 obtain ⟨rfl, rfl⟩ := hx1
 exact OpenSpec.preRow_of_cond 8 hx (by kernel_rfl) (fun k hk => by cases hk; kernel_rfl) (by kernel_rfl) (laid_met os _)
theorem scopeRight_lifted (os : Os) (started : os.Started) (H : Type) (enc : TypeId × Value → H) (F : Stop.Interp) :
  ReturnsInHanded {} Tryz.checked os 8 .any ((Rows.OpenSpec.upto Rows.scopeRightSpec).preRow enc Tryz.prog Tryz.f8 Rows.scopeRightUptoRow.domain false Rows.scopeRightUptoRow.laid) (((Rows.OpenSpec.upto Rows.scopeRightSpec).at F).post enc Tryz.prog Tryz.f8 false true false false) := by
 refine returnsInHanded_of_row (C := Tryz.checked) (s := Rows.OpenSpec.upto Rows.scopeRightSpec) own_none started (by kernel_rfl) Tryz.func8
  (witness_row_atRef (enc := enc) (C := Tryz.checked) false (laidWorld os) scopeRight_args rfl (by kernel_rfl) (by kernel_rfl) (by kernel_rfl) (scopeRight_witness os enc)) ?_
 intro W base args ds gs before hval hW _ hcond _ hL _ _
 exact scopeRight_contract H enc F W base args ds gs before hval hW (hcond _ rfl)
theorem scopeRight_name : Tryz.prog.funcNamed Rows.scopeRightUptoRow.func = some 8 := by kernel_rfl
theorem scopeRight_inst : Tryz.f8.isInstance Tryz.prog Rows.scopeRightUptoRow.origin Rows.scopeRightUptoRow.targs := of_decide_eq_true (by kernel_rfl)
theorem scopeRight_wrap : Tryz.f8.isWrapper Tryz.prog Rows.scopeRightUptoRow.wrapper Rows.scopeRightUptoRow.mainSum := by
 unfold Func.isWrapper
 rw [if_neg (of_decide_eq_false (by kernel_rfl))]
 exact ⟨rfl, rfl⟩
theorem andI {a b : Bool} (h : a = true) (k : b = true) : (a && b) = true := by rw [h, k]; rfl
theorem scopeRight_f1 : (Rows.scopeRightUptoRow.wf (OpenSpec.ofChange ((Rows.OpenSpec.upto Rows.scopeRightSpec).bare))) = true := by kernel_rfl
theorem scopeRight_f2 : (laidOutB Tryz.prog) = true := by kernel_rfl
theorem scopeRight_f3 : (mapsRowed Tryz.prog) = true := by kernel_rfl
theorem scopeRight_f4 : (Tryz.f8.params.all (Tryz.prog.readableRec ·)) = true := by kernel_rfl
theorem scopeRight_f5 : (namedTie Tryz.prog Rows.scopeRightUptoRow.named ((Rows.OpenSpec.upto Rows.scopeRightSpec).bare).vars) = true := by kernel_rfl
theorem scopeRight_f6 : ((Rows.scopeRightUptoRow.stops == [])) = true := by kernel_rfl
theorem scopeRight_f7 : ((Tryz.prog.stops == [])) = true := by kernel_rfl
theorem scopeRight_f8 : ((Rows.scopeRightUptoRow.knobs == [])) = true := by kernel_rfl
theorem scopeRight_f9 : ((Tryz.prog.stopKnobs == [])) = true := by kernel_rfl
theorem scopeRight_f10 : ((Rows.scopeRightUptoRow.inPlace == Tryz.prog.inPlace 8)) = true := by kernel_rfl
theorem scopeRight_f11 : ((Rows.scopeRightUptoRow.unfollowed == Tryz.prog.unfollowed 8)) = true := by kernel_rfl
theorem scopeRight_f12 : ((Rows.scopeRightUptoRow.recurses == Tryz.prog.recurses 8)) = true := by kernel_rfl
theorem scopeRight_f13 : ((Rows.scopeRightUptoRow.named == Tryz.prog.varsNamed 8)) = true := by kernel_rfl
theorem scopeRight_f14 : ((Rows.scopeRightUptoRow.maps == (Tryz.f8.params.toList ++ ((Rows.OpenSpec.upto Rows.scopeRightSpec).bare).plain.varTypes Tryz.prog).any (Tryz.prog.mapsRec ·))) = true := by kernel_rfl
theorem scopeRight_f15 : ((Rows.scopeRightUptoRow.ifaces == (Tryz.f8.params.toList ++ ((Rows.OpenSpec.upto Rows.scopeRightSpec).bare).plain.varTypes Tryz.prog).any (Tryz.prog.ifacesRec ·))) = true := by kernel_rfl
theorem scopeRight_f16 : ((Rows.scopeRightUptoRow.mapsOut == Tryz.prog.mapsAmong Tryz.f8.resultTypes.toList)) = true := by kernel_rfl
theorem scopeRight_f17 : ((Rows.scopeRightUptoRow.loops == (Tryz.f8.params.toList ++ ((Rows.OpenSpec.upto Rows.scopeRightSpec).bare).plain.varTypes Tryz.prog).any (Tryz.prog.loopsFrom ·))) = true := by kernel_rfl
theorem scopeRight_f18 : ((Rows.scopeRightUptoRow.wideKeys == (Tryz.f8.params.toList ++ ((Rows.OpenSpec.upto Rows.scopeRightSpec).bare).plain.varTypes Tryz.prog ++ Tryz.f8.resultTypes.toList).any (Tryz.prog.wideKeysFrom ·))) = true := by kernel_rfl
theorem scopeRight_f19 : (((Rows.OpenSpec.upto Rows.scopeRightSpec).bare).vars.all (Tryz.prog.varReadable ·)) = true := by kernel_rfl
theorem scopeRight_f20 : (Tryz.f8.resultTypes.all (fun t => Tryz.prog.readableRec t && decide (t < Tryz.prog.types.size))) = true := by kernel_rfl
theorem scopeRight_f21 : ((Rows.scopeRightUptoRow.ifacesOut == Tryz.f8.resultTypes.toList.any (Tryz.prog.ifacesRec ·))) = true := by kernel_rfl
theorem scopeRight_f22 : ((Rows.scopeRightUptoRow.loopsOut == Tryz.f8.resultTypes.toList.any (Tryz.prog.loopsFrom ·))) = true := by kernel_rfl
theorem scopeRight_f23 : ((Rows.scopeRightUptoRow.plainKeys == Tryz.prog.plainKeys)) = true := by kernel_rfl
theorem scopeRight_f24 : (Rows.scopeRightUptoRow.shortTexts.isNone) = true := by kernel_rfl
theorem scopeRight_f25 : (Tryz.prog.stopsHeard) = true := by kernel_rfl
theorem scopeRight_f26 : (Tryz.prog.mayEnter) = true := by kernel_rfl
theorem scopeRight_f27 : ((Rows.scopeRightUptoRow.lifted == Tryz.prog.liftsFinal)) = true := by kernel_rfl
theorem scopeRight_f28 : ((Tryz.prog.make == some Rows.scopeRightUptoRow.make)) = true := by kernel_rfl
theorem scopeRight_f29 : ((Rows.scopeRightUptoRow.kinds == (if Rows.scopeRightUptoRow.domain.isEmpty then [] else Tryz.f8.params.toList.map fun t => match Tryz.prog.underlying t with | some (.int k) => some k | _ => none))) = true := by kernel_rfl
theorem scopeRight_f30 : ((Rows.scopeRightUptoRow.pinned == Rows.scopeRightUptoRow.pinnedBy)) = true := by kernel_rfl
theorem scopeRight_f31 : ((Rows.scopeRightUptoRow.veiled == (Tryz.f8.params.toList ++ ((Rows.OpenSpec.upto Rows.scopeRightSpec).bare).plain.varTypes Tryz.prog ++ Tryz.f8.resultTypes.toList).any (Tryz.prog.veiledRec ·))) = true := by kernel_rfl
theorem scopeRight_f32 : (Rows.scopeRightUptoRow.veiledFits Tryz.prog Tryz.f8.params.toList (Tryz.f8.params.toList ++ ((Rows.OpenSpec.upto Rows.scopeRightSpec).bare).plain.varTypes Tryz.prog ++ Tryz.f8.resultTypes.toList)) = true := by kernel_rfl
theorem scopeRight_facts : joinedFacts Tryz.prog 8 Tryz.f8 (Rows.OpenSpec.upto Rows.scopeRightSpec).bare Rows.scopeRightUptoRow = true := by
 unfold joinedFacts
 exact (andI (andI (andI (andI (andI (andI (andI (andI (andI (andI (andI (andI (andI (andI (andI (andI (andI (andI (andI (andI (andI (andI (andI (andI (andI (andI (andI (andI (andI (andI (andI scopeRight_f1 scopeRight_f2) scopeRight_f3) scopeRight_f4) scopeRight_f5) scopeRight_f6) scopeRight_f7) scopeRight_f8) scopeRight_f9) scopeRight_f10) scopeRight_f11) scopeRight_f12) scopeRight_f13) scopeRight_f14) scopeRight_f15) scopeRight_f16) scopeRight_f17) scopeRight_f18) scopeRight_f19) scopeRight_f20) scopeRight_f21) scopeRight_f22) scopeRight_f23) scopeRight_f24) scopeRight_f25) scopeRight_f26) scopeRight_f27) scopeRight_f28) scopeRight_f29) scopeRight_f30) scopeRight_f31) scopeRight_f32)
theorem scopeRight_said : Rows.ScopeRightUptoSaid :=
 OpenClaim.holds_of_cond 8 Tryz.f8 rfl rfl rfl rfl rfl rfl rfl ⟨rfl, rfl, rfl, rfl, rfl⟩ rfl rfl rfl rfl rfl scopeRight_name Tryz.func8 scopeRight_facts scopeRight_inst scopeRight_wrap
  (fun os started H enc _ F => by rw [OpenClaim.pre_eq_preRow]; exact scopeRight_lifted os started H enc F)
theorem scopeRight_plain (f : FuncId) (fn : Func) (hf : Tryz.pinned.checked.prog.funcNamed Rows.scopeRightUptoRow.func = some f) (hfn : Tryz.pinned.checked.prog.funcs[f]? = some fn) :
  true = Tryz.pinned.checked.prog.looks [] ∧ ∀ (j : Nat) t, fn.params[j]? = some t → Tryz.pinned.checked.prog.wantsStandIn t = false := by
 obtain rfl : f = 8 := Option.some.inj (scopeRight_name.symm.trans hf) |>.symm
 obtain rfl : fn = Tryz.f8 := (Option.some.inj (Tryz.func8.symm.trans hfn)).symm
 refine ⟨by kernel_rfl, fun j t ht => ?_⟩
 rw [Tryz.params8] at ht
 have hm := Array.mem_of_getElem? ht
 simp only [List.mem_toArray, List.mem_cons, List.mem_nil_iff, or_false] at hm
 subst hm
 exact (show Tryz.prog.wantsStandIn 9 = false by kernel_rfl)
theorem goes_no {P : Program} {f : FuncId} (h1 : (P.closure f).any (fun g => (P.funcs[g]?).any Func.goes) = false) (h2 : P.funcs.any Func.goes = false) : P.goes f = false := by
 unfold Program.goes
 rw [h1, h2, Bool.and_false]
 rfl
theorem scopeRight_g1 : (Tryz.prog.closure 8).any (fun g => (Tryz.prog.funcs[g]?).any Func.goes) = false := by kernel_rfl
theorem scopeRight_g2 : Tryz.prog.funcs.any Func.goes = false := by kernel_rfl
theorem scopeRight_g3 : Tryz.prog.inits.toList.any Tryz.prog.goes = false := by kernel_rfl
theorem scopeRight_goes : false = Rows.scopeRightUptoRow.goesBy Tryz.prog := by
 have e : Tryz.prog.goesFrom Rows.scopeRightUptoRow.func = false := by
  unfold Program.goesFrom
  rw [scopeRight_name]
  exact goes_no scopeRight_g1 scopeRight_g2
 unfold OpenClaim.goesBy Program.goesAt
 rw [e, Bool.false_or]
 exact scopeRight_g3.symm
theorem scopeRight_card : Rows.ScopeRightUptoCardSaid :=
 Claim7.holds_tied_plain_at .later [] _ _ _ _ scopeRight_said (fun _ h => by cases h) (by kernel_rfl) (fun _ h => by cases h) scopeRightUpto_row_tie rfl ⟨rfl, rfl⟩ (by kernel_rfl) rfl scopeRight_plain scopeRight_goes
end Go.Proofs.YtmbilkpmnpmheaaGreatDoor

