/-
 ScopeNames returns true for every input where what it reads is of bulk at most 1048576; the arguments read behind the call as before. Conditions: those of the given card.
-/
import Derived.SevenTiedAt
import Derived.Test.YtmbilkpmnpmheaaGreatDoorCards
import Derived.Test.YtmbilkpmnpmheaaGreatDoorTie
import Derived.Test.YtmbilkpmnpmheaaGreatDoorN7
set_option linter.unusedSimpArgs false
set_option linter.unusedVariables false
namespace Go.Proofs.YtmbilkpmnpmheaaGreatDoor
set_option maxRecDepth 100000
set_option maxHeartbeats 4000000
open Go Go.Cb Go.ChangeShapes Go.WideShapes Go.ChangeAt Go.RowKit
theorem scopeNames_contract (H : Type) (enc : TypeId × Value → H) (F : Stop.Interp) (W : World) (base : Nat) (args : Array Value) (ds gs : List (DataW H)) (before : List MemPlace)
  (hval : ∀ (j : Nat) t v, Tryz.f5.params[j]? = some t → args[j]? = some v → Value.okWide Tryz.prog W .any base t v)
  (hW : DataW.Whole enc Tryz.prog Tryz.f5.params.toList ((Rows.OpenSpec.upto Rows.scopeNamesSpec).at F).vars false W args.toList ds gs before)
  (hcond : Rows.uptoSmall H (ds ++ gs) = true) :
  Calls Tryz.prog 5 args W fun e W' => ∃ v, e = .returned v ∧ ((Rows.OpenSpec.upto Rows.scopeNamesSpec).at F).post enc Tryz.prog Tryz.f5 false true false false W args v W' := by
 have hW' := hW
 obtain ⟨p, q, hA0, hV, rfl, hfz, hnd⟩ := hW
 have hA : DataW.TrodAll enc Tryz.prog W 0 (fun _ => true) true Tryz.f5.params.toList args.toList ds p := hA0
 rw [Tryz.params5] at hA hval
 obtain ⟨v0, vs0, d0, ds0, p0, q0, hargs, rfl, rfl, h0, r0⟩ := trodAll_cons hA
 obtain ⟨rfl, rfl, rfl⟩ := trodAll_nil r0
 obtain rfl : args = #[v0] := by cases args; simp_all
 obtain ⟨a0, hp0, hb0⟩ := arg_str bulkR Tryz.underlying9 (hval 0 _ v0 rfl rfl) h0
 have hb := of_decide_eq_true hcond
 simp only [List.cons_append, Rows.uptoBulkAll] at hb
 refine (calls_true (scopeNames_c a0) (vs := [v0]) (by simp only [RepT, and_true]; exact hp0)).mono ?_
 rintro e W' ⟨rfl, hbel⟩
 exact ⟨_, rfl, law_post laidOut (fun t ht => by
  rw [Tryz.params5] at ht
  simp only [List.mem_cons, List.mem_nil_iff, or_false] at ht
  subst ht
  exact okS) (by kernel_rfl) Tryz.underlying4 rfl (fun ds hd => by
  rw [Tryz.params5] at hd
  match ds, hd with
  | [a], _ => rfl) hW' hbel⟩
def scopeNames_args : Array Value := #[.string ⟨#[]⟩]
theorem scopeNames_witness (os : Os) {H : Type} (enc : TypeId × Value → H) :
  (Rows.OpenSpec.upto Rows.scopeNamesSpec).preRow enc Tryz.prog Tryz.f5 Rows.scopeNamesUptoRow.domain false Rows.scopeNamesUptoRow.laid ((laidWorld os).forCall (fun _ _ => 0) ⟨#[], scopeNames_args, []⟩).memory scopeNames_args := by
 have hw : (DataW.whole enc Tryz.prog ((laidWorld os).forCall (fun _ _ => 0) ⟨#[], scopeNames_args, []⟩).memory Tryz.f5.params.toList (Rows.OpenSpec.upto Rows.scopeNamesSpec).vars false scopeNames_args.toList 8).map (fun x => (x.1, x.2.1)) =
   some ([.lit (.string [])], []) := by kernel_rfl
 obtain ⟨⟨x1, x2, x3⟩, hx, hx1⟩ := Option.map_eq_some_iff.1 hw
 simp only [Prod.mk.injEq] at hx1
 obtain ⟨rfl, rfl⟩ := hx1
 exact OpenSpec.preRow_of_cond 8 hx (by kernel_rfl) (fun k hk => by cases hk; kernel_rfl) (by kernel_rfl) (laid_met os _)
theorem scopeNames_lifted (os : Os) (started : os.Started) (H : Type) (enc : TypeId × Value → H) (F : Stop.Interp) :
  ReturnsInHanded {} Tryz.checked os 5 .any ((Rows.OpenSpec.upto Rows.scopeNamesSpec).preRow enc Tryz.prog Tryz.f5 Rows.scopeNamesUptoRow.domain false Rows.scopeNamesUptoRow.laid) (((Rows.OpenSpec.upto Rows.scopeNamesSpec).at F).post enc Tryz.prog Tryz.f5 false true false false) := by
 refine returnsInHanded_of_row (C := Tryz.checked) (s := Rows.OpenSpec.upto Rows.scopeNamesSpec) own_none started (by kernel_rfl) Tryz.func5
  (witness_row_atRef (enc := enc) (C := Tryz.checked) false (laidWorld os) scopeNames_args rfl (by kernel_rfl) (by kernel_rfl) (by kernel_rfl) (scopeNames_witness os enc)) ?_
 intro W base args ds gs before hval hW _ hcond _ hL _ _
 exact scopeNames_contract H enc F W base args ds gs before hval hW (hcond _ rfl)
theorem scopeNames_name : Tryz.prog.funcNamed Rows.scopeNamesUptoRow.func = some 5 := by kernel_rfl
theorem scopeNames_inst : Tryz.f5.isInstance Tryz.prog Rows.scopeNamesUptoRow.origin Rows.scopeNamesUptoRow.targs := of_decide_eq_true (by kernel_rfl)
theorem scopeNames_wrap : Tryz.f5.isWrapper Tryz.prog Rows.scopeNamesUptoRow.wrapper Rows.scopeNamesUptoRow.mainSum := by
 unfold Func.isWrapper
 rw [if_neg (of_decide_eq_false (by kernel_rfl))]
 exact ⟨rfl, rfl⟩
theorem andI {a b : Bool} (h : a = true) (k : b = true) : (a && b) = true := by rw [h, k]; rfl
theorem scopeNames_f1 : (Rows.scopeNamesUptoRow.wf (OpenSpec.ofChange ((Rows.OpenSpec.upto Rows.scopeNamesSpec).bare))) = true := by kernel_rfl
theorem scopeNames_f2 : (laidOutB Tryz.prog) = true := by kernel_rfl
theorem scopeNames_f3 : (mapsRowed Tryz.prog) = true := by kernel_rfl
theorem scopeNames_f4 : (Tryz.f5.params.all (Tryz.prog.readableRec ·)) = true := by kernel_rfl
theorem scopeNames_f5 : (namedTie Tryz.prog Rows.scopeNamesUptoRow.named ((Rows.OpenSpec.upto Rows.scopeNamesSpec).bare).vars) = true := by kernel_rfl
theorem scopeNames_f6 : ((Rows.scopeNamesUptoRow.stops == [])) = true := by kernel_rfl
theorem scopeNames_f7 : ((Tryz.prog.stops == [])) = true := by kernel_rfl
theorem scopeNames_f8 : ((Rows.scopeNamesUptoRow.knobs == [])) = true := by kernel_rfl
theorem scopeNames_f9 : ((Tryz.prog.stopKnobs == [])) = true := by kernel_rfl
theorem scopeNames_f10 : ((Rows.scopeNamesUptoRow.inPlace == Tryz.prog.inPlace 5)) = true := by kernel_rfl
theorem scopeNames_f11 : ((Rows.scopeNamesUptoRow.unfollowed == Tryz.prog.unfollowed 5)) = true := by kernel_rfl
theorem scopeNames_f12 : ((Rows.scopeNamesUptoRow.recurses == Tryz.prog.recurses 5)) = true := by kernel_rfl
theorem scopeNames_f13 : ((Rows.scopeNamesUptoRow.named == Tryz.prog.varsNamed 5)) = true := by kernel_rfl
theorem scopeNames_f14 : ((Rows.scopeNamesUptoRow.maps == (Tryz.f5.params.toList ++ ((Rows.OpenSpec.upto Rows.scopeNamesSpec).bare).plain.varTypes Tryz.prog).any (Tryz.prog.mapsRec ·))) = true := by kernel_rfl
theorem scopeNames_f15 : ((Rows.scopeNamesUptoRow.ifaces == (Tryz.f5.params.toList ++ ((Rows.OpenSpec.upto Rows.scopeNamesSpec).bare).plain.varTypes Tryz.prog).any (Tryz.prog.ifacesRec ·))) = true := by kernel_rfl
theorem scopeNames_f16 : ((Rows.scopeNamesUptoRow.mapsOut == Tryz.prog.mapsAmong Tryz.f5.resultTypes.toList)) = true := by kernel_rfl
theorem scopeNames_f17 : ((Rows.scopeNamesUptoRow.loops == (Tryz.f5.params.toList ++ ((Rows.OpenSpec.upto Rows.scopeNamesSpec).bare).plain.varTypes Tryz.prog).any (Tryz.prog.loopsFrom ·))) = true := by kernel_rfl
theorem scopeNames_f18 : ((Rows.scopeNamesUptoRow.wideKeys == (Tryz.f5.params.toList ++ ((Rows.OpenSpec.upto Rows.scopeNamesSpec).bare).plain.varTypes Tryz.prog ++ Tryz.f5.resultTypes.toList).any (Tryz.prog.wideKeysFrom ·))) = true := by kernel_rfl
theorem scopeNames_f19 : (((Rows.OpenSpec.upto Rows.scopeNamesSpec).bare).vars.all (Tryz.prog.varReadable ·)) = true := by kernel_rfl
theorem scopeNames_f20 : (Tryz.f5.resultTypes.all (fun t => Tryz.prog.readableRec t && decide (t < Tryz.prog.types.size))) = true := by kernel_rfl
theorem scopeNames_f21 : ((Rows.scopeNamesUptoRow.ifacesOut == Tryz.f5.resultTypes.toList.any (Tryz.prog.ifacesRec ·))) = true := by kernel_rfl
theorem scopeNames_f22 : ((Rows.scopeNamesUptoRow.loopsOut == Tryz.f5.resultTypes.toList.any (Tryz.prog.loopsFrom ·))) = true := by kernel_rfl
theorem scopeNames_f23 : ((Rows.scopeNamesUptoRow.plainKeys == Tryz.prog.plainKeys)) = true := by kernel_rfl
theorem scopeNames_f24 : (Rows.scopeNamesUptoRow.shortTexts.isNone) = true := by kernel_rfl
theorem scopeNames_f25 : (Tryz.prog.stopsHeard) = true := by kernel_rfl
theorem scopeNames_f26 : (Tryz.prog.mayEnter) = true := by kernel_rfl
theorem scopeNames_f27 : ((Rows.scopeNamesUptoRow.lifted == Tryz.prog.liftsFinal)) = true := by kernel_rfl
theorem scopeNames_f28 : ((Tryz.prog.make == some Rows.scopeNamesUptoRow.make)) = true := by kernel_rfl
theorem scopeNames_f29 : ((Rows.scopeNamesUptoRow.kinds == (if Rows.scopeNamesUptoRow.domain.isEmpty then [] else Tryz.f5.params.toList.map fun t => match Tryz.prog.underlying t with | some (.int k) => some k | _ => none))) = true := by kernel_rfl
theorem scopeNames_f30 : ((Rows.scopeNamesUptoRow.pinned == Rows.scopeNamesUptoRow.pinnedBy)) = true := by kernel_rfl
theorem scopeNames_f31 : ((Rows.scopeNamesUptoRow.veiled == (Tryz.f5.params.toList ++ ((Rows.OpenSpec.upto Rows.scopeNamesSpec).bare).plain.varTypes Tryz.prog ++ Tryz.f5.resultTypes.toList).any (Tryz.prog.veiledRec ·))) = true := by kernel_rfl
theorem scopeNames_f32 : (Rows.scopeNamesUptoRow.veiledFits Tryz.prog Tryz.f5.params.toList (Tryz.f5.params.toList ++ ((Rows.OpenSpec.upto Rows.scopeNamesSpec).bare).plain.varTypes Tryz.prog ++ Tryz.f5.resultTypes.toList)) = true := by kernel_rfl
theorem scopeNames_facts : joinedFacts Tryz.prog 5 Tryz.f5 (Rows.OpenSpec.upto Rows.scopeNamesSpec).bare Rows.scopeNamesUptoRow = true := by
 unfold joinedFacts
 exact (andI (andI (andI (andI (andI (andI (andI (andI (andI (andI (andI (andI (andI (andI (andI (andI (andI (andI (andI (andI (andI (andI (andI (andI (andI (andI (andI (andI (andI (andI (andI scopeNames_f1 scopeNames_f2) scopeNames_f3) scopeNames_f4) scopeNames_f5) scopeNames_f6) scopeNames_f7) scopeNames_f8) scopeNames_f9) scopeNames_f10) scopeNames_f11) scopeNames_f12) scopeNames_f13) scopeNames_f14) scopeNames_f15) scopeNames_f16) scopeNames_f17) scopeNames_f18) scopeNames_f19) scopeNames_f20) scopeNames_f21) scopeNames_f22) scopeNames_f23) scopeNames_f24) scopeNames_f25) scopeNames_f26) scopeNames_f27) scopeNames_f28) scopeNames_f29) scopeNames_f30) scopeNames_f31) scopeNames_f32)
theorem scopeNames_said : Rows.ScopeNamesUptoSaid :=
 OpenClaim.holds_of_cond 5 Tryz.f5 rfl rfl rfl rfl rfl rfl rfl ⟨rfl, rfl, rfl, rfl, rfl⟩ rfl rfl rfl rfl rfl scopeNames_name Tryz.func5 scopeNames_facts scopeNames_inst scopeNames_wrap
  (fun os started H enc _ F => by rw [OpenClaim.pre_eq_preRow]; exact scopeNames_lifted os started H enc F)
theorem scopeNames_plain (f : FuncId) (fn : Func) (hf : Tryz.pinned.checked.prog.funcNamed Rows.scopeNamesUptoRow.func = some f) (hfn : Tryz.pinned.checked.prog.funcs[f]? = some fn) :
  true = Tryz.pinned.checked.prog.looks [] ∧ ∀ (j : Nat) t, fn.params[j]? = some t → Tryz.pinned.checked.prog.wantsStandIn t = false := by
 obtain rfl : f = 5 := Option.some.inj (scopeNames_name.symm.trans hf) |>.symm
 obtain rfl : fn = Tryz.f5 := (Option.some.inj (Tryz.func5.symm.trans hfn)).symm
 refine ⟨by kernel_rfl, fun j t ht => ?_⟩
 rw [Tryz.params5] at ht
 have hm := Array.mem_of_getElem? ht
 simp only [List.mem_toArray, List.mem_cons, List.mem_nil_iff, or_false] at hm
 subst hm
 exact (show Tryz.prog.wantsStandIn 9 = false by kernel_rfl)
theorem goes_no {P : Program} {f : FuncId} (h1 : (P.closure f).any (fun g => (P.funcs[g]?).any Func.goes) = false) (h2 : P.funcs.any Func.goes = false) : P.goes f = false := by
 unfold Program.goes
 rw [h1, h2, Bool.and_false]
 rfl
theorem scopeNames_g1 : (Tryz.prog.closure 5).any (fun g => (Tryz.prog.funcs[g]?).any Func.goes) = false := by kernel_rfl
theorem scopeNames_g2 : Tryz.prog.funcs.any Func.goes = false := by kernel_rfl
theorem scopeNames_g3 : Tryz.prog.inits.toList.any Tryz.prog.goes = false := by kernel_rfl
theorem scopeNames_goes : false = Rows.scopeNamesUptoRow.goesBy Tryz.prog := by
 have e : Tryz.prog.goesFrom Rows.scopeNamesUptoRow.func = false := by
  unfold Program.goesFrom
  rw [scopeNames_name]
  exact goes_no scopeNames_g1 scopeNames_g2
 unfold OpenClaim.goesBy Program.goesAt
 rw [e, Bool.false_or]
 exact scopeNames_g3.symm
theorem scopeNames_card : Rows.ScopeNamesUptoCardSaid :=
 Claim7.holds_tied_plain_at .later [] _ _ _ _ scopeNames_said (fun _ h => by cases h) (by kernel_rfl) (fun _ h => by cases h) scopeNamesUpto_row_tie rfl ⟨rfl, rfl⟩ (by kernel_rfl) rfl scopeNames_plain scopeNames_goes
end Go.Proofs.YtmbilkpmnpmheaaGreatDoor

