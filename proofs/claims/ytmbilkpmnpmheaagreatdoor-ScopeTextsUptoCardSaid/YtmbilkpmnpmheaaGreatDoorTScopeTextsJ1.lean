/-
 ScopeTexts returns true for every input where what it reads is of bulk at most 1048576; the arguments read behind the call as before. Conditions: those of the given card.
-/
import Derived.SevenTiedAt
import Derived.Test.YtmbilkpmnpmheaaGreatDoorCards
import Derived.Test.YtmbilkpmnpmheaaGreatDoorTie
import Derived.Test.YtmbilkpmnpmheaaGreatDoorX7
set_option linter.unusedSimpArgs false
set_option linter.unusedVariables false
namespace Go.Proofs.YtmbilkpmnpmheaaGreatDoor
set_option maxRecDepth 100000
set_option maxHeartbeats 4000000
open Go Go.Cb Go.ChangeShapes Go.WideShapes Go.ChangeAt Go.RowKit
theorem scopeTexts_contract (H : Type) (enc : TypeId × Value → H) (F : Stop.Interp) (W : World) (base : Nat) (args : Array Value) (ds gs : List (DataW H)) (before : List MemPlace)
  (hval : ∀ (j : Nat) t v, Tryz.f4.params[j]? = some t → args[j]? = some v → Value.okWide Tryz.prog W .any base t v)
  (hW : DataW.Whole enc Tryz.prog Tryz.f4.params.toList ((Rows.OpenSpec.upto Rows.scopeTextsSpec).at F).vars false W args.toList ds gs before)
  (hcond : Rows.uptoSmall H (ds ++ gs) = true) :
  Calls Tryz.prog 4 args W fun e W' => ∃ v, e = .returned v ∧ ((Rows.OpenSpec.upto Rows.scopeTextsSpec).at F).post enc Tryz.prog Tryz.f4 false true false false W args v W' := by
 have hW' := hW
 obtain ⟨p, q, hA0, hV, rfl, hfz, hnd⟩ := hW
 have hA : DataW.TrodAll enc Tryz.prog W 0 (fun _ => true) true Tryz.f4.params.toList args.toList ds p := hA0
 rw [Tryz.params4] at hA hval
 obtain ⟨v0, vs0, d0, ds0, p0, q0, hargs, rfl, rfl, h0, r0⟩ := trodAll_cons hA
 obtain ⟨rfl, rfl, rfl⟩ := trodAll_nil r0
 obtain rfl : args = #[v0] := by cases args; simp_all
 obtain ⟨a0, hp0, hb0⟩ := arg_str bulkR Tryz.underlying9 (hval 0 _ v0 rfl rfl) h0
 have hb := of_decide_eq_true hcond
 simp only [List.cons_append, Rows.uptoBulkAll] at hb
 refine (calls_true (scopeTexts_c a0) (vs := [v0]) (by simp only [RepT, and_true]; exact hp0)).mono ?_
 rintro e W' ⟨rfl, hbel⟩
 exact ⟨_, rfl, law_post laidOut (fun t ht => by
  rw [Tryz.params4] at ht
  simp only [List.mem_cons, List.mem_nil_iff, or_false] at ht
  subst ht
  exact okS) (by kernel_rfl) Tryz.underlying4 rfl (fun ds hd => by
  rw [Tryz.params4] at hd
  match ds, hd with
  | [a], _ => rfl) hW' hbel⟩
def scopeTexts_args : Array Value := #[.string ⟨#[]⟩]
theorem scopeTexts_witness (os : Os) {H : Type} (enc : TypeId × Value → H) :
  (Rows.OpenSpec.upto Rows.scopeTextsSpec).preRow enc Tryz.prog Tryz.f4 Rows.scopeTextsUptoRow.domain false Rows.scopeTextsUptoRow.laid ((laidWorld os).forCall (fun _ _ => 0) ⟨#[], scopeTexts_args, []⟩).memory scopeTexts_args := by
 have hw : (DataW.whole enc Tryz.prog ((laidWorld os).forCall (fun _ _ => 0) ⟨#[], scopeTexts_args, []⟩).memory Tryz.f4.params.toList (Rows.OpenSpec.upto Rows.scopeTextsSpec).vars false scopeTexts_args.toList 8).map (fun x => (x.1, x.2.1)) =
   some ([.lit (.string [])], []) := by kernel_rfl
 obtain ⟨⟨x1, x2, x3⟩, hx, hx1⟩ := Option.map_eq_some_iff.1 hw
 simp only [Prod.mk.injEq] at hx1
 obtain ⟨rfl, rfl⟩ := hx1
 exact OpenSpec.preRow_of_cond 8 hx (by kernel_rfl) (fun k hk => by cases hk; kernel_rfl) (by kernel_rfl) (laid_met os _)
theorem scopeTexts_lifted (os : Os) (started : os.Started) (H : Type) (enc : TypeId × Value → H) (F : Stop.Interp) :
  ReturnsInHanded {} Tryz.checked os 4 .any ((Rows.OpenSpec.upto Rows.scopeTextsSpec).preRow enc Tryz.prog Tryz.f4 Rows.scopeTextsUptoRow.domain false Rows.scopeTextsUptoRow.laid) (((Rows.OpenSpec.upto Rows.scopeTextsSpec).at F).post enc Tryz.prog Tryz.f4 false true false false) := by
 refine returnsInHanded_of_row (C := Tryz.checked) (s := Rows.OpenSpec.upto Rows.scopeTextsSpec) own_none started (by kernel_rfl) Tryz.func4
  (witness_row_atRef (enc := enc) (C := Tryz.checked) false (laidWorld os) scopeTexts_args rfl (by kernel_rfl) (by kernel_rfl) (by kernel_rfl) (scopeTexts_witness os enc)) ?_
 intro W base args ds gs before hval hW _ hcond _ hL _ _
 exact scopeTexts_contract H enc F W base args ds gs before hval hW (hcond _ rfl)
theorem scopeTexts_name : Tryz.prog.funcNamed Rows.scopeTextsUptoRow.func = some 4 := by kernel_rfl
theorem scopeTexts_inst : Tryz.f4.isInstance Tryz.prog Rows.scopeTextsUptoRow.origin Rows.scopeTextsUptoRow.targs := of_decide_eq_true (by kernel_rfl)
theorem scopeTexts_wrap : Tryz.f4.isWrapper Tryz.prog Rows.scopeTextsUptoRow.wrapper Rows.scopeTextsUptoRow.mainSum := by
 unfold Func.isWrapper
 rw [if_neg (of_decide_eq_false (by kernel_rfl))]
 exact ⟨rfl, rfl⟩
theorem andI {a b : Bool} (h : a = true) (k : b = true) : (a && b) = true := by rw [h, k]; rfl
theorem scopeTexts_f1 : (Rows.scopeTextsUptoRow.wf (OpenSpec.ofChange ((Rows.OpenSpec.upto Rows.scopeTextsSpec).bare))) = true := by kernel_rfl
theorem scopeTexts_f2 : (laidOutB Tryz.prog) = true := by kernel_rfl
theorem scopeTexts_f3 : (mapsRowed Tryz.prog) = true := by kernel_rfl
theorem scopeTexts_f4 : (Tryz.f4.params.all (Tryz.prog.readableRec ·)) = true := by kernel_rfl
theorem scopeTexts_f5 : (namedTie Tryz.prog Rows.scopeTextsUptoRow.named ((Rows.OpenSpec.upto Rows.scopeTextsSpec).bare).vars) = true := by kernel_rfl
theorem scopeTexts_f6 : ((Rows.scopeTextsUptoRow.stops == [])) = true := by kernel_rfl
theorem scopeTexts_f7 : ((Tryz.prog.stops == [])) = true := by kernel_rfl
theorem scopeTexts_f8 : ((Rows.scopeTextsUptoRow.knobs == [])) = true := by kernel_rfl
theorem scopeTexts_f9 : ((Tryz.prog.stopKnobs == [])) = true := by kernel_rfl
theorem scopeTexts_f10 : ((Rows.scopeTextsUptoRow.inPlace == Tryz.prog.inPlace 4)) = true := by kernel_rfl
theorem scopeTexts_f11 : ((Rows.scopeTextsUptoRow.unfollowed == Tryz.prog.unfollowed 4)) = true := by kernel_rfl
theorem scopeTexts_f12 : ((Rows.scopeTextsUptoRow.recurses == Tryz.prog.recurses 4)) = true := by kernel_rfl
theorem scopeTexts_f13 : ((Rows.scopeTextsUptoRow.named == Tryz.prog.varsNamed 4)) = true := by kernel_rfl
theorem scopeTexts_f14 : ((Rows.scopeTextsUptoRow.maps == (Tryz.f4.params.toList ++ ((Rows.OpenSpec.upto Rows.scopeTextsSpec).bare).plain.varTypes Tryz.prog).any (Tryz.prog.mapsRec ·))) = true := by kernel_rfl
theorem scopeTexts_f15 : ((Rows.scopeTextsUptoRow.ifaces == (Tryz.f4.params.toList ++ ((Rows.OpenSpec.upto Rows.scopeTextsSpec).bare).plain.varTypes Tryz.prog).any (Tryz.prog.ifacesRec ·))) = true := by kernel_rfl
theorem scopeTexts_f16 : ((Rows.scopeTextsUptoRow.mapsOut == Tryz.prog.mapsAmong Tryz.f4.resultTypes.toList)) = true := by kernel_rfl
theorem scopeTexts_f17 : ((Rows.scopeTextsUptoRow.loops == (Tryz.f4.params.toList ++ ((Rows.OpenSpec.upto Rows.scopeTextsSpec).bare).plain.varTypes Tryz.prog).any (Tryz.prog.loopsFrom ·))) = true := by kernel_rfl
theorem scopeTexts_f18 : ((Rows.scopeTextsUptoRow.wideKeys == (Tryz.f4.params.toList ++ ((Rows.OpenSpec.upto Rows.scopeTextsSpec).bare).plain.varTypes Tryz.prog ++ Tryz.f4.resultTypes.toList).any (Tryz.prog.wideKeysFrom ·))) = true := by kernel_rfl
theorem scopeTexts_f19 : (((Rows.OpenSpec.upto Rows.scopeTextsSpec).bare).vars.all (Tryz.prog.varReadable ·)) = true := by kernel_rfl
theorem scopeTexts_f20 : (Tryz.f4.resultTypes.all (fun t => Tryz.prog.readableRec t && decide (t < Tryz.prog.types.size))) = true := by kernel_rfl
theorem scopeTexts_f21 : ((Rows.scopeTextsUptoRow.ifacesOut == Tryz.f4.resultTypes.toList.any (Tryz.prog.ifacesRec ·))) = true := by kernel_rfl
theorem scopeTexts_f22 : ((Rows.scopeTextsUptoRow.loopsOut == Tryz.f4.resultTypes.toList.any (Tryz.prog.loopsFrom ·))) = true := by kernel_rfl
theorem scopeTexts_f23 : ((Rows.scopeTextsUptoRow.plainKeys == Tryz.prog.plainKeys)) = true := by kernel_rfl
theorem scopeTexts_f24 : (Rows.scopeTextsUptoRow.shortTexts.isNone) = true := by kernel_rfl
theorem scopeTexts_f25 : (Tryz.prog.stopsHeard) = true := by kernel_rfl
theorem scopeTexts_f26 : (Tryz.prog.mayEnter) = true := by kernel_rfl
theorem scopeTexts_f27 : ((Rows.scopeTextsUptoRow.lifted == Tryz.prog.liftsFinal)) = true := by kernel_rfl
theorem scopeTexts_f28 : ((Tryz.prog.make == some Rows.scopeTextsUptoRow.make)) = true := by kernel_rfl
theorem scopeTexts_f29 : ((Rows.scopeTextsUptoRow.kinds == (if Rows.scopeTextsUptoRow.domain.isEmpty then [] else Tryz.f4.params.toList.map fun t => match Tryz.prog.underlying t with | some (.int k) => some k | _ => none))) = true := by kernel_rfl
theorem scopeTexts_f30 : ((Rows.scopeTextsUptoRow.pinned == Rows.scopeTextsUptoRow.pinnedBy)) = true := by kernel_rfl
theorem scopeTexts_f31 : ((Rows.scopeTextsUptoRow.veiled == (Tryz.f4.params.toList ++ ((Rows.OpenSpec.upto Rows.scopeTextsSpec).bare).plain.varTypes Tryz.prog ++ Tryz.f4.resultTypes.toList).any (Tryz.prog.veiledRec ·))) = true := by kernel_rfl
theorem scopeTexts_f32 : (Rows.scopeTextsUptoRow.veiledFits Tryz.prog Tryz.f4.params.toList (Tryz.f4.params.toList ++ ((Rows.OpenSpec.upto Rows.scopeTextsSpec).bare).plain.varTypes Tryz.prog ++ Tryz.f4.resultTypes.toList)) = true := by kernel_rfl
theorem scopeTexts_facts : joinedFacts Tryz.prog 4 Tryz.f4 (Rows.OpenSpec.upto Rows.scopeTextsSpec).bare Rows.scopeTextsUptoRow = true := by
 unfold joinedFacts
 exact (andI (andI (andI (andI (andI (andI (andI (andI (andI (andI (andI (andI (andI (andI (andI (andI (andI (andI (andI (andI (andI (andI (andI (andI (andI (andI (andI (andI (andI (andI (andI scopeTexts_f1 scopeTexts_f2) scopeTexts_f3) scopeTexts_f4) scopeTexts_f5) scopeTexts_f6) scopeTexts_f7) scopeTexts_f8) scopeTexts_f9) scopeTexts_f10) scopeTexts_f11) scopeTexts_f12) scopeTexts_f13) scopeTexts_f14) scopeTexts_f15) scopeTexts_f16) scopeTexts_f17) scopeTexts_f18) scopeTexts_f19) scopeTexts_f20) scopeTexts_f21) scopeTexts_f22) scopeTexts_f23) scopeTexts_f24) scopeTexts_f25) scopeTexts_f26) scopeTexts_f27) scopeTexts_f28) scopeTexts_f29) scopeTexts_f30) scopeTexts_f31) scopeTexts_f32)
theorem scopeTexts_said : Rows.ScopeTextsUptoSaid :=
 OpenClaim.holds_of_cond 4 Tryz.f4 rfl rfl rfl rfl rfl rfl rfl ⟨rfl, rfl, rfl, rfl, rfl⟩ rfl rfl rfl rfl rfl scopeTexts_name Tryz.func4 scopeTexts_facts scopeTexts_inst scopeTexts_wrap
  (fun os started H enc _ F => by rw [OpenClaim.pre_eq_preRow]; exact scopeTexts_lifted os started H enc F)
theorem scopeTexts_plain (f : FuncId) (fn : Func) (hf : Tryz.pinned.checked.prog.funcNamed Rows.scopeTextsUptoRow.func = some f) (hfn : Tryz.pinned.checked.prog.funcs[f]? = some fn) :
  true = Tryz.pinned.checked.prog.looks [] ∧ ∀ (j : Nat) t, fn.params[j]? = some t → Tryz.pinned.checked.prog.wantsStandIn t = false := by
 obtain rfl : f = 4 := Option.some.inj (scopeTexts_name.symm.trans hf) |>.symm
 obtain rfl : fn = Tryz.f4 := (Option.some.inj (Tryz.func4.symm.trans hfn)).symm
 refine ⟨by kernel_rfl, fun j t ht => ?_⟩
 rw [Tryz.params4] at ht
 have hm := Array.mem_of_getElem? ht
 simp only [List.mem_toArray, List.mem_cons, List.mem_nil_iff, or_false] at hm
 subst hm
 exact (show Tryz.prog.wantsStandIn 9 = false by kernel_rfl)
theorem goes_no {P : Program} {f : FuncId} (h1 : (P.closure f).any (fun g => (P.funcs[g]?).any Func.goes) = false) (h2 : P.funcs.any Func.goes = false) : P.goes f = false := by
 unfold Program.goes
 rw [h1, h2, Bool.and_false]
 rfl
theorem scopeTexts_g1 : (Tryz.prog.closure 4).any (fun g => (Tryz.prog.funcs[g]?).any Func.goes) = false := by kernel_rfl
theorem scopeTexts_g2 : Tryz.prog.funcs.any Func.goes = false := by kernel_rfl
theorem scopeTexts_g3 : Tryz.prog.inits.toList.any Tryz.prog.goes = false := by kernel_rfl
theorem scopeTexts_goes : false = Rows.scopeTextsUptoRow.goesBy Tryz.prog := by
 have e : Tryz.prog.goesFrom Rows.scopeTextsUptoRow.func = false := by
  unfold Program.goesFrom
  rw [scopeTexts_name]
  exact goes_no scopeTexts_g1 scopeTexts_g2
 unfold OpenClaim.goesBy Program.goesAt
 rw [e, Bool.false_or]
 exact scopeTexts_g3.symm
theorem scopeTexts_card : Rows.ScopeTextsUptoCardSaid :=
 Claim7.holds_tied_plain_at .later [] _ _ _ _ scopeTexts_said (fun _ h => by cases h) (by kernel_rfl) (fun _ h => by cases h) scopeTextsUpto_row_tie rfl ⟨rfl, rfl⟩ (by kernel_rfl) rfl scopeTexts_plain scopeTexts_goes
end Go.Proofs.YtmbilkpmnpmheaaGreatDoor

