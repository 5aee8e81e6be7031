/-
 ScopeResolves returns true for every input where what it reads is of bulk at most 1048576; the arguments read behind the call as before. Conditions: those of the given card.
-/
import Derived.SevenTiedAt
import Derived.Test.YtmbilkpmnpmheaaGreatDoorCards
import Derived.Test.YtmbilkpmnpmheaaGreatDoorTie
import Derived.Test.YtmbilkpmnpmheaaGreatDoorR7
set_option linter.unusedSimpArgs false
set_option linter.unusedVariables false
namespace Go.Proofs.YtmbilkpmnpmheaaGreatDoor
set_option maxRecDepth 100000
set_option maxHeartbeats 4000000
open Go Go.Cb Go.ChangeShapes Go.WideShapes Go.ChangeAt Go.RowKit
theorem scopeResolves_contract (H : Type) (enc : TypeId × Value → H) (F : Stop.Interp) (W : World) (base : Nat) (args : Array Value) (ds gs : List (DataW H)) (before : List MemPlace)
  (hval : ∀ (j : Nat) t v, Tryz.f3.params[j]? = some t → args[j]? = some v → Value.okWide Tryz.prog W .any base t v)
  (hW : DataW.Whole enc Tryz.prog Tryz.f3.params.toList ((Rows.OpenSpec.upto Rows.scopeResolvesSpec).at F).vars false W args.toList ds gs before)
  (hcond : Rows.uptoSmall H (ds ++ gs) = true) :
  Calls Tryz.prog 3 args W fun e W' => ∃ v, e = .returned v ∧ ((Rows.OpenSpec.upto Rows.scopeResolvesSpec).at F).post enc Tryz.prog Tryz.f3 false true false false W args v W' := by
 have hW' := hW
 obtain ⟨p, q, hA0, hV, rfl, hfz, hnd⟩ := hW
 have hA : DataW.TrodAll enc Tryz.prog W 0 (fun _ => true) true Tryz.f3.params.toList args.toList ds p := hA0
 rw [Tryz.params3] at hA hval
 obtain ⟨v0, vs0, d0, ds0, p0, q0, hargs, rfl, rfl, h0, r0⟩ := trodAll_cons hA
 obtain ⟨rfl, rfl, rfl⟩ := trodAll_nil r0
 obtain rfl : args = #[v0] := by cases args; simp_all
 obtain ⟨a0, hp0, hb0⟩ := arg_struct Tryz.underlying24 rdD (hval 0 _ v0 rfl rfl) h0
 have hb := of_decide_eq_true hcond
 simp only [List.cons_append, Rows.uptoBulkAll] at hb
 refine (calls_true (scopeResolves_c a0) (vs := [v0]) (by simp only [RepT, and_true]; exact hp0)).mono ?_
 rintro e W' ⟨rfl, hbel⟩
 exact ⟨_, rfl, law_post laidOut (fun t ht => by
  rw [Tryz.params3] at ht
  simp only [List.mem_cons, List.mem_nil_iff, or_false] at ht
  subst ht
  exact okD) (by kernel_rfl) Tryz.underlying4 rfl (fun ds hd => by
  rw [Tryz.params3] at hd
  match ds, hd with
  | [a], _ => rfl) hW' hbel⟩
def scopeResolves_args : Array Value := #[.agg #[.int .i64 0, .int .i64 0, .int .i64 0, .string ⟨#[]⟩, .slice none 0 0]]
theorem scopeResolves_witness (os : Os) {H : Type} (enc : TypeId × Value → H) :
  (Rows.OpenSpec.upto Rows.scopeResolvesSpec).preRow enc Tryz.prog Tryz.f3 Rows.scopeResolvesUptoRow.domain false Rows.scopeResolvesUptoRow.laid ((laidWorld os).forCall (fun _ _ => 0) ⟨#[], scopeResolves_args, []⟩).memory scopeResolves_args := by
 have hw : (DataW.whole enc Tryz.prog ((laidWorld os).forCall (fun _ _ => 0) ⟨#[], scopeResolves_args, []⟩).memory Tryz.f3.params.toList (Rows.OpenSpec.upto Rows.scopeResolvesSpec).vars false scopeResolves_args.toList 8).map (fun x => (x.1, x.2.1)) =
   some ([.agg [.lit (.int .i64 0), .lit (.int .i64 0), .lit (.int .i64 0), .lit (.string []), .nil]], []) := by kernel_rfl
 obtain ⟨⟨x1, x2, x3⟩, hx, hx1⟩ := Option.map_eq_some_iff.1 hw
 simp only [Prod.mk.injEq] at hx1
 obtain ⟨rfl, rfl⟩ := hx1
 exact OpenSpec.preRow_of_cond 8 hx (by kernel_rfl) (fun k hk => by cases hk; kernel_rfl) (by kernel_rfl) (laid_met os _)
theorem scopeResolves_lifted (os : Os) (started : os.Started) (H : Type) (enc : TypeId × Value → H) (F : Stop.Interp) :
  ReturnsInHanded {} Tryz.checked os 3 .any ((Rows.OpenSpec.upto Rows.scopeResolvesSpec).preRow enc Tryz.prog Tryz.f3 Rows.scopeResolvesUptoRow.domain false Rows.scopeResolvesUptoRow.laid) (((Rows.OpenSpec.upto Rows.scopeResolvesSpec).at F).post enc Tryz.prog Tryz.f3 false true false false) := by
 refine returnsInHanded_of_row (C := Tryz.checked) (s := Rows.OpenSpec.upto Rows.scopeResolvesSpec) own_none started (by kernel_rfl) Tryz.func3
  (witness_row_atRef (enc := enc) (C := Tryz.checked) false (laidWorld os) scopeResolves_args rfl (by kernel_rfl) (by kernel_rfl) (by kernel_rfl) (scopeResolves_witness os enc)) ?_
 intro W base args ds gs before hval hW _ hcond _ hL _ _
 exact scopeResolves_contract H enc F W base args ds gs before hval hW (hcond _ rfl)
theorem scopeResolves_name : Tryz.prog.funcNamed Rows.scopeResolvesUptoRow.func = some 3 := by kernel_rfl
theorem scopeResolves_inst : Tryz.f3.isInstance Tryz.prog Rows.scopeResolvesUptoRow.origin Rows.scopeResolvesUptoRow.targs := of_decide_eq_true (by kernel_rfl)
theorem scopeResolves_wrap : Tryz.f3.isWrapper Tryz.prog Rows.scopeResolvesUptoRow.wrapper Rows.scopeResolvesUptoRow.mainSum := by
 unfold Func.isWrapper
 rw [if_neg (of_decide_eq_false (by kernel_rfl))]
 exact ⟨rfl, rfl⟩
theorem andI {a b : Bool} (h : a = true) (k : b = true) : (a && b) = true := by rw [h, k]; rfl
theorem scopeResolves_f1 : (Rows.scopeResolvesUptoRow.wf (OpenSpec.ofChange ((Rows.OpenSpec.upto Rows.scopeResolvesSpec).bare))) = true := by kernel_rfl
theorem scopeResolves_f2 : (laidOutB Tryz.prog) = true := by kernel_rfl
theorem scopeResolves_f3 : (mapsRowed Tryz.prog) = true := by kernel_rfl
theorem scopeResolves_f4 : (Tryz.f3.params.all (Tryz.prog.readableRec ·)) = true := by kernel_rfl
theorem scopeResolves_f5 : (namedTie Tryz.prog Rows.scopeResolvesUptoRow.named ((Rows.OpenSpec.upto Rows.scopeResolvesSpec).bare).vars) = true := by kernel_rfl
theorem scopeResolves_f6 : ((Rows.scopeResolvesUptoRow.stops == [])) = true := by kernel_rfl
theorem scopeResolves_f7 : ((Tryz.prog.stops == [])) = true := by kernel_rfl
theorem scopeResolves_f8 : ((Rows.scopeResolvesUptoRow.knobs == [])) = true := by kernel_rfl
theorem scopeResolves_f9 : ((Tryz.prog.stopKnobs == [])) = true := by kernel_rfl
theorem scopeResolves_f10 : ((Rows.scopeResolvesUptoRow.inPlace == Tryz.prog.inPlace 3)) = true := by kernel_rfl
theorem scopeResolves_f11 : ((Rows.scopeResolvesUptoRow.unfollowed == Tryz.prog.unfollowed 3)) = true := by kernel_rfl
theorem scopeResolves_f12 : ((Rows.scopeResolvesUptoRow.recurses == Tryz.prog.recurses 3)) = true := by kernel_rfl
theorem scopeResolves_f13 : ((Rows.scopeResolvesUptoRow.named == Tryz.prog.varsNamed 3)) = true := by kernel_rfl
theorem scopeResolves_f14 : ((Rows.scopeResolvesUptoRow.maps == (Tryz.f3.params.toList ++ ((Rows.OpenSpec.upto Rows.scopeResolvesSpec).bare).plain.varTypes Tryz.prog).any (Tryz.prog.mapsRec ·))) = true := by kernel_rfl
theorem scopeResolves_f15 : ((Rows.scopeResolvesUptoRow.ifaces == (Tryz.f3.params.toList ++ ((Rows.OpenSpec.upto Rows.scopeResolvesSpec).bare).plain.varTypes Tryz.prog).any (Tryz.prog.ifacesRec ·))) = true := by kernel_rfl
theorem scopeResolves_f16 : ((Rows.scopeResolvesUptoRow.mapsOut == Tryz.prog.mapsAmong Tryz.f3.resultTypes.toList)) = true := by kernel_rfl
theorem scopeResolves_f17 : ((Rows.scopeResolvesUptoRow.loops == (Tryz.f3.params.toList ++ ((Rows.OpenSpec.upto Rows.scopeResolvesSpec).bare).plain.varTypes Tryz.prog).any (Tryz.prog.loopsFrom ·))) = true := by kernel_rfl
theorem scopeResolves_f18 : ((Rows.scopeResolvesUptoRow.wideKeys == (Tryz.f3.params.toList ++ ((Rows.OpenSpec.upto Rows.scopeResolvesSpec).bare).plain.varTypes Tryz.prog ++ Tryz.f3.resultTypes.toList).any (Tryz.prog.wideKeysFrom ·))) = true := by kernel_rfl
theorem scopeResolves_f19 : (((Rows.OpenSpec.upto Rows.scopeResolvesSpec).bare).vars.all (Tryz.prog.varReadable ·)) = true := by kernel_rfl
theorem scopeResolves_f20 : (Tryz.f3.resultTypes.all (fun t => Tryz.prog.readableRec t && decide (t < Tryz.prog.types.size))) = true := by kernel_rfl
theorem scopeResolves_f21 : ((Rows.scopeResolvesUptoRow.ifacesOut == Tryz.f3.resultTypes.toList.any (Tryz.prog.ifacesRec ·))) = true := by kernel_rfl
theorem scopeResolves_f22 : ((Rows.scopeResolvesUptoRow.loopsOut == Tryz.f3.resultTypes.toList.any (Tryz.prog.loopsFrom ·))) = true := by kernel_rfl
theorem scopeResolves_f23 : ((Rows.scopeResolvesUptoRow.plainKeys == Tryz.prog.plainKeys)) = true := by kernel_rfl
theorem scopeResolves_f24 : (Rows.scopeResolvesUptoRow.shortTexts.isNone) = true := by kernel_rfl
theorem scopeResolves_f25 : (Tryz.prog.stopsHeard) = true := by kernel_rfl
theorem scopeResolves_f26 : (Tryz.prog.mayEnter) = true := by kernel_rfl
theorem scopeResolves_f27 : ((Rows.scopeResolvesUptoRow.lifted == Tryz.prog.liftsFinal)) = true := by kernel_rfl
theorem scopeResolves_f28 : ((Tryz.prog.make == some Rows.scopeResolvesUptoRow.make)) = true := by kernel_rfl
theorem scopeResolves_f29 : ((Rows.scopeResolvesUptoRow.kinds == (if Rows.scopeResolvesUptoRow.domain.isEmpty then [] else Tryz.f3.params.toList.map fun t => match Tryz.prog.underlying t with | some (.int k) => some k | _ => none))) = true := by kernel_rfl
theorem scopeResolves_f30 : ((Rows.scopeResolvesUptoRow.pinned == Rows.scopeResolvesUptoRow.pinnedBy)) = true := by kernel_rfl
theorem scopeResolves_f31 : ((Rows.scopeResolvesUptoRow.veiled == (Tryz.f3.params.toList ++ ((Rows.OpenSpec.upto Rows.scopeResolvesSpec).bare).plain.varTypes Tryz.prog ++ Tryz.f3.resultTypes.toList).any (Tryz.prog.veiledRec ·))) = true := by kernel_rfl
theorem scopeResolves_f32 : (Rows.scopeResolvesUptoRow.veiledFits Tryz.prog Tryz.f3.params.toList (Tryz.f3.params.toList ++ ((Rows.OpenSpec.upto Rows.scopeResolvesSpec).bare).plain.varTypes Tryz.prog ++ Tryz.f3.resultTypes.toList)) = true := by kernel_rfl
theorem scopeResolves_facts : joinedFacts Tryz.prog 3 Tryz.f3 (Rows.OpenSpec.upto Rows.scopeResolvesSpec).bare Rows.scopeResolvesUptoRow = true := by
 unfold joinedFacts
 exact (andI (andI (andI (andI (andI (andI (andI (andI (andI (andI (andI (andI (andI (andI (andI (andI (andI (andI (andI (andI (andI (andI (andI (andI (andI (andI (andI (andI (andI (andI (andI scopeResolves_f1 scopeResolves_f2) scopeResolves_f3) scopeResolves_f4) scopeResolves_f5) scopeResolves_f6) scopeResolves_f7) scopeResolves_f8) scopeResolves_f9) scopeResolves_f10) scopeResolves_f11) scopeResolves_f12) scopeResolves_f13) scopeResolves_f14) scopeResolves_f15) scopeResolves_f16) scopeResolves_f17) scopeResolves_f18) scopeResolves_f19) scopeResolves_f20) scopeResolves_f21) scopeResolves_f22) scopeResolves_f23) scopeResolves_f24) scopeResolves_f25) scopeResolves_f26) scopeResolves_f27) scopeResolves_f28) scopeResolves_f29) scopeResolves_f30) scopeResolves_f31) scopeResolves_f32)
theorem scopeResolves_said : Rows.ScopeResolvesUptoSaid :=
 OpenClaim.holds_of_cond 3 Tryz.f3 rfl rfl rfl rfl rfl rfl rfl ⟨rfl, rfl, rfl, rfl, rfl⟩ rfl rfl rfl rfl rfl scopeResolves_name Tryz.func3 scopeResolves_facts scopeResolves_inst scopeResolves_wrap
  (fun os started H enc _ F => by rw [OpenClaim.pre_eq_preRow]; exact scopeResolves_lifted os started H enc F)
theorem scopeResolves_plain (f : FuncId) (fn : Func) (hf : Tryz.pinned.checked.prog.funcNamed Rows.scopeResolvesUptoRow.func = some f) (hfn : Tryz.pinned.checked.prog.funcs[f]? = some fn) :
  true = Tryz.pinned.checked.prog.looks [] ∧ ∀ (j : Nat) t, fn.params[j]? = some t → Tryz.pinned.checked.prog.wantsStandIn t = false := by
 obtain rfl : f = 3 := Option.some.inj (scopeResolves_name.symm.trans hf) |>.symm
 obtain rfl : fn = Tryz.f3 := (Option.some.inj (Tryz.func3.symm.trans hfn)).symm
 refine ⟨by kernel_rfl, fun j t ht => ?_⟩
 rw [Tryz.params3] at ht
 have hm := Array.mem_of_getElem? ht
 simp only [List.mem_toArray, List.mem_cons, List.mem_nil_iff, or_false] at hm
 subst hm
 exact (show Tryz.prog.wantsStandIn 24 = false by kernel_rfl)
theorem goes_no {P : Program} {f : FuncId} (h1 : (P.closure f).any (fun g => (P.funcs[g]?).any Func.goes) = false) (h2 : P.funcs.any Func.goes = false) : P.goes f = false := by
 unfold Program.goes
 rw [h1, h2, Bool.and_false]
 rfl
theorem scopeResolves_g1 : (Tryz.prog.closure 3).any (fun g => (Tryz.prog.funcs[g]?).any Func.goes) = false := by kernel_rfl
theorem scopeResolves_g2 : Tryz.prog.funcs.any Func.goes = false := by kernel_rfl
theorem scopeResolves_g3 : Tryz.prog.inits.toList.any Tryz.prog.goes = false := by kernel_rfl
theorem scopeResolves_goes : false = Rows.scopeResolvesUptoRow.goesBy Tryz.prog := by
 have e : Tryz.prog.goesFrom Rows.scopeResolvesUptoRow.func = false := by
  unfold Program.goesFrom
  rw [scopeResolves_name]
  exact goes_no scopeResolves_g1 scopeResolves_g2
 unfold OpenClaim.goesBy Program.goesAt
 rw [e, Bool.false_or]
 exact scopeResolves_g3.symm
theorem scopeResolves_card : Rows.ScopeResolvesUptoCardSaid :=
 Claim7.holds_tied_plain_at .later [] _ _ _ _ scopeResolves_said (fun _ h => by cases h) (by kernel_rfl) (fun _ h => by cases h) scopeResolvesUpto_row_tie rfl ⟨rfl, rfl⟩ (by kernel_rfl) rfl scopeResolves_plain scopeResolves_goes
end Go.Proofs.YtmbilkpmnpmheaaGreatDoor

