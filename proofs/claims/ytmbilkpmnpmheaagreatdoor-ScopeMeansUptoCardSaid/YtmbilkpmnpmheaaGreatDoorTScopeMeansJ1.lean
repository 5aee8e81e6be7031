/-
 ScopeMeans returns true for every input where what it reads is of bulk at most 1048576; the arguments read behind the call as before. Conditions: those of the given card.
-/
import Derived.SevenTiedAt
import Derived.Test.YtmbilkpmnpmheaaGreatDoorCards
import Derived.Test.YtmbilkpmnpmheaaGreatDoorTie
import Derived.Test.YtmbilkpmnpmheaaGreatDoorM8
set_option linter.unusedSimpArgs false
set_option linter.unusedVariables false
namespace Go.Proofs.YtmbilkpmnpmheaaGreatDoor
set_option maxRecDepth 100000
set_option maxHeartbeats 4000000
open Go Go.Cb Go.ChangeShapes Go.WideShapes Go.ChangeAt Go.RowKit
theorem scopeMeans_contract (H : Type) (enc : TypeId × Value → H) (F : Stop.Interp) (W : World) (base : Nat) (args : Array Value) (ds gs : List (DataW H)) (before : List MemPlace)
  (hval : ∀ (j : Nat) t v, Tryz.f6.params[j]? = some t → args[j]? = some v → Value.okWide Tryz.prog W .any base t v)
  (hW : DataW.Whole enc Tryz.prog Tryz.f6.params.toList ((Rows.OpenSpec.upto Rows.scopeMeansSpec).at F).vars false W args.toList ds gs before)
  (hcond : Rows.uptoSmall H (ds ++ gs) = true) :
  Calls Tryz.prog 6 args W fun e W' => ∃ v, e = .returned v ∧ ((Rows.OpenSpec.upto Rows.scopeMeansSpec).at F).post enc Tryz.prog Tryz.f6 false true false false W args v W' := by
 have hW' := hW
 obtain ⟨p, q, hA0, hV, rfl, hfz, hnd⟩ := hW
 have hA : DataW.TrodAll enc Tryz.prog W 0 (fun _ => true) true Tryz.f6.params.toList args.toList ds p := hA0
 rw [Tryz.params6] at hA hval
 obtain ⟨v0, vs0, d0, ds0, p0, q0, hargs, rfl, rfl, h0, r0⟩ := trodAll_cons hA
 obtain ⟨rfl, rfl, rfl⟩ := trodAll_nil r0
 obtain rfl : args = #[v0] := by cases args; simp_all
 obtain ⟨a0, hp0, hb0⟩ := arg_struct Tryz.underlying24 rdD (hval 0 _ v0 rfl rfl) h0
 have hb := of_decide_eq_true hcond
 simp only [List.cons_append, Rows.uptoBulkAll] at hb
 refine (calls_true (scopeMeans_c a0 (by omega)) (vs := [v0]) (by simp only [RepT, and_true]; exact hp0)).mono ?_
 rintro e W' ⟨rfl, hbel⟩
 exact ⟨_, rfl, law_post laidOut (fun t ht => by
  rw [Tryz.params6] at ht
  simp only [List.mem_cons, List.mem_nil_iff, or_false] at ht
  subst ht
  exact okD) (by kernel_rfl) Tryz.underlying4 rfl (fun ds hd => by
  rw [Tryz.params6] at hd
  match ds, hd with
  | [a], _ => rfl) hW' hbel⟩
def scopeMeans_args : Array Value := #[.agg #[.int .i64 0, .int .i64 0, .int .i64 0, .string ⟨#[]⟩, .slice none 0 0]]
theorem scopeMeans_witness (os : Os) {H : Type} (enc : TypeId × Value → H) :
  (Rows.OpenSpec.upto Rows.scopeMeansSpec).preRow enc Tryz.prog Tryz.f6 Rows.scopeMeansUptoRow.domain false Rows.scopeMeansUptoRow.laid ((laidWorld os).forCall (fun _ _ => 0) ⟨#[], scopeMeans_args, []⟩).memory scopeMeans_args := by
 have hw : (DataW.whole enc Tryz.prog ((laidWorld os).forCall (fun _ _ => 0) ⟨#[], scopeMeans_args, []⟩).memory Tryz.f6.params.toList (Rows.OpenSpec.upto Rows.scopeMeansSpec).vars false scopeMeans_args.toList 8).map (fun x => (x.1, x.2.1)) =
   some ([.agg [.lit (.int .i64 0), .lit (.int .i64 0), .lit (.int .i64 0), .lit (.string []), .nil]], []) := by kernel_rfl
 obtain ⟨⟨x1, x2, x3⟩, hx, hx1⟩ := Option.map_eq_some_iff.1 hw
 simp only [Prod.mk.injEq] at hx1
 obtain ⟨rfl, rfl⟩ := hx1
 exact OpenSpec.preRow_of_cond 8 hx (by kernel_rfl) (fun k hk => by cases hk; kernel_rfl) (by kernel_rfl) (laid_met os _)
theorem scopeMeans_lifted (os : Os) (started : os.Started) (H : Type) (enc : TypeId × Value → H) (F : Stop.Interp) :
  ReturnsInHanded {} Tryz.checked os 6 .any ((Rows.OpenSpec.upto Rows.scopeMeansSpec).preRow enc Tryz.prog Tryz.f6 Rows.scopeMeansUptoRow.domain false Rows.scopeMeansUptoRow.laid) (((Rows.OpenSpec.upto Rows.scopeMeansSpec).at F).post enc Tryz.prog Tryz.f6 false true false false) := by
 refine returnsInHanded_of_row (C := Tryz.checked) (s := Rows.OpenSpec.upto Rows.scopeMeansSpec) own_none started (by kernel_rfl) Tryz.func6
  (witness_row_atRef (enc := enc) (C := Tryz.checked) false (laidWorld os) scopeMeans_args rfl (by kernel_rfl) (by kernel_rfl) (by kernel_rfl) (scopeMeans_witness os enc)) ?_
 intro W base args ds gs before hval hW _ hcond _ hL _ _
 exact scopeMeans_contract H enc F W base args ds gs before hval hW (hcond _ rfl)
theorem scopeMeans_name : Tryz.prog.funcNamed Rows.scopeMeansUptoRow.func = some 6 := by kernel_rfl
theorem scopeMeans_inst : Tryz.f6.isInstance Tryz.prog Rows.scopeMeansUptoRow.origin Rows.scopeMeansUptoRow.targs := of_decide_eq_true (by kernel_rfl)
theorem scopeMeans_wrap : Tryz.f6.isWrapper Tryz.prog Rows.scopeMeansUptoRow.wrapper Rows.scopeMeansUptoRow.mainSum := by
 unfold Func.isWrapper
 rw [if_neg (of_decide_eq_false (by kernel_rfl))]
 exact ⟨rfl, rfl⟩
theorem andI {a b : Bool} (h : a = true) (k : b = true) : (a && b) = true := by rw [h, k]; rfl
theorem scopeMeans_f1 : (Rows.scopeMeansUptoRow.wf (OpenSpec.ofChange ((Rows.OpenSpec.upto Rows.scopeMeansSpec).bare))) = true := by kernel_rfl
theorem scopeMeans_f2 : (laidOutB Tryz.prog) = true := by kernel_rfl
theorem scopeMeans_f3 : (mapsRowed Tryz.prog) = true := by kernel_rfl
theorem scopeMeans_f4 : (Tryz.f6.params.all (Tryz.prog.readableRec ·)) = true := by kernel_rfl
theorem scopeMeans_f5 : (namedTie Tryz.prog Rows.scopeMeansUptoRow.named ((Rows.OpenSpec.upto Rows.scopeMeansSpec).bare).vars) = true := by kernel_rfl
theorem scopeMeans_f6 : ((Rows.scopeMeansUptoRow.stops == [])) = true := by kernel_rfl
theorem scopeMeans_f7 : ((Tryz.prog.stops == [])) = true := by kernel_rfl
theorem scopeMeans_f8 : ((Rows.scopeMeansUptoRow.knobs == [])) = true := by kernel_rfl
theorem scopeMeans_f9 : ((Tryz.prog.stopKnobs == [])) = true := by kernel_rfl
theorem scopeMeans_f10 : ((Rows.scopeMeansUptoRow.inPlace == Tryz.prog.inPlace 6)) = true := by kernel_rfl
theorem scopeMeans_f11 : ((Rows.scopeMeansUptoRow.unfollowed == Tryz.prog.unfollowed 6)) = true := by kernel_rfl
theorem scopeMeans_f12 : ((Rows.scopeMeansUptoRow.recurses == Tryz.prog.recurses 6)) = true := by kernel_rfl
theorem scopeMeans_f13 : ((Rows.scopeMeansUptoRow.named == Tryz.prog.varsNamed 6)) = true := by kernel_rfl
theorem scopeMeans_f14 : ((Rows.scopeMeansUptoRow.maps == (Tryz.f6.params.toList ++ ((Rows.OpenSpec.upto Rows.scopeMeansSpec).bare).plain.varTypes Tryz.prog).any (Tryz.prog.mapsRec ·))) = true := by kernel_rfl
theorem scopeMeans_f15 : ((Rows.scopeMeansUptoRow.ifaces == (Tryz.f6.params.toList ++ ((Rows.OpenSpec.upto Rows.scopeMeansSpec).bare).plain.varTypes Tryz.prog).any (Tryz.prog.ifacesRec ·))) = true := by kernel_rfl
theorem scopeMeans_f16 : ((Rows.scopeMeansUptoRow.mapsOut == Tryz.prog.mapsAmong Tryz.f6.resultTypes.toList)) = true := by kernel_rfl
theorem scopeMeans_f17 : ((Rows.scopeMeansUptoRow.loops == (Tryz.f6.params.toList ++ ((Rows.OpenSpec.upto Rows.scopeMeansSpec).bare).plain.varTypes Tryz.prog).any (Tryz.prog.loopsFrom ·))) = true := by kernel_rfl
theorem scopeMeans_f18 : ((Rows.scopeMeansUptoRow.wideKeys == (Tryz.f6.params.toList ++ ((Rows.OpenSpec.upto Rows.scopeMeansSpec).bare).plain.varTypes Tryz.prog ++ Tryz.f6.resultTypes.toList).any (Tryz.prog.wideKeysFrom ·))) = true := by kernel_rfl
theorem scopeMeans_f19 : (((Rows.OpenSpec.upto Rows.scopeMeansSpec).bare).vars.all (Tryz.prog.varReadable ·)) = true := by kernel_rfl
theorem scopeMeans_f20 : (Tryz.f6.resultTypes.all (fun t => Tryz.prog.readableRec t && decide (t < Tryz.prog.types.size))) = true := by kernel_rfl
theorem scopeMeans_f21 : ((Rows.scopeMeansUptoRow.ifacesOut == Tryz.f6.resultTypes.toList.any (Tryz.prog.ifacesRec ·))) = true := by kernel_rfl
theorem scopeMeans_f22 : ((Rows.scopeMeansUptoRow.loopsOut == Tryz.f6.resultTypes.toList.any (Tryz.prog.loopsFrom ·))) = true := by kernel_rfl
theorem scopeMeans_f23 : ((Rows.scopeMeansUptoRow.plainKeys == Tryz.prog.plainKeys)) = true := by kernel_rfl
theorem scopeMeans_f24 : (Rows.scopeMeansUptoRow.shortTexts.isNone) = true := by kernel_rfl
theorem scopeMeans_f25 : (Tryz.prog.stopsHeard) = true := by kernel_rfl
theorem scopeMeans_f26 : (Tryz.prog.mayEnter) = true := by kernel_rfl
theorem scopeMeans_f27 : ((Rows.scopeMeansUptoRow.lifted == Tryz.prog.liftsFinal)) = true := by kernel_rfl
theorem scopeMeans_f28 : ((Tryz.prog.make == some Rows.scopeMeansUptoRow.make)) = true := by kernel_rfl
theorem scopeMeans_f29 : ((Rows.scopeMeansUptoRow.kinds == (if Rows.scopeMeansUptoRow.domain.isEmpty then [] else Tryz.f6.params.toList.map fun t => match Tryz.prog.underlying t with | some (.int k) => some k | _ => none))) = true := by kernel_rfl
theorem scopeMeans_f30 : ((Rows.scopeMeansUptoRow.pinned == Rows.scopeMeansUptoRow.pinnedBy)) = true := by kernel_rfl
theorem scopeMeans_f31 : ((Rows.scopeMeansUptoRow.veiled == (Tryz.f6.params.toList ++ ((Rows.OpenSpec.upto Rows.scopeMeansSpec).bare).plain.varTypes Tryz.prog ++ Tryz.f6.resultTypes.toList).any (Tryz.prog.veiledRec ·))) = true := by kernel_rfl
theorem scopeMeans_f32 : (Rows.scopeMeansUptoRow.veiledFits Tryz.prog Tryz.f6.params.toList (Tryz.f6.params.toList ++ ((Rows.OpenSpec.upto Rows.scopeMeansSpec).bare).plain.varTypes Tryz.prog ++ Tryz.f6.resultTypes.toList)) = true := by kernel_rfl
theorem scopeMeans_facts : joinedFacts Tryz.prog 6 Tryz.f6 (Rows.OpenSpec.upto Rows.scopeMeansSpec).bare Rows.scopeMeansUptoRow = true := by
 unfold joinedFacts
 exact (andI (andI (andI (andI (andI (andI (andI (andI (andI (andI (andI (andI (andI (andI (andI (andI (andI (andI (andI (andI (andI (andI (andI (andI (andI (andI (andI (andI (andI (andI (andI scopeMeans_f1 scopeMeans_f2) scopeMeans_f3) scopeMeans_f4) scopeMeans_f5) scopeMeans_f6) scopeMeans_f7) scopeMeans_f8) scopeMeans_f9) scopeMeans_f10) scopeMeans_f11) scopeMeans_f12) scopeMeans_f13) scopeMeans_f14) scopeMeans_f15) scopeMeans_f16) scopeMeans_f17) scopeMeans_f18) scopeMeans_f19) scopeMeans_f20) scopeMeans_f21) scopeMeans_f22) scopeMeans_f23) scopeMeans_f24) scopeMeans_f25) scopeMeans_f26) scopeMeans_f27) scopeMeans_f28) scopeMeans_f29) scopeMeans_f30) scopeMeans_f31) scopeMeans_f32)
theorem scopeMeans_said : Rows.ScopeMeansUptoSaid :=
 OpenClaim.holds_of_cond 6 Tryz.f6 rfl rfl rfl rfl rfl rfl rfl ⟨rfl, rfl, rfl, rfl, rfl⟩ rfl rfl rfl rfl rfl scopeMeans_name Tryz.func6 scopeMeans_facts scopeMeans_inst scopeMeans_wrap
  (fun os started H enc _ F => by rw [OpenClaim.pre_eq_preRow]; exact scopeMeans_lifted os started H enc F)
theorem scopeMeans_plain (f : FuncId) (fn : Func) (hf : Tryz.pinned.checked.prog.funcNamed Rows.scopeMeansUptoRow.func = some f) (hfn : Tryz.pinned.checked.prog.funcs[f]? = some fn) :
  true = Tryz.pinned.checked.prog.looks [] ∧ ∀ (j : Nat) t, fn.params[j]? = some t → Tryz.pinned.checked.prog.wantsStandIn t = false := by
 obtain rfl : f = 6 := Option.some.inj (scopeMeans_name.symm.trans hf) |>.symm
 obtain rfl : fn = Tryz.f6 := (Option.some.inj (Tryz.func6.symm.trans hfn)).symm
 refine ⟨by kernel_rfl, fun j t ht => ?_⟩
 rw [Tryz.params6] at ht
 have hm := Array.mem_of_getElem? ht
 simp only [List.mem_toArray, List.mem_cons, List.mem_nil_iff, or_false] at hm
 subst hm
 exact (show Tryz.prog.wantsStandIn 24 = false by kernel_rfl)
theorem goes_no {P : Program} {f : FuncId} (h1 : (P.closure f).any (fun g => (P.funcs[g]?).any Func.goes) = false) (h2 : P.funcs.any Func.goes = false) : P.goes f = false := by
 unfold Program.goes
 rw [h1, h2, Bool.and_false]
 rfl
theorem scopeMeans_g1 : (Tryz.prog.closure 6).any (fun g => (Tryz.prog.funcs[g]?).any Func.goes) = false := by kernel_rfl
theorem scopeMeans_g2 : Tryz.prog.funcs.any Func.goes = false := by kernel_rfl
theorem scopeMeans_g3 : Tryz.prog.inits.toList.any Tryz.prog.goes = false := by kernel_rfl
theorem scopeMeans_goes : false = Rows.scopeMeansUptoRow.goesBy Tryz.prog := by
 have e : Tryz.prog.goesFrom Rows.scopeMeansUptoRow.func = false := by
  unfold Program.goesFrom
  rw [scopeMeans_name]
  exact goes_no scopeMeans_g1 scopeMeans_g2
 unfold OpenClaim.goesBy Program.goesAt
 rw [e, Bool.false_or]
 exact scopeMeans_g3.symm
theorem scopeMeans_card : Rows.ScopeMeansUptoCardSaid :=
 Claim7.holds_tied_plain_at .later [] _ _ _ _ scopeMeans_said (fun _ h => by cases h) (by kernel_rfl) (fun _ h => by cases h) scopeMeansUpto_row_tie rfl ⟨rfl, rfl⟩ (by kernel_rfl) rfl scopeMeans_plain scopeMeans_goes
end Go.Proofs.YtmbilkpmnpmheaaGreatDoor

