/-
 ScopeFree returns true for every input where what it reads is of bulk at most 1048576; the arguments read behind the call as before. Conditions: those of the given card.
-/
import Derived.SevenTiedAt
import Derived.Test.YtmbilkpmnpmheaaGreatDoorCards
import Derived.Test.YtmbilkpmnpmheaaGreatDoorTie
import Derived.Test.YtmbilkpmnpmheaaGreatDoorF7
set_option linter.unusedSimpArgs false
set_option linter.unusedVariables false
namespace Go.Proofs.YtmbilkpmnpmheaaGreatDoor
set_option maxRecDepth 100000
set_option maxHeartbeats 4000000
open Go Go.Cb Go.ChangeShapes Go.WideShapes Go.ChangeAt Go.RowKit
theorem scopeFree_contract (H : Type) (enc : TypeId × Value → H) (F : Stop.Interp) (W : World) (base : Nat) (args : Array Value) (ds gs : List (DataW H)) (before : List MemPlace)
  (hval : ∀ (j : Nat) t v, Tryz.f7.params[j]? = some t → args[j]? = some v → Value.okWide Tryz.prog W .any base t v)
  (hW : DataW.Whole enc Tryz.prog Tryz.f7.params.toList ((Rows.OpenSpec.upto Rows.scopeFreeSpec).at F).vars false W args.toList ds gs before)
  (hcond : Rows.uptoSmall H (ds ++ gs) = true) :
  Calls Tryz.prog 7 args W fun e W' => ∃ v, e = .returned v ∧ ((Rows.OpenSpec.upto Rows.scopeFreeSpec).at F).post enc Tryz.prog Tryz.f7 false true false false W args v W' := by
 have hW' := hW
 obtain ⟨p, q, hA0, hV, rfl, hfz, hnd⟩ := hW
 have hA : DataW.TrodAll enc Tryz.prog W 0 (fun _ => true) true Tryz.f7.params.toList args.toList ds p := hA0
 rw [Tryz.params7] at hA hval
 obtain ⟨v0, vs0, d0, ds0, p0, q0, hargs, rfl, rfl, h0, r0⟩ := trodAll_cons hA
 obtain ⟨rfl, rfl, rfl⟩ := trodAll_nil r0
 obtain rfl : args = #[v0] := by cases args; simp_all
 obtain ⟨a0, hp0, hb0⟩ := arg_str bulkR Tryz.underlying9 (hval 0 _ v0 rfl rfl) h0
 have hb := of_decide_eq_true hcond
 simp only [List.cons_append, Rows.uptoBulkAll] at hb
 refine (calls_true (scopeFree_c a0) (vs := [v0]) (by simp only [RepT, and_true]; exact hp0)).mono ?_
 rintro e W' ⟨rfl, hbel⟩
 exact ⟨_, rfl, law_post laidOut (fun t ht => by
  rw [Tryz.params7] at ht
  simp only [List.mem_cons, List.mem_nil_iff, or_false] at ht
  subst ht
  exact okS) (by kernel_rfl) Tryz.underlying4 rfl (fun ds hd => by
  rw [Tryz.params7] at hd
  match ds, hd with
  | [a], _ => rfl) hW' hbel⟩
def scopeFree_args : Array Value := #[.string ⟨#[]⟩]
theorem scopeFree_witness (os : Os) {H : Type} (enc : TypeId × Value → H) :
  (Rows.OpenSpec.upto Rows.scopeFreeSpec).preRow enc Tryz.prog Tryz.f7 Rows.scopeFreeUptoRow.domain false Rows.scopeFreeUptoRow.laid ((laidWorld os).forCall (fun _ _ => 0) ⟨#[], scopeFree_args, []⟩).memory scopeFree_args := by
 have hw : (DataW.whole enc Tryz.prog ((laidWorld os).forCall (fun _ _ => 0) ⟨#[], scopeFree_args, []⟩).memory Tryz.f7.params.toList (Rows.OpenSpec.upto Rows.scopeFreeSpec).vars false scopeFree_args.toList 8).map (fun x => (x.1, x.2.1)) =
   some ([.lit (.string [])], []) := by kernel_rfl
 obtain ⟨⟨x1, x2, x3⟩, hx, hx1⟩ := Option.map_eq_some_iff.1 hw
 simp only [Prod.mk.injEq] at hx1
 obtain ⟨rfl, rfl⟩ := hx1
 exact OpenSpec.preRow_of_cond 8 hx (by kernel_rfl) (fun k hk => by cases hk; kernel_rfl) (by kernel_rfl) (laid_met os _)
theorem scopeFree_lifted (os : Os) (started : os.Started) (H : Type) (enc : TypeId × Value → H) (F : Stop.Interp) :
  ReturnsInHanded {} Tryz.checked os 7 .any ((Rows.OpenSpec.upto Rows.scopeFreeSpec).preRow enc Tryz.prog Tryz.f7 Rows.scopeFreeUptoRow.domain false Rows.scopeFreeUptoRow.laid) (((Rows.OpenSpec.upto Rows.scopeFreeSpec).at F).post enc Tryz.prog Tryz.f7 false true false false) := by
 refine returnsInHanded_of_row (C := Tryz.checked) (s := Rows.OpenSpec.upto Rows.scopeFreeSpec) own_none started (by kernel_rfl) Tryz.func7
  (witness_row_atRef (enc := enc) (C := Tryz.checked) false (laidWorld os) scopeFree_args rfl (by kernel_rfl) (by kernel_rfl) (by kernel_rfl) (scopeFree_witness os enc)) ?_
 intro W base args ds gs before hval hW _ hcond _ hL _ _
 exact scopeFree_contract H enc F W base args ds gs before hval hW (hcond _ rfl)
theorem scopeFree_name : Tryz.prog.funcNamed Rows.scopeFreeUptoRow.func = some 7 := by kernel_rfl
theorem scopeFree_inst : Tryz.f7.isInstance Tryz.prog Rows.scopeFreeUptoRow.origin Rows.scopeFreeUptoRow.targs := of_decide_eq_true (by kernel_rfl)
theorem scopeFree_wrap : Tryz.f7.isWrapper Tryz.prog Rows.scopeFreeUptoRow.wrapper Rows.scopeFreeUptoRow.mainSum := by
 unfold Func.isWrapper
 rw [if_neg (of_decide_eq_false (by kernel_rfl))]
 exact ⟨rfl, rfl⟩
theorem andI {a b : Bool} (h : a = true) (k : b = true) : (a && b) = true := by rw [h, k]; rfl
theorem scopeFree_f1 : (Rows.scopeFreeUptoRow.wf (OpenSpec.ofChange ((Rows.OpenSpec.upto Rows.scopeFreeSpec).bare))) = true := by kernel_rfl
theorem scopeFree_f2 : (laidOutB Tryz.prog) = true := by kernel_rfl
theorem scopeFree_f3 : (mapsRowed Tryz.prog) = true := by kernel_rfl
theorem scopeFree_f4 : (Tryz.f7.params.all (Tryz.prog.readableRec ·)) = true := by kernel_rfl
theorem scopeFree_f5 : (namedTie Tryz.prog Rows.scopeFreeUptoRow.named ((Rows.OpenSpec.upto Rows.scopeFreeSpec).bare).vars) = true := by kernel_rfl
theorem scopeFree_f6 : ((Rows.scopeFreeUptoRow.stops == [])) = true := by kernel_rfl
theorem scopeFree_f7 : ((Tryz.prog.stops == [])) = true := by kernel_rfl
theorem scopeFree_f8 : ((Rows.scopeFreeUptoRow.knobs == [])) = true := by kernel_rfl
theorem scopeFree_f9 : ((Tryz.prog.stopKnobs == [])) = true := by kernel_rfl
theorem scopeFree_f10 : ((Rows.scopeFreeUptoRow.inPlace == Tryz.prog.inPlace 7)) = true := by kernel_rfl
theorem scopeFree_f11 : ((Rows.scopeFreeUptoRow.unfollowed == Tryz.prog.unfollowed 7)) = true := by kernel_rfl
theorem scopeFree_f12 : ((Rows.scopeFreeUptoRow.recurses == Tryz.prog.recurses 7)) = true := by kernel_rfl
theorem scopeFree_f13 : ((Rows.scopeFreeUptoRow.named == Tryz.prog.varsNamed 7)) = true := by kernel_rfl
theorem scopeFree_f14 : ((Rows.scopeFreeUptoRow.maps == (Tryz.f7.params.toList ++ ((Rows.OpenSpec.upto Rows.scopeFreeSpec).bare).plain.varTypes Tryz.prog).any (Tryz.prog.mapsRec ·))) = true := by kernel_rfl
theorem scopeFree_f15 : ((Rows.scopeFreeUptoRow.ifaces == (Tryz.f7.params.toList ++ ((Rows.OpenSpec.upto Rows.scopeFreeSpec).bare).plain.varTypes Tryz.prog).any (Tryz.prog.ifacesRec ·))) = true := by kernel_rfl
theorem scopeFree_f16 : ((Rows.scopeFreeUptoRow.mapsOut == Tryz.prog.mapsAmong Tryz.f7.resultTypes.toList)) = true := by kernel_rfl
theorem scopeFree_f17 : ((Rows.scopeFreeUptoRow.loops == (Tryz.f7.params.toList ++ ((Rows.OpenSpec.upto Rows.scopeFreeSpec).bare).plain.varTypes Tryz.prog).any (Tryz.prog.loopsFrom ·))) = true := by kernel_rfl
theorem scopeFree_f18 : ((Rows.scopeFreeUptoRow.wideKeys == (Tryz.f7.params.toList ++ ((Rows.OpenSpec.upto Rows.scopeFreeSpec).bare).plain.varTypes Tryz.prog ++ Tryz.f7.resultTypes.toList).any (Tryz.prog.wideKeysFrom ·))) = true := by kernel_rfl
theorem scopeFree_f19 : (((Rows.OpenSpec.upto Rows.scopeFreeSpec).bare).vars.all (Tryz.prog.varReadable ·)) = true := by kernel_rfl
theorem scopeFree_f20 : (Tryz.f7.resultTypes.all (fun t => Tryz.prog.readableRec t && decide (t < Tryz.prog.types.size))) = true := by kernel_rfl
theorem scopeFree_f21 : ((Rows.scopeFreeUptoRow.ifacesOut == Tryz.f7.resultTypes.toList.any (Tryz.prog.ifacesRec ·))) = true := by kernel_rfl
theorem scopeFree_f22 : ((Rows.scopeFreeUptoRow.loopsOut == Tryz.f7.resultTypes.toList.any (Tryz.prog.loopsFrom ·))) = true := by kernel_rfl
theorem scopeFree_f23 : ((Rows.scopeFreeUptoRow.plainKeys == Tryz.prog.plainKeys)) = true := by kernel_rfl
theorem scopeFree_f24 : (Rows.scopeFreeUptoRow.shortTexts.isNone) = true := by kernel_rfl
theorem scopeFree_f25 : (Tryz.prog.stopsHeard) = true := by kernel_rfl
theorem scopeFree_f26 : (Tryz.prog.mayEnter) = true := by kernel_rfl
theorem scopeFree_f27 : ((Rows.scopeFreeUptoRow.lifted == Tryz.prog.liftsFinal)) = true := by kernel_rfl
theorem scopeFree_f28 : ((Tryz.prog.make == some Rows.scopeFreeUptoRow.make)) = true := by kernel_rfl
theorem scopeFree_f29 : ((Rows.scopeFreeUptoRow.kinds == (if Rows.scopeFreeUptoRow.domain.isEmpty then [] else Tryz.f7.params.toList.map fun t => match Tryz.prog.underlying t with | some (.int k) => some k | _ => none))) = true := by kernel_rfl
theorem scopeFree_f30 : ((Rows.scopeFreeUptoRow.pinned == Rows.scopeFreeUptoRow.pinnedBy)) = true := by kernel_rfl
theorem scopeFree_f31 : ((Rows.scopeFreeUptoRow.veiled == (Tryz.f7.params.toList ++ ((Rows.OpenSpec.upto Rows.scopeFreeSpec).bare).plain.varTypes Tryz.prog ++ Tryz.f7.resultTypes.toList).any (Tryz.prog.veiledRec ·))) = true := by kernel_rfl
theorem scopeFree_f32 : (Rows.scopeFreeUptoRow.veiledFits Tryz.prog Tryz.f7.params.toList (Tryz.f7.params.toList ++ ((Rows.OpenSpec.upto Rows.scopeFreeSpec).bare).plain.varTypes Tryz.prog ++ Tryz.f7.resultTypes.toList)) = true := by kernel_rfl
theorem scopeFree_facts : joinedFacts Tryz.prog 7 Tryz.f7 (Rows.OpenSpec.upto Rows.scopeFreeSpec).bare Rows.scopeFreeUptoRow = true := by
 unfold joinedFacts
 exact (andI (andI (andI (andI (andI (andI (andI (andI (andI (andI (andI (andI (andI (andI (andI (andI (andI (andI (andI (andI (andI (andI (andI (andI (andI (andI (andI (andI (andI (andI (andI scopeFree_f1 scopeFree_f2) scopeFree_f3) scopeFree_f4) scopeFree_f5) scopeFree_f6) scopeFree_f7) scopeFree_f8) scopeFree_f9) scopeFree_f10) scopeFree_f11) scopeFree_f12) scopeFree_f13) scopeFree_f14) scopeFree_f15) scopeFree_f16) scopeFree_f17) scopeFree_f18) scopeFree_f19) scopeFree_f20) scopeFree_f21) scopeFree_f22) scopeFree_f23) scopeFree_f24) scopeFree_f25) scopeFree_f26) scopeFree_f27) scopeFree_f28) scopeFree_f29) scopeFree_f30) scopeFree_f31) scopeFree_f32)
theorem scopeFree_said : Rows.ScopeFreeUptoSaid :=
 OpenClaim.holds_of_cond 7 Tryz.f7 rfl rfl rfl rfl rfl rfl rfl ⟨rfl, rfl, rfl, rfl, rfl⟩ rfl rfl rfl rfl rfl scopeFree_name Tryz.func7 scopeFree_facts scopeFree_inst scopeFree_wrap
  (fun os started H enc _ F => by rw [OpenClaim.pre_eq_preRow]; exact scopeFree_lifted os started H enc F)
theorem scopeFree_plain (f : FuncId) (fn : Func) (hf : Tryz.pinned.checked.prog.funcNamed Rows.scopeFreeUptoRow.func = some f) (hfn : Tryz.pinned.checked.prog.funcs[f]? = some fn) :
  true = Tryz.pinned.checked.prog.looks [] ∧ ∀ (j : Nat) t, fn.params[j]? = some t → Tryz.pinned.checked.prog.wantsStandIn t = false := by
 obtain rfl : f = 7 := Option.some.inj (scopeFree_name.symm.trans hf) |>.symm
 obtain rfl : fn = Tryz.f7 := (Option.some.inj (Tryz.func7.symm.trans hfn)).symm
 refine ⟨by kernel_rfl, fun j t ht => ?_⟩
 rw [Tryz.params7] at ht
 have hm := Array.mem_of_getElem? ht
 simp only [List.mem_toArray, List.mem_cons, List.mem_nil_iff, or_false] at hm
 subst hm
 exact (show Tryz.prog.wantsStandIn 9 = false by kernel_rfl)
theorem goes_no {P : Program} {f : FuncId} (h1 : (P.closure f).any (fun g => (P.funcs[g]?).any Func.goes) = false) (h2 : P.funcs.any Func.goes = false) : P.goes f = false := by
 unfold Program.goes
 rw [h1, h2, Bool.and_false]
 rfl
theorem scopeFree_g1 : (Tryz.prog.closure 7).any (fun g => (Tryz.prog.funcs[g]?).any Func.goes) = false := by kernel_rfl
theorem scopeFree_g2 : Tryz.prog.funcs.any Func.goes = false := by kernel_rfl
theorem scopeFree_g3 : Tryz.prog.inits.toList.any Tryz.prog.goes = false := by kernel_rfl
theorem scopeFree_goes : false = Rows.scopeFreeUptoRow.goesBy Tryz.prog := by
 have e : Tryz.prog.goesFrom Rows.scopeFreeUptoRow.func = false := by
  unfold Program.goesFrom
  rw [scopeFree_name]
  exact goes_no scopeFree_g1 scopeFree_g2
 unfold OpenClaim.goesBy Program.goesAt
 rw [e, Bool.false_or]
 exact scopeFree_g3.symm
theorem scopeFree_card : Rows.ScopeFreeUptoCardSaid :=
 Claim7.holds_tied_plain_at .later [] _ _ _ _ scopeFree_said (fun _ h => by cases h) (by kernel_rfl) (fun _ h => by cases h) scopeFreeUpto_row_tie rfl ⟨rfl, rfl⟩ (by kernel_rfl) rfl scopeFree_plain scopeFree_goes
end Go.Proofs.YtmbilkpmnpmheaaGreatDoor

