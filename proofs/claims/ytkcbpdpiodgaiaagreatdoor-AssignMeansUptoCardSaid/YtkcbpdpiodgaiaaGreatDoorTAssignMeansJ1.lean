/-
 AssignMeans returns true for every input where what it reads is of bulk at most 1048576; the arguments read behind the call as before. Conditions: those of the given card.
-/
import Derived.SevenTiedAt
import Derived.Test.YtkcbpdpiodgaiaaGreatDoorCards
import Derived.Test.YtkcbpdpiodgaiaaGreatDoorTie
import Derived.Test.YtkcbpdpiodgaiaaGreatDoorA8
set_option linter.unusedSimpArgs false
set_option linter.unusedVariables false
namespace Go.Proofs.YtkcbpdpiodgaiaaGreatDoor
set_option maxRecDepth 100000
set_option maxHeartbeats 4000000
open Go Go.Cb Go.ChangeShapes Go.WideShapes Go.ChangeAt Go.RowKit
theorem assignMeans_contract (H : Type) (enc : TypeId × Value → H) (F : Stop.Interp) (W : World) (base : Nat) (args : Array Value) (ds gs : List (DataW H)) (before : List MemPlace)
  (hval : ∀ (j : Nat) t v, Tryz.f4.params[j]? = some t → args[j]? = some v → Value.okWide Tryz.prog W .any base t v)
  (hW : DataW.Whole enc Tryz.prog Tryz.f4.params.toList ((Rows.OpenSpec.upto Rows.assignMeansSpec).at F).vars false W args.toList ds gs before)
  (hcond : Rows.uptoSmall H (ds ++ gs) = true) :
  Calls Tryz.prog 4 args W fun e W' => ∃ v, e = .returned v ∧ ((Rows.OpenSpec.upto Rows.assignMeansSpec).at F).post enc Tryz.prog Tryz.f4 false true false false W args v W' := by
 have hW' := hW
 obtain ⟨p, q, hA0, hV, rfl, hfz, hnd⟩ := hW
 have hA : DataW.TrodAll enc Tryz.prog W 0 (fun _ => true) true Tryz.f4.params.toList args.toList ds p := hA0
 rw [Tryz.params4] at hA hval
 obtain ⟨v0, vs0, d0, ds0, p0, q0, hargs, rfl, rfl, h0, r0⟩ := trodAll_cons hA
 obtain ⟨v1, vs1, d1, ds1, p1, q1, rfl, rfl, rfl, h1, r1⟩ := trodAll_cons r0
 obtain ⟨rfl, rfl, rfl⟩ := trodAll_nil r1
 obtain rfl : args = #[v0, v1] := by cases args; simp_all
 obtain ⟨a0, hp0, hb0⟩ := arg_struct Tryz.underlying28 rdP (hval 0 _ v0 rfl rfl) h0
 obtain ⟨a1, hp1, hw1⟩ := arg_int Tryz.underlying3 (hval 1 _ v1 rfl rfl) h1
 simp [Lit.wf, IntKind.min, IntKind.max, IntKind.signed, IntKind.bits] at hw1
 have hb := of_decide_eq_true hcond
 simp only [List.cons_append, Rows.uptoBulkAll] at hb
 have hl0 := Datum.bulks_length a0.consts
 have hq0 : Datum.bulks a0.consts + a0.body.bulk ≤ Rows.uptoBulk d0 := hb0
 refine (calls_true (assignMeans_c a0 a1 (by omega)) (vs := [v0, v1]) (by simp only [RepT, and_true]; exact ⟨hp0, hp1⟩)).mono ?_
 rintro e W' ⟨rfl, hbel⟩
 exact ⟨_, rfl, law_post laidOut (fun t ht => by
  rw [Tryz.params4] at ht
  simp only [List.mem_cons, List.mem_nil_iff, or_false] at ht
  rcases ht with rfl | rfl
  ·exact okP
  ·exact okI) (by kernel_rfl) Tryz.underlying4 rfl (fun ds hd => by
  rw [Tryz.params4] at hd
  match ds, hd with
  | [a, b], _ => rfl) hW' hbel⟩
def assignMeans_args : Array Value := #[.agg #[.slice none 0 0, .int .i64 0, .int .i64 0, .slice none 0 0, .slice none 0 0], .int .i64 0]
theorem assignMeans_witness (os : Os) {H : Type} (enc : TypeId × Value → H) :
  (Rows.OpenSpec.upto Rows.assignMeansSpec).preRow enc Tryz.prog Tryz.f4 Rows.assignMeansUptoRow.domain false Rows.assignMeansUptoRow.laid ((laidWorld os).forCall (fun _ _ => 0) ⟨#[], assignMeans_args, []⟩).memory assignMeans_args := by
 have hw : (DataW.whole enc Tryz.prog ((laidWorld os).forCall (fun _ _ => 0) ⟨#[], assignMeans_args, []⟩).memory Tryz.f4.params.toList (Rows.OpenSpec.upto Rows.assignMeansSpec).vars false assignMeans_args.toList 8).map (fun x => (x.1, x.2.1)) =
   some ([.agg [.nil, .agg [.lit (.int .i64 0), .lit (.int .i64 0), .nil, .nil]], .lit (.int .i64 0)], []) := by kernel_rfl
 obtain ⟨⟨x1, x2, x3⟩, hx, hx1⟩ := Option.map_eq_some_iff.1 hw
 simp only [Prod.mk.injEq] at hx1
 obtain ⟨rfl, rfl⟩ := hx1
 exact OpenSpec.preRow_of_cond 8 hx (by kernel_rfl) (fun k hk => by cases hk; kernel_rfl) (by kernel_rfl) (laid_met os _)
theorem assignMeans_lifted (os : Os) (started : os.Started) (H : Type) (enc : TypeId × Value → H) (F : Stop.Interp) :
  ReturnsInHanded {} Tryz.checked os 4 .any ((Rows.OpenSpec.upto Rows.assignMeansSpec).preRow enc Tryz.prog Tryz.f4 Rows.assignMeansUptoRow.domain false Rows.assignMeansUptoRow.laid) (((Rows.OpenSpec.upto Rows.assignMeansSpec).at F).post enc Tryz.prog Tryz.f4 false true false false) := by
 refine returnsInHanded_of_row (C := Tryz.checked) (s := Rows.OpenSpec.upto Rows.assignMeansSpec) own_none started (by kernel_rfl) Tryz.func4
  (witness_row_atRef (enc := enc) (C := Tryz.checked) false (laidWorld os) assignMeans_args rfl (by kernel_rfl) (by kernel_rfl) (by kernel_rfl) (assignMeans_witness os enc)) ?_
 intro W base args ds gs before hval hW _ hcond _ hL _ _
 exact assignMeans_contract H enc F W base args ds gs before hval hW (hcond _ rfl)
theorem assignMeans_name : Tryz.prog.funcNamed Rows.assignMeansUptoRow.func = some 4 := by kernel_rfl
theorem assignMeans_inst : Tryz.f4.isInstance Tryz.prog Rows.assignMeansUptoRow.origin Rows.assignMeansUptoRow.targs := of_decide_eq_true (by kernel_rfl)
theorem assignMeans_wrap : Tryz.f4.isWrapper Tryz.prog Rows.assignMeansUptoRow.wrapper Rows.assignMeansUptoRow.mainSum := by
 unfold Func.isWrapper
 rw [if_neg (of_decide_eq_false (by kernel_rfl))]
 exact ⟨rfl, rfl⟩
theorem andI {a b : Bool} (h : a = true) (k : b = true) : (a && b) = true := by rw [h, k]; rfl
theorem assignMeans_f1 : (Rows.assignMeansUptoRow.wf (OpenSpec.ofChange ((Rows.OpenSpec.upto Rows.assignMeansSpec).bare))) = true := by kernel_rfl
theorem assignMeans_f2 : (laidOutB Tryz.prog) = true := by kernel_rfl
theorem assignMeans_f3 : (mapsRowed Tryz.prog) = true := by kernel_rfl
theorem assignMeans_f4 : (Tryz.f4.params.all (Tryz.prog.readableRec ·)) = true := by kernel_rfl
theorem assignMeans_f5 : (namedTie Tryz.prog Rows.assignMeansUptoRow.named ((Rows.OpenSpec.upto Rows.assignMeansSpec).bare).vars) = true := by kernel_rfl
theorem assignMeans_f6 : ((Rows.assignMeansUptoRow.stops == [])) = true := by kernel_rfl
theorem assignMeans_f7 : ((Tryz.prog.stops == [])) = true := by kernel_rfl
theorem assignMeans_f8 : ((Rows.assignMeansUptoRow.knobs == [])) = true := by kernel_rfl
theorem assignMeans_f9 : ((Tryz.prog.stopKnobs == [])) = true := by kernel_rfl
theorem assignMeans_f10 : ((Rows.assignMeansUptoRow.inPlace == Tryz.prog.inPlace 4)) = true := by kernel_rfl
theorem assignMeans_f11 : ((Rows.assignMeansUptoRow.unfollowed == Tryz.prog.unfollowed 4)) = true := by kernel_rfl
theorem assignMeans_f12 : ((Rows.assignMeansUptoRow.recurses == Tryz.prog.recurses 4)) = true := by kernel_rfl
theorem assignMeans_f13 : ((Rows.assignMeansUptoRow.named == Tryz.prog.varsNamed 4)) = true := by kernel_rfl
theorem assignMeans_f14 : ((Rows.assignMeansUptoRow.maps == (Tryz.f4.params.toList ++ ((Rows.OpenSpec.upto Rows.assignMeansSpec).bare).plain.varTypes Tryz.prog).any (Tryz.prog.mapsRec ·))) = true := by kernel_rfl
theorem assignMeans_f15 : ((Rows.assignMeansUptoRow.ifaces == (Tryz.f4.params.toList ++ ((Rows.OpenSpec.upto Rows.assignMeansSpec).bare).plain.varTypes Tryz.prog).any (Tryz.prog.ifacesRec ·))) = true := by kernel_rfl
theorem assignMeans_f16 : ((Rows.assignMeansUptoRow.mapsOut == Tryz.prog.mapsAmong Tryz.f4.resultTypes.toList)) = true := by kernel_rfl
theorem assignMeans_f17 : ((Rows.assignMeansUptoRow.loops == (Tryz.f4.params.toList ++ ((Rows.OpenSpec.upto Rows.assignMeansSpec).bare).plain.varTypes Tryz.prog).any (Tryz.prog.loopsFrom ·))) = true := by kernel_rfl
theorem assignMeans_f18 : ((Rows.assignMeansUptoRow.wideKeys == (Tryz.f4.params.toList ++ ((Rows.OpenSpec.upto Rows.assignMeansSpec).bare).plain.varTypes Tryz.prog ++ Tryz.f4.resultTypes.toList).any (Tryz.prog.wideKeysFrom ·))) = true := by kernel_rfl
theorem assignMeans_f19 : (((Rows.OpenSpec.upto Rows.assignMeansSpec).bare).vars.all (Tryz.prog.varReadable ·)) = true := by kernel_rfl
theorem assignMeans_f20 : (Tryz.f4.resultTypes.all (fun t => Tryz.prog.readableRec t && decide (t < Tryz.prog.types.size))) = true := by kernel_rfl
theorem assignMeans_f21 : ((Rows.assignMeansUptoRow.ifacesOut == Tryz.f4.resultTypes.toList.any (Tryz.prog.ifacesRec ·))) = true := by kernel_rfl
theorem assignMeans_f22 : ((Rows.assignMeansUptoRow.loopsOut == Tryz.f4.resultTypes.toList.any (Tryz.prog.loopsFrom ·))) = true := by kernel_rfl
theorem assignMeans_f23 : ((Rows.assignMeansUptoRow.plainKeys == Tryz.prog.plainKeys)) = true := by kernel_rfl
theorem assignMeans_f24 : (Rows.assignMeansUptoRow.shortTexts.isNone) = true := by kernel_rfl
theorem assignMeans_f25 : (Tryz.prog.stopsHeard) = true := by kernel_rfl
theorem assignMeans_f26 : (Tryz.prog.mayEnter) = true := by kernel_rfl
theorem assignMeans_f27 : ((Rows.assignMeansUptoRow.lifted == Tryz.prog.liftsFinal)) = true := by kernel_rfl
theorem assignMeans_f28 : ((Tryz.prog.make == some Rows.assignMeansUptoRow.make)) = true := by kernel_rfl
theorem assignMeans_f29 : ((Rows.assignMeansUptoRow.kinds == (if Rows.assignMeansUptoRow.domain.isEmpty then [] else Tryz.f4.params.toList.map fun t => match Tryz.prog.underlying t with | some (.int k) => some k | _ => none))) = true := by kernel_rfl
theorem assignMeans_f30 : ((Rows.assignMeansUptoRow.pinned == Rows.assignMeansUptoRow.pinnedBy)) = true := by kernel_rfl
theorem assignMeans_f31 : ((Rows.assignMeansUptoRow.veiled == (Tryz.f4.params.toList ++ ((Rows.OpenSpec.upto Rows.assignMeansSpec).bare).plain.varTypes Tryz.prog ++ Tryz.f4.resultTypes.toList).any (Tryz.prog.veiledRec ·))) = true := by kernel_rfl
theorem assignMeans_f32 : (Rows.assignMeansUptoRow.veiledFits Tryz.prog Tryz.f4.params.toList (Tryz.f4.params.toList ++ ((Rows.OpenSpec.upto Rows.assignMeansSpec).bare).plain.varTypes Tryz.prog ++ Tryz.f4.resultTypes.toList)) = true := by kernel_rfl
theorem assignMeans_facts : joinedFacts Tryz.prog 4 Tryz.f4 (Rows.OpenSpec.upto Rows.assignMeansSpec).bare Rows.assignMeansUptoRow = true := by
 unfold joinedFacts
 exact (andI (andI (andI (andI (andI (andI (andI (andI (andI (andI (andI (andI (andI (andI (andI (andI (andI (andI (andI (andI (andI (andI (andI (andI (andI (andI (andI (andI (andI (andI (andI assignMeans_f1 assignMeans_f2) assignMeans_f3) assignMeans_f4) assignMeans_f5) assignMeans_f6) assignMeans_f7) assignMeans_f8) assignMeans_f9) assignMeans_f10) assignMeans_f11) assignMeans_f12) assignMeans_f13) assignMeans_f14) assignMeans_f15) assignMeans_f16) assignMeans_f17) assignMeans_f18) assignMeans_f19) assignMeans_f20) assignMeans_f21) assignMeans_f22) assignMeans_f23) assignMeans_f24) assignMeans_f25) assignMeans_f26) assignMeans_f27) assignMeans_f28) assignMeans_f29) assignMeans_f30) assignMeans_f31) assignMeans_f32)
theorem assignMeans_said : Rows.AssignMeansUptoSaid :=
 OpenClaim.holds_of_cond 4 Tryz.f4 rfl rfl rfl rfl rfl rfl rfl ⟨rfl, rfl, rfl, rfl, rfl⟩ rfl rfl rfl rfl rfl assignMeans_name Tryz.func4 assignMeans_facts assignMeans_inst assignMeans_wrap
  (fun os started H enc _ F => by rw [OpenClaim.pre_eq_preRow]; exact assignMeans_lifted os started H enc F)
theorem assignMeans_plain (f : FuncId) (fn : Func) (hf : Tryz.pinned.checked.prog.funcNamed Rows.assignMeansUptoRow.func = some f) (hfn : Tryz.pinned.checked.prog.funcs[f]? = some fn) :
  true = Tryz.pinned.checked.prog.looks [] ∧ ∀ (j : Nat) t, fn.params[j]? = some t → Tryz.pinned.checked.prog.wantsStandIn t = false := by
 obtain rfl : f = 4 := Option.some.inj (assignMeans_name.symm.trans hf) |>.symm
 obtain rfl : fn = Tryz.f4 := (Option.some.inj (Tryz.func4.symm.trans hfn)).symm
 refine ⟨by kernel_rfl, fun j t ht => ?_⟩
 rw [Tryz.params4] at ht
 have hm := Array.mem_of_getElem? ht
 simp only [List.mem_toArray, List.mem_cons, List.mem_nil_iff, or_false] at hm
 rcases hm with rfl | rfl
 ·exact (show Tryz.prog.wantsStandIn 28 = false by kernel_rfl)
 ·exact (show Tryz.prog.wantsStandIn 3 = false by kernel_rfl)
theorem goes_no {P : Program} {f : FuncId} (h1 : (P.closure f).any (fun g => (P.funcs[g]?).any Func.goes) = false) (h2 : P.funcs.any Func.goes = false) : P.goes f = false := by
 unfold Program.goes
 rw [h1, h2, Bool.and_false]
 rfl
theorem assignMeans_g1 : (Tryz.prog.closure 4).any (fun g => (Tryz.prog.funcs[g]?).any Func.goes) = false := by kernel_rfl
theorem assignMeans_g2 : Tryz.prog.funcs.any Func.goes = false := by kernel_rfl
theorem assignMeans_g3 : Tryz.prog.inits.toList.any Tryz.prog.goes = false := by kernel_rfl
theorem assignMeans_goes : false = Rows.assignMeansUptoRow.goesBy Tryz.prog := by
 have e : Tryz.prog.goesFrom Rows.assignMeansUptoRow.func = false := by
  unfold Program.goesFrom
  rw [assignMeans_name]
  exact goes_no assignMeans_g1 assignMeans_g2
 unfold OpenClaim.goesBy Program.goesAt
 rw [e, Bool.false_or]
 exact assignMeans_g3.symm
theorem assignMeans_card : Rows.AssignMeansUptoCardSaid :=
 Claim7.holds_tied_plain_at .later [] _ _ _ _ assignMeans_said (fun _ h => by cases h) (by kernel_rfl) (fun _ h => by cases h) assignMeansUpto_row_tie rfl ⟨rfl, rfl⟩ (by kernel_rfl) rfl assignMeans_plain assignMeans_goes
end Go.Proofs.YtkcbpdpiodgaiaaGreatDoor

