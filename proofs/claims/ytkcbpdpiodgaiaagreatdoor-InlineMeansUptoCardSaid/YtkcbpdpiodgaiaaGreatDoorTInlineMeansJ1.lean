/-
 InlineMeans returns true for every input where what it reads is of bulk at most 1048576; the arguments read behind the call as before. Conditions: those of the given card.
-/
import Derived.SevenTiedAt
import Derived.Test.YtkcbpdpiodgaiaaGreatDoorCards
import Derived.Test.YtkcbpdpiodgaiaaGreatDoorTie
import Derived.Test.YtkcbpdpiodgaiaaGreatDoorB8
set_option linter.unusedSimpArgs false
set_option linter.unusedVariables false
namespace Go.Proofs.YtkcbpdpiodgaiaaGreatDoor
set_option maxRecDepth 100000
set_option maxHeartbeats 4000000
open Go Go.Cb Go.ChangeShapes Go.WideShapes Go.ChangeAt Go.RowKit
theorem inlineMeans_contract (H : Type) (enc : TypeId × Value → H) (F : Stop.Interp) (W : World) (base : Nat) (args : Array Value) (ds gs : List (DataW H)) (before : List MemPlace)
  (hval : ∀ (j : Nat) t v, Tryz.f3.params[j]? = some t → args[j]? = some v → Value.okWide Tryz.prog W .any base t v)
  (hW : DataW.Whole enc Tryz.prog Tryz.f3.params.toList ((Rows.OpenSpec.upto Rows.inlineMeansSpec).at F).vars false W args.toList ds gs before)
  (hcond : Rows.uptoSmall H (ds ++ gs) = true) :
  Calls Tryz.prog 3 args W fun e W' => ∃ v, e = .returned v ∧ ((Rows.OpenSpec.upto Rows.inlineMeansSpec).at F).post enc Tryz.prog Tryz.f3 false true false false W args v W' := by
 have hW' := hW
 obtain ⟨p, q, hA0, hV, rfl, hfz, hnd⟩ := hW
 have hA : DataW.TrodAll enc Tryz.prog W 0 (fun _ => true) true Tryz.f3.params.toList args.toList ds p := hA0
 rw [Tryz.params3] at hA hval
 obtain ⟨v0, vs0, d0, ds0, p0, q0, hargs, rfl, rfl, h0, r0⟩ := trodAll_cons hA
 obtain ⟨v1, vs1, d1, ds1, p1, q1, rfl, rfl, rfl, h1, r1⟩ := trodAll_cons r0
 obtain ⟨v2, vs2, d2, ds2, p2, q2, rfl, rfl, rfl, h2, r2⟩ := trodAll_cons r1
 obtain ⟨rfl, rfl, rfl⟩ := trodAll_nil r2
 obtain rfl : args = #[v0, v1, v2] := by cases args; simp_all
 obtain ⟨a0, hp0, hb0⟩ := arg_struct Tryz.underlying28 rdP (hval 0 _ v0 rfl rfl) h0
 obtain ⟨a1, hp1, hb1⟩ := arg_struct Tryz.underlying30 rdCt (hval 1 _ v1 rfl rfl) h1
 obtain ⟨a2, hp2, hw2⟩ := arg_int Tryz.underlying3 (hval 2 _ v2 rfl rfl) h2
 simp [Lit.wf, IntKind.min, IntKind.max, IntKind.signed, IntKind.bits] at hw2
 have hb := of_decide_eq_true hcond
 simp only [List.cons_append, Rows.uptoBulkAll] at hb
 have hl0 := Datum.bulks_length a0.consts
 have hq0 : Datum.bulks a0.consts + a0.body.bulk ≤ Rows.uptoBulk d0 := hb0
 refine (calls_true (inlineMeans_c a0 a1.1 a2 (by omega) a1.2) (vs := [v0, v1, v2]) (by simp only [RepT, and_true]; exact ⟨hp0, hp1, hp2⟩)).mono ?_
 rintro e W' ⟨rfl, hbel⟩
 exact ⟨_, rfl, law_post laidOut (fun t ht => by
  rw [Tryz.params3] at ht
  simp only [List.mem_cons, List.mem_nil_iff, or_false] at ht
  rcases ht with rfl | rfl | rfl
  ·exact okP
  ·exact okCt
  ·exact okI) (by kernel_rfl) Tryz.underlying4 rfl (fun ds hd => by
  rw [Tryz.params3] at hd
  match ds, hd with
  | [a, b, c], _ => rfl) hW' hbel⟩
def inlineMeans_args : Array Value := #[.agg #[.slice none 0 0, .int .i64 0, .int .i64 0, .slice none 0 0, .slice none 0 0], .agg #[.int .i64 0, .int .i64 0, .int .i64 0], .int .i64 0]
theorem inlineMeans_witness (os : Os) {H : Type} (enc : TypeId × Value → H) :
  (Rows.OpenSpec.upto Rows.inlineMeansSpec).preRow enc Tryz.prog Tryz.f3 Rows.inlineMeansUptoRow.domain false Rows.inlineMeansUptoRow.laid ((laidWorld os).forCall (fun _ _ => 0) ⟨#[], inlineMeans_args, []⟩).memory inlineMeans_args := by
 have hw : (DataW.whole enc Tryz.prog ((laidWorld os).forCall (fun _ _ => 0) ⟨#[], inlineMeans_args, []⟩).memory Tryz.f3.params.toList (Rows.OpenSpec.upto Rows.inlineMeansSpec).vars false inlineMeans_args.toList 8).map (fun x => (x.1, x.2.1)) =
   some ([.agg [.nil, .agg [.lit (.int .i64 0), .lit (.int .i64 0), .nil, .nil]], .agg [.lit (.int .i64 0), .lit (.int .i64 0), .lit (.int .i64 0)], .lit (.int .i64 0)], []) := by kernel_rfl
 obtain ⟨⟨x1, x2, x3⟩, hx, hx1⟩ := Option.map_eq_some_iff.1 hw
 simp only [Prod.mk.injEq] at hx1
 obtain ⟨rfl, rfl⟩ := hx1
 exact OpenSpec.preRow_of_cond 8 hx (by kernel_rfl) (fun k hk => by cases hk; kernel_rfl) (by kernel_rfl) (laid_met os _)
theorem inlineMeans_lifted (os : Os) (started : os.Started) (H : Type) (enc : TypeId × Value → H) (F : Stop.Interp) :
  ReturnsInHanded {} Tryz.checked os 3 .any ((Rows.OpenSpec.upto Rows.inlineMeansSpec).preRow enc Tryz.prog Tryz.f3 Rows.inlineMeansUptoRow.domain false Rows.inlineMeansUptoRow.laid) (((Rows.OpenSpec.upto Rows.inlineMeansSpec).at F).post enc Tryz.prog Tryz.f3 false true false false) := by
 refine returnsInHanded_of_row (C := Tryz.checked) (s := Rows.OpenSpec.upto Rows.inlineMeansSpec) own_none started (by kernel_rfl) Tryz.func3
  (witness_row_atRef (enc := enc) (C := Tryz.checked) false (laidWorld os) inlineMeans_args rfl (by kernel_rfl) (by kernel_rfl) (by kernel_rfl) (inlineMeans_witness os enc)) ?_
 intro W base args ds gs before hval hW _ hcond _ hL _ _
 exact inlineMeans_contract H enc F W base args ds gs before hval hW (hcond _ rfl)
theorem inlineMeans_name : Tryz.prog.funcNamed Rows.inlineMeansUptoRow.func = some 3 := by kernel_rfl
theorem inlineMeans_inst : Tryz.f3.isInstance Tryz.prog Rows.inlineMeansUptoRow.origin Rows.inlineMeansUptoRow.targs := of_decide_eq_true (by kernel_rfl)
theorem inlineMeans_wrap : Tryz.f3.isWrapper Tryz.prog Rows.inlineMeansUptoRow.wrapper Rows.inlineMeansUptoRow.mainSum := by
 unfold Func.isWrapper
 rw [if_neg (of_decide_eq_false (by kernel_rfl))]
 exact ⟨rfl, rfl⟩
theorem andI {a b : Bool} (h : a = true) (k : b = true) : (a && b) = true := by rw [h, k]; rfl
theorem inlineMeans_f1 : (Rows.inlineMeansUptoRow.wf (OpenSpec.ofChange ((Rows.OpenSpec.upto Rows.inlineMeansSpec).bare))) = true := by kernel_rfl
theorem inlineMeans_f2 : (laidOutB Tryz.prog) = true := by kernel_rfl
theorem inlineMeans_f3 : (mapsRowed Tryz.prog) = true := by kernel_rfl
theorem inlineMeans_f4 : (Tryz.f3.params.all (Tryz.prog.readableRec ·)) = true := by kernel_rfl
theorem inlineMeans_f5 : (namedTie Tryz.prog Rows.inlineMeansUptoRow.named ((Rows.OpenSpec.upto Rows.inlineMeansSpec).bare).vars) = true := by kernel_rfl
theorem inlineMeans_f6 : ((Rows.inlineMeansUptoRow.stops == [])) = true := by kernel_rfl
theorem inlineMeans_f7 : ((Tryz.prog.stops == [])) = true := by kernel_rfl
theorem inlineMeans_f8 : ((Rows.inlineMeansUptoRow.knobs == [])) = true := by kernel_rfl
theorem inlineMeans_f9 : ((Tryz.prog.stopKnobs == [])) = true := by kernel_rfl
theorem inlineMeans_f10 : ((Rows.inlineMeansUptoRow.inPlace == Tryz.prog.inPlace 3)) = true := by kernel_rfl
theorem inlineMeans_f11 : ((Rows.inlineMeansUptoRow.unfollowed == Tryz.prog.unfollowed 3)) = true := by kernel_rfl
theorem inlineMeans_f12 : ((Rows.inlineMeansUptoRow.recurses == Tryz.prog.recurses 3)) = true := by kernel_rfl
theorem inlineMeans_f13 : ((Rows.inlineMeansUptoRow.named == Tryz.prog.varsNamed 3)) = true := by kernel_rfl
theorem inlineMeans_f14 : ((Rows.inlineMeansUptoRow.maps == (Tryz.f3.params.toList ++ ((Rows.OpenSpec.upto Rows.inlineMeansSpec).bare).plain.varTypes Tryz.prog).any (Tryz.prog.mapsRec ·))) = true := by kernel_rfl
theorem inlineMeans_f15 : ((Rows.inlineMeansUptoRow.ifaces == (Tryz.f3.params.toList ++ ((Rows.OpenSpec.upto Rows.inlineMeansSpec).bare).plain.varTypes Tryz.prog).any (Tryz.prog.ifacesRec ·))) = true := by kernel_rfl
theorem inlineMeans_f16 : ((Rows.inlineMeansUptoRow.mapsOut == Tryz.prog.mapsAmong Tryz.f3.resultTypes.toList)) = true := by kernel_rfl
theorem inlineMeans_f17 : ((Rows.inlineMeansUptoRow.loops == (Tryz.f3.params.toList ++ ((Rows.OpenSpec.upto Rows.inlineMeansSpec).bare).plain.varTypes Tryz.prog).any (Tryz.prog.loopsFrom ·))) = true := by kernel_rfl
theorem inlineMeans_f18 : ((Rows.inlineMeansUptoRow.wideKeys == (Tryz.f3.params.toList ++ ((Rows.OpenSpec.upto Rows.inlineMeansSpec).bare).plain.varTypes Tryz.prog ++ Tryz.f3.resultTypes.toList).any (Tryz.prog.wideKeysFrom ·))) = true := by kernel_rfl
theorem inlineMeans_f19 : (((Rows.OpenSpec.upto Rows.inlineMeansSpec).bare).vars.all (Tryz.prog.varReadable ·)) = true := by kernel_rfl
theorem inlineMeans_f20 : (Tryz.f3.resultTypes.all (fun t => Tryz.prog.readableRec t && decide (t < Tryz.prog.types.size))) = true := by kernel_rfl
theorem inlineMeans_f21 : ((Rows.inlineMeansUptoRow.ifacesOut == Tryz.f3.resultTypes.toList.any (Tryz.prog.ifacesRec ·))) = true := by kernel_rfl
theorem inlineMeans_f22 : ((Rows.inlineMeansUptoRow.loopsOut == Tryz.f3.resultTypes.toList.any (Tryz.prog.loopsFrom ·))) = true := by kernel_rfl
theorem inlineMeans_f23 : ((Rows.inlineMeansUptoRow.plainKeys == Tryz.prog.plainKeys)) = true := by kernel_rfl
theorem inlineMeans_f24 : (Rows.inlineMeansUptoRow.shortTexts.isNone) = true := by kernel_rfl
theorem inlineMeans_f25 : (Tryz.prog.stopsHeard) = true := by kernel_rfl
theorem inlineMeans_f26 : (Tryz.prog.mayEnter) = true := by kernel_rfl
theorem inlineMeans_f27 : ((Rows.inlineMeansUptoRow.lifted == Tryz.prog.liftsFinal)) = true := by kernel_rfl
theorem inlineMeans_f28 : ((Tryz.prog.make == some Rows.inlineMeansUptoRow.make)) = true := by kernel_rfl
theorem inlineMeans_f29 : ((Rows.inlineMeansUptoRow.kinds == (if Rows.inlineMeansUptoRow.domain.isEmpty then [] else Tryz.f3.params.toList.map fun t => match Tryz.prog.underlying t with | some (.int k) => some k | _ => none))) = true := by kernel_rfl
theorem inlineMeans_f30 : ((Rows.inlineMeansUptoRow.pinned == Rows.inlineMeansUptoRow.pinnedBy)) = true := by kernel_rfl
theorem inlineMeans_f31 : ((Rows.inlineMeansUptoRow.veiled == (Tryz.f3.params.toList ++ ((Rows.OpenSpec.upto Rows.inlineMeansSpec).bare).plain.varTypes Tryz.prog ++ Tryz.f3.resultTypes.toList).any (Tryz.prog.veiledRec ·))) = true := by kernel_rfl
theorem inlineMeans_f32 : (Rows.inlineMeansUptoRow.veiledFits Tryz.prog Tryz.f3.params.toList (Tryz.f3.params.toList ++ ((Rows.OpenSpec.upto Rows.inlineMeansSpec).bare).plain.varTypes Tryz.prog ++ Tryz.f3.resultTypes.toList)) = true := by kernel_rfl
theorem inlineMeans_facts : joinedFacts Tryz.prog 3 Tryz.f3 (Rows.OpenSpec.upto Rows.inlineMeansSpec).bare Rows.inlineMeansUptoRow = true := by
 unfold joinedFacts
 exact (andI (andI (andI (andI (andI (andI (andI (andI (andI (andI (andI (andI (andI (andI (andI (andI (andI (andI (andI (andI (andI (andI (andI (andI (andI (andI (andI (andI (andI (andI (andI inlineMeans_f1 inlineMeans_f2) inlineMeans_f3) inlineMeans_f4) inlineMeans_f5) inlineMeans_f6) inlineMeans_f7) inlineMeans_f8) inlineMeans_f9) inlineMeans_f10) inlineMeans_f11) inlineMeans_f12) inlineMeans_f13) inlineMeans_f14) inlineMeans_f15) inlineMeans_f16) inlineMeans_f17) inlineMeans_f18) inlineMeans_f19) inlineMeans_f20) inlineMeans_f21) inlineMeans_f22) inlineMeans_f23) inlineMeans_f24) inlineMeans_f25) inlineMeans_f26) inlineMeans_f27) inlineMeans_f28) inlineMeans_f29) inlineMeans_f30) inlineMeans_f31) inlineMeans_f32)
theorem inlineMeans_said : Rows.InlineMeansUptoSaid :=
 OpenClaim.holds_of_cond 3 Tryz.f3 rfl rfl rfl rfl rfl rfl rfl ⟨rfl, rfl, rfl, rfl, rfl⟩ rfl rfl rfl rfl rfl inlineMeans_name Tryz.func3 inlineMeans_facts inlineMeans_inst inlineMeans_wrap
  (fun os started H enc _ F => by rw [OpenClaim.pre_eq_preRow]; exact inlineMeans_lifted os started H enc F)
theorem inlineMeans_plain (f : FuncId) (fn : Func) (hf : Tryz.pinned.checked.prog.funcNamed Rows.inlineMeansUptoRow.func = some f) (hfn : Tryz.pinned.checked.prog.funcs[f]? = some fn) :
  true = Tryz.pinned.checked.prog.looks [] ∧ ∀ (j : Nat) t, fn.params[j]? = some t → Tryz.pinned.checked.prog.wantsStandIn t = false := by
 obtain rfl : f = 3 := Option.some.inj (inlineMeans_name.symm.trans hf) |>.symm
 obtain rfl : fn = Tryz.f3 := (Option.some.inj (Tryz.func3.symm.trans hfn)).symm
 refine ⟨by kernel_rfl, fun j t ht => ?_⟩
 rw [Tryz.params3] at ht
 have hm := Array.mem_of_getElem? ht
 simp only [List.mem_toArray, List.mem_cons, List.mem_nil_iff, or_false] at hm
 rcases hm with rfl | rfl | rfl
 ·exact (show Tryz.prog.wantsStandIn 28 = false by kernel_rfl)
 ·exact (show Tryz.prog.wantsStandIn 30 = false by kernel_rfl)
 ·exact (show Tryz.prog.wantsStandIn 3 = false by kernel_rfl)
theorem goes_no {P : Program} {f : FuncId} (h1 : (P.closure f).any (fun g => (P.funcs[g]?).any Func.goes) = false) (h2 : P.funcs.any Func.goes = false) : P.goes f = false := by
 unfold Program.goes
 rw [h1, h2, Bool.and_false]
 rfl
theorem inlineMeans_g1 : (Tryz.prog.closure 3).any (fun g => (Tryz.prog.funcs[g]?).any Func.goes) = false := by kernel_rfl
theorem inlineMeans_g2 : Tryz.prog.funcs.any Func.goes = false := by kernel_rfl
theorem inlineMeans_g3 : Tryz.prog.inits.toList.any Tryz.prog.goes = false := by kernel_rfl
theorem inlineMeans_goes : false = Rows.inlineMeansUptoRow.goesBy Tryz.prog := by
 have e : Tryz.prog.goesFrom Rows.inlineMeansUptoRow.func = false := by
  unfold Program.goesFrom
  rw [inlineMeans_name]
  exact goes_no inlineMeans_g1 inlineMeans_g2
 unfold OpenClaim.goesBy Program.goesAt
 rw [e, Bool.false_or]
 exact inlineMeans_g3.symm
theorem inlineMeans_card : Rows.InlineMeansUptoCardSaid :=
 Claim7.holds_tied_plain_at .later [] _ _ _ _ inlineMeans_said (fun _ h => by cases h) (by kernel_rfl) (fun _ h => by cases h) inlineMeansUpto_row_tie rfl ⟨rfl, rfl⟩ (by kernel_rfl) rfl inlineMeans_plain inlineMeans_goes
end Go.Proofs.YtkcbpdpiodgaiaaGreatDoor





