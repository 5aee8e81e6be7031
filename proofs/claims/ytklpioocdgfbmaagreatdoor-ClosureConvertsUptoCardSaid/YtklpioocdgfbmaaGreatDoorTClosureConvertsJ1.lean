/-
 ClosureConverts returns true for every input where what it reads is of bulk at most 1048576; the arguments read behind the call as before. Conditions: those of the given card.
-/
import Derived.SevenTiedAt
import Derived.Test.YtklpioocdgfbmaaGreatDoorCards
import Derived.Test.YtklpioocdgfbmaaGreatDoorTie
import Derived.Test.YtklpioocdgfbmaaGreatDoorC8
set_option linter.unusedSimpArgs false
set_option linter.unusedVariables false
namespace Go.Proofs.YtklpioocdgfbmaaGreatDoor
set_option maxRecDepth 100000
set_option maxHeartbeats 4000000
open Go Go.Cb Go.ChangeShapes Go.WideShapes Go.ChangeAt Go.RowKit
theorem closureConverts_contract (H : Type) (enc : TypeId × Value → H) (F : Stop.Interp) (W : World) (base : Nat) (args : Array Value) (ds gs : List (DataW H)) (before : List MemPlace)
  (hval : ∀ (j : Nat) t v, Tryz.f3.params[j]? = some t → args[j]? = some v → Value.okWide Tryz.prog W .any base t v)
  (hW : DataW.Whole enc Tryz.prog Tryz.f3.params.toList ((Rows.OpenSpec.upto Rows.closureConvertsSpec).at F).vars false W args.toList ds gs before)
  (hcond : Rows.uptoSmall H (ds ++ gs) = true) :
  Calls Tryz.prog 3 args W fun e W' => ∃ v, e = .returned v ∧ ((Rows.OpenSpec.upto Rows.closureConvertsSpec).at F).post enc Tryz.prog Tryz.f3 false true false false W args v W' := by
 have hW' := hW
 obtain ⟨p, q, hA0, hV, rfl, hfz, hnd⟩ := hW
 have hA : DataW.TrodAll enc Tryz.prog W 0 (fun _ => true) true Tryz.f3.params.toList args.toList ds p := hA0
 rw [Tryz.params3] at hA hval
 obtain ⟨v0, vs0, d0, ds0, p0, q0, hargs, rfl, rfl, h0, r0⟩ := trodAll_cons hA
 obtain ⟨rfl, rfl, rfl⟩ := trodAll_nil r0
 obtain rfl : args = #[v0] := by cases args; simp_all
 obtain ⟨a0, hp0, hb0⟩ := arg_struct Tryz.underlying28 rdP (hval 0 _ v0 rfl rfl) h0
 have hb := of_decide_eq_true hcond
 simp only [List.cons_append, Rows.uptoBulkAll] at hb
 have hl0 := Datum.bulks_length a0.consts
 have hq0 : Datum.bulks a0.consts + a0.body.bulk ≤ Rows.uptoBulk d0 := hb0
 refine (calls_true (closureConverts_c a0 (by omega)) (vs := [v0]) (by simp only [RepT, and_true]; exact hp0)).mono ?_
 rintro e W' ⟨rfl, hbel⟩
 exact ⟨_, rfl, law_post laidOut (fun t ht => by
  rw [Tryz.params3] at ht
  simp only [List.mem_cons, List.mem_nil_iff, or_false] at ht
  subst ht
  exact okP) (by kernel_rfl) Tryz.underlying4 rfl (fun ds hd => by
  rw [Tryz.params3] at hd
  match ds, hd with
  | [a], _ => rfl) hW' hbel⟩
def closureConverts_args : Array Value := #[.agg #[.slice none 0 0, .int .i64 0, .int .i64 0, .slice none 0 0, .slice none 0 0]]
theorem closureConverts_witness (os : Os) {H : Type} (enc : TypeId × Value → H) :
  (Rows.OpenSpec.upto Rows.closureConvertsSpec).preRow enc Tryz.prog Tryz.f3 Rows.closureConvertsUptoRow.domain false Rows.closureConvertsUptoRow.laid ((laidWorld os).forCall (fun _ _ => 0) ⟨#[], closureConverts_args, []⟩).memory closureConverts_args := by
 have hw : (DataW.whole enc Tryz.prog ((laidWorld os).forCall (fun _ _ => 0) ⟨#[], closureConverts_args, []⟩).memory Tryz.f3.params.toList (Rows.OpenSpec.upto Rows.closureConvertsSpec).vars false closureConverts_args.toList 8).map (fun x => (x.1, x.2.1)) =
   some ([.agg [.nil, .agg [.lit (.int .i64 0), .lit (.int .i64 0), .nil, .nil]]], []) := by kernel_rfl
 obtain ⟨⟨x1, x2, x3⟩, hx, hx1⟩ := Option.map_eq_some_iff.1 hw
 simp only [Prod.mk.injEq] at hx1
 obtain ⟨rfl, rfl⟩ := hx1
 exact OpenSpec.preRow_of_cond 8 hx (by kernel_rfl) (fun k hk => by cases hk; kernel_rfl) (by kernel_rfl) (laid_met os _)
theorem closureConverts_lifted (os : Os) (started : os.Started) (H : Type) (enc : TypeId × Value → H) (F : Stop.Interp) :
  ReturnsInHanded {} Tryz.checked os 3 .any ((Rows.OpenSpec.upto Rows.closureConvertsSpec).preRow enc Tryz.prog Tryz.f3 Rows.closureConvertsUptoRow.domain false Rows.closureConvertsUptoRow.laid) (((Rows.OpenSpec.upto Rows.closureConvertsSpec).at F).post enc Tryz.prog Tryz.f3 false true false false) := by
 refine returnsInHanded_of_row (C := Tryz.checked) (s := Rows.OpenSpec.upto Rows.closureConvertsSpec) own_none started (by kernel_rfl) Tryz.func3
  (witness_row_atRef (enc := enc) (C := Tryz.checked) false (laidWorld os) closureConverts_args rfl (by kernel_rfl) (by kernel_rfl) (by kernel_rfl) (closureConverts_witness os enc)) ?_
 intro W base args ds gs before hval hW _ hcond _ hL _ _
 exact closureConverts_contract H enc F W base args ds gs before hval hW (hcond _ rfl)
theorem closureConverts_name : Tryz.prog.funcNamed Rows.closureConvertsUptoRow.func = some 3 := by kernel_rfl
theorem closureConverts_inst : Tryz.f3.isInstance Tryz.prog Rows.closureConvertsUptoRow.origin Rows.closureConvertsUptoRow.targs := of_decide_eq_true (by kernel_rfl)
theorem closureConverts_wrap : Tryz.f3.isWrapper Tryz.prog Rows.closureConvertsUptoRow.wrapper Rows.closureConvertsUptoRow.mainSum := by
 unfold Func.isWrapper
 rw [if_neg (of_decide_eq_false (by kernel_rfl))]
 exact ⟨rfl, rfl⟩
theorem andI {a b : Bool} (h : a = true) (k : b = true) : (a && b) = true := by rw [h, k]; rfl
theorem closureConverts_f1 : (Rows.closureConvertsUptoRow.wf (OpenSpec.ofChange ((Rows.OpenSpec.upto Rows.closureConvertsSpec).bare))) = true := by kernel_rfl
theorem closureConverts_f2 : (laidOutB Tryz.prog) = true := by kernel_rfl
theorem closureConverts_f3 : (mapsRowed Tryz.prog) = true := by kernel_rfl
theorem closureConverts_f4 : (Tryz.f3.params.all (Tryz.prog.readableRec ·)) = true := by kernel_rfl
theorem closureConverts_f5 : (namedTie Tryz.prog Rows.closureConvertsUptoRow.named ((Rows.OpenSpec.upto Rows.closureConvertsSpec).bare).vars) = true := by kernel_rfl
theorem closureConverts_f6 : ((Rows.closureConvertsUptoRow.stops == [])) = true := by kernel_rfl
theorem closureConverts_f7 : ((Tryz.prog.stops == [])) = true := by kernel_rfl
theorem closureConverts_f8 : ((Rows.closureConvertsUptoRow.knobs == [])) = true := by kernel_rfl
theorem closureConverts_f9 : ((Tryz.prog.stopKnobs == [])) = true := by kernel_rfl
theorem closureConverts_f10 : ((Rows.closureConvertsUptoRow.inPlace == Tryz.prog.inPlace 3)) = true := by kernel_rfl
theorem closureConverts_f11 : ((Rows.closureConvertsUptoRow.unfollowed == Tryz.prog.unfollowed 3)) = true := by kernel_rfl
theorem closureConverts_f12 : ((Rows.closureConvertsUptoRow.recurses == Tryz.prog.recurses 3)) = true := by kernel_rfl
theorem closureConverts_f13 : ((Rows.closureConvertsUptoRow.named == Tryz.prog.varsNamed 3)) = true := by kernel_rfl
theorem closureConverts_f14 : ((Rows.closureConvertsUptoRow.maps == (Tryz.f3.params.toList ++ ((Rows.OpenSpec.upto Rows.closureConvertsSpec).bare).plain.varTypes Tryz.prog).any (Tryz.prog.mapsRec ·))) = true := by kernel_rfl
theorem closureConverts_f15 : ((Rows.closureConvertsUptoRow.ifaces == (Tryz.f3.params.toList ++ ((Rows.OpenSpec.upto Rows.closureConvertsSpec).bare).plain.varTypes Tryz.prog).any (Tryz.prog.ifacesRec ·))) = true := by kernel_rfl
theorem closureConverts_f16 : ((Rows.closureConvertsUptoRow.mapsOut == Tryz.prog.mapsAmong Tryz.f3.resultTypes.toList)) = true := by kernel_rfl
theorem closureConverts_f17 : ((Rows.closureConvertsUptoRow.loops == (Tryz.f3.params.toList ++ ((Rows.OpenSpec.upto Rows.closureConvertsSpec).bare).plain.varTypes Tryz.prog).any (Tryz.prog.loopsFrom ·))) = true := by kernel_rfl
theorem closureConverts_f18 : ((Rows.closureConvertsUptoRow.wideKeys == (Tryz.f3.params.toList ++ ((Rows.OpenSpec.upto Rows.closureConvertsSpec).bare).plain.varTypes Tryz.prog ++ Tryz.f3.resultTypes.toList).any (Tryz.prog.wideKeysFrom ·))) = true := by kernel_rfl
theorem closureConverts_f19 : (((Rows.OpenSpec.upto Rows.closureConvertsSpec).bare).vars.all (Tryz.prog.varReadable ·)) = true := by kernel_rfl
theorem closureConverts_f20 : (Tryz.f3.resultTypes.all (fun t => Tryz.prog.readableRec t && decide (t < Tryz.prog.types.size))) = true := by kernel_rfl
theorem closureConverts_f21 : ((Rows.closureConvertsUptoRow.ifacesOut == Tryz.f3.resultTypes.toList.any (Tryz.prog.ifacesRec ·))) = true := by kernel_rfl
theorem closureConverts_f22 : ((Rows.closureConvertsUptoRow.loopsOut == Tryz.f3.resultTypes.toList.any (Tryz.prog.loopsFrom ·))) = true := by kernel_rfl
theorem closureConverts_f23 : ((Rows.closureConvertsUptoRow.plainKeys == Tryz.prog.plainKeys)) = true := by kernel_rfl
theorem closureConverts_f24 : (Rows.closureConvertsUptoRow.shortTexts.isNone) = true := by kernel_rfl
theorem closureConverts_f25 : (Tryz.prog.stopsHeard) = true := by kernel_rfl
theorem closureConverts_f26 : (Tryz.prog.mayEnter) = true := by kernel_rfl
theorem closureConverts_f27 : ((Rows.closureConvertsUptoRow.lifted == Tryz.prog.liftsFinal)) = true := by kernel_rfl
theorem closureConverts_f28 : ((Tryz.prog.make == some Rows.closureConvertsUptoRow.make)) = true := by kernel_rfl
theorem closureConverts_f29 : ((Rows.closureConvertsUptoRow.kinds == (if Rows.closureConvertsUptoRow.domain.isEmpty then [] else Tryz.f3.params.toList.map fun t => match Tryz.prog.underlying t with | some (.int k) => some k | _ => none))) = true := by kernel_rfl
theorem closureConverts_f30 : ((Rows.closureConvertsUptoRow.pinned == Rows.closureConvertsUptoRow.pinnedBy)) = true := by kernel_rfl
theorem closureConverts_f31 : ((Rows.closureConvertsUptoRow.veiled == (Tryz.f3.params.toList ++ ((Rows.OpenSpec.upto Rows.closureConvertsSpec).bare).plain.varTypes Tryz.prog ++ Tryz.f3.resultTypes.toList).any (Tryz.prog.veiledRec ·))) = true := by kernel_rfl
theorem closureConverts_f32 : (Rows.closureConvertsUptoRow.veiledFits Tryz.prog Tryz.f3.params.toList (Tryz.f3.params.toList ++ ((Rows.OpenSpec.upto Rows.closureConvertsSpec).bare).plain.varTypes Tryz.prog ++ Tryz.f3.resultTypes.toList)) = true := by kernel_rfl
theorem closureConverts_facts : joinedFacts Tryz.prog 3 Tryz.f3 (Rows.OpenSpec.upto Rows.closureConvertsSpec).bare Rows.closureConvertsUptoRow = true := by
 unfold joinedFacts
 exact (andI (andI (andI (andI (andI (andI (andI (andI (andI (andI (andI (andI (andI (andI (andI (andI (andI (andI (andI (andI (andI (andI (andI (andI (andI (andI (andI (andI (andI (andI (andI closureConverts_f1 closureConverts_f2) closureConverts_f3) closureConverts_f4) closureConverts_f5) closureConverts_f6) closureConverts_f7) closureConverts_f8) closureConverts_f9) closureConverts_f10) closureConverts_f11) closureConverts_f12) closureConverts_f13) closureConverts_f14) closureConverts_f15) closureConverts_f16) closureConverts_f17) closureConverts_f18) closureConverts_f19) closureConverts_f20) closureConverts_f21) closureConverts_f22) closureConverts_f23) closureConverts_f24) closureConverts_f25) closureConverts_f26) closureConverts_f27) closureConverts_f28) closureConverts_f29) closureConverts_f30) closureConverts_f31) closureConverts_f32)
theorem closureConverts_said : Rows.ClosureConvertsUptoSaid :=
 OpenClaim.holds_of_cond 3 Tryz.f3 rfl rfl rfl rfl rfl rfl rfl ⟨rfl, rfl, rfl, rfl, rfl⟩ rfl rfl rfl rfl rfl closureConverts_name Tryz.func3 closureConverts_facts closureConverts_inst closureConverts_wrap
  (fun os started H enc _ F => by rw [OpenClaim.pre_eq_preRow]; exact closureConverts_lifted os started H enc F)
theorem closureConverts_plain (f : FuncId) (fn : Func) (hf : Tryz.pinned.checked.prog.funcNamed Rows.closureConvertsUptoRow.func = some f) (hfn : Tryz.pinned.checked.prog.funcs[f]? = some fn) :
  true = Tryz.pinned.checked.prog.looks [] ∧ ∀ (j : Nat) t, fn.params[j]? = some t → Tryz.pinned.checked.prog.wantsStandIn t = false := by
 obtain rfl : f = 3 := Option.some.inj (closureConverts_name.symm.trans hf) |>.symm
 obtain rfl : fn = Tryz.f3 := (Option.some.inj (Tryz.func3.symm.trans hfn)).symm
 refine ⟨by kernel_rfl, fun j t ht => ?_⟩
 rw [Tryz.params3] at ht
 have hm := Array.mem_of_getElem? ht
 simp only [List.mem_toArray, List.mem_cons, List.mem_nil_iff, or_false] at hm
 subst hm
 exact (show Tryz.prog.wantsStandIn 28 = false by kernel_rfl)
theorem closureConverts_card : Rows.ClosureConvertsUptoCardSaid :=
 Claim7.holds_tied_plain_at .later [] _ _ _ _ closureConverts_said (fun _ h => by cases h) (by kernel_rfl) (fun _ h => by cases h) closureConvertsUpto_row_tie rfl ⟨rfl, rfl⟩ (by kernel_rfl) rfl closureConverts_plain (by kernel_rfl)
end Go.Proofs.YtklpioocdgfbmaaGreatDoor
