/-
  ClosureApart returns true for every input where what it reads is of bulk at most 1048576; the arguments read behind the call as before. Conditions: those of the given card.
-/
import Derived.SevenTiedAt
import Derived.Test.YtpkgembbjlebcaaGreatDoorCards
import Derived.Test.YtpkgembbjlebcaaGreatDoorTie
import Derived.Test.YtpkgembbjlebcaaGreatDoorA9
set_option linter.unusedSimpArgs false
set_option linter.unusedVariables false
namespace Go.Proofs.YtpkgembbjlebcaaGreatDoor
set_option maxRecDepth 100000
set_option maxHeartbeats 4000000
open Go Go.Cb Go.ChangeShapes Go.WideShapes Go.ChangeAt Go.RowKit
theorem closureApart_contract (H : Type) (enc : TypeId × Value → H) (F : Stop.Interp) (W : World) (base : Nat) (args : Array Value) (ds gs : List (DataW H)) (before : List MemPlace)
    (hval : ∀ (j : Nat) t v, Tryz.f14.params[j]? = some t → args[j]? = some v → Value.okWide Tryz.prog W .any base t v)
    (hW : DataW.Whole enc Tryz.prog Tryz.f14.params.toList ((Rows.OpenSpec.upto Rows.closureApartSpec).at F).vars false W args.toList ds gs before)
    (hcond : Rows.uptoSmall H (ds ++ gs) = true) :
    Calls Tryz.prog 14 args W fun e W' => ∃ v, e = .returned v ∧ ((Rows.OpenSpec.upto Rows.closureApartSpec).at F).post enc Tryz.prog Tryz.f14 false true false false W args v W' := by
  have hW' := hW
  obtain ⟨p, q, hA0, hV, rfl, hfz, hnd⟩ := hW
  have hA : DataW.TrodAll enc Tryz.prog W 0 (fun _ => true) true Tryz.f14.params.toList args.toList ds p := hA0
  rw [Tryz.params14] at hA hval
  obtain ⟨v0, vs0, d0, ds0, p0, q0, hargs, rfl, rfl, h0, r0⟩ := trodAll_cons hA
  obtain ⟨rfl, rfl, rfl⟩ := trodAll_nil r0
  obtain rfl : args = #[v0] := by cases args; simp_all
  obtain ⟨a0, hp0, hb0⟩ := arg_struct Tryz.underlying28 rdP (hval 0 _ v0 rfl rfl) h0
  have hb := of_decide_eq_true hcond
  simp only [List.cons_append, Rows.uptoBulkAll] at hb
  have hl0 := Datum.bulks_length a0.consts
  have hq0 : Datum.bulks a0.consts + a0.body.bulk ≤ Rows.uptoBulk d0 := hb0
  refine (calls_true (closureApart_c a0 (by omega)) (vs := [v0]) (by simp only [RepT, and_true]; exact hp0)).mono ?_
  rintro e W' ⟨rfl, hbel⟩
  exact ⟨_, rfl, law_post laidOut (fun t ht => by
    rw [Tryz.params14] at ht
    simp only [List.mem_cons, List.mem_nil_iff, or_false] at ht
    subst ht
    exact okP) (by kernel_rfl) Tryz.underlying4 rfl (fun ds hd => by
    rw [Tryz.params14] at hd
    match ds, hd with
    | [a], _ => rfl) hW' hbel⟩
def closureApart_args : Array Value := #[.agg #[.slice none 0 0, .int .i64 0, .int .i64 0, .slice none 0 0, .slice none 0 0]]
theorem closureApart_witness (os : Os) {H : Type} (enc : TypeId × Value → H) :
    (Rows.OpenSpec.upto Rows.closureApartSpec).preRow enc Tryz.prog Tryz.f14 Rows.closureApartUptoRow.domain false Rows.closureApartUptoRow.laid ((laidWorld os).forCall (fun _ _ => 0) ⟨#[], closureApart_args, []⟩).memory closureApart_args := by
  have hw : (DataW.whole enc Tryz.prog ((laidWorld os).forCall (fun _ _ => 0) ⟨#[], closureApart_args, []⟩).memory Tryz.f14.params.toList (Rows.OpenSpec.upto Rows.closureApartSpec).vars false closureApart_args.toList 8).map (fun x => (x.1, x.2.1)) =
      some ([.agg [.nil, .agg [.lit (.int .i64 0), .lit (.int .i64 0), .nil, .nil]]], []) := by kernel_rfl
  obtain ⟨⟨x1, x2, x3⟩, hx, hx1⟩ := Option.map_eq_some_iff.1 hw
  simp only [Prod.mk.injEq] at hx1
  obtain ⟨rfl, rfl⟩ := hx1
  exact OpenSpec.preRow_of_cond 8 hx (by kernel_rfl) (fun k hk => by cases hk; kernel_rfl) (by kernel_rfl) (laid_met os _)
theorem closureApart_lifted (os : Os) (started : os.Started) (H : Type) (enc : TypeId × Value → H) (F : Stop.Interp) :
    ReturnsInHanded {} Tryz.checked os 14 .any ((Rows.OpenSpec.upto Rows.closureApartSpec).preRow enc Tryz.prog Tryz.f14 Rows.closureApartUptoRow.domain false Rows.closureApartUptoRow.laid) (((Rows.OpenSpec.upto Rows.closureApartSpec).at F).post enc Tryz.prog Tryz.f14 false true false false) := by
  refine returnsInHanded_of_row (C := Tryz.checked) (s := Rows.OpenSpec.upto Rows.closureApartSpec) own_none started (by kernel_rfl) Tryz.func14
    (witness_row_atRef (enc := enc) (C := Tryz.checked) false (laidWorld os) closureApart_args rfl (by kernel_rfl) (by kernel_rfl) (by kernel_rfl) (closureApart_witness os enc)) ?_
  intro W base args ds gs before hval hW _ hcond _ hL _ _
  exact closureApart_contract H enc F W base args ds gs before hval hW (hcond _ rfl)
theorem closureApart_name : Tryz.prog.funcNamed Rows.closureApartUptoRow.func = some 14 := by kernel_rfl
theorem closureApart_inst : Tryz.f14.isInstance Tryz.prog Rows.closureApartUptoRow.origin Rows.closureApartUptoRow.targs := of_decide_eq_true (by kernel_rfl)
theorem closureApart_wrap : Tryz.f14.isWrapper Tryz.prog Rows.closureApartUptoRow.wrapper Rows.closureApartUptoRow.mainSum := by
  unfold Func.isWrapper
  rw [if_neg (of_decide_eq_false (by kernel_rfl))]
  exact ⟨rfl, rfl⟩
theorem closureApart_facts : joinedFacts Tryz.prog 14 Tryz.f14 (Rows.OpenSpec.upto Rows.closureApartSpec).bare Rows.closureApartUptoRow = true := by kernel_rfl
theorem closureApart_said : Rows.ClosureApartUptoSaid :=
  OpenClaim.holds_of_cond 14 Tryz.f14 rfl rfl rfl rfl rfl rfl rfl ⟨rfl, rfl, rfl, rfl, rfl⟩ rfl rfl rfl rfl rfl closureApart_name Tryz.func14 closureApart_facts closureApart_inst closureApart_wrap
    (fun os started H enc _ F => by rw [OpenClaim.pre_eq_preRow]; exact closureApart_lifted os started H enc F)
theorem closureApart_plain (f : FuncId) (fn : Func) (hf : Tryz.pinned.checked.prog.funcNamed Rows.closureApartUptoRow.func = some f) (hfn : Tryz.pinned.checked.prog.funcs[f]? = some fn) :
    true = Tryz.pinned.checked.prog.looks [] ∧ ∀ (j : Nat) t, fn.params[j]? = some t → Tryz.pinned.checked.prog.wantsStandIn t = false := by
  obtain rfl : f = 14 := Option.some.inj (closureApart_name.symm.trans hf) |>.symm
  obtain rfl : fn = Tryz.f14 := (Option.some.inj (Tryz.func14.symm.trans hfn)).symm
  refine ⟨by kernel_rfl, fun j t ht => ?_⟩
  rw [Tryz.params14] at ht
  have hm := Array.mem_of_getElem? ht
  simp only [List.mem_toArray, List.mem_cons, List.mem_nil_iff, or_false] at hm
  subst hm
  exact (show Tryz.prog.wantsStandIn 28 = false by kernel_rfl)
theorem closureApart_card : Rows.ClosureApartUptoCardSaid :=
  Claim7.holds_tied_plain_at .later [] _ _ _ _ closureApart_said (fun _ h => by cases h) (by kernel_rfl) (fun _ h => by cases h) closureApartUpto_row_tie rfl ⟨rfl, rfl⟩ (by kernel_rfl) rfl closureApart_plain (by kernel_rfl)
end Go.Proofs.YtpkgembbjlebcaaGreatDoor

