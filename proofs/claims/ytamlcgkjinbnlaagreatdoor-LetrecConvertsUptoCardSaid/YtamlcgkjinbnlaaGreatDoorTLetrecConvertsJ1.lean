/-
 LetrecConverts returns true for every input where what it reads is of bulk at most 1048576; the arguments read behind the call as before. Conditions: those of the given card.
-/
import Derived.SevenTiedAt
import Derived.Test.YtamlcgkjinbnlaaGreatDoorCards
import Derived.Test.YtamlcgkjinbnlaaGreatDoorTie
import Derived.Test.YtamlcgkjinbnlaaGreatDoorA9
set_option linter.unusedSimpArgs false
set_option linter.unusedVariables false
namespace Go.Proofs.YtamlcgkjinbnlaaGreatDoor
set_option maxRecDepth 100000
set_option maxHeartbeats 4000000
open Go Go.Cb Go.ChangeShapes Go.WideShapes Go.ChangeAt Go.RowKit
theorem lN (H:Type) (enc:TypeId×Value→H) (F:Stop.Interp) (W:World) (base:Nat) (args:Array Value) (ds gs:List (DataW H)) (before:List MemPlace)
  (hval: ∀ (j:Nat) t v,Tryz.f3.params[j]?=some t→args[j]?=some v→Value.okWide Tryz.prog W .any base t v)
  (hW:DataW.Whole enc Tryz.prog Tryz.f3.params.toList ((Rows.OpenSpec.upto Rows.letrecConvertsSpec).at F).vars false W args.toList ds gs before)
  (hcond:Rows.uptoSmall H (ds++gs)=true):
  Calls Tryz.prog 3 args W fun e W'=> ∃ v,e=.returned v∧((Rows.OpenSpec.upto Rows.letrecConvertsSpec).at F).post enc Tryz.prog Tryz.f3 false true false false W args v W':=by
 have hW':=hW;obtain ⟨p,q,hA0,hV,rfl,hfz,hnd⟩:=hW;have hA:DataW.TrodAll enc Tryz.prog W 0 (fun _=>true) true Tryz.f3.params.toList args.toList ds p:=hA0;rw[Tryz.params3] at hA hval;obtain ⟨v0,vs0,d0,ds0,p0,q0,hargs,rfl,rfl,h0,r0⟩:=trodAll_cons hA;obtain ⟨rfl,rfl,rfl⟩:=trodAll_nil r0;obtain rfl:args= #[v0]:=by cases args;simp_all
 obtain ⟨a0,hp0,hb0⟩:=Dg Tryz.underlying28 QL (hval 0 _ v0 rfl rfl) h0;have hb:=of_decide_eq_true hcond;simp only[List.cons_append,Rows.uptoBulkAll] at hb;have hl0:=Datum.aU a0.consts;have hq0:Datum.aD a0.consts + a0.body.aQ≤Rows.uptoBulk d0:=hb0;refine (Dm (sS a0 (by omega)) (vs:= [v0]) (by simp only[aB,and_true];exact hp0)).mono ?_;rintro e W' ⟨rfl,hbel⟩
 exact ⟨_,rfl,JI laidOut (fun t ht=>by
  rw[Tryz.params3] at ht;simp only[List.mem_cons,List.mem_nil_iff,or_false] at ht;subst ht
  exact RL) (by kernel_rfl) Tryz.underlying4 rfl (fun ds hd=>by
  rw[Tryz.params3] at hd
  match ds,hd with
  | [a],_=>rfl) hW' hbel⟩
def c7:Array Value:= #[.agg #[.slice none 0 0,.int .i64 0,.int .i64 0,.slice none 0 0,.slice none 0 0]]
theorem mC (os:Os) {H:Type} (enc:TypeId×Value→H):
  (Rows.OpenSpec.upto Rows.letrecConvertsSpec).preRow enc Tryz.prog Tryz.f3 Rows.letrecConvertsUptoRow.domain false Rows.letrecConvertsUptoRow.laid ((laidWorld os).forCall (fun _ _=>0) ⟨#[],c7, []⟩).memory c7:=by
 have hw:(DataW.whole enc Tryz.prog ((laidWorld os).forCall (fun _ _=>0) ⟨#[],c7, []⟩).memory Tryz.f3.params.toList (Rows.OpenSpec.upto Rows.letrecConvertsSpec).vars false c7.toList 8).map (fun x=>(x.1,x.2.1))=
   some ([.agg [.nil,.agg [.lit (.int .i64 0),.lit (.int .i64 0),.nil,.nil]]], []):=by kernel_rfl
 obtain ⟨⟨x1,x2,x3⟩,hx,hx1⟩:=Option.map_eq_some_iff.1 hw;simp only[Prod.mk.injEq] at hx1;obtain ⟨rfl,rfl⟩:=hx1;exact OpenSpec.preRow_of_cond 8 hx (by kernel_rfl) (fun k hk=>by cases hk;kernel_rfl) (by kernel_rfl) (JH os _)
theorem m0 (os:Os) (started:os.Started) (H:Type) (enc:TypeId×Value→H) (F:Stop.Interp):
  ReturnsInHanded {} Tryz.checked os 3 .any ((Rows.OpenSpec.upto Rows.letrecConvertsSpec).preRow enc Tryz.prog Tryz.f3 Rows.letrecConvertsUptoRow.domain false Rows.letrecConvertsUptoRow.laid) (((Rows.OpenSpec.upto Rows.letrecConvertsSpec).at F).post enc Tryz.prog Tryz.f3 false true false false):=by
 refine returnsInHanded_of_row (C:=Tryz.checked) (s:=Rows.OpenSpec.upto Rows.letrecConvertsSpec) J1 started (by kernel_rfl) Tryz.func3
  (witness_row_atRef (enc:=enc) (C:=Tryz.checked) false (laidWorld os) c7 rfl (by kernel_rfl) (by kernel_rfl) (by kernel_rfl) (mC os enc)) ?_
 intro W base args ds gs before hval hW _ hcond _ hL _ _;exact lN H enc F W base args ds gs before hval hW (hcond _ rfl)
theorem fO:Tryz.prog.funcNamed Rows.letrecConvertsUptoRow.func=some 3:=by kernel_rfl
theorem oG:Tryz.f3.isInstance Tryz.prog Rows.letrecConvertsUptoRow.origin Rows.letrecConvertsUptoRow.targs:=of_decide_eq_true (by kernel_rfl)
theorem oI:Tryz.f3.isWrapper Tryz.prog Rows.letrecConvertsUptoRow.wrapper Rows.letrecConvertsUptoRow.mainSum:=by
 unfold Func.isWrapper;rw[if_neg (of_decide_eq_false (by kernel_rfl))];exact ⟨rfl,rfl⟩
theorem gr {a b:Bool} (h:a=true) (k:b=true):(a && b)=true:=by rw[h,k];rfl
theorem rC:(Rows.letrecConvertsUptoRow.wf (OpenSpec.ofChange ((Rows.OpenSpec.upto Rows.letrecConvertsSpec).bare)))=true:=by kernel_rfl
theorem rD:(laidOutB Tryz.prog)=true:=by kernel_rfl
theorem rE:(mapsRowed Tryz.prog)=true:=by kernel_rfl
theorem rF:(Tryz.f3.params.all (Tryz.prog.readableRec ·))=true:=by kernel_rfl
theorem rG:(namedTie Tryz.prog Rows.letrecConvertsUptoRow.named ((Rows.OpenSpec.upto Rows.letrecConvertsSpec).bare).vars)=true:=by kernel_rfl
theorem rH:((Rows.letrecConvertsUptoRow.stops == []))=true:=by kernel_rfl
theorem rI:((Tryz.prog.stops == []))=true:=by kernel_rfl
theorem rJ:((Rows.letrecConvertsUptoRow.knobs == []))=true:=by kernel_rfl
theorem rK:((Tryz.prog.stopKnobs == []))=true:=by kernel_rfl
theorem pH:((Rows.letrecConvertsUptoRow.inPlace == Tryz.prog.inPlace 3))=true:=by kernel_rfl
theorem pI:((Rows.letrecConvertsUptoRow.unfollowed == Tryz.prog.unfollowed 3))=true:=by kernel_rfl
theorem pK:((Rows.letrecConvertsUptoRow.recurses == Tryz.prog.recurses 3))=true:=by kernel_rfl
theorem pM:((Rows.letrecConvertsUptoRow.named == Tryz.prog.varsNamed 3))=true:=by kernel_rfl
theorem pO:((Rows.letrecConvertsUptoRow.maps == (Tryz.f3.params.toList++((Rows.OpenSpec.upto Rows.letrecConvertsSpec).bare).plain.varTypes Tryz.prog).any (Tryz.prog.mapsRec ·)))=true:=by kernel_rfl
theorem pP:((Rows.letrecConvertsUptoRow.ifaces == (Tryz.f3.params.toList++((Rows.OpenSpec.upto Rows.letrecConvertsSpec).bare).plain.varTypes Tryz.prog).any (Tryz.prog.ifacesRec ·)))=true:=by kernel_rfl
theorem pQ:((Rows.letrecConvertsUptoRow.mapsOut == Tryz.prog.mapsAmong Tryz.f3.resultTypes.toList))=true:=by kernel_rfl
theorem pT:((Rows.letrecConvertsUptoRow.loops == (Tryz.f3.params.toList++((Rows.OpenSpec.upto Rows.letrecConvertsSpec).bare).plain.varTypes Tryz.prog).any (Tryz.prog.loopsFrom ·)))=true:=by kernel_rfl
theorem pU:((Rows.letrecConvertsUptoRow.wideKeys == (Tryz.f3.params.toList++((Rows.OpenSpec.upto Rows.letrecConvertsSpec).bare).plain.varTypes Tryz.prog++Tryz.f3.resultTypes.toList).any (Tryz.prog.wideKeysFrom ·)))=true:=by kernel_rfl
theorem pV:(((Rows.OpenSpec.upto Rows.letrecConvertsSpec).bare).vars.all (Tryz.prog.varReadable ·))=true:=by kernel_rfl
theorem pW:(Tryz.f3.resultTypes.all (fun t=>Tryz.prog.readableRec t && decide (t < Tryz.prog.types.size)))=true:=by kernel_rfl
theorem pX:((Rows.letrecConvertsUptoRow.ifacesOut == Tryz.f3.resultTypes.toList.any (Tryz.prog.ifacesRec ·)))=true:=by kernel_rfl
theorem pY:((Rows.letrecConvertsUptoRow.loopsOut == Tryz.f3.resultTypes.toList.any (Tryz.prog.loopsFrom ·)))=true:=by kernel_rfl
theorem p7:((Rows.letrecConvertsUptoRow.plainKeys == Tryz.prog.plainKeys))=true:=by kernel_rfl
theorem p8:(Rows.letrecConvertsUptoRow.shortTexts.isNone)=true:=by kernel_rfl
theorem p9:(Tryz.prog.stopsHeard)=true:=by kernel_rfl
theorem qc:(Tryz.prog.mayEnter)=true:=by kernel_rfl
theorem qd:((Rows.letrecConvertsUptoRow.lifted == Tryz.prog.liftsFinal))=true:=by kernel_rfl
theorem qe:((Tryz.prog.make == some Rows.letrecConvertsUptoRow.make))=true:=by kernel_rfl
theorem qf:((Rows.letrecConvertsUptoRow.kinds == (if Rows.letrecConvertsUptoRow.domain.isEmpty then [] else Tryz.f3.params.toList.map fun t=>match Tryz.prog.underlying t with | some (.int k)=>some k | _=>none)))=true:=by kernel_rfl
theorem qg:((Rows.letrecConvertsUptoRow.pinned == Rows.letrecConvertsUptoRow.pinnedBy))=true:=by kernel_rfl
theorem qh:((Rows.letrecConvertsUptoRow.veiled == (Tryz.f3.params.toList++((Rows.OpenSpec.upto Rows.letrecConvertsSpec).bare).plain.varTypes Tryz.prog++Tryz.f3.resultTypes.toList).any (Tryz.prog.veiledRec ·)))=true:=by kernel_rfl
theorem qi:(Rows.letrecConvertsUptoRow.veiledFits Tryz.prog Tryz.f3.params.toList (Tryz.f3.params.toList++((Rows.OpenSpec.upto Rows.letrecConvertsSpec).bare).plain.varTypes Tryz.prog++Tryz.f3.resultTypes.toList))=true:=by kernel_rfl
theorem nF:joinedFacts Tryz.prog 3 Tryz.f3 (Rows.OpenSpec.upto Rows.letrecConvertsSpec).bare Rows.letrecConvertsUptoRow=true:=by
 unfold joinedFacts;exact (gr (gr (gr (gr (gr (gr (gr (gr (gr (gr (gr (gr (gr (gr (gr (gr (gr (gr (gr (gr (gr (gr (gr (gr (gr (gr (gr (gr (gr (gr (gr rC rD) rE) rF) rG) rH) rI) rJ) rK) pH) pI) pK) pM) pO) pP) pQ) pT) pU) pV) pW) pX) pY) p7) p8) p9) qc) qd) qe) qf) qg) qh) qi)
theorem oH:Rows.LetrecConvertsUptoSaid:=
 OpenClaim.holds_of_cond 3 Tryz.f3 rfl rfl rfl rfl rfl rfl rfl ⟨rfl,rfl,rfl,rfl,rfl⟩ rfl rfl rfl rfl rfl fO Tryz.func3 nF oG oI
  (fun os started H enc _ F=>by rw[OpenClaim.pre_eq_preRow];exact m0 os started H enc F)
theorem nG (f:FuncId) (fn:Func) (hf:Tryz.pinned.checked.prog.funcNamed Rows.letrecConvertsUptoRow.func=some f) (hfn:Tryz.pinned.checked.prog.funcs[f]?=some fn):
  true=Tryz.pinned.checked.prog.looks []∧ ∀ (j:Nat) t,fn.params[j]?=some t→Tryz.pinned.checked.prog.wantsStandIn t=false:=by
 obtain rfl:f=3:=Option.some.inj (fO.symm.trans hf) |>.symm;obtain rfl:fn=Tryz.f3:=(Option.some.inj (Tryz.func3.symm.trans hfn)).symm;refine ⟨by kernel_rfl,fun j t ht=>?_⟩;rw[Tryz.params3] at ht;have hm:=Array.mem_of_getElem? ht;simp only[List.mem_toArray,List.mem_cons,List.mem_nil_iff,or_false] at hm;subst hm;exact (show Tryz.prog.wantsStandIn 28=false by kernel_rfl)
theorem LY {P:Program} {f:FuncId} (h1:(P.closure f).any (fun g=>(P.funcs[g]?).any Func.goes)=false) (h2:P.funcs.any Func.goes=false):P.goes f=false:=by
 unfold Program.goes;rw[h1,h2,Bool.and_false];rfl
theorem rL:(Tryz.prog.closure 3).any (fun g=>(Tryz.prog.funcs[g]?).any Func.goes)=false:=by kernel_rfl
theorem rM:Tryz.prog.funcs.any Func.goes=false:=by kernel_rfl
theorem rN:Tryz.prog.inits.toList.any Tryz.prog.goes=false:=by kernel_rfl
theorem oF:false=Rows.letrecConvertsUptoRow.goesBy Tryz.prog:=by
 have e:Tryz.prog.goesFrom Rows.letrecConvertsUptoRow.func=false:=by
  unfold Program.goesFrom;rw[fO];exact LY rL rM
 unfold OpenClaim.goesBy Program.goesAt;rw[e,Bool.false_or];exact rN.symm
theorem letrecConverts_card:Rows.LetrecConvertsUptoCardSaid:=
 Claim7.holds_tied_plain_at .later [] _ _ _ _ oH (fun _ h=>by cases h) (by kernel_rfl) (fun _ h=>by cases h) letrecConvertsUpto_row_tie rfl ⟨rfl,rfl⟩ (by kernel_rfl) rfl nG oF
end Go.Proofs.YtamlcgkjinbnlaaGreatDoor


