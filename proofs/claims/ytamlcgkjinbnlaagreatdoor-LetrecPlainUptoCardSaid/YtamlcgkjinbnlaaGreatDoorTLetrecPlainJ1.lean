/-
 LetrecPlain returns true for every input where what it reads is of bulk at most 1048576; the arguments read behind the call as before. Conditions: those of the given card.
-/
import Derived.SevenTiedAt
import Derived.Test.YtamlcgkjinbnlaaGreatDoorCards
import Derived.Test.YtamlcgkjinbnlaaGreatDoorTie
import Derived.Test.YtamlcgkjinbnlaaGreatDoorD9
set_option linter.unusedSimpArgs false
set_option linter.unusedVariables false
namespace Go.Proofs.YtamlcgkjinbnlaaGreatDoor
set_option maxRecDepth 100000
set_option maxHeartbeats 4000000
open Go Go.Cb Go.ChangeShapes Go.WideShapes Go.ChangeAt Go.RowKit
theorem mM (H:Type) (enc:TypeId×Value→H) (F:Stop.Interp) (W:World) (base:Nat) (args:Array Value) (ds gs:List (DataW H)) (before:List MemPlace)
  (hval: ∀ (j:Nat) t v,Tryz.f7.params[j]?=some t→args[j]?=some v→Value.okWide Tryz.prog W .any base t v)
  (hW:DataW.Whole enc Tryz.prog Tryz.f7.params.toList ((Rows.OpenSpec.upto Rows.letrecPlainSpec).at F).vars false W args.toList ds gs before)
  (hcond:Rows.uptoSmall H (ds++gs)=true):
  Calls Tryz.prog 7 args W fun e W'=> ∃ v,e=.returned v∧((Rows.OpenSpec.upto Rows.letrecPlainSpec).at F).post enc Tryz.prog Tryz.f7 false true false false W args v W':=by
 have hW':=hW;obtain ⟨p,q,hA0,hV,rfl,hfz,hnd⟩:=hW;have hA:DataW.TrodAll enc Tryz.prog W 0 (fun _=>true) true Tryz.f7.params.toList args.toList ds p:=hA0;rw[Tryz.params7] at hA hval;obtain ⟨v0,vs0,d0,ds0,p0,q0,hargs,rfl,rfl,h0,r0⟩:=trodAll_cons hA;obtain ⟨rfl,rfl,rfl⟩:=trodAll_nil r0;obtain rfl:args= #[v0]:=by cases args;simp_all
 obtain ⟨a0,hp0,hb0⟩:=Cu Tryz.underlying28 Pj (hval 0 _ v0 rfl rfl) h0;have hb:=of_decide_eq_true hcond;simp only[List.cons_append,Rows.uptoBulkAll] at hb;have hl0:=Datum.aZ a0.consts;have hq0:Datum.aD a0.consts + a0.body.aR≤Rows.uptoBulk d0:=hb0;refine (CA (wB a0 (by omega)) (vs:= [v0]) (by simp only[ay,and_true];exact hp0)).mono ?_;rintro e W' ⟨rfl,hbel⟩
 exact ⟨_,rfl,Ik laidOut (fun t ht=>by
  rw[Tryz.params7] at ht;simp only[List.mem_cons,List.mem_nil_iff,or_false] at ht;subst ht
  exact Qk) (by kernel_rfl) Tryz.underlying4 rfl (fun ds hd=>by
  rw[Tryz.params7] at hd
  match ds,hd with
  | [a],_=>rfl) hW' hbel⟩
def dQ:Array Value:= #[.agg #[.slice none 0 0,.int .i64 0,.int .i64 0,.slice none 0 0,.slice none 0 0]]
theorem nW (os:Os) {H:Type} (enc:TypeId×Value→H):
  (Rows.OpenSpec.upto Rows.letrecPlainSpec).preRow enc Tryz.prog Tryz.f7 Rows.letrecPlainUptoRow.domain false Rows.letrecPlainUptoRow.laid ((laidWorld os).forCall (fun _ _=>0) ⟨#[],dQ, []⟩).memory dQ:=by
 have hw:(DataW.whole enc Tryz.prog ((laidWorld os).forCall (fun _ _=>0) ⟨#[],dQ, []⟩).memory Tryz.f7.params.toList (Rows.OpenSpec.upto Rows.letrecPlainSpec).vars false dQ.toList 8).map (fun x=>(x.1,x.2.1))=
   some ([.agg [.nil,.agg [.lit (.int .i64 0),.lit (.int .i64 0),.nil,.nil]]], []):=by kernel_rfl
 obtain ⟨⟨x1,x2,x3⟩,hx,hx1⟩:=Option.map_eq_some_iff.1 hw;simp only[Prod.mk.injEq] at hx1;obtain ⟨rfl,rfl⟩:=hx1;exact OpenSpec.preRow_of_cond 8 hx (by kernel_rfl) (fun k hk=>by cases hk;kernel_rfl) (by kernel_rfl) (Ij os _)
theorem oL (os:Os) (started:os.Started) (H:Type) (enc:TypeId×Value→H) (F:Stop.Interp):
  ReturnsInHanded {} Tryz.checked os 7 .any ((Rows.OpenSpec.upto Rows.letrecPlainSpec).preRow enc Tryz.prog Tryz.f7 Rows.letrecPlainUptoRow.domain false Rows.letrecPlainUptoRow.laid) (((Rows.OpenSpec.upto Rows.letrecPlainSpec).at F).post enc Tryz.prog Tryz.f7 false true false false):=by
 refine returnsInHanded_of_row (C:=Tryz.checked) (s:=Rows.OpenSpec.upto Rows.letrecPlainSpec) II started (by kernel_rfl) Tryz.func7
  (witness_row_atRef (enc:=enc) (C:=Tryz.checked) false (laidWorld os) dQ rfl (by kernel_rfl) (by kernel_rfl) (by kernel_rfl) (nW os enc)) ?_
 intro W base args ds gs before hval hW _ hcond _ hL _ _;exact mM H enc F W base args ds gs before hval hW (hcond _ rfl)
theorem ic:Tryz.prog.funcNamed Rows.letrecPlainUptoRow.func=some 7:=by kernel_rfl
theorem qS:Tryz.f7.isInstance Tryz.prog Rows.letrecPlainUptoRow.origin Rows.letrecPlainUptoRow.targs:=of_decide_eq_true (by kernel_rfl)
theorem qU:Tryz.f7.isWrapper Tryz.prog Rows.letrecPlainUptoRow.wrapper Rows.letrecPlainUptoRow.mainSum:=by
 unfold Func.isWrapper;rw[if_neg (of_decide_eq_false (by kernel_rfl))];exact ⟨rfl,rfl⟩
theorem fP {a b:Bool} (h:a=true) (k:b=true):(a && b)=true:=by rw[h,k];rfl
theorem u9:(Rows.letrecPlainUptoRow.wf (OpenSpec.ofChange ((Rows.OpenSpec.upto Rows.letrecPlainSpec).bare)))=true:=by kernel_rfl
theorem va:(laidOutB Tryz.prog)=true:=by kernel_rfl
theorem vb:(mapsRowed Tryz.prog)=true:=by kernel_rfl
theorem vc:(Tryz.f7.params.all (Tryz.prog.readableRec ·))=true:=by kernel_rfl
theorem ve:(namedTie Tryz.prog Rows.letrecPlainUptoRow.named ((Rows.OpenSpec.upto Rows.letrecPlainSpec).bare).vars)=true:=by kernel_rfl
theorem vf:((Rows.letrecPlainUptoRow.stops == []))=true:=by kernel_rfl
theorem vg:((Tryz.prog.stops == []))=true:=by kernel_rfl
theorem vh:((Rows.letrecPlainUptoRow.knobs == []))=true:=by kernel_rfl
theorem vi:((Tryz.prog.stopKnobs == []))=true:=by kernel_rfl
theorem sD:((Rows.letrecPlainUptoRow.inPlace == Tryz.prog.inPlace 7))=true:=by kernel_rfl
theorem sG:((Rows.letrecPlainUptoRow.unfollowed == Tryz.prog.unfollowed 7))=true:=by kernel_rfl
theorem sH:((Rows.letrecPlainUptoRow.recurses == Tryz.prog.recurses 7))=true:=by kernel_rfl
theorem sI:((Rows.letrecPlainUptoRow.named == Tryz.prog.varsNamed 7))=true:=by kernel_rfl
theorem sJ:((Rows.letrecPlainUptoRow.maps == (Tryz.f7.params.toList++((Rows.OpenSpec.upto Rows.letrecPlainSpec).bare).plain.varTypes Tryz.prog).any (Tryz.prog.mapsRec ·)))=true:=by kernel_rfl
theorem sK:((Rows.letrecPlainUptoRow.ifaces == (Tryz.f7.params.toList++((Rows.OpenSpec.upto Rows.letrecPlainSpec).bare).plain.varTypes Tryz.prog).any (Tryz.prog.ifacesRec ·)))=true:=by kernel_rfl
theorem sL:((Rows.letrecPlainUptoRow.mapsOut == Tryz.prog.mapsAmong Tryz.f7.resultTypes.toList))=true:=by kernel_rfl
theorem sM:((Rows.letrecPlainUptoRow.loops == (Tryz.f7.params.toList++((Rows.OpenSpec.upto Rows.letrecPlainSpec).bare).plain.varTypes Tryz.prog).any (Tryz.prog.loopsFrom ·)))=true:=by kernel_rfl
theorem sN:((Rows.letrecPlainUptoRow.wideKeys == (Tryz.f7.params.toList++((Rows.OpenSpec.upto Rows.letrecPlainSpec).bare).plain.varTypes Tryz.prog++Tryz.f7.resultTypes.toList).any (Tryz.prog.wideKeysFrom ·)))=true:=by kernel_rfl
theorem sO:(((Rows.OpenSpec.upto Rows.letrecPlainSpec).bare).vars.all (Tryz.prog.varReadable ·))=true:=by kernel_rfl
theorem sR:(Tryz.f7.resultTypes.all (fun t=>Tryz.prog.readableRec t && decide (t < Tryz.prog.types.size)))=true:=by kernel_rfl
theorem sS:((Rows.letrecPlainUptoRow.ifacesOut == Tryz.f7.resultTypes.toList.any (Tryz.prog.ifacesRec ·)))=true:=by kernel_rfl
theorem sU:((Rows.letrecPlainUptoRow.loopsOut == Tryz.f7.resultTypes.toList.any (Tryz.prog.loopsFrom ·)))=true:=by kernel_rfl
theorem sV:((Rows.letrecPlainUptoRow.plainKeys == Tryz.prog.plainKeys))=true:=by kernel_rfl
theorem sW:(Rows.letrecPlainUptoRow.shortTexts.isNone)=true:=by kernel_rfl
theorem sX:(Tryz.prog.stopsHeard)=true:=by kernel_rfl
theorem sY:(Tryz.prog.mayEnter)=true:=by kernel_rfl
theorem sZ:((Rows.letrecPlainUptoRow.lifted == Tryz.prog.liftsFinal))=true:=by kernel_rfl
theorem s5:((Tryz.prog.make == some Rows.letrecPlainUptoRow.make))=true:=by kernel_rfl
theorem s6:((Rows.letrecPlainUptoRow.kinds == (if Rows.letrecPlainUptoRow.domain.isEmpty then [] else Tryz.f7.params.toList.map fun t=>match Tryz.prog.underlying t with | some (.int k)=>some k | _=>none)))=true:=by kernel_rfl
theorem s7:((Rows.letrecPlainUptoRow.pinned == Rows.letrecPlainUptoRow.pinnedBy))=true:=by kernel_rfl
theorem s8:((Rows.letrecPlainUptoRow.veiled == (Tryz.f7.params.toList++((Rows.OpenSpec.upto Rows.letrecPlainSpec).bare).plain.varTypes Tryz.prog++Tryz.f7.resultTypes.toList).any (Tryz.prog.veiledRec ·)))=true:=by kernel_rfl
theorem s9:(Rows.letrecPlainUptoRow.veiledFits Tryz.prog Tryz.f7.params.toList (Tryz.f7.params.toList++((Rows.OpenSpec.upto Rows.letrecPlainSpec).bare).plain.varTypes Tryz.prog++Tryz.f7.resultTypes.toList))=true:=by kernel_rfl
theorem qd:joinedFacts Tryz.prog 7 Tryz.f7 (Rows.OpenSpec.upto Rows.letrecPlainSpec).bare Rows.letrecPlainUptoRow=true:=by
 unfold joinedFacts;exact (fP (fP (fP (fP (fP (fP (fP (fP (fP (fP (fP (fP (fP (fP (fP (fP (fP (fP (fP (fP (fP (fP (fP (fP (fP (fP (fP (fP (fP (fP (fP u9 va) vb) vc) ve) vf) vg) vh) vi) sD) sG) sH) sI) sJ) sK) sL) sM) sN) sO) sR) sS) sU) sV) sW) sX) sY) sZ) s5) s6) s7) s8) s9)
theorem qT:Rows.LetrecPlainUptoSaid:=
 OpenClaim.holds_of_cond 7 Tryz.f7 rfl rfl rfl rfl rfl rfl rfl ⟨rfl,rfl,rfl,rfl,rfl⟩ rfl rfl rfl rfl rfl ic Tryz.func7 qd qS qU
  (fun os started H enc _ F=>by rw[OpenClaim.pre_eq_preRow];exact oL os started H enc F)
theorem qe (f:FuncId) (fn:Func) (hf:Tryz.pinned.checked.prog.funcNamed Rows.letrecPlainUptoRow.func=some f) (hfn:Tryz.pinned.checked.prog.funcs[f]?=some fn):
  true=Tryz.pinned.checked.prog.looks []∧ ∀ (j:Nat) t,fn.params[j]?=some t→Tryz.pinned.checked.prog.wantsStandIn t=false:=by
 obtain rfl:f=7:=Option.some.inj (ic.symm.trans hf) |>.symm;obtain rfl:fn=Tryz.f7:=(Option.some.inj (Tryz.func7.symm.trans hfn)).symm;refine ⟨by kernel_rfl,fun j t ht=>?_⟩;rw[Tryz.params7] at ht;have hm:=Array.mem_of_getElem? ht;simp only[List.mem_toArray,List.mem_cons,List.mem_nil_iff,or_false] at hm;subst hm;exact (show Tryz.prog.wantsStandIn 28=false by kernel_rfl)
theorem Kv {P:Program} {f:FuncId} (h1:(P.closure f).any (fun g=>(P.funcs[g]?).any Func.goes)=false) (h2:P.funcs.any Func.goes=false):P.goes f=false:=by
 unfold Program.goes;rw[h1,h2,Bool.and_false];rfl
theorem vj:(Tryz.prog.closure 7).any (fun g=>(Tryz.prog.funcs[g]?).any Func.goes)=false:=by kernel_rfl
theorem vk:Tryz.prog.funcs.any Func.goes=false:=by kernel_rfl
theorem vl:Tryz.prog.inits.toList.any Tryz.prog.goes=false:=by kernel_rfl
theorem qR:false=Rows.letrecPlainUptoRow.goesBy Tryz.prog:=by
 have e:Tryz.prog.goesFrom Rows.letrecPlainUptoRow.func=false:=by
  unfold Program.goesFrom;rw[ic];exact Kv vj vk
 unfold OpenClaim.goesBy Program.goesAt;rw[e,Bool.false_or];exact vl.symm
theorem letrecPlain_card:Rows.LetrecPlainUptoCardSaid:=
 Claim7.holds_tied_plain_at .later [] _ _ _ _ qT (fun _ h=>by cases h) (by kernel_rfl) (fun _ h=>by cases h) letrecPlainUpto_row_tie rfl ⟨rfl,rfl⟩ (by kernel_rfl) rfl qe qR
end Go.Proofs.YtamlcgkjinbnlaaGreatDoor


