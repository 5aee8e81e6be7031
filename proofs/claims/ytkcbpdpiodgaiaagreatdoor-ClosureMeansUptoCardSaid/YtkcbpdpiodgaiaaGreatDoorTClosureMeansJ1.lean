/-
 ClosureMeans returns true for every input where what it reads is of bulk at most 1048576; the arguments read behind the call as before. Conditions: those of the given card.
-/
import Derived.SevenTiedAt
import Derived.Test.YtkcbpdpiodgaiaaGreatDoorCards
import Derived.Test.YtkcbpdpiodgaiaaGreatDoorTie
import Derived.Test.YtkcbpdpiodgaiaaGreatDoorC9
set_option linter.unusedSimpArgs false
set_option linter.unusedVariables false
namespace Go.Proofs.YtkcbpdpiodgaiaaGreatDoor
set_option maxRecDepth 100000
set_option maxHeartbeats 4000000
open Go Go.Cb Go.ChangeShapes Go.WideShapes Go.ChangeAt Go.RowKit
theorem mo (H:Type) (enc:TypeId×Value→H) (F:Stop.Interp) (W:World) (base:Nat) (args:Array Value) (ds gs:List (DataW H)) (before:List MemPlace)
  (hval: ∀ (j:Nat) t v,Tryz.f5.params[j]?=some t→args[j]?=some v→Value.okWide Tryz.prog W .any base t v)
  (hW:DataW.Whole enc Tryz.prog Tryz.f5.params.toList ((Rows.OpenSpec.upto Rows.closureMeansSpec).at F).vars false W args.toList ds gs before)
  (hcond:Rows.uptoSmall H (ds++gs)=true):
  Calls Tryz.prog 5 args W fun e W'=> ∃ v,e=.returned v∧((Rows.OpenSpec.upto Rows.closureMeansSpec).at F).post enc Tryz.prog Tryz.f5 false true false false W args v W':=by
 have hW':=hW;obtain ⟨p,q,hA0,hV,rfl,hfz,hnd⟩:=hW;have hA:DataW.TrodAll enc Tryz.prog W 0 (fun _=>true) true Tryz.f5.params.toList args.toList ds p:=hA0;rw[Tryz.params5] at hA hval;obtain ⟨v0,vs0,d0,ds0,p0,q0,hargs,rfl,rfl,h0,r0⟩:=trodAll_cons hA;obtain ⟨v1,vs1,d1,ds1,p1,q1,rfl,rfl,rfl,h1,r1⟩:=trodAll_cons r0;obtain ⟨rfl,rfl,rfl⟩:=trodAll_nil r1;obtain rfl:args= #[v0,v1]:=by cases args;simp_all
 obtain ⟨a0,hp0,hb0⟩:=CA Tryz.underlying28 Qe (hval 0 _ v0 rfl rfl) h0;obtain ⟨a1,hp1,hw1⟩:=JP Tryz.underlying3 (hval 1 _ v1 rfl rfl) h1;simp[Lit.wf,IntKind.min,IntKind.max,IntKind.signed,IntKind.bits] at hw1;have hb:=of_decide_eq_true hcond;simp only[List.cons_append,Rows.uptoBulkAll] at hb;have hl0:=Datum.dA a0.consts;have hq0:Datum.aD a0.consts + a0.body.bp≤Rows.uptoBulk d0:=hb0;refine (CH (uI a0 a1 (by omega)) (vs:= [v0,v1]) (by simp only[av,and_true];exact ⟨hp0,hp1⟩)).mono ?_;rintro e W' ⟨rfl,hbel⟩
 exact ⟨_,rfl,Ia laidOut (fun t ht=>by
  rw[Tryz.params5] at ht;simp only[List.mem_cons,List.mem_nil_iff,or_false] at ht;rcases ht with rfl | rfl
  ·exact Qc
  ·exact Qb) (by kernel_rfl) Tryz.underlying4 rfl (fun ds hd=>by
  rw[Tryz.params5] at hd
  match ds,hd with
  | [a,b],_=>rfl) hW' hbel⟩
def eg:Array Value:= #[.agg #[.slice none 0 0,.int .i64 0,.int .i64 0,.slice none 0 0,.slice none 0 0],.int .i64 0]
theorem mL (os:Os) {H:Type} (enc:TypeId×Value→H):
  (Rows.OpenSpec.upto Rows.closureMeansSpec).preRow enc Tryz.prog Tryz.f5 Rows.closureMeansUptoRow.domain false Rows.closureMeansUptoRow.laid ((laidWorld os).forCall (fun _ _=>0) ⟨#[],eg, []⟩).memory eg:=by
 have hw:(DataW.whole enc Tryz.prog ((laidWorld os).forCall (fun _ _=>0) ⟨#[],eg, []⟩).memory Tryz.f5.params.toList (Rows.OpenSpec.upto Rows.closureMeansSpec).vars false eg.toList 8).map (fun x=>(x.1,x.2.1))=
   some ([.agg [.nil,.agg [.lit (.int .i64 0),.lit (.int .i64 0),.nil,.nil]],.lit (.int .i64 0)], []):=by kernel_rfl
 obtain ⟨⟨x1,x2,x3⟩,hx,hx1⟩:=Option.map_eq_some_iff.1 hw;simp only[Prod.mk.injEq] at hx1;obtain ⟨rfl,rfl⟩:=hx1;exact OpenSpec.preRow_of_cond 8 hx (by kernel_rfl) (fun k hk=>by cases hk;kernel_rfl) (by kernel_rfl) (H9 os _)
theorem od (os:Os) (started:os.Started) (H:Type) (enc:TypeId×Value→H) (F:Stop.Interp):
  ReturnsInHanded {} Tryz.checked os 5 .any ((Rows.OpenSpec.upto Rows.closureMeansSpec).preRow enc Tryz.prog Tryz.f5 Rows.closureMeansUptoRow.domain false Rows.closureMeansUptoRow.laid) (((Rows.OpenSpec.upto Rows.closureMeansSpec).at F).post enc Tryz.prog Tryz.f5 false true false false):=by
 refine returnsInHanded_of_row (C:=Tryz.checked) (s:=Rows.OpenSpec.upto Rows.closureMeansSpec) Iu started (by kernel_rfl) Tryz.func5
  (witness_row_atRef (enc:=enc) (C:=Tryz.checked) false (laidWorld os) eg rfl (by kernel_rfl) (by kernel_rfl) (by kernel_rfl) (mL os enc)) ?_
 intro W base args ds gs before hval hW _ hcond _ hL _ _;exact mo H enc F W base args ds gs before hval hW (hcond _ rfl)
theorem gP:Tryz.prog.funcNamed Rows.closureMeansUptoRow.func=some 5:=by kernel_rfl
theorem pQ:Tryz.f5.isInstance Tryz.prog Rows.closureMeansUptoRow.origin Rows.closureMeansUptoRow.targs:=of_decide_eq_true (by kernel_rfl)
theorem pU:Tryz.f5.isWrapper Tryz.prog Rows.closureMeansUptoRow.wrapper Rows.closureMeansUptoRow.mainSum:=by
 unfold Func.isWrapper;rw[if_neg (of_decide_eq_false (by kernel_rfl))];exact ⟨rfl,rfl⟩
theorem gw {a b:Bool} (h:a=true) (k:b=true):(a && b)=true:=by rw[h,k];rfl
theorem sO:(Rows.closureMeansUptoRow.wf (OpenSpec.ofChange ((Rows.OpenSpec.upto Rows.closureMeansSpec).bare)))=true:=by kernel_rfl
theorem sR:(laidOutB Tryz.prog)=true:=by kernel_rfl
theorem sS:(mapsRowed Tryz.prog)=true:=by kernel_rfl
theorem sU:(Tryz.f5.params.all (Tryz.prog.readableRec ·))=true:=by kernel_rfl
theorem sV:(namedTie Tryz.prog Rows.closureMeansUptoRow.named ((Rows.OpenSpec.upto Rows.closureMeansSpec).bare).vars)=true:=by kernel_rfl
theorem sW:((Rows.closureMeansUptoRow.stops == []))=true:=by kernel_rfl
theorem sY:((Tryz.prog.stops == []))=true:=by kernel_rfl
theorem sZ:((Rows.closureMeansUptoRow.knobs == []))=true:=by kernel_rfl
theorem s7:((Tryz.prog.stopKnobs == []))=true:=by kernel_rfl
theorem qS:((Rows.closureMeansUptoRow.inPlace == Tryz.prog.inPlace 5))=true:=by kernel_rfl
theorem qT:((Rows.closureMeansUptoRow.unfollowed == Tryz.prog.unfollowed 5))=true:=by kernel_rfl
theorem qU:((Rows.closureMeansUptoRow.recurses == Tryz.prog.recurses 5))=true:=by kernel_rfl
theorem qV:((Rows.closureMeansUptoRow.named == Tryz.prog.varsNamed 5))=true:=by kernel_rfl
theorem qW:((Rows.closureMeansUptoRow.maps == (Tryz.f5.params.toList++((Rows.OpenSpec.upto Rows.closureMeansSpec).bare).plain.varTypes Tryz.prog).any (Tryz.prog.mapsRec ·)))=true:=by kernel_rfl
theorem qX:((Rows.closureMeansUptoRow.ifaces == (Tryz.f5.params.toList++((Rows.OpenSpec.upto Rows.closureMeansSpec).bare).plain.varTypes Tryz.prog).any (Tryz.prog.ifacesRec ·)))=true:=by kernel_rfl
theorem qY:((Rows.closureMeansUptoRow.mapsOut == Tryz.prog.mapsAmong Tryz.f5.resultTypes.toList))=true:=by kernel_rfl
theorem qZ:((Rows.closureMeansUptoRow.loops == (Tryz.f5.params.toList++((Rows.OpenSpec.upto Rows.closureMeansSpec).bare).plain.varTypes Tryz.prog).any (Tryz.prog.loopsFrom ·)))=true:=by kernel_rfl
theorem q7:((Rows.closureMeansUptoRow.wideKeys == (Tryz.f5.params.toList++((Rows.OpenSpec.upto Rows.closureMeansSpec).bare).plain.varTypes Tryz.prog++Tryz.f5.resultTypes.toList).any (Tryz.prog.wideKeysFrom ·)))=true:=by kernel_rfl
theorem q8:(((Rows.OpenSpec.upto Rows.closureMeansSpec).bare).vars.all (Tryz.prog.varReadable ·))=true:=by kernel_rfl
theorem q9:(Tryz.f5.resultTypes.all (fun t=>Tryz.prog.readableRec t && decide (t < Tryz.prog.types.size)))=true:=by kernel_rfl
theorem ri:((Rows.closureMeansUptoRow.ifacesOut == Tryz.f5.resultTypes.toList.any (Tryz.prog.ifacesRec ·)))=true:=by kernel_rfl
theorem rj:((Rows.closureMeansUptoRow.loopsOut == Tryz.f5.resultTypes.toList.any (Tryz.prog.loopsFrom ·)))=true:=by kernel_rfl
theorem rq:((Rows.closureMeansUptoRow.plainKeys == Tryz.prog.plainKeys))=true:=by kernel_rfl
theorem ru:(Rows.closureMeansUptoRow.shortTexts.isNone)=true:=by kernel_rfl
theorem ry:(Tryz.prog.stopsHeard)=true:=by kernel_rfl
theorem rz:(Tryz.prog.mayEnter)=true:=by kernel_rfl
theorem rA:((Rows.closureMeansUptoRow.lifted == Tryz.prog.liftsFinal))=true:=by kernel_rfl
theorem rB:((Tryz.prog.make == some Rows.closureMeansUptoRow.make))=true:=by kernel_rfl
theorem rC:((Rows.closureMeansUptoRow.kinds == (if Rows.closureMeansUptoRow.domain.isEmpty then [] else Tryz.f5.params.toList.map fun t=>match Tryz.prog.underlying t with | some (.int k)=>some k | _=>none)))=true:=by kernel_rfl
theorem rD:((Rows.closureMeansUptoRow.pinned == Rows.closureMeansUptoRow.pinnedBy))=true:=by kernel_rfl
theorem rE:((Rows.closureMeansUptoRow.veiled == (Tryz.f5.params.toList++((Rows.OpenSpec.upto Rows.closureMeansSpec).bare).plain.varTypes Tryz.prog++Tryz.f5.resultTypes.toList).any (Tryz.prog.veiledRec ·)))=true:=by kernel_rfl
theorem rF:(Rows.closureMeansUptoRow.veiledFits Tryz.prog Tryz.f5.params.toList (Tryz.f5.params.toList++((Rows.OpenSpec.upto Rows.closureMeansSpec).bare).plain.varTypes Tryz.prog++Tryz.f5.resultTypes.toList))=true:=by kernel_rfl
theorem oI:joinedFacts Tryz.prog 5 Tryz.f5 (Rows.OpenSpec.upto Rows.closureMeansSpec).bare Rows.closureMeansUptoRow=true:=by
 unfold joinedFacts;exact (gw (gw (gw (gw (gw (gw (gw (gw (gw (gw (gw (gw (gw (gw (gw (gw (gw (gw (gw (gw (gw (gw (gw (gw (gw (gw (gw (gw (gw (gw (gw sO sR) sS) sU) sV) sW) sY) sZ) s7) qS) qT) qU) qV) qW) qX) qY) qZ) q7) q8) q9) ri) rj) rq) ru) ry) rz) rA) rB) rC) rD) rE) rF)
theorem pT:Rows.ClosureMeansUptoSaid:=
 OpenClaim.holds_of_cond 5 Tryz.f5 rfl rfl rfl rfl rfl rfl rfl ⟨rfl,rfl,rfl,rfl,rfl⟩ rfl rfl rfl rfl rfl gP Tryz.func5 oI pQ pU
  (fun os started H enc _ F=>by rw[OpenClaim.pre_eq_preRow];exact od os started H enc F)
theorem oJ (f:FuncId) (fn:Func) (hf:Tryz.pinned.checked.prog.funcNamed Rows.closureMeansUptoRow.func=some f) (hfn:Tryz.pinned.checked.prog.funcs[f]?=some fn):
  true=Tryz.pinned.checked.prog.looks []∧ ∀ (j:Nat) t,fn.params[j]?=some t→Tryz.pinned.checked.prog.wantsStandIn t=false:=by
 obtain rfl:f=5:=Option.some.inj (gP.symm.trans hf) |>.symm;obtain rfl:fn=Tryz.f5:=(Option.some.inj (Tryz.func5.symm.trans hfn)).symm;refine ⟨by kernel_rfl,fun j t ht=>?_⟩;rw[Tryz.params5] at ht;have hm:=Array.mem_of_getElem? ht;simp only[List.mem_toArray,List.mem_cons,List.mem_nil_iff,or_false] at hm;rcases hm with rfl | rfl
 ·exact (show Tryz.prog.wantsStandIn 28=false by kernel_rfl)
 ·exact (show Tryz.prog.wantsStandIn 3=false by kernel_rfl)
theorem Kh {P:Program} {f:FuncId} (h1:(P.closure f).any (fun g=>(P.funcs[g]?).any Func.goes)=false) (h2:P.funcs.any Func.goes=false):P.goes f=false:=by
 unfold Program.goes;rw[h1,h2,Bool.and_false];rfl
theorem s8:(Tryz.prog.closure 5).any (fun g=>(Tryz.prog.funcs[g]?).any Func.goes)=false:=by kernel_rfl
theorem s9:Tryz.prog.funcs.any Func.goes=false:=by kernel_rfl
theorem ta:Tryz.prog.inits.toList.any Tryz.prog.goes=false:=by kernel_rfl
theorem pP:false=Rows.closureMeansUptoRow.goesBy Tryz.prog:=by
 have e:Tryz.prog.goesFrom Rows.closureMeansUptoRow.func=false:=by
  unfold Program.goesFrom;rw[gP];exact Kh s8 s9
 unfold OpenClaim.goesBy Program.goesAt;rw[e,Bool.false_or];exact ta.symm
theorem closureMeans_card:Rows.ClosureMeansUptoCardSaid:=
 Claim7.holds_tied_plain_at .later [] _ _ _ _ pT (fun _ h=>by cases h) (by kernel_rfl) (fun _ h=>by cases h) closureMeansUpto_row_tie rfl ⟨rfl,rfl⟩ (by kernel_rfl) rfl oJ pP
end Go.Proofs.YtkcbpdpiodgaiaaGreatDoor


