/-
 LetrecShift returns true for every input where what it reads is of bulk at most 1048576; the arguments read behind the call as before. Conditions: those of the given card.
-/
import Derived.SevenTiedAt
import Derived.Test.YtamlcgkjinbnlaaGreatDoorCards
import Derived.Test.YtamlcgkjinbnlaaGreatDoorTie
import Derived.Test.YtamlcgkjinbnlaaGreatDoorE9
set_option linter.unusedSimpArgs false
set_option linter.unusedVariables false
namespace Go.Proofs.YtamlcgkjinbnlaaGreatDoor
set_option maxRecDepth 100000
set_option maxHeartbeats 4000000
open Go Go.Cb Go.ChangeShapes Go.WideShapes Go.ChangeAt Go.RowKit
theorem mR (H:Type) (enc:TypeId×Value→H) (F:Stop.Interp) (W:World) (base:Nat) (args:Array Value) (ds gs:List (DataW H)) (before:List MemPlace)
  (hval: ∀ (j:Nat) t v,Tryz.f8.params[j]?=some t→args[j]?=some v→Value.okWide Tryz.prog W .any base t v)
  (hW:DataW.Whole enc Tryz.prog Tryz.f8.params.toList ((Rows.OpenSpec.upto Rows.letrecShiftSpec).at F).vars false W args.toList ds gs before)
  (hcond:Rows.uptoSmall H (ds++gs)=true):
  Calls Tryz.prog 8 args W fun e W'=> ∃ v,e=.returned v∧((Rows.OpenSpec.upto Rows.letrecShiftSpec).at F).post enc Tryz.prog Tryz.f8 false true false false W args v W':=by
 have hW':=hW;obtain ⟨p,q,hA0,hV,rfl,hfz,hnd⟩:=hW;have hA:DataW.TrodAll enc Tryz.prog W 0 (fun _=>true) true Tryz.f8.params.toList args.toList ds p:=hA0;rw[Tryz.params8] at hA hval;obtain ⟨v0,vs0,d0,ds0,p0,q0,hargs,rfl,rfl,h0,r0⟩:=trodAll_cons hA;obtain ⟨v1,vs1,d1,ds1,p1,q1,rfl,rfl,rfl,h1,r1⟩:=trodAll_cons r0;obtain ⟨rfl,rfl,rfl⟩:=trodAll_nil r1;obtain rfl:args= #[v0,v1]:=by cases args;simp_all
 obtain ⟨a0,hp0,hb0⟩:=Cx Tryz.underlying28 P7 (hval 0 _ v0 rfl rfl) h0;obtain ⟨a1,hp1,hw1⟩:=Ku Tryz.underlying3 (hval 1 _ v1 rfl rfl) h1;simp[Lit.wf,IntKind.min,IntKind.max,IntKind.signed,IntKind.bits] at hw1;have hb:=of_decide_eq_true hcond;simp only[List.cons_append,Rows.uptoBulkAll] at hb;have hl0:=Datum.bn a0.consts;have hq0:Datum.aE a0.consts + a0.body.aR≤Rows.uptoBulk d0:=hb0;refine (CE (wF a0 a1 (by omega)) (vs:= [v0,v1]) (by simp only[ay,and_true];exact ⟨hp0,hp1⟩)).mono ?_;rintro e W' ⟨rfl,hbel⟩
 exact ⟨_,rfl,IC laidOut (fun t ht=>by
  rw[Tryz.params8] at ht;simp only[List.mem_cons,List.mem_nil_iff,or_false] at ht;rcases ht with rfl | rfl
  ·exact Q3
  ·exact Q2) (by kernel_rfl) Tryz.underlying4 rfl (fun ds hd=>by
  rw[Tryz.params8] at hd
  match ds,hd with
  | [a,b],_=>rfl) hW' hbel⟩
def dQ:Array Value:= #[.agg #[.slice none 0 0,.int .i64 0,.int .i64 0,.slice none 0 0,.slice none 0 0],.int .i64 0]
theorem n6 (os:Os) {H:Type} (enc:TypeId×Value→H):
  (Rows.OpenSpec.upto Rows.letrecShiftSpec).preRow enc Tryz.prog Tryz.f8 Rows.letrecShiftUptoRow.domain false Rows.letrecShiftUptoRow.laid ((laidWorld os).forCall (fun _ _=>0) ⟨#[],dQ, []⟩).memory dQ:=by
 have hw:(DataW.whole enc Tryz.prog ((laidWorld os).forCall (fun _ _=>0) ⟨#[],dQ, []⟩).memory Tryz.f8.params.toList (Rows.OpenSpec.upto Rows.letrecShiftSpec).vars false dQ.toList 8).map (fun x=>(x.1,x.2.1))=
   some ([.agg [.nil,.agg [.lit (.int .i64 0),.lit (.int .i64 0),.nil,.nil]],.lit (.int .i64 0)], []):=by kernel_rfl
 obtain ⟨⟨x1,x2,x3⟩,hx,hx1⟩:=Option.map_eq_some_iff.1 hw;simp only[Prod.mk.injEq] at hx1;obtain ⟨rfl,rfl⟩:=hx1;exact OpenSpec.preRow_of_cond 8 hx (by kernel_rfl) (fun k hk=>by cases hk;kernel_rfl) (by kernel_rfl) (IA os _)
theorem oL (os:Os) (started:os.Started) (H:Type) (enc:TypeId×Value→H) (F:Stop.Interp):
  ReturnsInHanded {} Tryz.checked os 8 .any ((Rows.OpenSpec.upto Rows.letrecShiftSpec).preRow enc Tryz.prog Tryz.f8 Rows.letrecShiftUptoRow.domain false Rows.letrecShiftUptoRow.laid) (((Rows.OpenSpec.upto Rows.letrecShiftSpec).at F).post enc Tryz.prog Tryz.f8 false true false false):=by
 refine returnsInHanded_of_row (C:=Tryz.checked) (s:=Rows.OpenSpec.upto Rows.letrecShiftSpec) I2 started (by kernel_rfl) Tryz.func8
  (witness_row_atRef (enc:=enc) (C:=Tryz.checked) false (laidWorld os) dQ rfl (by kernel_rfl) (by kernel_rfl) (by kernel_rfl) (n6 os enc)) ?_
 intro W base args ds gs before hval hW _ hcond _ hL _ _;exact mR H enc F W base args ds gs before hval hW (hcond _ rfl)
theorem ia:Tryz.prog.funcNamed Rows.letrecShiftUptoRow.func=some 8:=by kernel_rfl
theorem qT:Tryz.f8.isInstance Tryz.prog Rows.letrecShiftUptoRow.origin Rows.letrecShiftUptoRow.targs:=of_decide_eq_true (by kernel_rfl)
theorem qV:Tryz.f8.isWrapper Tryz.prog Rows.letrecShiftUptoRow.wrapper Rows.letrecShiftUptoRow.mainSum:=by
 unfold Func.isWrapper;rw[if_neg (of_decide_eq_false (by kernel_rfl))];exact ⟨rfl,rfl⟩
theorem fQ {a b:Bool} (h:a=true) (k:b=true):(a && b)=true:=by rw[h,k];rfl
theorem vf:(Rows.letrecShiftUptoRow.wf (OpenSpec.ofChange ((Rows.OpenSpec.upto Rows.letrecShiftSpec).bare)))=true:=by kernel_rfl
theorem vg:(laidOutB Tryz.prog)=true:=by kernel_rfl
theorem vh:(mapsRowed Tryz.prog)=true:=by kernel_rfl
theorem vi:(Tryz.f8.params.all (Tryz.prog.readableRec ·))=true:=by kernel_rfl
theorem vj:(namedTie Tryz.prog Rows.letrecShiftUptoRow.named ((Rows.OpenSpec.upto Rows.letrecShiftSpec).bare).vars)=true:=by kernel_rfl
theorem vk:((Rows.letrecShiftUptoRow.stops == []))=true:=by kernel_rfl
theorem vl:((Tryz.prog.stops == []))=true:=by kernel_rfl
theorem vm:((Rows.letrecShiftUptoRow.knobs == []))=true:=by kernel_rfl
theorem vn:((Tryz.prog.stopKnobs == []))=true:=by kernel_rfl
theorem sH:((Rows.letrecShiftUptoRow.inPlace == Tryz.prog.inPlace 8))=true:=by kernel_rfl
theorem sI:((Rows.letrecShiftUptoRow.unfollowed == Tryz.prog.unfollowed 8))=true:=by kernel_rfl
theorem sJ:((Rows.letrecShiftUptoRow.recurses == Tryz.prog.recurses 8))=true:=by kernel_rfl
theorem sK:((Rows.letrecShiftUptoRow.named == Tryz.prog.varsNamed 8))=true:=by kernel_rfl
theorem sL:((Rows.letrecShiftUptoRow.maps == (Tryz.f8.params.toList++((Rows.OpenSpec.upto Rows.letrecShiftSpec).bare).plain.varTypes Tryz.prog).any (Tryz.prog.mapsRec ·)))=true:=by kernel_rfl
theorem sM:((Rows.letrecShiftUptoRow.ifaces == (Tryz.f8.params.toList++((Rows.OpenSpec.upto Rows.letrecShiftSpec).bare).plain.varTypes Tryz.prog).any (Tryz.prog.ifacesRec ·)))=true:=by kernel_rfl
theorem sN:((Rows.letrecShiftUptoRow.mapsOut == Tryz.prog.mapsAmong Tryz.f8.resultTypes.toList))=true:=by kernel_rfl
theorem sO:((Rows.letrecShiftUptoRow.loops == (Tryz.f8.params.toList++((Rows.OpenSpec.upto Rows.letrecShiftSpec).bare).plain.varTypes Tryz.prog).any (Tryz.prog.loopsFrom ·)))=true:=by kernel_rfl
theorem sR:((Rows.letrecShiftUptoRow.wideKeys == (Tryz.f8.params.toList++((Rows.OpenSpec.upto Rows.letrecShiftSpec).bare).plain.varTypes Tryz.prog++Tryz.f8.resultTypes.toList).any (Tryz.prog.wideKeysFrom ·)))=true:=by kernel_rfl
theorem sS:(((Rows.OpenSpec.upto Rows.letrecShiftSpec).bare).vars.all (Tryz.prog.varReadable ·))=true:=by kernel_rfl
theorem sU:(Tryz.f8.resultTypes.all (fun t=>Tryz.prog.readableRec t && decide (t < Tryz.prog.types.size)))=true:=by kernel_rfl
theorem sV:((Rows.letrecShiftUptoRow.ifacesOut == Tryz.f8.resultTypes.toList.any (Tryz.prog.ifacesRec ·)))=true:=by kernel_rfl
theorem sW:((Rows.letrecShiftUptoRow.loopsOut == Tryz.f8.resultTypes.toList.any (Tryz.prog.loopsFrom ·)))=true:=by kernel_rfl
theorem sX:((Rows.letrecShiftUptoRow.plainKeys == Tryz.prog.plainKeys))=true:=by kernel_rfl
theorem sY:(Rows.letrecShiftUptoRow.shortTexts.isNone)=true:=by kernel_rfl
theorem sZ:(Tryz.prog.stopsHeard)=true:=by kernel_rfl
theorem s5:(Tryz.prog.mayEnter)=true:=by kernel_rfl
theorem s6:((Rows.letrecShiftUptoRow.lifted == Tryz.prog.liftsFinal))=true:=by kernel_rfl
theorem s7:((Tryz.prog.make == some Rows.letrecShiftUptoRow.make))=true:=by kernel_rfl
theorem s8:((Rows.letrecShiftUptoRow.kinds == (if Rows.letrecShiftUptoRow.domain.isEmpty then [] else Tryz.f8.params.toList.map fun t=>match Tryz.prog.underlying t with | some (.int k)=>some k | _=>none)))=true:=by kernel_rfl
theorem s9:((Rows.letrecShiftUptoRow.pinned == Rows.letrecShiftUptoRow.pinnedBy))=true:=by kernel_rfl
theorem tc:((Rows.letrecShiftUptoRow.veiled == (Tryz.f8.params.toList++((Rows.OpenSpec.upto Rows.letrecShiftSpec).bare).plain.varTypes Tryz.prog++Tryz.f8.resultTypes.toList).any (Tryz.prog.veiledRec ·)))=true:=by kernel_rfl
theorem th:(Rows.letrecShiftUptoRow.veiledFits Tryz.prog Tryz.f8.params.toList (Tryz.f8.params.toList++((Rows.OpenSpec.upto Rows.letrecShiftSpec).bare).plain.varTypes Tryz.prog++Tryz.f8.resultTypes.toList))=true:=by kernel_rfl
theorem p8:joinedFacts Tryz.prog 8 Tryz.f8 (Rows.OpenSpec.upto Rows.letrecShiftSpec).bare Rows.letrecShiftUptoRow=true:=by
 unfold joinedFacts;exact (fQ (fQ (fQ (fQ (fQ (fQ (fQ (fQ (fQ (fQ (fQ (fQ (fQ (fQ (fQ (fQ (fQ (fQ (fQ (fQ (fQ (fQ (fQ (fQ (fQ (fQ (fQ (fQ (fQ (fQ (fQ vf vg) vh) vi) vj) vk) vl) vm) vn) sH) sI) sJ) sK) sL) sM) sN) sO) sR) sS) sU) sV) sW) sX) sY) sZ) s5) s6) s7) s8) s9) tc) th)
theorem qU:Rows.LetrecShiftUptoSaid:=
 OpenClaim.holds_of_cond 8 Tryz.f8 rfl rfl rfl rfl rfl rfl rfl ⟨rfl,rfl,rfl,rfl,rfl⟩ rfl rfl rfl rfl rfl ia Tryz.func8 p8 qT qV
  (fun os started H enc _ F=>by rw[OpenClaim.pre_eq_preRow];exact oL os started H enc F)
theorem p9 (f:FuncId) (fn:Func) (hf:Tryz.pinned.checked.prog.funcNamed Rows.letrecShiftUptoRow.func=some f) (hfn:Tryz.pinned.checked.prog.funcs[f]?=some fn):
  true=Tryz.pinned.checked.prog.looks []∧ ∀ (j:Nat) t,fn.params[j]?=some t→Tryz.pinned.checked.prog.wantsStandIn t=false:=by
 obtain rfl:f=8:=Option.some.inj (ia.symm.trans hf) |>.symm;obtain rfl:fn=Tryz.f8:=(Option.some.inj (Tryz.func8.symm.trans hfn)).symm;refine ⟨by kernel_rfl,fun j t ht=>?_⟩;rw[Tryz.params8] at ht;have hm:=Array.mem_of_getElem? ht;simp only[List.mem_toArray,List.mem_cons,List.mem_nil_iff,or_false] at hm;rcases hm with rfl | rfl
 ·exact (show Tryz.prog.wantsStandIn 28=false by kernel_rfl)
 ·exact (show Tryz.prog.wantsStandIn 3=false by kernel_rfl)
theorem KR {P:Program} {f:FuncId} (h1:(P.closure f).any (fun g=>(P.funcs[g]?).any Func.goes)=false) (h2:P.funcs.any Func.goes=false):P.goes f=false:=by
 unfold Program.goes;rw[h1,h2,Bool.and_false];rfl
theorem vo:(Tryz.prog.closure 8).any (fun g=>(Tryz.prog.funcs[g]?).any Func.goes)=false:=by kernel_rfl
theorem vp:Tryz.prog.funcs.any Func.goes=false:=by kernel_rfl
theorem vq:Tryz.prog.inits.toList.any Tryz.prog.goes=false:=by kernel_rfl
theorem qS:false=Rows.letrecShiftUptoRow.goesBy Tryz.prog:=by
 have e:Tryz.prog.goesFrom Rows.letrecShiftUptoRow.func=false:=by
  unfold Program.goesFrom;rw[ia];exact KR vo vp
 unfold OpenClaim.goesBy Program.goesAt;rw[e,Bool.false_or];exact vq.symm
theorem letrecShift_card:Rows.LetrecShiftUptoCardSaid:=
 Claim7.holds_tied_plain_at .later [] _ _ _ _ qU (fun _ h=>by cases h) (by kernel_rfl) (fun _ h=>by cases h) letrecShiftUpto_row_tie rfl ⟨rfl,rfl⟩ (by kernel_rfl) rfl p9 qS
end Go.Proofs.YtamlcgkjinbnlaaGreatDoor


