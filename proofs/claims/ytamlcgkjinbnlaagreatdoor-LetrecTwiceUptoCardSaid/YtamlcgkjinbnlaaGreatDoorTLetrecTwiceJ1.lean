/-
 LetrecTwice returns true for every input where what it reads is of bulk at most 1048576; the arguments read behind the call as before. Conditions: those of the given card.
-/
import Derived.SevenTiedAt
import Derived.Test.YtamlcgkjinbnlaaGreatDoorCards
import Derived.Test.YtamlcgkjinbnlaaGreatDoorTie
import Derived.Test.YtamlcgkjinbnlaaGreatDoorF9
set_option linter.unusedSimpArgs false
set_option linter.unusedVariables false
namespace Go.Proofs.YtamlcgkjinbnlaaGreatDoor
set_option maxRecDepth 100000
set_option maxHeartbeats 4000000
open Go Go.Cb Go.ChangeShapes Go.WideShapes Go.ChangeAt Go.RowKit
theorem m7 (H:Type) (enc:TypeId×Value→H) (F:Stop.Interp) (W:World) (base:Nat) (args:Array Value) (ds gs:List (DataW H)) (before:List MemPlace)
  (hval: ∀ (j:Nat) t v,Tryz.f9.params[j]?=some t→args[j]?=some v→Value.okWide Tryz.prog W .any base t v)
  (hW:DataW.Whole enc Tryz.prog Tryz.f9.params.toList ((Rows.OpenSpec.upto Rows.letrecTwiceSpec).at F).vars false W args.toList ds gs before)
  (hcond:Rows.uptoSmall H (ds++gs)=true):
  Calls Tryz.prog 9 args W fun e W'=> ∃ v,e=.returned v∧((Rows.OpenSpec.upto Rows.letrecTwiceSpec).at F).post enc Tryz.prog Tryz.f9 false true false false W args v W':=by
 have hW':=hW;obtain ⟨p,q,hA0,hV,rfl,hfz,hnd⟩:=hW;have hA:DataW.TrodAll enc Tryz.prog W 0 (fun _=>true) true Tryz.f9.params.toList args.toList ds p:=hA0;rw[Tryz.params9] at hA hval;obtain ⟨v0,vs0,d0,ds0,p0,q0,hargs,rfl,rfl,h0,r0⟩:=trodAll_cons hA;obtain ⟨rfl,rfl,rfl⟩:=trodAll_nil r0;obtain rfl:args= #[v0]:=by cases args;simp_all
 obtain ⟨a0,hp0,hb0⟩:=CM Tryz.underlying28 Qw (hval 0 _ v0 rfl rfl) h0;have hb:=of_decide_eq_true hcond;simp only[List.cons_append,Rows.uptoBulkAll] at hb;have hl0:=Datum.bn a0.consts;have hq0:Datum.aD a0.consts + a0.body.aR≤Rows.uptoBulk d0:=hb0;refine (CT (wW a0 (by omega)) (vs:= [v0]) (by simp only[aA,and_true];exact hp0)).mono ?_;rintro e W' ⟨rfl,hbel⟩
 exact ⟨_,rfl,IZ laidOut (fun t ht=>by
  rw[Tryz.params9] at ht;simp only[List.mem_cons,List.mem_nil_iff,or_false] at ht;subst ht
  exact Rr) (by kernel_rfl) Tryz.underlying4 rfl (fun ds hd=>by
  rw[Tryz.params9] at hd
  match ds,hd with
  | [a],_=>rfl) hW' hbel⟩
def dU:Array Value:= #[.agg #[.slice none 0 0,.int .i64 0,.int .i64 0,.slice none 0 0,.slice none 0 0]]
theorem oq (os:Os) {H:Type} (enc:TypeId×Value→H):
  (Rows.OpenSpec.upto Rows.letrecTwiceSpec).preRow enc Tryz.prog Tryz.f9 Rows.letrecTwiceUptoRow.domain false Rows.letrecTwiceUptoRow.laid ((laidWorld os).forCall (fun _ _=>0) ⟨#[],dU, []⟩).memory dU:=by
 have hw:(DataW.whole enc Tryz.prog ((laidWorld os).forCall (fun _ _=>0) ⟨#[],dU, []⟩).memory Tryz.f9.params.toList (Rows.OpenSpec.upto Rows.letrecTwiceSpec).vars false dU.toList 8).map (fun x=>(x.1,x.2.1))=
   some ([.agg [.nil,.agg [.lit (.int .i64 0),.lit (.int .i64 0),.nil,.nil]]], []):=by kernel_rfl
 obtain ⟨⟨x1,x2,x3⟩,hx,hx1⟩:=Option.map_eq_some_iff.1 hw;simp only[Prod.mk.injEq] at hx1;obtain ⟨rfl,rfl⟩:=hx1;exact OpenSpec.preRow_of_cond 8 hx (by kernel_rfl) (fun k hk=>by cases hk;kernel_rfl) (by kernel_rfl) (IX os _)
theorem o0 (os:Os) (started:os.Started) (H:Type) (enc:TypeId×Value→H) (F:Stop.Interp):
  ReturnsInHanded {} Tryz.checked os 9 .any ((Rows.OpenSpec.upto Rows.letrecTwiceSpec).preRow enc Tryz.prog Tryz.f9 Rows.letrecTwiceUptoRow.domain false Rows.letrecTwiceUptoRow.laid) (((Rows.OpenSpec.upto Rows.letrecTwiceSpec).at F).post enc Tryz.prog Tryz.f9 false true false false):=by
 refine returnsInHanded_of_row (C:=Tryz.checked) (s:=Rows.OpenSpec.upto Rows.letrecTwiceSpec) Jn started (by kernel_rfl) Tryz.func9
  (witness_row_atRef (enc:=enc) (C:=Tryz.checked) false (laidWorld os) dU rfl (by kernel_rfl) (by kernel_rfl) (by kernel_rfl) (oq os enc)) ?_
 intro W base args ds gs before hval hW _ hcond _ hL _ _;exact m7 H enc F W base args ds gs before hval hW (hcond _ rfl)
theorem iA:Tryz.prog.funcNamed Rows.letrecTwiceUptoRow.func=some 9:=by kernel_rfl
theorem rD:Tryz.f9.isInstance Tryz.prog Rows.letrecTwiceUptoRow.origin Rows.letrecTwiceUptoRow.targs:=of_decide_eq_true (by kernel_rfl)
theorem rF:Tryz.f9.isWrapper Tryz.prog Rows.letrecTwiceUptoRow.wrapper Rows.letrecTwiceUptoRow.mainSum:=by
 unfold Func.isWrapper;rw[if_neg (of_decide_eq_false (by kernel_rfl))];exact ⟨rfl,rfl⟩
theorem fW {a b:Bool} (h:a=true) (k:b=true):(a && b)=true:=by rw[h,k];rfl
theorem vr:(Rows.letrecTwiceUptoRow.wf (OpenSpec.ofChange ((Rows.OpenSpec.upto Rows.letrecTwiceSpec).bare)))=true:=by kernel_rfl
theorem vt:(laidOutB Tryz.prog)=true:=by kernel_rfl
theorem vu:(mapsRowed Tryz.prog)=true:=by kernel_rfl
theorem vv:(Tryz.f9.params.all (Tryz.prog.readableRec ·))=true:=by kernel_rfl
theorem vw:(namedTie Tryz.prog Rows.letrecTwiceUptoRow.named ((Rows.OpenSpec.upto Rows.letrecTwiceSpec).bare).vars)=true:=by kernel_rfl
theorem vz:((Rows.letrecTwiceUptoRow.stops == []))=true:=by kernel_rfl
theorem vA:((Tryz.prog.stops == []))=true:=by kernel_rfl
theorem vB:((Rows.letrecTwiceUptoRow.knobs == []))=true:=by kernel_rfl
theorem vC:((Tryz.prog.stopKnobs == []))=true:=by kernel_rfl
theorem s6:((Rows.letrecTwiceUptoRow.inPlace == Tryz.prog.inPlace 9))=true:=by kernel_rfl
theorem s7:((Rows.letrecTwiceUptoRow.unfollowed == Tryz.prog.unfollowed 9))=true:=by kernel_rfl
theorem s8:((Rows.letrecTwiceUptoRow.recurses == Tryz.prog.recurses 9))=true:=by kernel_rfl
theorem s9:((Rows.letrecTwiceUptoRow.named == Tryz.prog.varsNamed 9))=true:=by kernel_rfl
theorem tc:((Rows.letrecTwiceUptoRow.maps == (Tryz.f9.params.toList++((Rows.OpenSpec.upto Rows.letrecTwiceSpec).bare).plain.varTypes Tryz.prog).any (Tryz.prog.mapsRec ·)))=true:=by kernel_rfl
theorem th:((Rows.letrecTwiceUptoRow.ifaces == (Tryz.f9.params.toList++((Rows.OpenSpec.upto Rows.letrecTwiceSpec).bare).plain.varTypes Tryz.prog).any (Tryz.prog.ifacesRec ·)))=true:=by kernel_rfl
theorem tj:((Rows.letrecTwiceUptoRow.mapsOut == Tryz.prog.mapsAmong Tryz.f9.resultTypes.toList))=true:=by kernel_rfl
theorem tq:((Rows.letrecTwiceUptoRow.loops == (Tryz.f9.params.toList++((Rows.OpenSpec.upto Rows.letrecTwiceSpec).bare).plain.varTypes Tryz.prog).any (Tryz.prog.loopsFrom ·)))=true:=by kernel_rfl
theorem tw:((Rows.letrecTwiceUptoRow.wideKeys == (Tryz.f9.params.toList++((Rows.OpenSpec.upto Rows.letrecTwiceSpec).bare).plain.varTypes Tryz.prog++Tryz.f9.resultTypes.toList).any (Tryz.prog.wideKeysFrom ·)))=true:=by kernel_rfl
theorem tA:(((Rows.OpenSpec.upto Rows.letrecTwiceSpec).bare).vars.all (Tryz.prog.varReadable ·))=true:=by kernel_rfl
theorem tE:(Tryz.f9.resultTypes.all (fun t=>Tryz.prog.readableRec t && decide (t < Tryz.prog.types.size)))=true:=by kernel_rfl
theorem tF:((Rows.letrecTwiceUptoRow.ifacesOut == Tryz.f9.resultTypes.toList.any (Tryz.prog.ifacesRec ·)))=true:=by kernel_rfl
theorem tG:((Rows.letrecTwiceUptoRow.loopsOut == Tryz.f9.resultTypes.toList.any (Tryz.prog.loopsFrom ·)))=true:=by kernel_rfl
theorem tH:((Rows.letrecTwiceUptoRow.plainKeys == Tryz.prog.plainKeys))=true:=by kernel_rfl
theorem tJ:(Rows.letrecTwiceUptoRow.shortTexts.isNone)=true:=by kernel_rfl
theorem tK:(Tryz.prog.stopsHeard)=true:=by kernel_rfl
theorem tM:(Tryz.prog.mayEnter)=true:=by kernel_rfl
theorem tN:((Rows.letrecTwiceUptoRow.lifted == Tryz.prog.liftsFinal))=true:=by kernel_rfl
theorem tO:((Tryz.prog.make == some Rows.letrecTwiceUptoRow.make))=true:=by kernel_rfl
theorem tP:((Rows.letrecTwiceUptoRow.kinds == (if Rows.letrecTwiceUptoRow.domain.isEmpty then [] else Tryz.f9.params.toList.map fun t=>match Tryz.prog.underlying t with | some (.int k)=>some k | _=>none)))=true:=by kernel_rfl
theorem tQ:((Rows.letrecTwiceUptoRow.pinned == Rows.letrecTwiceUptoRow.pinnedBy))=true:=by kernel_rfl
theorem tR:((Rows.letrecTwiceUptoRow.veiled == (Tryz.f9.params.toList++((Rows.OpenSpec.upto Rows.letrecTwiceSpec).bare).plain.varTypes Tryz.prog++Tryz.f9.resultTypes.toList).any (Tryz.prog.veiledRec ·)))=true:=by kernel_rfl
theorem tU:(Rows.letrecTwiceUptoRow.veiledFits Tryz.prog Tryz.f9.params.toList (Tryz.f9.params.toList++((Rows.OpenSpec.upto Rows.letrecTwiceSpec).bare).plain.varTypes Tryz.prog++Tryz.f9.resultTypes.toList))=true:=by kernel_rfl
theorem qu:joinedFacts Tryz.prog 9 Tryz.f9 (Rows.OpenSpec.upto Rows.letrecTwiceSpec).bare Rows.letrecTwiceUptoRow=true:=by
 unfold joinedFacts;exact (fW (fW (fW (fW (fW (fW (fW (fW (fW (fW (fW (fW (fW (fW (fW (fW (fW (fW (fW (fW (fW (fW (fW (fW (fW (fW (fW (fW (fW (fW (fW vr vt) vu) vv) vw) vz) vA) vB) vC) s6) s7) s8) s9) tc) th) tj) tq) tw) tA) tE) tF) tG) tH) tJ) tK) tM) tN) tO) tP) tQ) tR) tU)
theorem rE:Rows.LetrecTwiceUptoSaid:=
 OpenClaim.holds_of_cond 9 Tryz.f9 rfl rfl rfl rfl rfl rfl rfl ⟨rfl,rfl,rfl,rfl,rfl⟩ rfl rfl rfl rfl rfl iA Tryz.func9 qu rD rF
  (fun os started H enc _ F=>by rw[OpenClaim.pre_eq_preRow];exact o0 os started H enc F)
theorem qv (f:FuncId) (fn:Func) (hf:Tryz.pinned.checked.prog.funcNamed Rows.letrecTwiceUptoRow.func=some f) (hfn:Tryz.pinned.checked.prog.funcs[f]?=some fn):
  true=Tryz.pinned.checked.prog.looks []∧ ∀ (j:Nat) t,fn.params[j]?=some t→Tryz.pinned.checked.prog.wantsStandIn t=false:=by
 obtain rfl:f=9:=Option.some.inj (iA.symm.trans hf) |>.symm;obtain rfl:fn=Tryz.f9:=(Option.some.inj (Tryz.func9.symm.trans hfn)).symm;refine ⟨by kernel_rfl,fun j t ht=>?_⟩;rw[Tryz.params9] at ht;have hm:=Array.mem_of_getElem? ht;simp only[List.mem_toArray,List.mem_cons,List.mem_nil_iff,or_false] at hm;subst hm;exact (show Tryz.prog.wantsStandIn 28=false by kernel_rfl)
theorem Lg {P:Program} {f:FuncId} (h1:(P.closure f).any (fun g=>(P.funcs[g]?).any Func.goes)=false) (h2:P.funcs.any Func.goes=false):P.goes f=false:=by
 unfold Program.goes;rw[h1,h2,Bool.and_false];rfl
theorem vD:(Tryz.prog.closure 9).any (fun g=>(Tryz.prog.funcs[g]?).any Func.goes)=false:=by kernel_rfl
theorem vE:Tryz.prog.funcs.any Func.goes=false:=by kernel_rfl
theorem vF:Tryz.prog.inits.toList.any Tryz.prog.goes=false:=by kernel_rfl
theorem rC:false=Rows.letrecTwiceUptoRow.goesBy Tryz.prog:=by
 have e:Tryz.prog.goesFrom Rows.letrecTwiceUptoRow.func=false:=by
  unfold Program.goesFrom;rw[iA];exact Lg vD vE
 unfold OpenClaim.goesBy Program.goesAt;rw[e,Bool.false_or];exact vF.symm
theorem letrecTwice_card:Rows.LetrecTwiceUptoCardSaid:=
 Claim7.holds_tied_plain_at .later [] _ _ _ _ rE (fun _ h=>by cases h) (by kernel_rfl) (fun _ h=>by cases h) letrecTwiceUpto_row_tie rfl ⟨rfl,rfl⟩ (by kernel_rfl) rfl qv rC
end Go.Proofs.YtamlcgkjinbnlaaGreatDoor


