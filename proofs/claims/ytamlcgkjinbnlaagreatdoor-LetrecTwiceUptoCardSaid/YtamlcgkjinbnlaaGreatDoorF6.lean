/-
 Contracts: the document's comparisons.
 Plain laws: a term and its parts.
 Layings of the library's contracts at this seat (written by the kit's tools).
 Contracts: numbers sorted by the library, equal neighbours struck.
 Contracts: what a term names and does not bind, what it binds, how often a variable is named and assigned.
 Plain laws: all variables greater by the same.
 Plain laws: assigned variables become boxes.
 Plain laws: chapter 10, what is right; the document's counts; programs.
 Contracts: the document's counts, bindings.
 Contracts: the document's program of a core datum.
 Plain law: how great data that are read are.
 The document's machine: its values and how they lie in memory.
 Contracts: the document's machine: values of data, places, lists.
 Plain: the texts of the document's machine's values.
 Contracts: the texts of the document's machine's values.
 Contracts: the document's numbers: sums, products, which is less.
 Contracts: the document's primitives that fold.
 Contracts: the document's primitives that fold, of values as primitives look at them.
 Contracts: the document's Fold.
 Contracts: the document's machine: values held against one another, lists' values, parts.
 Contracts: the document's machine: primitives that are not calls.
 Contracts: the document's machine: primitives that fold, of values.
 Contracts: the document's machine: constants, names, procedures, calls of these.
-/
import Derived.Shelf.Slices.CompactI
import Derived.Shelf.Slices.In.SortNone
import Derived.Shelf.Sort.Plain
import Derived.Sort.OwnSortedInts
import Derived.Test.YtamlcgkjinbnlaaGreatDoorProg
import Derived.Test.YtamlcgkjinbnlaaGreatDoorF5
set_option linter.unusedSimpArgs false
set_option linter.unusedVariables false
namespace Go.Cb
open Go.Proofs
set_option maxRecDepth 100000
set_option maxHeartbeats 4000000
mutual
def aa.O2:aa→aa→Bool
 | .mk op n v t,.mk op' n' v' t'=>op == op' && n == n' && v == v' && aa.FF t t'
def aa.FF:List aa→List aa→Bool
 | [], []=>true
 | x::xs,y::ys=>aa.O2 x y && aa.FF xs ys
 | _,_=>false
end
mutual
def Datum.O2:Datum→Datum→Bool
 | .mk k n d s l,.mk k' n' d' s' l'=>k == k' && n == n' && d == d' && s == s' && Datum.FF l l'
def Datum.FF:List Datum→List Datum→Bool
 | [], []=>true
 | x::xs,y::ys=>Datum.O2 x y && Datum.FF xs ys
 | _,_=>false
end
def Prog.same (p q:Prog):Bool:=Datum.FF p.consts q.consts && p.body.O2 q.body
theorem vL {l:List (aa×List Int)} {g:Int}:g∈cW l↔ ∃ m∈l,bx m.1.op=true∧m.2.contains m.1.n=false∧m.1.n=g:=by
 unfold cW;simp only[List.mem_map,List.mem_filter,Bool.and_eq_true,Bool.not_eq_true'];constructor
 ·rintro ⟨m,⟨h1,h2,h3⟩,h4⟩;exact ⟨m,h1,h2,h3,h4⟩
 ·rintro ⟨m,h1,h2,h3,h4⟩;exact ⟨m,⟨h1,h2,h3⟩,h4⟩
end Go.Cb
namespace Go.Proofs
open Go.Shelf
def Tryz.BI:Go.Shelf.Ren:=⟨fun | 189=>87 | 125=>140 | 257=>139 | 128=>187 | 129=>188 | 294=>178 | 295=>179 | 296=>180 | 297=>181 | 298=>182 | 299=>183 | 216=>184 | 300=>185 | 301=>186 | 328=>224 | 329=>225 | 330=>226 | 331=>227 | 332=>228 | 215=>229 | 343=>255 | n=>n,fun | 28=>23 | 3=>3 | 46=>202 | 0=>0 | 51=>245 | 53=>247 | 4=>4 | 183=>239 | 182=>238 | 131=>172 | 5=>5 | 9=>9 | 218=>274 | 222=>278 | 228=>304 | 229=>77 | n=>n,fun | n=>n⟩
theorem Tryz.EO:Go.Proofs.Lays.n189 Tryz.prog Tryz.BI:={
 mixed:=by kernel_rfl
 f125:=Tryz.func140.trans (congrArg some (by kernel_rfl))
 f128:=Tryz.func187.trans (congrArg some (by kernel_rfl))
 f129:=Tryz.func188.trans (congrArg some (by kernel_rfl))
 f189:=Tryz.func87.trans (congrArg some (by kernel_rfl))
 f215:=Tryz.func229.trans (congrArg some (by kernel_rfl))
 f216:=Tryz.func184.trans (congrArg some (by kernel_rfl))
 f257:=Tryz.func139.trans (congrArg some (by kernel_rfl))
 f294:=Tryz.func178.trans (congrArg some (by kernel_rfl))
 f295:=Tryz.func179.trans (congrArg some (by kernel_rfl))
 f296:=Tryz.func180.trans (congrArg some (by kernel_rfl))
 f297:=Tryz.func181.trans (congrArg some (by kernel_rfl))
 f298:=Tryz.func182.trans (congrArg some (by kernel_rfl))
 f299:=Tryz.func183.trans (congrArg some (by kernel_rfl))
 f300:=Tryz.func185.trans (congrArg some (by kernel_rfl))
 f301:=Tryz.func186.trans (congrArg some (by kernel_rfl))
 f328:=Tryz.func224.trans (congrArg some (by kernel_rfl))
 f329:=Tryz.func225.trans (congrArg some (by kernel_rfl))
 f330:=Tryz.func226.trans (congrArg some (by kernel_rfl))
 f331:=Tryz.func227.trans (congrArg some (by kernel_rfl))
 f332:=Tryz.func228.trans (congrArg some (by kernel_rfl))
 f343:=Tryz.func255.trans (congrArg some (by kernel_rfl))
 t0:=Tryz.underlying0
 a0:=Tryz.isAgg0
 z0:=Tryz.sizeOf0
 v0:=Tryz.zeroValue0
 t3:=Tryz.underlying3
 a3:=Tryz.isAgg3
 z3:=Tryz.sizeOf3
 v3:=Tryz.zeroValue3
 t4:=Tryz.underlying4
 a4:=Tryz.isAgg4
 z4:=Tryz.sizeOf4
 v4:=Tryz.zeroValue4
 t5:=Tryz.underlying5
 a5:=Tryz.isAgg5
 z5:=Tryz.sizeOf5
 v5:=Tryz.zeroValue5
 t9:=Tryz.underlying9
 a9:=Tryz.isAgg9
 z9:=Tryz.sizeOf9
 v9:=Tryz.zeroValue9
 t28:=Tryz.underlying23
 a28:=Tryz.isAgg23
 z28:=Tryz.sizeOf23
 v28:=Tryz.zeroValue23
 t46:=Tryz.underlying202
 a46:=Tryz.isAgg202
 z46:=Tryz.sizeOf202
 v46:=Tryz.zeroValue202
 t51:=Tryz.underlying245
 a51:=Tryz.isAgg245
 z51:=Tryz.sizeOf245
 v51:=Tryz.zeroValue245
 t53:=Tryz.underlying247
 a53:=Tryz.isAgg247
 z53:=Tryz.sizeOf247
 v53:=Tryz.zeroValue247
 t131:=Tryz.underlying172
 a131:=Tryz.isAgg172
 z131:=Tryz.sizeOf172
 v131:=Tryz.zeroValue172
 t182:=Tryz.underlying238
 a182:=Tryz.isAgg238
 z182:=Tryz.sizeOf238
 v182:=Tryz.zeroValue238
 t183:=Tryz.underlying239
 a183:=Tryz.isAgg239
 z183:=Tryz.sizeOf239
 v183:=Tryz.zeroValue239
 t218:=Tryz.underlying274
 a218:=Tryz.isAgg274
 z218:=Tryz.sizeOf274
 v218:=Tryz.zeroValue274
 t222:=Tryz.underlying278
 a222:=Tryz.isAgg278
 z222:=Tryz.sizeOf278
 v222:=Tryz.zeroValue278
 t228:=Tryz.underlying304
 a228:=Tryz.isAgg304
 z228:=Tryz.sizeOf304
 v228:=Tryz.zeroValue304
 t229:=Tryz.underlying77
 a229:=Tryz.isAgg77
 z229:=Tryz.sizeOf77
 v229:=Tryz.zeroValue77 }
def Tryz.wT:Go.Shelf.Ren:=⟨fun | 20=>88 | n=>n,fun | 22=>23 | 3=>3 | 4=>4 | 0=>0 | n=>n,fun | n=>n⟩
theorem Tryz.xU:Go.Proofs.Lays2.n20 Tryz.prog Tryz.wT:={
 mixed:=by kernel_rfl
 f20:=Tryz.func88.trans (congrArg some (by kernel_rfl))
 t0:=Tryz.underlying0
 a0:=Tryz.isAgg0
 z0:=Tryz.sizeOf0
 v0:=Tryz.zeroValue0
 t3:=Tryz.underlying3
 a3:=Tryz.isAgg3
 z3:=Tryz.sizeOf3
 v3:=Tryz.zeroValue3
 t4:=Tryz.underlying4
 a4:=Tryz.isAgg4
 z4:=Tryz.sizeOf4
 v4:=Tryz.zeroValue4
 t22:=Tryz.underlying23
 a22:=Tryz.isAgg23
 z22:=Tryz.sizeOf23
 v22:=Tryz.zeroValue23
 i3:=by kernel_rfl }
end Go.Proofs
namespace Go.Cb
open Go.Proofs Go.Sort
open Go.RowKit (Below)
set_option maxRecDepth 100000
set_option maxHeartbeats 4000000
theorem q7: ∀ l:List Int,flat (l.map (PV.int .i64))=l.map (PV.int .i64)
 | []=>rfl
 | x::l=>by
  have:=q7 l;simp only[flat,List.map_cons,List.flatMap_cons,PV.cellsOf] at this ⊢;rw[this];rfl
theorem yc (F:Fz): ∀ l:List Int,aQ F (l.map (PV.int .i64)) (l.map (Value.int .i64))
 | []=>cG F
 | x::l=>cg.2 ⟨⟨rfl,by simp only[aC]⟩,yc F l⟩
theorem qC {F:Fz}: ∀ {l:List Int} {xs:List Value},aQ F (l.map (PV.int .i64)) xs→xs=l.map (Value.int .i64)
 | [], [],_=>rfl
 | [],_::_,h=>by simp only[List.map_nil,aQ] at h
 | _::_, [],h=>by simp only[List.map_cons,aQ] at h
 | x::l,v::xs,h=>by
  have h:=cg.1 h;have h1:v=.int .i64 x:=by simpa only[aC] using h.1.2
  rw[h1,qC h.2];rfl
theorem aP.Fc {w0:World} {F:Fz} {M:List aj} {w:World} {t:Tok} {l ts:List Int} (h:aP w0 F (.row t (l.map (PV.int .i64))::M) w) (hs:t.s=1) (hlen:ts.length=l.length) {g:Nat} (hg:t.b=some g) (q:Nat) (os:Array Obj):
  aP w0 F (.row t (ts.map (PV.int .i64))::M) (grow (putRow (Value.int .i64) (Sort.ahead w q) g 0 ts.toArray) os):=by
 obtain ⟨⟨xs,hown,hr⟩,hes,e2,hfree⟩:=h.fe _ (List.mem_cons_self ..)
 rcases hown.2 with ⟨h1,_⟩ | ⟨g',cap,cur,hb,hv,hB,hh,hnc,hcm,hsz,htake⟩
 ·rw[h1] at hg;cases hg
 obtain rfl:g'=g:=by rw[hb] at hg;simpa using hg
 have hsep:=List.pairwise_cons.1 h.sep;have hgr:w.grownBy (grow (putRow (Value.int .i64) (Sort.ahead w q) g' 0 ts.toArray) os) (some g'):=grownBy_sortedI ts.toArray;have hn:l.length=t.n:=by simpa using e2
 have hfl:flat (ts.map (PV.int .i64))=ts.map (PV.int .i64):=q7 ts;refine aP.G0 (t:=t) (ys:=ts.map (PV.int .i64)) (xs:=ts.map (Value.int .i64)) h.tail ((Below.refl _ w).grown hgr h.below.size fun k hk=>by simp at hk;omega) ?_ (by simp[hs,PV.cellsOf]) (by simp;omega) (by rw[hfl];exact yc F ts) ?_ ?_ hfree
 ·refine ⟨by simp[hs];omega,.inr ⟨g',cap,_,hb,hv,hB,heap_sortedI ts.toArray hh,hnc,hcm,by simp[putCells,hsz],?_⟩⟩
  have:t.n * t.s=ts.length:=by rw[hs];omega
  rw[this];exact take_putCellsI cur ts (by rw[hsz,hs];omega)
 ·intro b o u x
  have hne:b≠g':=fun e=>by rw[e,hfree g' hb o] at x;cases x
  have hlt:=World.block_lt_of_cell? w _ (h.fz b o u x);rw[World.cell?_of_block (w:=w) (hgr.block b hlt (by simp;omega))];exact h.fz b o u x
 ·intro e he k hk
  have hne:t.b≠some k:=by
   rcases hsep.1 e he with hh | hh
   ·simp only[aj.blk] at hh;rw[hh];simp
   ·intro hx;exact hh (by rw[hk];exact hx)
  have hlt:=(aj.jC (h.fe e (List.mem_cons_of_mem _ he)) hk).2;exact ⟨hgr.block k hlt (by rw[hb] at hne;exact fun e=>hne e.symm),hne⟩
theorem Ba (l:List Int):(Lib.compact l).length≤l.length:=by
 unfold Lib.compact Lib.compactUpTo;rw[List.length_map];exact Nat.le_trans (List.length_filter_le _ _) (by simp)
theorem Cg {w0:World} {F:Fz} {M:List aj} {w:World} {t:Tok} {l:List Int} (h:aP w0 F (.row t (l.map (PV.int .i64))::M) w) (hs:t.s=1):
  (l= []∧ ∃ p,t.v=.slice p 0 0)∨ ∃ g cap,t.b=some g∧t.v=.slice (some ⟨g,0,none⟩) l.length cap∧Holds (Value.int .i64) w g 0 l.toArray∧g < w.heap.size∧l.length≤cap∧t.n=l.length:=by
 obtain ⟨⟨xs,hown,hr⟩,hes,e2,hfree⟩:=h.fe _ (List.mem_cons_self ..);have hn:l.length=t.n:=by simpa using e2
 rcases hown.2 with ⟨h1,h2,h3⟩ | ⟨g,cap,cur,hb,hv,hB,hh,hnc,hcm,hsz,htake⟩
 ·refine .inl ⟨List.eq_nil_of_length_eq_zero (by omega),?_⟩
  rcases h3 with h3 | ⟨a,h3⟩
  ·exact ⟨none,h3⟩
  ·exact ⟨some a,h3⟩
 ·rw[q7] at hr
  have hx:=qC hr;refine .inr ⟨g,cap,hb,by rw[hn];exact hv,holds_of_blockI (e:=t.e) (cur:=cur) hh (by rw[←hx, ←htake,hs,hn,Nat.mul_one]),(Array.getElem?_eq_some_iff.1 hh).1,by omega,hn.symm⟩
theorem D3 (t:Tok) (l:List Int) (hs:t.s=1) (hl:l.length≤1000000000):
  af Tryz.prog 87 [.ms t] [.row t (l.map (PV.int .i64))] (fun y Γ'=>y=.bp []∧Γ'= [.row t ((l.mergeSort fun x y=>decide (x≤y)).map (PV.int .i64))]):=by
 refine ⟨⟨_,Tryz.func87,rfl,rfl⟩,fun w0 F M w vs hS hT=>?_⟩
 obtain rfl:vs= [t.v]:=by
  match vs,hT with
  | [v],hT=>simp only[aA,aC,and_true] at hT;rw[hT.1]
 rcases Cg hS hs with ⟨rfl,p,hv⟩ | ⟨g,cap,hb,hv,hH,hg,hc,hn⟩
 ·rw[hv]
  refine (Any.slices_Sort_int_none Tryz.EO p 0 w).mono ?_;rintro e w' ⟨rfl,rfl⟩;exact ⟨_,F,.bp [],_,rfl,Fz.le_refl F,hS,by simp only[aC];exact ⟨[],rfl,by simp[aA]⟩,rfl,by simp⟩
 ·rw[hv]
  refine (Any.slices_Sort_int Tryz.EO g 0 cap l w hH hg (by omega)).mono ?_;rintro e w' ⟨rfl,q,os,rfl⟩;exact ⟨_,F,.bp [],_,rfl,Fz.le_refl F,hS.Fc hs (by simp) hb q os,by simp only[aC];exact ⟨[],rfl,by simp[aA]⟩,rfl,rfl⟩
theorem FM (t:Tok) (l:List Int) (hs:t.s=1) (hl:l.length≤1000000000):
  af Tryz.prog 88 [.ms t] [.row t (l.map (PV.int .i64))] (fun y Γ'=> ∃ t':Tok,t'.e=t.e∧t'.s=1∧y=.ms t'∧Γ'= [.row t' ((Lib.compact l).map (PV.int .i64))]):=by
 refine ⟨⟨_,Tryz.func88,rfl,rfl⟩,fun w0 F M w vs hS hT=>?_⟩
 obtain ⟨rfl,h1⟩:vs= [t.v]∧t.v.oneCell'=true:=by
  match vs,hT with
  | [v],hT=>simp only[aA,aC,and_true] at hT;rw[hT.1];exact ⟨rfl,hT.2⟩
 rcases Cg hS hs with ⟨rfl,p,hv⟩ | ⟨g,cap,hb,hv,hH,hg,hc,hn⟩
 ·rw[hv]
  refine (Any.slices_Compact_int_empty Tryz.xU p 0 w).mono ?_;rintro e w' ⟨rfl,rfl⟩;exact ⟨_,F,.ms t,_,rfl,Fz.le_refl F,hS,by simp only[aC];exact ⟨hv.symm,h1⟩,t,rfl,hs,rfl,by simp[Lib.compact,Lib.compactUpTo]⟩
 ·rw[hv]
  refine (Any.slices_Compact_int Tryz.xU g 0 cap l w hH (by omega) hc).mono ?_;rintro e w' ⟨rfl,q,rfl⟩;have hle:=Ba l;have h2:=hS.Fc (ts:=Lib.compact l++List.replicate (l.length - (Lib.compact l).length) 0) hs (by simp;omega) hb q #[];rw[grow_empty] at h2;have h3:=aP.Cu (M1:= []) h2 hb (by rw[hn];exact hv) (Lib.compact l).length (by simp)
  have fin: ∀ T:Tok,T=⟨.slice (some ⟨g,0,none⟩) (Lib.compact l).length cap,(Lib.compact l).length,t.s,t.e,some g⟩→ ∃ v F' y Γ',(Ending.returned (.slice (some ⟨g,0,none⟩) (Lib.compact l).length cap))=.returned v∧F.le F'∧aP w0 F' (Γ'++M) (putRow (Value.int .i64) (Sort.ahead w q) g 0 (Lib.compact l++List.replicate (l.length - (Lib.compact l).length) 0).toArray)∧aC F' y v∧ ∃ t':Tok,t'.e=t.e∧t'.s=1∧y=.ms t'∧Γ'= [.row t' ((Lib.compact l).map (PV.int .i64))]:=by
   intro T hT;subst hT;refine ⟨_,F,.ms ⟨.slice (some ⟨g,0,none⟩) (Lib.compact l).length cap,(Lib.compact l).length,t.s,t.e,some g⟩, [.row ⟨.slice (some ⟨g,0,none⟩) (Lib.compact l).length cap,(Lib.compact l).length,t.s,t.e,some g⟩ ((Lib.compact l).map (PV.int .i64))],rfl,Fz.le_refl F,?_,by unfold aC;exact ⟨rfl,rfl⟩,⟨.slice (some ⟨g,0,none⟩) (Lib.compact l).length cap,(Lib.compact l).length,t.s,t.e,some g⟩,rfl,hs,rfl,rfl⟩;simpa using h3
  exact fin _ rfl
theorem Cf (t:Tok) (l:List Int) (hs:t.s=1) (hl:l.length≤1000000000):
  af Tryz.prog 50 [.ms t] [.row t (l.map (PV.int .i64))] (fun y Γ'=> ∃ t':Tok,t'.e=t.e∧t'.s=1∧y=.ms t'∧Γ'= [.row t' ((ez l).map (PV.int .i64))]):=by
 refine af.ah ai Tryz.func50 rfl rfl (n:=7) rfl rfl ?_
 conv=>whnf
 skip
 refine aq.go (D3 t l hs hl) (aX.refl _) ?_;rintro _ _ ⟨rfl,rfl⟩
 conv=>whnf
 skip
 refine aq.go (FM t (l.mergeSort fun x y=>decide (x≤y)) hs (by simp;omega)) (aX.refl _) ?_;rintro _ _ ⟨t2,e2,s2,rfl,rfl⟩
 conv=>whnf
 skip
 have e:Lib.compact (l.mergeSort fun x y=>decide (x≤y))=ez l:=rfl;rw[e];exact ak.gen (Wk.refl _) ⟨t2,e2,s2,rfl,rfl⟩
def bC (l:List (aa×List Int)):List Int:=l.flatMap fun m=>m.1.v
theorem yU (l:List (aa×List Int)) (k:Nat):(bC (l.take k)).length≤(bC l).length:=by
 have:=congrArg List.length (congrArg bC (List.take_append_drop k l));unfold bC at this ⊢;rw[List.flatMap_append,List.length_append] at this;omega
theorem aa.Ja (t:aa): ∀ (sc:List Int) (deep:Int),(bC (t.met sc deep)).length≤t.aR:=by
 induction t using aa.ind with
 | h t ih=>
  intro sc deep;rw[aa.nj,t.bu]
  have key: ∀ (l:List aa),(∀ y∈l, ∀ (sc:List Int) (deep:Int),(bC (y.met sc deep)).length≤y.aR)→ ∀ sc inner deep,(bC (aa.gy t.op sc inner l deep)).length≤aa.aD l:=by
   intro l
   induction l with
   | nil=>intro _ _ _ _;simp[aa.gy,bC]
   | cons x l ihl=>
    intro hy sc inner deep;have h1:=hy x (by simp) (if eY t.op=true∨l= [] then inner else sc) deep;have h2:=ihl (fun y h=>hy y (by simp[h])) sc inner deep;unfold bC at h1 h2 ⊢;rw[aa.gy,aa.aD,List.flatMap_append,List.length_append];omega
  have:=key t.t ih sc (sc++t.v) (deep + 1);unfold bC at this ⊢;rw[List.flatMap_cons,List.length_append]
  split
  ·simp;omega
  ·show t.v.length + _≤_
   omega
theorem Le (t:aa) (hb:t.aR≤1000000000):af Tryz.prog 141 [.agg t.cells] [] (fun y Γ'=> ∃ tk:Tok,tk.e=3∧tk.s=1∧y=.ms tk∧Γ'= [.row tk ((ez (cW t.all)).map (PV.int .i64))]):=by
 have hlen:t.all.length≤t.aR:=t.LA [] 0;refine af.ah ai Tryz.func141 rfl rfl (n:=28) rfl rfl ?_
 conv=>whnf
 repeat' (first|refine di ?_|((intro _);conv=>whnf)|(refine zX (fun hc=>?_) (fun hc=>?_)<;>(try simp only[SY] at hc)<;>omega))
 rename_i bt bo;refine aq.OG (au.trans (au.cK 1 3 _) (au.box (b:=bo) (cs:= [.nil]) (cs':= [.ms (aB 1 3)]) (.cons (Wk.cK 1 3) .nil))) (MA t) (aX.refl _) ?_;rintro _ _ ⟨b,rfl,rfl⟩
 conv=>whnf
 skip
 refine PRange.go (t.all.map fun m=> [GF m]) (fun s:Tok×List Int=> [.box bo [.ms s.1],.row s.1 (s.2.map (PV.int .i64))]) (fun k s=>s.1.e=3∧s.1.s=1∧s.2=cW (t.all.take k)) (fun _ _=>False) (aB 1 3, []) (HP b t hb) ⟨rfl,rfl,rfl⟩
  (hp:=(inferInstance:bz _ [.box bo [.ms (aB 1 3)],.row (aB 1 3) [],.box b t.cells] _)) (by intro ys hy;obtain ⟨m,_,rfl⟩:=List.mem_map.1 hy;rfl) ?_ ?_ (fun _ _ _ h=>h.elim)
 ·rintro k ys ⟨tk,l⟩ hk ⟨k1,k2,k3⟩
  dsimp only at k1 k2 k3⊢
  obtain ⟨m,hm,rfl⟩: ∃ m,t.all[k]?=some m∧ys= [GF m]:=by
   rw[List.getElem?_map] at hk
   cases h:t.all[k]? with
   | none=>rw[h] at hk;cases hk
   | some m=>rw[h] at hk;cases hk;exact ⟨m,rfl,rfl⟩
  obtain ⟨hlt,hmg⟩:=List.getElem?_eq_some_iff.1 hm
  have hst:cW (t.all.take (k + 1))=cW (t.all.take k)++(if (bx m.1.op && !m.2.contains m.1.n)=true then [m.1.n] else []):=by
   rw[List.take_succ_eq_append_getElem hlt,cW,List.filter_append,List.map_append,hmg];congr 1;by_cases h:(bx m.1.op && !m.2.contains m.1.n)=true
   ·rw[if_pos h];simp only[List.filter,h];rfl
   ·rw[if_neg h];rw[Bool.not_eq_true] at h;simp only[List.filter,h];rfl
  have hll:l.length≤k:=by
   rw[k3,cW,List.length_map];exact Nat.le_trans (List.length_filter_le _ _) (by rw[List.length_take];omega)
  conv=>whnf
  repeat' (first|refine di ?_|((intro _);conv=>whnf)|(refine zX (fun hc=>?_) (fun hc=>?_)<;>(try simp only[SY] at hc)<;>omega))
  refine ⟨rfl,?_⟩
  conv=>whnf
  repeat' (first|refine di ?_|((first|(((apply zY;intro hg));(conv=>whnf);(repeat ((first|refine pC (fJ m.2 m.1.n) wR ?_|refine aG ?_);conv=>whnf));exact pZ)|refine pC (LF m.1) wR ?_|intro _);conv=>whnf)|(refine zX (fun hc=>?_) (fun hc=>?_)<;>(try simp only[SY] at hc)<;>(conv=>whnf)))
  ·refine aW.N4 (f:=PV.int .i64) (l:=l) m.1.n k1 k2 (Wk.tok _ _ _) (by omega) (by show _ * 8≤_;omega) (fun t3 e3 s3=>?_)
   conv=>whnf
   repeat (refine lM ?_)
   exact we (k:=k) (G:=fun s:Tok×List Int=> [.box bo [.ms s.1],.row s.1 (s.2.map (PV.int .i64))]) (I:=fun k s=>s.1.e=3∧s.1.s=1∧s.2=cW (t.all.take k)) (X:=fun _ _=>False) (t3,l++ [m.1.n]) ⟨e3,s3,by show l++ [m.1.n]=cW (t.all.take (k + 1));rw[hst,if_pos (by rw[Bool.and_eq_true,hc.1,hc.2];exact ⟨rfl,rfl⟩),k3]⟩ (hp:=(inferInstance:bz _ [.box bo [.ms t3],.row t3 ((l++ [m.1.n]).map (PV.int .i64))] _))
  ·exact we (k:=k) (G:=fun s:Tok×List Int=> [.box bo [.ms s.1],.row s.1 (s.2.map (PV.int .i64))]) (I:=fun k s=>s.1.e=3∧s.1.s=1∧s.2=cW (t.all.take k)) (X:=fun _ _=>False) (tk,l) ⟨k1,k2,by show l=cW (t.all.take (k + 1));rw[hst,if_neg (by rw[Bool.and_eq_true,Bool.not_eq_true'];rintro ⟨a,b⟩;rcases hc with h | h;rw[a] at h;cases h;rw[b] at h;cases h),List.append_nil,k3]⟩ (hp:=(inferInstance:bz _ [.box bo [.ms tk],.row tk (l.map (PV.int .i64))] _))
 ·rintro bd ⟨tk,l⟩ ⟨k1,k2,k3⟩
  dsimp only at k1 k2 k3 ⊢;rw[List.length_map,List.take_length] at k3;subst k3
  have hfl:(cW t.all).length≤1000000000:=by
   rw[cW,List.length_map];exact Nat.le_trans (List.length_filter_le _ _) (by omega)
  conv=>whnf
  repeat' (first|refine di ?_|(refine zX (fun hc=>?_) (fun hc=>?_)<;>(try simp only[SY] at hc)<;>omega))
  refine aq.Lf [.ob bd kK [] [],.box bo [.ms tk]] (Cf tk (cW t.all) k2 hfl) (aX.refl _) (List.Perm.refl _) ?_;rintro _ _ ⟨t4,e4,s4,rfl,rfl⟩
  conv=>whnf
  skip
  refine AM.at_ rfl ?_
  conv=>whnf
  exact ak.gen (y:=.ms t4) (Wk.refl _) ⟨t4,e4.trans k1,s4,rfl,rfl⟩
theorem Nr (t:aa) (hb:t.aR≤1000000000):ay Tryz.prog 141 [.agg t.cells] (gZ (ez (cW t.all))):=
 ay.DE ((Le t hb).shift fun y Γ' hq=>by
  obtain ⟨tk,h1,h2,rfl,rfl⟩:=hq
  exact ⟨_,_,Shift.cE (es:=(ez (cW t.all)).map (PV.int .i64)) (qP.ms' h2),rfl⟩)
theorem HU (t:aa) (hb:t.aR≤1000000000):af Tryz.prog 30 [.agg t.cells] [] (fun y Γ'=> ∃ tk:Tok,tk.e=3∧tk.s=1∧y=.ms tk∧Γ'= [.row tk ((ez (bC t.all)).map (PV.int .i64))]):=by
 have hlen:(bC t.all).length≤t.aR:=t.Ja [] 0;refine af.ah ai Tryz.func30 rfl rfl (n:=15) rfl rfl ?_
 conv=>whnf
 repeat' (first|refine di ?_|((intro _);conv=>whnf)|(refine zX (fun hc=>?_) (fun hc=>?_)<;>(try simp only[SY] at hc)<;>omega))
 rename_i bt bo;refine aq.OG (au.trans (au.cK 1 3 _) (au.box (b:=bo) (cs:= [.nil]) (cs':= [.ms (aB 1 3)]) (.cons (Wk.cK 1 3) .nil))) (MA t) (aX.refl _) ?_;rintro _ _ ⟨b,rfl,rfl⟩
 conv=>whnf
 skip
 refine PRange.go (t.all.map fun m=> [GF m]) (fun s:Tok×List Int=> [.box bo [.ms s.1],.row s.1 (s.2.map (PV.int .i64))]) (fun k s=>s.1.e=3∧s.1.s=1∧s.2=bC (t.all.take k)) (fun _ _=>False) (aB 1 3, []) (HP b t hb) ⟨rfl,rfl,rfl⟩
  (hp:=(inferInstance:bz _ [.box bo [.ms (aB 1 3)],.row (aB 1 3) [],.box b t.cells] _)) (by intro ys hy;obtain ⟨m,_,rfl⟩:=List.mem_map.1 hy;rfl) ?_ ?_ (fun _ _ _ h=>h.elim)
 ·rintro k ys ⟨tk,l⟩ hk ⟨k1,k2,k3⟩
  dsimp only at k1 k2 k3⊢
  obtain ⟨m,hm,rfl⟩: ∃ m,t.all[k]?=some m∧ys= [GF m]:=by
   rw[List.getElem?_map] at hk
   cases h:t.all[k]? with
   | none=>rw[h] at hk;cases hk
   | some m=>rw[h] at hk;cases hk;exact ⟨m,rfl,rfl⟩
  obtain ⟨hlt,hmg⟩:=List.getElem?_eq_some_iff.1 hm
  have hst:bC (t.all.take (k + 1))=bC (t.all.take k)++m.1.v:=by
   rw[List.take_succ_eq_append_getElem hlt,bC,List.flatMap_append,hmg];simp[bC]
  have hll:l.length + m.1.v.length≤1000000000:=by
   have h1:(bC (t.all.take (k + 1))).length≤(bC t.all).length:=yU _ _;rw[hst,List.length_append, ←k3] at h1;omega
  conv=>whnf
  repeat' (first|refine di ?_|((intro _);conv=>whnf)|(refine zX (fun hc=>?_) (fun hc=>?_)<;>(try simp only[SY] at hc)<;>omega))
  refine ⟨rfl,?_⟩
  conv=>whnf
  repeat' (first|refine di ?_|(refine zX (fun hc=>?_) (fun hc=>?_)<;>(try simp only[SY] at hc)<;>omega))
  refine aW.Fh (f:=PV.int .i64) (l:=l) (m:=m.1.v) k1 k2 (Wk.tok _ _ _) (by omega) (by show _ * 8≤_;omega) (fun t3 e3 s3=>?_)
  conv=>whnf
  repeat (refine lM ?_)
  exact we (k:=k) (G:=fun s:Tok×List Int=> [.box bo [.ms s.1],.row s.1 (s.2.map (PV.int .i64))]) (I:=fun k s=>s.1.e=3∧s.1.s=1∧s.2=bC (t.all.take k)) (X:=fun _ _=>False) (t3,l++m.1.v) ⟨e3,s3,by show l++m.1.v=bC (t.all.take (k + 1));rw[hst,k3]⟩ (hp:=(inferInstance:bz _ [.box bo [.ms t3],.row t3 ((l++m.1.v).map (PV.int .i64))] _))
 ·rintro bd ⟨tk,l⟩ ⟨k1,k2,k3⟩
  dsimp only at k1 k2 k3 ⊢;rw[List.length_map,List.take_length] at k3;subst k3;have hfl:(bC t.all).length≤1000000000:=by omega
  conv=>whnf
  repeat' (first|refine di ?_|(refine zX (fun hc=>?_) (fun hc=>?_)<;>(try simp only[SY] at hc)<;>omega))
  refine aq.Lf [.ob bd kK [] [],.box bo [.ms tk]] (Cf tk (bC t.all) k2 hfl) (aX.refl _) (List.Perm.refl _) ?_;rintro _ _ ⟨t4,e4,s4,rfl,rfl⟩
  conv=>whnf
  skip
  refine AM.at_ rfl ?_
  conv=>whnf
  exact ak.gen (y:=.ms t4) (Wk.refl _) ⟨t4,e4.trans k1,s4,rfl,rfl⟩
theorem K4 (t:aa) (hb:t.aR≤1000000000):ay Tryz.prog 30 [.agg t.cells] (gZ (ez (bC t.all))):=
 ay.DE ((HU t hb).shift fun y Γ' hq=>by
  obtain ⟨tk,h1,h2,rfl,rfl⟩:=hq
  exact ⟨_,_,Shift.cE (es:=(ez (bC t.all)).map (PV.int .i64)) (qP.ms' h2),rfl⟩)
mutual
def aa.sh (k:Int):aa→aa
 | .mk op n v t=>.mk op (if bx op=true then n + k else n) (v.map (· + k)) (aa.PM k t)
def aa.PM (k:Int):List aa→List aa
 | []=> []
 | x::xs=>aa.sh k x::aa.PM k xs
end
theorem aa.jU (k:Int): ∀ l:List aa,aa.PM k l=l.map (aa.sh k)
 | []=>rfl
 | x::l=>by rw[aa.PM,List.map_cons,aa.jU k l]
theorem aa.nG (k:Int) (t:aa):(t.sh k).op=t.op:=by cases t;rw[aa.sh];rfl
theorem aa.DY (k:Int) (t:aa):(t.sh k).n=if bx t.op=true then t.n + k else t.n:=by cases t;rw[aa.sh];rfl
theorem aa.Cq (k:Int) (t:aa):(t.sh k).v=t.v.map (· + k):=by cases t;rw[aa.sh];rfl
theorem aa.Ax (k:Int) (t:aa):(t.sh k).t=t.t.map (aa.sh k):=by cases t;rw[aa.sh, ←aa.jU];rfl
theorem aa.J5 (k:Int) (t:aa):(t.sh k).cnt=t.cnt:=by
 induction t using aa.ind with
 | h t ih=>
  have: ∀ l:List aa,(∀ x∈l,(x.sh k).cnt=x.cnt)→aa.bR (l.map (aa.sh k))=aa.bR l:=by
   intro l
   induction l with
   | nil=>intro _;rfl
   | cons y l ihl=>intro h;rw[List.map_cons,aa.bR,aa.bR,h y (by simp),ihl fun x hx=>h x (by simp[hx])]
  rw[aa.fD,aa.fD,aa.Ax,this t.t ih]
theorem aa.Fp (k:Int) (t:aa):(t.sh k).vars=t.vars.map (· + k):=by
 induction t using aa.ind with
 | h t ih=>
  have: ∀ l:List aa,(∀ x∈l,(x.sh k).vars=x.vars.map (· + k))→aa.dI (l.map (aa.sh k))=(aa.dI l).map (· + k):=by
   intro l
   induction l with
   | nil=>intro _;rfl
   | cons y l ihl=>intro h;rw[List.map_cons,aa.dI,aa.dI,h y (by simp),ihl fun x hx=>h x (by simp[hx]),List.map_append]
  rw[aa.kD,aa.kD,aa.Ax,aa.Cq,this t.t ih,List.map_append]
theorem aa.Od (k:Int) (t:aa): ∀ (sc:List Int) (deep:Int),(t.sh k).met (sc.map (· + k)) deep=(t.met sc deep).map fun m=>(m.1.sh k,m.2.map (· + k)):=by
 induction t using aa.ind with
 | h t ih=>
  intro sc deep
  have key: ∀ (op:Int) (l:List aa),(∀ y∈l, ∀ (sc:List Int) (deep:Int),(y.sh k).met (sc.map (· + k)) deep=(y.met sc deep).map fun m=>(m.1.sh k,m.2.map (· + k)))→
    ∀ (sc inner:List Int) (deep:Int),aa.gy op (sc.map (· + k)) (inner.map (· + k)) (l.map (aa.sh k)) deep=(aa.gy op sc inner l deep).map fun m=>(m.1.sh k,m.2.map (· + k)):=by
   intro op l
   induction l with
   | nil=>intro _ _ _ _;simp[aa.gy]
   | cons x l ihl=>
    intro hy sc inner deep;rw[List.map_cons,aa.gy,aa.gy,List.map_append,ihl fun y hh=>hy y (by simp[hh])];congr 1;have e:(eY op=true∨l.map (aa.sh k)= [])↔(eY op=true∨l= []):=by simp
    by_cases h:eY op=true∨l= []
    ·rw[if_pos h,if_pos (e.2 h)];exact hy x (by simp) _ _
    ·rw[if_neg h,if_neg (fun h'=>h (e.1 h'))];exact hy x (by simp) _ _
  rw[aa.nj,aa.nj,List.map_cons,aa.nG,aa.Cq,aa.Ax, ←List.map_append];congr 1
  split
  ·rfl
  ·exact key _ _ ih _ _ _
theorem aa.Ob (k:Int) (t:aa):(t.sh k).all=t.all.map fun m=>(m.1.sh k,m.2.map (· + k)):=t.Od k [] 0
theorem G7 (k c codes:Int) (free:Bool) (t:aa) (scope:List Int) (h:bP c codes free t scope=true):bP c codes free (t.sh k) (scope.map (· + k))=true:=by
 unfold bP at h ⊢;rw[aa.nG,aa.DY,aa.Cq,List.length_map];by_cases hn:t.op=1∨t.op=2∨t.op=14
 ·rw[if_neg (by omega),if_pos hn] at h⊢
  have:bx t.op=true:=by simp[bx];omega
  rw[if_pos this];simp at h ⊢;exact h
 ·have: ¬ bx t.op=true:=by simp[bx];omega
  rw[if_neg this,if_neg hn];rw[if_neg hn] at h;exact h
theorem aa.PK {level c codes:Int} {free:Bool} (k:Int) (t:aa): ∀ {scope:List Int} {deep:Int},t.qL level c codes free scope deep→(t.sh k).qL level c codes free (scope.map (· + k)) deep:=by
 induction t using aa.ind with
 | h t ih=>
  intro scope deep h;rw[aa.kN] at h⊢
  have key: ∀ (op:Int) (sc inner:List Int) (deep:Int) (l:List aa),(∀ y∈l, ∀ {scope:List Int} {deep:Int},y.qL level c codes free scope deep→(y.sh k).qL level c codes free (scope.map (· + k)) deep)→
    aa.fE level c codes free op sc inner l deep→aa.fE level c codes free op (sc.map (· + k)) (inner.map (· + k)) (l.map (aa.sh k)) deep:=by
   intro op sc inner deep l
   induction l with
   | nil=>intro _ _;simp[aa.fE]
   | cons x l ihl=>
    intro hy hk;rw[aa.fE] at hk;rw[List.map_cons,aa.fE,aa.nG];have e:l.map (aa.sh k)= []↔l= []:=by simp
    refine ⟨fun hh=>hk.1 ⟨hh.1,fun h2=>hh.2.1 (e.2 h2),hh.2.2⟩,?_,ihl (fun z hz=>hy z (by simp[hz])) hk.2.2⟩;have h2:=hy x (by simp) hk.2.1;by_cases h3:l= []∨op=7∨op=9
    ·rw[if_pos h3] at h2
     rw[if_pos (h3.imp_left e.2)];exact h2
    ·rw[if_neg h3] at h2
     rw[if_neg (fun h4=>h3 (h4.imp_left e.1))];exact h2
  rw[aa.nG,aa.Cq,aa.Ax, ←List.map_append];refine ⟨⟨h.1.1,h.1.2.1,?_,G7 k _ _ _ _ _ h.1.2.2.2⟩,key _ _ _ _ _ ih h.2⟩;have:=h.1.2.2.1;unfold c9 at this ⊢;simp only[aa.nG,aa.Cq,aa.Ax,List.length_map];exact this
theorem c7.sh {p:Prog} {level:Int} (h:c7 p level) (k:Int) (h0:0≤k) (hk: ∀ x∈p.body.vars,x + k≤1000000):c7 ⟨p.consts,p.body.sh k⟩ level:=by
 obtain ⟨h1,h2,h3,h4,h5⟩:=h;refine ⟨h1,h2,p.body.PK k h3,by rw[show (⟨p.consts,p.body.sh k⟩:Prog).body=p.body.sh k from rfl,aa.J5];exact h4,?_⟩;show ig (p.body.sh k).vars [];rw[aa.Fp];refine ⟨fun x hx=>?_,?_⟩
 ·obtain ⟨y,hy,rfl⟩:=List.mem_map.1 hx
  have:=h5.1 y hy;have:=hk y hy;exact ⟨by omega,by omega,by simp⟩
 ·exact List.Pairwise.map _ (fun a b hab=>by omega) h5.2
mutual
def aa.iQ:aa→List Int
 | .mk op n _ t=>(if op=2∨op=14 then [n] else [])++aa.kX t
def aa.kX:List aa→List Int
 | []=> []
 | x::xs=>aa.iQ x++aa.kX xs
end
theorem aa.yP (t:aa):t.iQ=(if t.op=2∨t.op=14 then [t.n] else [])++aa.kX t.t:=by cases t;rw[aa.iQ];rfl
theorem aa.xh: ∀ l:List aa,aa.kX l=l.flatMap aa.iQ
 | []=>by simp[aa.kX]
 | x::l=>by rw[aa.kX,aa.xh l];rfl
def JF (v:Int):aa:=.mk 1 v [] []
def Nb (t:aa):aa:=.mk 15 0 [] [t]
def NI (A:Int→Bool):List Int→Int→List Int
 | [],_=> []
 | x::xs,k=>if A x=true then k::NI A xs (k + 1) else x::NI A xs k
def NH (A:Int→Bool):List Int→Int→List aa
 | [],_=> []
 | x::xs,k=>if A x=true then Nb (JF k)::NH A xs (k + 1) else NH A xs k
def ND (A:Int→Bool) (l:List Int):Int:=((l.filter A).length:Int)
def HW (A:Int→Bool):List Int→List aa→List aa
 | v::vs,x::xs=>(if A v=true then Nb x else x)::HW A vs xs
 | _,l=>l
def Nq (A:Int→Bool):List Int→List aa→List aa
 | v::vs,x::xs=>if A v=true then Nq A vs xs else x::Nq A vs xs
 | _,_=> []
def Np (A:Int→Bool):List Int→List aa→aa→aa
 | v::vs,x::xs,o=>if A v=true then .mk 6 0 [] [.mk 17 0 [] [JF v,x],Np A vs xs o] else Np A vs xs o
 | _,_,o=>o
def Qj (A:Int→Bool) (vs:List Int) (l:List aa):aa:=
 let o:=Np A vs l (l.getD vs.length (JF 0))
 if vs.filter (fun v=>!A v)= [] then o else .mk 9 0 (vs.filter fun v=>!A v) (Nq A vs l++ [o])
def Qk (A:Int→Bool) (vs:List Int) (l:List aa):aa:=
 .mk 8 0 (vs.filter A) ((vs.filter A).map (fun _=>Nb (.mk 13 0 [] []))++ [Qj A vs l])
mutual
def aa.fr (A:Int→Bool):aa→Int
 | .mk op _ v t=>(if op=4 then ND A v else 0) + aa.QH A t
def aa.QH (A:Int→Bool):List aa→Int
 | []=>0
 | x::xs=>aa.fr A x + aa.QH A xs
end
mutual
def aa.cv (A:Int→Bool):aa→Int→aa
 | .mk op n v t,k=>
  if op=1∧A n=true then .mk 16 0 [] [.mk op n v t]
  else if op=2 then .mk 17 0 [] (JF n::aa.MC A t k)
  else if op=14 then .mk 18 0 [] (JF n::aa.MC A t k)
  else if op=4 then .mk 4 n (NI A v k) (if v.filter A= [] then aa.MC A t (k + ND A v) else [.mk 8 0 (v.filter A) (NH A v k++aa.MC A t (k + ND A v))])
  else if op=9∧v.any A=true then Qk A v (aa.MC A t k)
  else .mk op n v (if op=8 then HW A v (aa.MC A t k) else aa.MC A t k)
def aa.MC (A:Int→Bool):List aa→Int→List aa
 | [],_=> []
 | x::xs,k=>aa.cv A x k::aa.MC A xs (k + aa.fr A x)
end
mutual
def aa.OK:aa→Prop
 | .mk op n v t=>((op=1→v= []∧t= [])∧(op=2∨op=14∨op=4→t.length=1)∧(op=8∨op=9→t.length=v.length + 1)∧(op=9→n=0))∧aa.G9 t
def aa.G9:List aa→Prop
 | []=>True
 | x::xs=>aa.OK x∧aa.G9 xs
end
theorem aa.Oe (t:aa):t.OK↔((t.op=1→t.v= []∧t.t= [])∧(t.op=2∨t.op=14∨t.op=4→t.t.length=1)∧(t.op=8∨t.op=9→t.t.length=t.v.length + 1)∧(t.op=9→t.n=0))∧aa.G9 t.t:=by
 cases t;rw[aa.OK];rfl
mutual
def aa.KM:aa→List Int
 | .mk op n v t=>(if op=1 then [n] else [])++v++aa.vN t
def aa.vN:List aa→List Int
 | []=> []
 | x::xs=>aa.KM x++aa.vN xs
end
theorem aa.NQ (t:aa):t.KM=(if t.op=1 then [t.n] else [])++t.v++aa.vN t.t:=by cases t;rw[aa.KM];rfl
def aa.sz (l:List aa):Int:=aa.bR l
def P5:List aa→List aa→Prop
 | [], []=>True
 | x::l,y::m=>x.cnt=y.cnt∧P5 l m
 | _,_=>False
theorem P5.getD: ∀ {l m:List aa} (i:Nat) (d:aa),P5 l m→(l.getD i d).cnt=(m.getD i d).cnt
 | [], [],_,_,_=>rfl
 | x::l,y::m,0,d,h=>by simpa using h.1
 | x::l,y::m,i + 1,d,h=>by simpa using h.2.getD i d
 | [],_::_,_,_,h=>h.elim
 | _::_, [],_,_,h=>h.elim
section
variable {A B:Int→Bool} {s:Int} (hAB: ∀ v,B (v + s)=A v)
include hAB
end
theorem aa.LO {level c codes:Int} {free:Bool} (t:aa): ∀ {scope:List Int} {deep:Int},t.qL level c codes free scope deep→t.OK:=by
 induction t using aa.ind with
 | h t ih=>
  intro scope deep h;rw[aa.kN] at h;rw[aa.Oe]
  have key: ∀ (op:Int) (sc inner:List Int) (deep:Int) (l:List aa),(∀ y∈l, ∀ {scope:List Int} {deep:Int},y.qL level c codes free scope deep→y.OK)→aa.fE level c codes free op sc inner l deep→aa.G9 l:=by
   intro op sc inner deep l
   induction l with
   | nil=>intro _ _;rw[aa.G9];trivial
   | cons x l ihl=>
    intro hy hk;rw[aa.fE] at hk;rw[aa.G9];exact ⟨hy x (by simp) hk.2.1,ihl (fun z hz=>hy z (by simp[hz])) hk.2.2⟩
  refine ⟨?_,key _ _ _ _ _ ih h.2⟩;obtain ⟨⟨_,_,h3,h4⟩,_⟩:=h;unfold c9 at h3;refine ⟨fun e=>?_,fun e=>?_,fun e=>?_,fun e=>?_⟩
  ·rw[e] at h3
   simp[yT] at h3;exact h3
  ·split at h3
   ·cases h3
   ·rw[if_neg (by omega),if_pos (by omega)] at h3
    have:(t.t.length:Int)=1:=by simpa using h3
    omega
  ·split at h3
   ·cases h3
   ·rw[if_neg (by omega),if_neg (by omega),if_neg (by omega),if_neg (by omega),if_neg (by omega),if_pos (by omega)] at h3
    have:(t.t.length:Int)=(t.v.length:Int) + 1:=by simpa using h3
    omega
  ·unfold bP at h4
   rw[if_neg (by omega),if_neg (by omega),if_neg (by omega),if_neg (by omega),if_neg (by omega),if_neg (by omega),if_neg (by omega)] at h4;simpa using h4
theorem aa.LN {level c codes:Int} {free:Bool} (t:aa): ∀ {scope:List Int} {deep:Int},t.qL level c codes free scope deep→ ∀ v,v∈t.KM∨v∈t.iQ→v∈scope∨v∈t.vars:=by
 induction t using aa.ind with
 | h t ih=>
  intro scope deep h v hv;rw[aa.kN] at h;rw[aa.NQ,aa.yP] at hv;rw[aa.kD]
  have key: ∀ (op:Int) (sc inner:List Int) (deep:Int) (l:List aa),(∀ y∈l, ∀ {scope:List Int} {deep:Int},y.qL level c codes free scope deep→ ∀ v,v∈y.KM∨v∈y.iQ→v∈scope∨v∈y.vars)→
    aa.fE level c codes free op sc inner l deep→ ∀ v,v∈aa.vN l∨v∈aa.kX l→v∈sc∨v∈inner∨v∈aa.dI l:=by
   intro op sc inner deep l
   induction l with
   | nil=>intro _ _ v hv;simp[aa.vN,aa.kX] at hv
   | cons x l ihl=>
    intro hy hk v hv;rw[aa.fE] at hk;rw[aa.vN,aa.kX,List.mem_append,List.mem_append] at hv;rw[aa.dI,List.mem_append]
    have h1:v∈x.KM∨v∈x.iQ→v∈sc∨v∈inner∨v∈x.vars:=fun h=>by
     have:=hy x (by simp) hk.2.1 v h
     split at this
     ·rcases this with h | h
      ·exact .inr (.inl h)
      ·exact .inr (.inr h)
     ·rcases this with h | h
      ·exact .inl h
      ·exact .inr (.inr h)
    have h2:v∈aa.vN l∨v∈aa.kX l→v∈sc∨v∈inner∨v∈aa.dI l:=ihl (fun z hz=>hy z (by simp[hz])) hk.2.2 v
    rcases hv with (h | h) | (h | h)
    ·rcases h1 (.inl h) with h | h | h
     ·exact .inl h
     ·exact .inr (.inl h)
     ·exact .inr (.inr (.inl h))
    ·rcases h2 (.inl h) with h | h | h
     ·exact .inl h
     ·exact .inr (.inl h)
     ·exact .inr (.inr (.inr h))
    ·rcases h1 (.inr h) with h | h | h
     ·exact .inl h
     ·exact .inr (.inl h)
     ·exact .inr (.inr (.inl h))
    ·rcases h2 (.inr h) with h | h | h
     ·exact .inl h
     ·exact .inr (.inl h)
     ·exact .inr (.inr (.inr h))
  have hk:=key _ _ _ _ _ ih h.2 v
  have hn:t.op=1∨t.op=2∨t.op=14→v=t.n→v∈scope:=by
   intro ho e;have h4:=h.1.2.2.2;unfold bP at h4;rw[if_neg (by omega),if_pos (by omega)] at h4;rw[e];simpa using h4
  rw[List.mem_append,List.mem_append,List.mem_append] at hv;rw[List.mem_append]
  rcases hv with ((h | h) | h) | (h | h)
  ·split at h
   ·rename_i ho;exact .inl (hn (.inl ho) (by simpa using h))
   ·cases h
  ·exact .inr (.inl h)
  ·rcases hk (.inl h) with h | h | h
   ·exact .inl h
   ·rcases List.mem_append.1 h with h | h
    ·exact .inl h
    ·exact .inr (.inl h)
   ·exact .inr (.inr h)
  ·split at h
   ·rename_i ho;exact .inl (hn (.inr ho) (by simpa using h))
   ·cases h
  ·rcases hk (.inr h) with h | h | h
   ·exact .inl h
   ·rcases List.mem_append.1 h with h | h
    ·exact .inl h
    ·exact .inr (.inl h)
   ·exact .inr (.inr h)
mutual
def aa.uC (P:Int→Int→Bool):aa→Int→Int
 | .mk op n _ t,deep=>(if P op n=true then 1 else 0) + (if deep < 1000 then aa.Cx P t (deep + 1) else 0)
def aa.Cx (P:Int→Int→Bool):List aa→Int→Int
 | [],_=>0
 | x::xs,deep=>aa.uC P x deep + aa.Cx P xs deep
end
theorem aa.Kx (P:Int→Int→Bool) (t:aa) (deep:Int):t.uC P deep=(if P t.op t.n=true then 1 else 0) + (if deep < 1000 then aa.Cx P t.t (deep + 1) else 0):=by cases t;rw[aa.uC];rfl
theorem aa.Kw (P:Int→Int→Bool) (t:aa): ∀ deep:Int,0≤t.uC P deep∧t.uC P deep≤t.cnt:=by
 induction t using aa.ind with
 | h t ih=>
  intro deep
  have key: ∀ l:List aa,(∀ y∈l, ∀ deep:Int,0≤y.uC P deep∧y.uC P deep≤y.cnt)→ ∀ deep,0≤aa.Cx P l deep∧aa.Cx P l deep≤aa.bR l:=by
   intro l
   induction l with
   | nil=>intro _ _;rw[aa.Cx,aa.bR];omega
   | cons x l ihl=>intro hy deep;rw[aa.Cx,aa.bR];have:=hy x (by simp) deep;have:=ihl (fun z hz=>hy z (by simp[hz])) deep;omega
  have:=key t.t ih (deep + 1);have:=aa.eu t.t;rw[aa.Kx,aa.fD]
  split<;>split<;>omega
theorem aa.Ow (P:Int→Int→Bool) (l:List aa) (deep:Int):0≤aa.Cx P l deep∧aa.Cx P l deep≤aa.bR l:=by
 induction l with
 | nil=>rw[aa.Cx,aa.bR];omega
 | cons x l ih=>rw[aa.Cx,aa.bR];have:=x.Kw P deep;omega
def iV (l:List Int) (v:Int):List Int:=l.takeWhile (fun x=>decide (x < v))++(if (l.dropWhile fun x=>decide (x < v)).head?=some v then l.dropWhile (fun x=>decide (x < v)) else v::l.dropWhile fun x=>decide (x < v))
theorem rO (x:Int) (l:List Int) (v:Int):iV (x::l) v=if x < v then x::iV l v else if x=v then x::l else v::x::l:=by
 unfold iV;by_cases h:x < v
 ·simp[List.takeWhile_cons,List.dropWhile_cons,h]
 ·simp[List.takeWhile_cons,List.dropWhile_cons,h]
theorem vM (v x:Int): ∀ l:List Int,x∈iV l v↔x=v∨x∈l
 | []=>by simp[iV]
 | y::l=>by
  rw[rO]
  split
  ·rw[List.mem_cons,vM v x l,List.mem_cons]
   constructor
   ·rintro (h | h | h)
    ·exact .inr (.inl h)
    ·exact .inl h
    ·exact .inr (.inr h)
   ·rintro (h | h | h)
    ·exact .inr (.inl h)
    ·exact .inl h
    ·exact .inr (.inr h)
  ·split
   ·rename_i e;rw[List.mem_cons,e]
    constructor
    ·rintro (h | h)
     ·exact .inl h
     ·exact .inr (.inr h)
    ·rintro (h | h | h)
     ·exact .inl h
     ·exact .inl h
     ·exact .inr h
   ·rw[List.mem_cons]
theorem Ap (v:Int): ∀ {l:List Int},l.Pairwise (· < ·)→(iV l v).Pairwise (· < ·)
 | [],_=>by simp[iV]
 | y::l,h=>by
  rw[List.pairwise_cons] at h;rw[rO]
  split
  ·rw[List.pairwise_cons]
   refine ⟨fun z hz=>?_,Ap v h.2⟩;rcases (vM v z l).1 hz with rfl | hz
   ·assumption
   ·exact h.1 z hz
  ·split
   ·exact List.pairwise_cons.2 h
   ·rw[List.pairwise_cons]
    refine ⟨fun z hz=>?_,List.pairwise_cons.2 h⟩;rcases List.mem_cons.1 hz with rfl | hz
    ·omega
    ·have:=h.1 z hz;omega
theorem vW (v:Int): ∀ l:List Int,(iV l v).length≤l.length + 1
 | []=>by simp[iV]
 | y::l=>by
  rw[rO];have:=vW v l
  split
  ·simp;omega
  ·split<;>simp
mutual
def aa.bD:aa→Int→List Int→List Int
 | .mk _ _ v t,deep,out=>if deep < 1000 then aa.Ht t (deep + 1) (v.foldl iV out) else v.foldl iV out
def aa.Ht:List aa→Int→List Int→List Int
 | [],_,out=>out
 | x::xs,deep,out=>aa.Ht xs deep (aa.bD x deep out)
end
theorem aa.MB (t:aa) (deep:Int) (out:List Int):t.bD deep out=if deep < 1000 then aa.Ht t.t (deep + 1) (t.v.foldl iV out) else t.v.foldl iV out:=by cases t;rw[aa.bD];rfl
theorem oD: ∀ (v out:List Int),out.Pairwise (· < ·)→(v.foldl iV out).Pairwise (· < ·)
 | [],_,h=>h
 | x::v,out,h=>oD v _ (Ap x h)
theorem ni (x:Int): ∀ (v out:List Int),x∈v.foldl iV out↔x∈out∨x∈v
 | [],_=>by simp
 | y::v,out=>by
  rw[List.foldl_cons,ni x v,vM,List.mem_cons];constructor
  ·rintro ((h | h) | h)
   ·exact .inr (.inl h)
   ·exact .inl h
   ·exact .inr (.inr h)
  ·rintro (h | h | h)
   ·exact .inl (.inr h)
   ·exact .inl (.inl h)
   ·exact .inr h
theorem mZ: ∀ (v out:List Int),(v.foldl iV out).length≤out.length + v.length
 | [],_=>by simp
 | x::v,out=>by
  rw[List.foldl_cons,List.length_cons];have:=mZ v (iV out x);have:=vW x out;omega
theorem aa.pX (t:aa): ∀ (deep:Int) (out:List Int),out.Pairwise (· < ·)→(t.bD deep out).Pairwise (· < ·)∧(t.bD deep out).length≤out.length + t.aR∧(deep + t.dep < 1000→ ∀ x,x∈t.bD deep out↔x∈out∨x∈t.vars):=by
 induction t using aa.ind with
 | h t ih=>
  intro deep out ho;have hge:=aa.ue t.t 0;have hbe:=t.bu
  have key: ∀ l:List aa,(∀ y∈l, ∀ (deep:Int) (out:List Int),out.Pairwise (· < ·)→(y.bD deep out).Pairwise (· < ·)∧(y.bD deep out).length≤out.length + y.aR∧(deep + y.dep < 1000→ ∀ x,x∈y.bD deep out↔x∈out∨x∈y.vars))→
    ∀ (deep:Int) (out:List Int),out.Pairwise (· < ·)→(aa.Ht l deep out).Pairwise (· < ·)∧(aa.Ht l deep out).length≤out.length + aa.aD l∧((∀ x∈l,deep + x.dep < 1000)→ ∀ x,x∈aa.Ht l deep out↔x∈out∨x∈aa.dI l):=by
   intro l
   induction l with
   | nil=>intro _ deep out ho;rw[aa.Ht,aa.dI];exact ⟨ho,by omega,by simp⟩
   | cons x l ihl=>
    intro hy deep out ho;obtain ⟨a1,a2,a3⟩:=hy x (by simp) deep out ho;obtain ⟨b1,b2,b3⟩:=ihl (fun z hz=>hy z (by simp[hz])) deep (x.bD deep out) a1;rw[aa.Ht,aa.dI,aa.aD];refine ⟨b1,by omega,fun hd z=>?_⟩;rw[b3 (fun y hz=>hd y (by simp[hz])),a3 (hd x (by simp)),List.mem_append,or_assoc]
  have hf:=oD t.v out ho;have hl:=mZ t.v out;obtain ⟨b1,b2,b3⟩:=key t.t ih (deep + 1) _ hf;rw[aa.MB]
  split
  ·refine ⟨b1,by omega,fun hd z=>?_⟩
   rw[aa.qV] at hd;have hd2:=(aa.nS (999 - deep) t.t 0).1 (by omega);rw[b3 fun x hx=>by have:=hd2.2 x hx;omega];rw[ni,aa.kD,List.mem_append,or_assoc]
  ·exact ⟨hf,by omega,fun hd=>by rw[aa.qV] at hd;omega⟩
def dX (t:aa):List Int:=ez t.vars
theorem aa.yQ (t:aa) (h:t.dep < 1000):t.bD 0 []=dX t:=by
 obtain ⟨h1,_,h3⟩:=t.pX 0 [] List.Pairwise.nil;exact Dv h1 (qE _) fun x=>by rw[h3 (by omega),dX,jR];simp
theorem aa.CP (t:aa) (h:t.dep < 1000):ez (bC t.all)=dX t:=by
 have:=(t.EW [] 0 (by omega)).2;unfold dX bC;exact congrArg ez this
def bO (t:aa):Int:=if dX t= [] then 0 else (dX t).getD ((dX t).length - 1) 0 + 1
def PU:Prog:=⟨[],.mk 0 0 [] []⟩
theorem Oi (t:aa): ∀ deep:Int,0≤deep→deep≤1000→t.aR≤1000000000→ay Tryz.prog 45 [.agg t.cells,.int .i64 deep] (.int .i64 (t.uC (fun _ _=>true) deep)):=by
 induction t using aa.ind with
 | h t ih=>
  intro deep h0 h1 hb;have hbe:=t.bu;have he:=t.Kx (fun _ _=>true) deep;have hbd:=t.Kw (fun _ _=>true) deep;have hcb:=t.H8;have ih': ∀ x∈t.t, ∀ deep:Int,0≤deep→deep≤1000→ay Tryz.prog 45 [.agg x.cells,.int .i64 deep] (.int .i64 (x.uC (fun _ _=>true) deep)):=fun x hx d a b=>ih x hx d a b (by have:=aa.cu hx;omega);refine af.ah ai Tryz.func45 rfl rfl (n:=29) rfl rfl ?_
  conv=>whnf
  repeat (((intro _);conv=>whnf))
  refine ax.keep [5,6,7,8,9,10,11,12,13,14,15,16,17,18,19,20,21,22,23,24,25,26,27] (fun x:Nat×Int=> [(5,.int .i64 x.2),(6,.int .i64 x.1)]) (fun x=>x.1≤t.t.length∧(x.1=0∨deep < 1000)∧1≤x.2∧x.2 + (if deep < 1000 then aa.Cx (fun _ _=>true) (t.t.drop x.1) (deep + 1) else 0)=t.uC (fun _ _=>true) deep) (fun x=>t.t.length - x.1) (0,1) ⟨Nat.zero_le _,.inl rfl,by simp,by rw[he];simp⟩ wA ?_;rintro ⟨i,n⟩ ⟨hi,hd,hn,hm⟩;dsimp only at hi hd hn hm⊢
  conv=>whnf
  repeat' (first|refine qQ ?_|((first|refine pC (ih' _ (List.getElem_mem _) _ (by omega) (by omega)) wR ?_|intro _);conv=>whnf)|(refine zX (fun hc=>?_) (fun hc=>?_)<;>(try simp only[SY] at hc)<;>(conv=>whnf)))
  ·rw[if_pos (by omega),aO (show i < t.t.length by omega),aa.Cx] at hm
   have hx:=(t.t[i]).Kw (fun _ _=>true) (deep + 1);have hr:=aa.Ow (fun _ _=>true) (t.t.drop (i + 1)) (deep + 1);refine ij.ok (by omega) (by omega) ?_
   conv=>whnf
   repeat' (first|refine qQ ?_|(refine zX (fun hc=>?_) (fun hc=>?_)<;>(try simp only[SY] at hc)<;>omega))
   exact av (i + 1,n + t.t[i].uC (fun _ _=>true) (deep + 1)) ⟨by show i + 1≤_;omega,.inr (by omega),by show 1≤n + (t.t[i]).uC _ (deep + 1);omega,by dsimp only;rw[if_pos (by omega)];omega⟩ (by show t.t.length - (i + 1) < t.t.length - i;omega) wA
  ·refine ak.pure (Wk.int ?_)
   rw[←hm]
   split
   ·rw[List.drop_of_length_le (by omega),aa.Cx];omega
   ·omega
theorem aa.Kv (t:aa): ∀ deep:Int,deep + t.dep < 1000→t.uC (fun _ _=>true) deep=t.cnt:=by
 induction t using aa.ind with
 | h t ih=>
  intro deep h;have hge:=aa.ue t.t 0;rw[aa.qV] at h;have hd:=(aa.nS (999 - deep) t.t 0).1 (by omega)
  have key: ∀ l:List aa,(∀ y∈l, ∀ deep:Int,deep + y.dep < 1000→y.uC (fun _ _=>true) deep=y.cnt)→ ∀ deep,(∀ x∈l,deep + x.dep < 1000)→aa.Cx (fun _ _=>true) l deep=aa.bR l:=by
   intro l
   induction l with
   | nil=>intro _ _ _;rw[aa.Cx,aa.bR]
   | cons x l ihl=>intro hy deep hx;rw[aa.Cx,aa.bR,hy x (by simp) deep (hx x (by simp)),ihl (fun z hz=>hy z (by simp[hz])) deep fun z hz=>hx z (by simp[hz])]
  have hlt:deep < 1000:=by omega
  rw[aa.Kx,if_pos rfl,if_pos hlt,aa.fD,key t.t ih (deep + 1) fun x hx=>by have:=hd.2 x hx;omega]
theorem HI (t:aa) (hb:t.aR≤1000000000):ay Tryz.prog 25 [.agg t.cells] (.int .i64 (t.uC (fun _ _=>true) 0)):=by
 refine af.ah ai Tryz.func25 rfl rfl (n:=5) rfl rfl ?_
 conv=>whnf
 repeat (first|refine P6 ?_|((first|refine pC (Oi t 0 (by omega) (by omega) hb) wR ?_|intro _);conv=>whnf))
 exact ak.pure (Wk.refl _)
def OJ (p:Prog):Bool:=iY p 0 == 0
abbrev PD (r:QD):PV:=.bp [.agg r.p.cells,.int .i64 r.e]
theorem Shift.Ji {x:PV} {Γ Γ':List aj} (g:au Γ Γ'):Shift x Γ x Γ':=fun w0 F M w v hS hx=>by
 obtain ⟨F',e,h⟩:=g w0 F M w hS;exact ⟨F',e,h,aC.mono e _ _ hx⟩
theorem au.LH (Γ:List aj):au Γ (.row (aB 5 55) (([]:List Datum).map Datum.pv)::Γ):=au.cK _ _ _
theorem JP (b:Nat) (d:Datum) (hs:d.sz≤100000000) (hp:d.pr=true) (hc:cy d.sz d=true):
  af Tryz.prog 62 [.ptr b 0,.agg d.cells,.agg (mV [])] (pq b (aB 5 55) ⟨[],0,false⟩)
   (fun y Γ'=> ∃ tk,y=.agg (TF (-1) d.sz d [] ⟨[],0,false⟩).1.cells∧Γ'= [.box b [.sl 5 ((TF (-1) d.sz d [] ⟨[],0,false⟩).2.cs.map Datum.pv) none,.int .i64 (TF (-1) d.sz d [] ⟨[],0,false⟩).2.vars,.bool (TF (-1) d.sz d [] ⟨[],0,false⟩).2.lost],.tok tk]):=
 (sN b d.sz hs d hp (Nat.le_refl _) hc (aB 5 55) [] ⟨[],0,false⟩ rfl rfl (fun p h=>by cases h) (by simp;omega) ⟨by simp,by simp;omega,by simp;omega⟩).2.shift fun y Γ' hq=>by
  obtain ⟨tk',e,s,hy,hΓ⟩:=hq;generalize TF (-1) d.sz d [] ⟨[],0,false⟩=r at *;subst hy hΓ;exact ⟨_,_,Shift.Ji (au.cE (t:=tk') (es:=r.2.cs.map Datum.pv) (b:=b) (cs:= [.ms tk',.int .i64 r.2.vars,.bool r.2.lost]) (cs':= [.sl 5 (r.2.cs.map Datum.pv) none,.int .i64 r.2.vars,.bool r.2.lost]) (.cons (qP.ms' s) (.cons (qP.of (Wk.refl _)) (.cons (qP.of (Wk.refl _)) .nil)))),tk',rfl,rfl⟩
theorem Dd {p q:Prop} (k:q) (h:q→p:=by intro hq;first | exact aE.sP (some 22) rfl [6] [7] ai mixed hq):p:=h k
theorem Cd (d:Datum) (hs:d.sz≤100000000):ay Tryz.prog 39 [.agg d.cells] (PD (GV OJ (-1) d)):=by
 have hC:=Hy d (by omega) (rS d 0);have hR:GV OJ (-1) d=GV OJ (-1) d:=rfl
 conv at hR=>rhs;unfold GV;dsimp only
 generalize GV OJ (-1) d=O at *
 cases hc:Bh d with
 | false=>
  rw[hc] at hC;rw[if_pos hc] at hR;rw[hR];refine af.ah ai Tryz.func39 rfl rfl (n:=33) rfl rfl ?_
  conv=>whnf
  repeat' (first|refine aY ?_|((first|refine pC (hC) wR ?_|intro _);conv=>whnf)|(refine zX (fun hc=>?_) (fun hc=>?_)<;>(try simp only[SY] at hc)<;>(conv=>whnf)))
  exact ak.pure wA
 | true=>
  rw[hc] at hC;rw[if_neg (by rw[hc];simp)] at hR;have hcd:=hc;unfold Bh at hcd;rw[Bool.and_eq_true] at hcd;have hp:=rS d 0 hcd.1;have hgo:=HJ (-1) d.sz d hp [] ⟨[],0,false⟩;have hroot:=fun b=>JP b d hs hp hcd.2;generalize TF (-1) d.sz d [] ⟨[],0,false⟩=r at *;obtain ⟨t,s⟩:=r;dsimp only at hgo hroot hR;have hck:=A5 ⟨s.cs,t⟩ 0 (by show t.aR≤_;omega) (by have:=hgo.1.2.2;dsimp only at this ⊢; simp at this;omega);have hok:OJ ⟨s.cs,t⟩=(iY ⟨s.cs,t⟩ 0 == 0):=rfl;generalize iY ⟨s.cs,t⟩ 0=ck at *;refine af.ah ai Tryz.func39 rfl rfl (n:=33) rfl rfl ?_
  conv=>whnf
  repeat' (first|refine aY ?_|((first|refine pC (hC) wR ?_|intro _);conv=>whnf)|(refine zX (fun hc=>?_) (fun hc=>?_)<;>(try simp only[SY] at hc)<;>(conv=>whnf)))
  rename_i b1 b2 b4;refine aq.OG (au.trans (au.LH _) (au.box (b:=b4) (cs:= [.nil,.int .i64 0,.bfalse]) (cs':= [.ms (aB 5 55),.int .i64 0,.bool false]) (.cons (Wk.cK 5 55) (.cons (Wk.refl _) (.cons (Wk.ff rfl) .nil))))) (hroot b4) (.cons (Wk.refl _) (.cons (Wk.refl _) (.cons (Wk.agg (.cons (Wk.dM rfl) (.cons (Wk.dM rfl) .nil))) .nil))) ?_;rintro _ _ ⟨tk,rfl,rfl⟩
  conv=>whnf
  repeat' (first|refine aY ?_|((first|refine pC (hck) wR ?_|refine Dd ?_|intro _);conv=>whnf)|(refine zX (fun hc=>?_) (fun hc=>?_)<;>(try simp only[SY] at hc)<;>(conv=>whnf)))
  ·rw[if_pos hc] at hR
   rw[hR];exact ak.pure wA
  ·have hl:s.lost=false:= ‹s.lost=false›
   rw[if_neg (by rw[hl];simp),hok,if_pos (by simpa using hc)] at hR;rw[hR];exact ak.pure wA
  ·have hl:s.lost=false:= ‹s.lost=false›
   rw[if_neg (by rw[hl];simp),hok,if_neg (by simp[hc])] at hR;rw[hR];exact ak.pure (Wk.refl _)
def Q1 (k:Nat) (r:OC):Prop:=r.2.2= -1→r.1.sz + 1 + 5 * k≤5 * r.2.1
def Q0 (k:Nat) (l:List Datum) (e:Datum) (r:(List Datum×Datum)×Nat×Int):Prop:=r.2.2= -1→r.1.1.length + Datum.ej r.1.1 + r.1.2.sz + 5 + 5 * k≤5 * r.2.1 + l.length + Datum.ej l + e.sz
abbrev iM:=List (Int×Nat)
structure Mz where
 v:List Int
 rest:Bool
 body:aa
 env:iM
inductive Vl where
 | mk (k n d:Int) (s:List UInt8) (l:List Vl) (p:Option Mz) (c:Option Nat)
def Vl.k:Vl→Int | .mk k _ _ _ _ _ _=>k
def Vl.n:Vl→Int | .mk _ n _ _ _ _ _=>n
def Vl.d:Vl→Int | .mk _ _ d _ _ _ _=>d
def Vl.s:Vl→List UInt8 | .mk _ _ _ s _ _ _=>s
def Vl.l:Vl→List Vl | .mk _ _ _ _ l _ _=>l
def Vl.p:Vl→Option Mz | .mk _ _ _ _ _ p _=>p
def Vl.c:Vl→Option Nat | .mk _ _ _ _ _ _ c=>c
def cH:iM→PV
 | []=>.np
 | (v,a)::e=>.ep [.int .i64 v,.ptr a 0,cH e]
abbrev Mz.cells (c:Mz):List PV:= [.sl 1 (c.v.map (PV.int .i64)) none,.bool c.rest,.int .i64 c.body.op,.int .i64 c.body.n,.sl 1 (c.body.v.map (PV.int .i64)) none,.sl 4 (c.body.t.map aa.pv) none,cH c.env,.int .i64 (-1),.nil]
def oB:Option Mz→PV
 | none=>.np
 | some c=>.ep c.cells
def jD:Option Nat→PV
 | none=>.np
 | some a=>.ptr a 0
mutual
def Vl.pv:Vl→PV
 | .mk k n d s l p c=>.agg [.int .i64 k,.int .i64 n,.int .i64 d,.str s,.sl 7 (Vl.Fe l) none,oB p,jD c]
def Vl.Fe:List Vl→List PV
 | []=> []
 | x::xs=>Vl.pv x::Vl.Fe xs
end
theorem Vl.nt: ∀ l:List Vl,Vl.Fe l=l.map Vl.pv
 | []=>rfl
 | x::xs=>by simp only[Vl.Fe,List.map_cons,Vl.nt xs]
def Vl.cells (x:Vl):List PV:= [.int .i64 x.k,.int .i64 x.n,.int .i64 x.d,.str x.s,.sl 7 (x.l.map Vl.pv) none,oB x.p,jD x.c]
abbrev gV (x:Vl):List PV:= [.int .i64 x.k,.int .i64 x.n,.int .i64 x.d,.str x.s,.sl 7 (x.l.map Vl.pv) none,oB x.p,jD x.c]
abbrev A4 (x:Vl) (r:Bool):List PV:= [.int .i64 x.k,.int .i64 x.n,.int .i64 x.d,.str x.s,.sl 7 (x.l.map Vl.pv) none,oB x.p,jD x.c,.bool r]
theorem Vl.fB (x:Vl):x.pv=.agg x.cells:=by
 cases x;simp only[Vl.pv,Vl.cells,Vl.nt,Vl.k,Vl.n,Vl.d,Vl.s,Vl.l,Vl.p,Vl.c]
instance:cz Vl.pv Vl.cells:=⟨fun x=>by rw[Vl.fB];rfl⟩
mutual
theorem Vl.lY {p:Vl→Prop} (h: ∀ x:Vl,(∀ y∈x.l,p y)→p x): ∀ d,p d
 | .mk k n d s l pr c=>h (.mk k n d s l pr c) (Vl.iR h l)
theorem Vl.iR {p:Vl→Prop} (h: ∀ x:Vl,(∀ y∈x.l,p y)→p x): ∀ (l:List Vl), ∀ x∈l,p x
 | []=>by simp
 | y::ys=>List.forall_mem_cons.2 ⟨Vl.lY h y,Vl.iR h ys⟩
end
instance:pK Vl:=⟨.mk 0 0 0 [] [] none none⟩
instance (priority:=high) cc.QY (t:Vl):cc Vl.pv (Vl.pv t) t:=⟨Wk.refl _,gx.refl _⟩
instance (priority:=high) cc.QA (t:Vl):cc Vl.pv (.agg t.cells) t:=⟨by rw[Vl.fB];exact Wk.refl _,by rw[Vl.fB];exact gx.refl _⟩
theorem cc.QN {x:List PV} {t:Vl} (h:gx x t.cells):cc Vl.pv (.agg x) t:=⟨by rw[Vl.fB];exact Wk.agg h,by rw[Vl.fB];exact h⟩
instance (priority:=high) cc.QB (t:Vl) (tk:Option Tok):cc Vl.pv (.agg [.int .i64 (Vl.k t),.int .i64 (Vl.n t),.int .i64 (Vl.d t),.str (Vl.s t),.sl 7 ((Vl.l t).map Vl.pv) tk,oB (Vl.p t),jD (Vl.c t)]) t:=
 cc.QN (.cons (Wk.refl _) (.cons (Wk.refl _) (.cons (Wk.refl _) (.cons (Wk.refl _) (.cons (Wk.tok _ _ _) (.cons (Wk.refl _) (.cons (Wk.refl _) .nil)))))))
class ow {α:Type} (f:α→PV) (x:PV) (v:outParam α):Prop where
 h:x=f v
instance ow.QJ:ow oB .np none:=⟨rfl⟩
instance ow.QK:ow jD .np none:=⟨rfl⟩
instance ow.QU (a:Nat):ow jD (.ptr a 0) (some a):=⟨rfl⟩
instance (priority:=high) ow.same {α:Type} (f:α→PV) (v:α):ow f (f v) v:=⟨rfl⟩
instance cc.RW (a b c:Int) (s:List UInt8) (x y z:PV) (l:List Vl) (p:Option Mz) (q:Option Nat) [h:sV Vl.pv 7 x l] [hy:ow oB y p] [hz:ow jD z q]:cc Vl.pv (.agg [.int .i64 a,.int .i64 b,.int .i64 c,.str s,x,y,z]) (.mk a b c s l p q):=
 cc.QN (.cons (Wk.refl _) (.cons (Wk.refl _) (.cons (Wk.refl _) (.cons (Wk.refl _) (.cons h.wk (.cons (by rw[hy.h];exact Wk.refl _) (.cons (by rw[hz.h];exact Wk.refl _) .nil)))))))
theorem O0.wk {x:PV} {t:Vl} [h:cc Vl.pv x t]:Wk x (.agg t.cells):=by rw[←Vl.fB];exact h.wk
theorem dz {x:PV} {l:List PV} {K:List PV→Prop} (hx:qy x=x) (h:sD l fun r=>K (x::r)):sD (x::l) K:=by
 rw[vP] at h ⊢;rw[List.map_cons,hx];exact h
theorem nC {p:Option Mz}:qy (oB p)=oB p:=by cases p<;>rfl
theorem nD {c:Option Nat}:qy (jD c)=jD c:=by cases c<;>rfl
abbrev dD:Vl:=.mk 0 0 0 [] [] none none
abbrev fL (k:Int):Vl:=.mk k 0 0 [] [] none none
mutual
def PO:Datum→Vl
 | .mk k n d s l=>.mk k n d s (MY l) none none
def MY:List Datum→List Vl
 | []=> []
 | x::xs=>PO x::MY xs
end
def Du (l:List Vl):Vl:=l.foldr (fun x r=>.mk 6 0 0 [] [x,r] none none) (fL 4)
abbrev Hp:=List (Nat×Vl×Bool)
def CC (h:Hp):List aj:=h.map fun c=>.box c.1 (A4 c.2.1 c.2.2)
def q8:iM→Int→Option Nat
 | [],_=>none
 | (x,a)::e,v=>if x=v then some a else q8 e v
structure kP where
 fuel:Int
 out:List UInt8
 alive:List Bool
 to:Int
 val:Vl
 h:Hp
abbrev Qo (K:List Vl) (t:Tok) (s:kP):List PV:= [.sl 7 (K.map Vl.pv) none,.nil,.int .i64 s.fuel,.str s.out,.ms t,.int .i64 s.to,.int .i64 s.val.k,.int .i64 s.val.n,.int .i64 s.val.d,.str s.val.s,.sl 7 (s.val.l.map Vl.pv) none,oB s.val.p,jD s.val.c]
abbrev eL (b:Nat) (K:List Vl) (t:Tok) (s:kP):List aj:=.box b (Qo K t s)::.row t (s.alive.map PV.bool)::CC s.h
theorem CO (e:iM) (v:Int) (x:Vl) (r:Bool):af Tryz.prog 170 [cH e,.int .i64 v,.agg x.cells,.bool r] [] (fun y Γ'=> ∃ a,y=cH ((v,a)::e)∧Γ'= [.box a (A4 x r)]):=by
 rcases e with _ | ⟨⟨w,c⟩,e⟩
 all_goals
  refine af.ah ai Tryz.func170 rfl rfl (n:=17) rfl rfl ?_
  conv=>whnf
  repeat' (first|refine aY ?_|((intro _);conv=>whnf)|(refine zX (fun hc=>?_) (fun hc=>?_)<;>(try simp only[SY] at hc)<;>omega))
  rename_i b1 b2 b3;exact ak.freeze (b:=b3) (Γ':= [.box b2 (A4 x r)]) (Wk.refl _) ⟨b2,rfl,rfl⟩
theorem Am (e:iM) (v:Int) (a:Nat) (h:q8 e v=some a):ay Tryz.prog 125 [cH e,.int .i64 v] (.ptr a 0):=by
 refine af.ah ai Tryz.func125 rfl rfl (n:=28) rfl rfl ?_
 conv=>whnf
 skip
 refine ax.keep [0,5,6,7,8,9,10,11,12,13,14,15,16,17,18] (fun x:iM=> [(0,cH x)]) (fun x=>q8 x v=some a) (fun x=>x.length) e h wA ?_;intro x hx
 rcases x with _ | ⟨⟨w,c⟩,x⟩
 ·cases hx
 rw[q8] at hx
 conv=>whnf
 repeat' (first|refine aY ?_|(refine zX (fun hc=>?_) (fun hc=>?_)<;>(try simp only[SY] at hc)<;>(conv=>whnf)))
 ·rw[if_neg hc] at hx
  exact av x hx (by show x.length < x.length + 1;omega) wA
 ·rw[if_pos hc] at hx
  obtain rfl:=Option.some.inj hx;exact ak.pure (Wk.refl _)
theorem Jo {a b:Vl}:gx [.int .i64 6,.int .i64 0,.int .i64 0,.str [],.sl 7 [.agg a.cells,.agg b.cells] none,.np,.np] (Vl.mk 6 0 0 [] [a,b] none none).cells:=
 .cons (Wk.refl _) (.cons (Wk.refl _) (.cons (Wk.refl _) (.cons (Wk.refl _) (.cons (sV.wk (f:=Vl.pv) (l:= [a,b])) (.cons (Wk.refl _) (.cons (Wk.refl _) .nil))))))
theorem EN {k:Int}:gx [.int .i64 k,.int .i64 0,.int .i64 0,.str [],.nil,.np,.np] (fL k).cells:=.cons (Wk.refl _) (.cons (Wk.refl _) (.cons (Wk.refl _) (.cons (Wk.refl _) (.cons (Wk.dM rfl) (.cons (Wk.refl _) (.cons (Wk.refl _) .nil))))))
theorem FX {p q:Prop} (k:q) (h:q→p:=by intro hq;first | exact aE.sP (some 13) rfl [] [7] ai mixed hq):p:=h k
theorem Lp (l:List Vl):ay Tryz.prog 236 [.sl 7 (l.map Vl.pv) none] (.agg (Du l).cells):=by
 refine af.ah ai Tryz.func236 rfl rfl (n:=21) rfl rfl ?_
 conv=>whnf
 repeat' (first|refine aY ?_|((intro _);conv=>whnf)|(refine zX (fun hc=>?_) (fun hc=>?_)<;>(try simp only[SY] at hc)<;>omega))
 rename_i b2 b3 hl;refine ax.gh (au.box (b:=b3) (cs:= [.int .i64 4,.int .i64 0,.int .i64 0,.str [],.nil,.np,.np]) (cs':=gV (fL 4)) EN) ?_;refine ax.over [4,9,10,11,12,13,14,15,16,17,18,19] (fun x:Nat×Vl=> [(4,.int .i64 ((x.1:Int) - 1))]) (fun x:Nat×Vl=> [.box b2 [.int .i64 0,.int .i64 0,.int .i64 0,.str [],.nil,.np,.np],.box b3 (gV x.2)]) (fun x=>x.1≤l.length∧x.2=Du (l.drop x.1)) (fun x=>x.1) (l.length,fL 4) ⟨Nat.le_refl _,by rw[List.drop_of_length_le (Nat.le_refl _)];rfl⟩ wA ?_;rintro ⟨i,D⟩ ⟨hi,hD⟩;dsimp only at hi hD⊢
 conv=>whnf
 repeat' (first|refine aY ?_|((first|refine dz nC ?_|refine dz nD ?_|refine FX ?_);conv=>whnf)|(refine zX (fun hc=>?_) (fun hc=>?_)<;>(try simp only[SY] at hc)<;>(conv=>whnf)))
 ·have h1:i - 1 < l.length:=by omega
  have e:l.drop (i - 1)=l[i - 1]::l.drop i:=by rw[aO h1,show i - 1 + 1=i by omega]
  refine jz.gh (i - 1,.mk 6 0 0 [] [l[i - 1],D] none none) ⟨by show i - 1≤_;omega,by show _=Du (l.drop (i - 1));rw[e,hD];rfl⟩ (by show i - 1 < i;omega) wA ?_;refine au.trans (au.box (b:=b3) (cs:= [.int .i64 6,.int .i64 0,.int .i64 0,.str [],.sl 7 [.agg (gV l[i - 1]),.agg (gV D)] none,.np,.np]) (cs':=gV (Vl.mk 6 0 0 [] [l[i - 1],D] none none)) Jo) ?_;exact au.pick
 ·have e:D=Du l:=by rw[hD,show i=0 by omega];rfl
  rw[←e];exact ak.pure (Wk.refl _)
def Nl:Nat→Nat→List UInt8
 | 0,_=> []
 | f + 1,n=>if n < 10 then [(48 + n).toUInt8] else Nl f (n / 10)++ [(48 + n % 10).toUInt8]
def Qr (n d:Int):List UInt8:=if cM n d=false then [] else (if n < 0 then [45] else [])++Nl 10 n.natAbs++(if d=1 then [] else 47::Nl 10 d.natAbs)
abbrev Qt:List UInt8:= [35,60,112,114,111,99,101,100,117,114,101,62]
mutual
def wV (tail:Bool):Vl→List UInt8→List UInt8
 | .mk k n d s l _ _,out=>
  let core:=fun (out:List UInt8)=>
   if 1000≤out.length then out else
   if k=0 then out++Qr n d else
   if k=1 then out++(if bitsOf .and .i64 n 1=0 then [35,102] else [35,116]) else
   if k=2 then out++s else
   if k=3 then out++ [34]++s++ [34] else
   if k=4 then out++ [40,41] else
   if k=5 then out++ [35,118] else
   if k=11 then out++ [35,60,98,111,120,62] else
   if k=12 then out++ [35,60,117,110,115,101,116,62] else
   if k=8∨k=9∨k=10 then out++Qt else
   if k=7 then wL true l (out++ [35,40])++ [41] else wP l (out++ [40])
  if tail=false then core out else
  if k=6∧out.length < 1000 then wP l (out++ [32]) else
  if k=4 then out++ [41] else core (out++ [32,46,32])++ [41]
def wL (first:Bool):List Vl→List UInt8→List UInt8
 | [],out=>out
 | x::xs,out=>if 1000≤out.length then out else wL false xs (wV false x (if first=true then out else out++ [32]))
def wP:List Vl→List UInt8→List UInt8
 | [a,b],out=>wV true b (wV false a out)
 | _,out=>out
end
def Qz (x:Vl):List UInt8:=(wV false x []).take 1000
mutual
def Vl.tx:Vl→Bool
 | .mk k _ _ s l _ _=>decide (0≤k∧k≤12) && (k !=6 || l.length == 2) && decide (s.length≤1000000000) && Vl.QX l
def Vl.QX:List Vl→Bool
 | []=>true
 | x::xs=>Vl.tx x && Vl.QX xs
end
mutual
def Vl.sz:Vl→Nat
 | .mk _ _ _ _ l _ _=>1 + Vl.ej l
def Vl.ej:List Vl→Nat
 | []=>0
 | x::xs=>Vl.sz x + Vl.ej xs
end
def O1 (n d m e:Int):Int×Int×Int:=if (cM n d && cM m e)=false then (0,0,3) else ko (n * e + m * d) (d * e)
def Qy (n d m e:Int):Int×Int×Int:=if (cM n d && cM m e)=false then (0,0,3) else O1 n d (0 - m) e
def NP (n d m e:Int):Int×Int×Int:=if (cM n d && cM m e)=false then (0,0,3) else
 ko (n.tdiv (Nat.gcd n.natAbs e.natAbs:Nat) * m.tdiv (Nat.gcd m.natAbs d.natAbs:Nat)) (d.tdiv (Nat.gcd m.natAbs d.natAbs:Nat) * e.tdiv (Nat.gcd n.natAbs e.natAbs:Nat))
def Qb (n d m e:Int):Int×Int×Int:=if (cM n d && cM m e)=false then (0,0,3) else
 if m=0 then (0,0,4) else if m < 0 then NP n d (0 - e) (0 - m) else NP n d e m
def Pr (n d m e:Int):Bool:=cM n d && (cM m e && decide (n * e < m * d))
def PX (n:Int) (a b:Int×Int):Int×Int×Int:=if n=0 then O1 a.1 a.2 b.1 b.2 else if n=1 then Qy a.1 a.2 b.1 b.2 else if n=2 then NP a.1 a.2 b.1 b.2 else Qb a.1 a.2 b.1 b.2
abbrev GJ (a:Int×Int):Datum:=.mk 0 a.1 a.2 [] []
def Kk (n:Int):List Datum→Int×Int→Datum×Int
 | [],a=>(GJ a,0)
 | x::l,a=>if (PX n a (x.n,x.d)).2.2≠0 then (GJ (0,0),(PX n a (x.n,x.d)).2.2) else Kk n l ((PX n a (x.n,x.d)).1,(PX n a (x.n,x.d)).2.1)
def Pu (l:List Datum):Bool:=l.all fun x=>x.kind == 0
def PN (n:Int) (l:List Datum):Datum×Int:=
 if Pu l=false then (GJ (0,0),1) else
 if (n=1∨n=3)∧1 < l.length then Kk n (l.drop 1) ((l.getD 0 aJ).n,(l.getD 0 aJ).d) else
 Kk n l (if 2≤n then (1,1) else (0,1))
set_option maxHeartbeats 8000000
instance:fV 4 4:=⟨rfl⟩
instance:fV 5 5:=⟨rfl⟩
instance:fV 6 6:=⟨rfl⟩
def Mq (b:Bool):Datum:=.mk 1 (if b=true then 1 else 0) 0 [] []
def Qn (n:Int):Int:= [4,6,0,2,1,3,7].getD (n - 9).toNat (-1)
def Pb (n:Int) (l:List Datum):Datum×Int:=
 if n < 4 then PN n l else
 if n=4∨n=5 then (if ¬(l.getD 0 aJ).kind=0∨ ¬(l.getD 1 aJ).kind=0 then (GJ (0,0),1) else if n=4 then (Mq ((l.getD 0 aJ).O2 (l.getD 1 aJ)),0) else (Mq (Pr (l.getD 0 aJ).n (l.getD 0 aJ).d (l.getD 1 aJ).n (l.getD 1 aJ).d),0)) else
 if n=8 then (Mq ((l.getD 0 aJ).kind == 1 && (l.getD 0 aJ).n == 0),0) else
 if n=25 then (.mk 5 0 0 [] [],0) else (Mq ((l.getD 0 aJ).kind == Qn n),0)
def Oo (n:Int) (k:Nat):Bool:=decide (0≤n∧n < 31) && (decide ((fX n).least≤k) && (decide ((fX n).most < 0) || decide ((k:Int)≤(fX n).most)))
def MH (n:Int) (l:List Datum):Datum×Int:=if l.all (fun d=>d.bL 0)=false then (GJ (0,0),0) else if Oo n l.length=false then (GJ (0,0),2) else Pb n l
set_option maxHeartbeats 4000000
def Rp (a b:Vl):Bool:=a.k == b.k && decide (a.k≤5) && a.k !=3 && a.n == b.n && a.d == b.d && a.s == b.s
def Mr (b:Bool):Vl:=.mk 1 (if b=true then 1 else 0) 0 [] [] none none
mutual
def Iv:Vl→Vl→Int→Bool×Int
 | .mk k n d s l _ _,b,left=>if left - 1 < 0∨ ¬k=b.k∨7 < k∨ ¬n=b.n∨ ¬d=b.d∨ ¬s=b.s∨ ¬l.length=b.l.length then (false,left - 1) else MD l b.l (left - 1)
def MD:List Vl→List Vl→Int→Bool×Int
 | x::xs,y::ys,left=>if (Iv x y left).1=false then (false,(Iv x y left).2) else MD xs ys (Iv x y left).2
 | _,_,left=>(true,left)
end
mutual
def Vl.an:Vl→List Vl×Vl
 | .mk k n d s l p c=>if k=6 then Vl.IM l else ([],.mk k n d s l p c)
def Vl.IM:List Vl→List Vl×Vl
 | [a,b]=>(a::b.an.1,b.an.2)
 | _=>([],dD)
end
theorem Vl.lZ (x:Vl) (h: ¬x.k=6):x.an=([],x):=by
 cases x with
 | mk k n d s l p c=>
  have h': ¬k=6:=h;rw[Vl.an,if_neg h']
theorem Vl.jJ (x:Vl) (h:x.k=6) (h2:x.l.length=2):x.an=((x.l[0]'(by omega))::(x.l[1]'(by omega)).an.1,(x.l[1]'(by omega)).an.2):=by
 cases x with
 | mk k n d s l p c=>
  have h':k=6:=h;rw[Vl.an,if_pos h']
  match l,h2 with
  | [a,b],_=>rw[Vl.IM];rfl
abbrev Qx (r:Vl×Int):PV:=.bp [.agg (gV r.1),.int .i64 r.2]
abbrev Pt (n:Int):Vl:=.mk 0 n 1 [] [] none none
def PA (n:Int) (l:List Vl):Vl×Int:=
 let a:=l.getD 0 dD
 let b:=l.getD 1 dD
 if n=18∨n=19 then (if ¬a.k=6 then (dD,1) else (a.l.getD (n - 18).toNat dD,0)) else
 if n=22 then (if ¬a.k=7∨ ¬b.k=0 then (dD,1) else if ¬b.d=1∨b.n < 0∨(a.l.length:Int)≤b.n then (dD,3) else (a.l.getD b.n.toNat dD,0)) else
 if n=23 then (if ¬a.k=7 then (dD,1) else (Pt a.l.length,0)) else
 if a.an.2.k=4 then (Pt a.an.1.length,0) else (dD,1)
set_option maxHeartbeats 8000000
def PL (x:Vl):Datum:=if x.k≤5 then .mk x.k x.n x.d x.s [] else if x.k=6 then gP [aJ] else .mk 7 0 0 [] []
def Oh (n:Int) (l:List Vl):Vl×Int×List UInt8:=
 let a:=l.getD 0 dD
 let b:=l.getD 1 dD
 if n=6 then (Mr (Rp a b),0, []) else
 if n=7 then (if (Iv a b 1000).2 < 0 then (dD,3, []) else (Mr (Iv a b 1000).1,0, [])) else
 if n=16 then (Mr (decide (8≤a.k) && decide (a.k≤10)),0, []) else
 if n=17 then (.mk 6 0 0 [] l none none,0, []) else
 if n=20 then (Du l,0, []) else
 if n=21 then (.mk 7 0 0 [] l none none,0, []) else
 if n=26 then (fL 5,0,Qz a) else
 if n=27 then (fL 5,0, [10]) else
 if n=18∨n=19∨n=22∨n=23∨n=24 then ((PA n l).1,(PA n l).2, []) else
 if n=15∧l.any (fun x=>decide (7 < x.k))=true then (Mr false,0, []) else
 (PO (MH n (l.map PL)).1,(MH n (l.map PL)).2, [])
abbrev Qs (s:kP) (w:List UInt8):kP:=⟨s.fuel,s.out++w,s.alive,s.to,s.val,s.h⟩
theorem pU.res {x:PV} {v:Vl} {c:Int} [h:cc Vl.pv x v]:Wk (.bp [x,.int .i64 c]) (Qx (v,c)):=Wk.bp (.cons O0.wk (.cons (Wk.refl _) .nil))
set_option maxHeartbeats 4000000
instance (priority:=low) bz.QS (e:aj) (Γ D r:List aj) [h:bz Γ D r]:bz (e::Γ) D (e::r):=⟨(h.p.cons e).trans List.perm_middle.symm⟩
theorem ek.mem {agg:Bool} {n a o:Nat} {all:List PV} {Γ:List aj} {K:PV→Prop} (h:aj.box a all∈Γ) (h1:Nat.ble (o + n) all.length=true) (k:mK agg ((all.drop o).take n) K):ek agg n (.ptr a o) Γ K:=
 ⟨_,⟨all,h,Nat.le_of_ble_eq_true h1,rfl⟩,k⟩
def FD (b:Nat) (cs:List PV) (x y:PV):Prop:= ∀ F v,(∀ o u,aC F (.ptr b o) u→aC F (.ep (cs.drop o)) u)→aC F x v→aC F y v
inductive uG (b:Nat) (cs:List PV):List PV→List PV→Prop
 | nil:uG b cs [] []
 | cons {x y:PV} {xs ys:List PV}:FD b cs x y→uG b cs xs ys→uG b cs (x::xs) (y::ys)
theorem FD.of {b:Nat} {cs:List PV} {x y:PV} (h:Wk x y):FD b cs x y:=fun F v _ r=>h F v r
theorem FD.ep {b:Nat} {cs:List PV}:FD b cs (.ptr b 0) (.ep cs):=fun _ v h r=>h 0 v r
theorem uG.rep {b:Nat} {cs:List PV} {F:Fz} (hF: ∀ o u,aC F (.ptr b o) u→aC F (.ep (cs.drop o)) u): ∀ {xs ys:List PV} {vs:List Value},uG b cs xs ys→aA F xs vs→aA F ys vs
 | _,_, [],.nil,h=>h
 | _,_,_::_,.nil,h=>h
 | _,_, [],.cons _ _,h=>by simp only[aA] at h
 | _,_,v::vs,.cons h1 h2,h=>by
  simp only[aA] at h ⊢;exact ⟨h1 _ _ hF h.1,uG.rep hF h2 h.2⟩
theorem uG.o9 {b:Nat} {cs:List PV} {F:Fz} (hF: ∀ o u,aC F (.ptr b o) u→aC F (.ep (cs.drop o)) u): ∀ {xs ys:List PV} {vs:List Value},uG b cs xs ys→aQ F xs vs→aQ F ys vs
 | _,_, [],.nil,h=>h
 | _,_,_::_,.nil,h=>h
 | _,_, [],.cons _ _,h=>by simp only[aQ] at h
 | _,_,v::vs,.cons h1 h2,h=>by
  simp only[aQ] at h ⊢;exact ⟨⟨h.1.1,h1 _ _ hF h.1.2⟩,uG.o9 hF h2 h.2⟩
theorem FD.agg {b:Nat} {cs xs ys:List PV} (h:uG b cs xs ys):FD b cs (.agg xs) (.agg ys):=fun F v hF r=>by
 simp only[aC] at r ⊢;obtain ⟨vs,h1,h2⟩:=r;exact ⟨vs,h1,h.o9 hF h2⟩
theorem FD.bp {b:Nat} {cs xs ys:List PV} (h:uG b cs xs ys):FD b cs (.bp xs) (.bp ys):=fun F v hF r=>by
 simp only[aC] at r ⊢;obtain ⟨vs,h1,h2⟩:=r;exact ⟨vs,h1,h.rep hF h2⟩
theorem ak.Ql {b:Nat} {cs:List PV} {x y:PV} {Γ Γ1 Γ' Γ2:List aj} {Q:PV→List aj→Prop} [hp:iN Γ (.box b cs) Γ1] [hq:bz Γ1 Γ' Γ2] (h:FD b cs x y) (q:Q y Γ'):ak x Γ Q:=
 ⟨y,Γ',Shift.trans (Γ':=Γ1) (y:=y) (fun w0 F M w v hS hx=>by
  have hS':=hS.perm (hp.p.append_right M);obtain ⟨F',h1,h2,h3⟩:=aP.freeze (M:=Γ1++M) (by simpa using hS');refine ⟨F',h1,h2,h F' v (fun o u hu=>?_) (aC.mono h1 _ _ hx)⟩;simp only[aC] at hu⊢
  exact ⟨b,o,hu,h3 o⟩) (Shift.wk (Wk.refl _) hq.p),q⟩
theorem aq.IB {P:Program} {f:FuncId} {args args':List PV} {Γ Γ1 Γ2:List aj} {Q K:PV→List aj→Prop} (h:af P f args' Γ1 Q) (hw:aX args args') [hp:bz Γ Γ1 Γ2]
  (k: ∀ y Γ1',Q y Γ1'→kI Γ2 Γ1' fun Γ'=>K y Γ'):aq P f args Γ K:=by
 refine ⟨.inl (((h.wk hw).frame hp.p).shift ?_)⟩;rintro y Γ' ⟨Γ1',rfl,hq⟩;have:=k y Γ1' hq;rw[e9] at this;exact ⟨y,Γ2++Γ1',Shift.wk (Wk.refl _) (Γ1:= []) (by rw[List.append_nil];exact List.perm_append_comm),this⟩
theorem O4 {Γ:List aj} {K:List aj→Prop} (h:K Γ):kI Γ [] K:=by rw[e9,List.append_nil];exact h
abbrev bF (s:kP):kP:=⟨s.fuel - 1,s.out,s.alive,s.to,s.val,s.h⟩
section
variable (b:Nat) (K:List Vl) (tk:Tok) (s:kP) (t:aa) (e:iM)
theorem FY {p q:Prop} (k:q) (h:q→p:=by intro hq;first | exact aE.sP (some 32) rfl [] [8,9] ai mixed hq | exact aE.sP (some 73) rfl [] [11,12,13,14] ai mixed hq):p:=h k
theorem La (h0:0 < s.fuel∧s.fuel≤1000000) (ho:t.op=4) (hl:t.t.length=1):
  af Tryz.prog 70 [.ptr b 0,.agg t.cells,cH e,.nil] (eL b K tk s) (fun y Γ'=>y=.bp [.agg (gV (.mk 8 0 0 [] [] (some ⟨t.v,t.n == 1,t.t[0],e⟩) none)),.int .i64 0]∧Γ'=eL b K tk (bF s)):=by
 rcases e with _ | ⟨⟨w,c⟩,e⟩
 all_goals
  refine af.ah ai Tryz.func70 rfl rfl (n:=181) rfl rfl ?_
  conv=>whnf
  repeat' (first|refine aY ?_|((first|refine FY ?_|intro _);conv=>whnf)|(refine zX (fun hc=>?_) (fun hc=>?_)<;>(try simp only[SY] at hc)<;>first|omega|(conv=>whnf)))
  rename_i b3 b2 b1;exact ak.Ql (b:=b1) (y:=.bp [.agg (gV (.mk 8 0 0 [] [] (some ⟨t.v,t.n == 1,t.t[0],_⟩) none)),.int .i64 0]) (Γ':=eL b K tk (bF s)) (FD.bp (.cons (FD.agg (.cons (.of (Wk.refl _)) (.cons (.of (Wk.refl _)) (.cons (.of (Wk.refl _)) (.cons (.of (Wk.refl _)) (.cons (.of (Wk.dM rfl)) (.cons FD.ep (.cons (.of (Wk.refl _)) .nil)))))))) (.cons (.of (Wk.refl _)) .nil))) ⟨rfl,rfl⟩
end
end Go.Cb


