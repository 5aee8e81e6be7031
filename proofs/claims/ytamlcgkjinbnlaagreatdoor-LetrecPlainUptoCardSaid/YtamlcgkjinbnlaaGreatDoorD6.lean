/-
 Contracts: the document's comparisons.
 Plain laws: a term and its parts.
 Layings of the library's contracts at this seat (written by the kit's tools).
 Contracts: numbers sorted by the library, equal neighbours struck.
 Contracts: what a term names and does not bind, what it binds, how often a variable is named and assigned.
 Plain laws: all variables greater by the same.
 Plain laws: assigned variables become boxes.
 Plain laws: chapter 10, what is right; the document's counts; programs.
 Contracts: the document's counts, bindings.
 Contracts: the document's program of a core datum.
 Plain law: how great data that are read are.
 The document's machine: its values and how they lie in memory.
 Contracts: the document's machine: values of data, places, lists.
 Plain: the texts of the document's machine's values.
 Contracts: the texts of the document's machine's values.
 Contracts: the document's numbers: sums, products, which is less.
 Contracts: the document's primitives that fold.
 Contracts: the document's primitives that fold, of values as primitives look at them.
 Contracts: the document's Fold.
 Contracts: the document's machine: values held against one another, lists' values, parts.
 Contracts: the document's machine: primitives that are not calls.
 Contracts: the document's machine: primitives that fold, of values.
 Contracts: the document's machine: constants, names, procedures, calls of these.
-/
import Derived.Shelf.Slices.CompactI
import Derived.Shelf.Slices.In.SortNone
import Derived.Shelf.Sort.Plain
import Derived.Sort.OwnSortedInts
import Derived.Test.YtamlcgkjinbnlaaGreatDoorProg
import Derived.Test.YtamlcgkjinbnlaaGreatDoorD5
set_option linter.unusedSimpArgs false
set_option linter.unusedVariables false
namespace Go.Cb
open Go.Proofs
set_option maxRecDepth 100000
set_option maxHeartbeats 4000000
mutual
def aa.NY:aa→aa→Bool
 | .mk op n v t,.mk op' n' v' t'=>op == op' && n == n' && v == v' && aa.Fb t t'
def aa.Fb:List aa→List aa→Bool
 | [], []=>true
 | x::xs,y::ys=>aa.NY x y && aa.Fb xs ys
 | _,_=>false
end
mutual
def Datum.NY:Datum→Datum→Bool
 | .mk k n d s l,.mk k' n' d' s' l'=>k == k' && n == n' && d == d' && s == s' && Datum.Fb l l'
def Datum.Fb:List Datum→List Datum→Bool
 | [], []=>true
 | x::xs,y::ys=>Datum.NY x y && Datum.Fb xs ys
 | _,_=>false
end
def Prog.same (p q:Prog):Bool:=Datum.Fb p.consts q.consts && p.body.NY q.body
end Go.Cb
namespace Go.Proofs
open Go.Shelf
def Tryz.Bs:Go.Shelf.Ren:=⟨fun | 189=>87 | 125=>140 | 257=>139 | 128=>187 | 129=>188 | 294=>178 | 295=>179 | 296=>180 | 297=>181 | 298=>182 | 299=>183 | 216=>184 | 300=>185 | 301=>186 | 328=>224 | 329=>225 | 330=>226 | 331=>227 | 332=>228 | 215=>229 | 343=>255 | n=>n,fun | 28=>23 | 3=>3 | 46=>202 | 0=>0 | 51=>245 | 53=>247 | 4=>4 | 183=>239 | 182=>238 | 131=>172 | 5=>5 | 9=>9 | 218=>274 | 222=>278 | 228=>304 | 229=>77 | n=>n,fun | n=>n⟩
theorem Tryz.Et:Go.Proofs.Lays.n189 Tryz.prog Tryz.Bs:={
 mixed:=by kernel_rfl
 f125:=Tryz.func140.trans (congrArg some (by kernel_rfl))
 f128:=Tryz.func187.trans (congrArg some (by kernel_rfl))
 f129:=Tryz.func188.trans (congrArg some (by kernel_rfl))
 f189:=Tryz.func87.trans (congrArg some (by kernel_rfl))
 f215:=Tryz.func229.trans (congrArg some (by kernel_rfl))
 f216:=Tryz.func184.trans (congrArg some (by kernel_rfl))
 f257:=Tryz.func139.trans (congrArg some (by kernel_rfl))
 f294:=Tryz.func178.trans (congrArg some (by kernel_rfl))
 f295:=Tryz.func179.trans (congrArg some (by kernel_rfl))
 f296:=Tryz.func180.trans (congrArg some (by kernel_rfl))
 f297:=Tryz.func181.trans (congrArg some (by kernel_rfl))
 f298:=Tryz.func182.trans (congrArg some (by kernel_rfl))
 f299:=Tryz.func183.trans (congrArg some (by kernel_rfl))
 f300:=Tryz.func185.trans (congrArg some (by kernel_rfl))
 f301:=Tryz.func186.trans (congrArg some (by kernel_rfl))
 f328:=Tryz.func224.trans (congrArg some (by kernel_rfl))
 f329:=Tryz.func225.trans (congrArg some (by kernel_rfl))
 f330:=Tryz.func226.trans (congrArg some (by kernel_rfl))
 f331:=Tryz.func227.trans (congrArg some (by kernel_rfl))
 f332:=Tryz.func228.trans (congrArg some (by kernel_rfl))
 f343:=Tryz.func255.trans (congrArg some (by kernel_rfl))
 t0:=Tryz.underlying0
 a0:=Tryz.isAgg0
 z0:=Tryz.sizeOf0
 v0:=Tryz.zeroValue0
 t3:=Tryz.underlying3
 a3:=Tryz.isAgg3
 z3:=Tryz.sizeOf3
 v3:=Tryz.zeroValue3
 t4:=Tryz.underlying4
 a4:=Tryz.isAgg4
 z4:=Tryz.sizeOf4
 v4:=Tryz.zeroValue4
 t5:=Tryz.underlying5
 a5:=Tryz.isAgg5
 z5:=Tryz.sizeOf5
 v5:=Tryz.zeroValue5
 t9:=Tryz.underlying9
 a9:=Tryz.isAgg9
 z9:=Tryz.sizeOf9
 v9:=Tryz.zeroValue9
 t28:=Tryz.underlying23
 a28:=Tryz.isAgg23
 z28:=Tryz.sizeOf23
 v28:=Tryz.zeroValue23
 t46:=Tryz.underlying202
 a46:=Tryz.isAgg202
 z46:=Tryz.sizeOf202
 v46:=Tryz.zeroValue202
 t51:=Tryz.underlying245
 a51:=Tryz.isAgg245
 z51:=Tryz.sizeOf245
 v51:=Tryz.zeroValue245
 t53:=Tryz.underlying247
 a53:=Tryz.isAgg247
 z53:=Tryz.sizeOf247
 v53:=Tryz.zeroValue247
 t131:=Tryz.underlying172
 a131:=Tryz.isAgg172
 z131:=Tryz.sizeOf172
 v131:=Tryz.zeroValue172
 t182:=Tryz.underlying238
 a182:=Tryz.isAgg238
 z182:=Tryz.sizeOf238
 v182:=Tryz.zeroValue238
 t183:=Tryz.underlying239
 a183:=Tryz.isAgg239
 z183:=Tryz.sizeOf239
 v183:=Tryz.zeroValue239
 t218:=Tryz.underlying274
 a218:=Tryz.isAgg274
 z218:=Tryz.sizeOf274
 v218:=Tryz.zeroValue274
 t222:=Tryz.underlying278
 a222:=Tryz.isAgg278
 z222:=Tryz.sizeOf278
 v222:=Tryz.zeroValue278
 t228:=Tryz.underlying304
 a228:=Tryz.isAgg304
 z228:=Tryz.sizeOf304
 v228:=Tryz.zeroValue304
 t229:=Tryz.underlying77
 a229:=Tryz.isAgg77
 z229:=Tryz.sizeOf77
 v229:=Tryz.zeroValue77 }
def Tryz.wv:Go.Shelf.Ren:=⟨fun | 20=>88 | n=>n,fun | 22=>23 | 3=>3 | 4=>4 | 0=>0 | n=>n,fun | n=>n⟩
theorem Tryz.xD:Go.Proofs.Lays2.n20 Tryz.prog Tryz.wv:={
 mixed:=by kernel_rfl
 f20:=Tryz.func88.trans (congrArg some (by kernel_rfl))
 t0:=Tryz.underlying0
 a0:=Tryz.isAgg0
 z0:=Tryz.sizeOf0
 v0:=Tryz.zeroValue0
 t3:=Tryz.underlying3
 a3:=Tryz.isAgg3
 z3:=Tryz.sizeOf3
 v3:=Tryz.zeroValue3
 t4:=Tryz.underlying4
 a4:=Tryz.isAgg4
 z4:=Tryz.sizeOf4
 v4:=Tryz.zeroValue4
 t22:=Tryz.underlying23
 a22:=Tryz.isAgg23
 z22:=Tryz.sizeOf23
 v22:=Tryz.zeroValue23
 i3:=by kernel_rfl }
end Go.Proofs
namespace Go.Cb
open Go.Proofs Go.Sort
open Go.RowKit (Below)
set_option maxRecDepth 100000
set_option maxHeartbeats 4000000
theorem qH: ∀ l:List Int,flat (l.map (PV.int .i64))=l.map (PV.int .i64)
 | []=>rfl
 | x::l=>by
  have:=qH l;simp only[flat,List.map_cons,List.flatMap_cons,PV.cellsOf] at this ⊢;rw[this];rfl
theorem xP (F:Fz): ∀ l:List Int,aQ F (l.map (PV.int .i64)) (l.map (Value.int .i64))
 | []=>cy F
 | x::l=>bV.2 ⟨⟨rfl,by simp only[aB]⟩,xP F l⟩
theorem qm {F:Fz}: ∀ {l:List Int} {xs:List Value},aQ F (l.map (PV.int .i64)) xs→xs=l.map (Value.int .i64)
 | [], [],_=>rfl
 | [],_::_,h=>by simp only[List.map_nil,aQ] at h
 | _::_, [],h=>by simp only[List.map_cons,aQ] at h
 | x::l,v::xs,h=>by
  have h:=bV.1 h;have h1:v=.int .i64 x:=by simpa only[aB] using h.1.2
  rw[h1,qm h.2];rfl
theorem aP.EO {w0:World} {F:Fz} {M:List aj} {w:World} {t:Tok} {l ts:List Int} (h:aP w0 F (.row t (l.map (PV.int .i64))::M) w) (hs:t.s=1) (hlen:ts.length=l.length) {g:Nat} (hg:t.b=some g) (q:Nat) (os:Array Obj):
  aP w0 F (.row t (ts.map (PV.int .i64))::M) (grow (putRow (Value.int .i64) (Sort.ahead w q) g 0 ts.toArray) os):=by
 obtain ⟨⟨xs,hown,hr⟩,hes,e2,hfree⟩:=h.eZ _ (List.mem_cons_self ..)
 rcases hown.2 with ⟨h1,_⟩ | ⟨g',cap,cur,hb,hv,hB,hh,hnc,hcm,hsz,htake⟩
 ·rw[h1] at hg;cases hg
 obtain rfl:g'=g:=by rw[hb] at hg;simpa using hg
 have hsep:=List.pairwise_cons.1 h.sep;have hgr:w.grownBy (grow (putRow (Value.int .i64) (Sort.ahead w q) g' 0 ts.toArray) os) (some g'):=grownBy_sortedI ts.toArray;have hn:l.length=t.n:=by simpa using e2
 have hfl:flat (ts.map (PV.int .i64))=ts.map (PV.int .i64):=qH ts;refine aP.Gs (t:=t) (ys:=ts.map (PV.int .i64)) (xs:=ts.map (Value.int .i64)) h.tail ((Below.refl _ w).grown hgr h.below.size fun k hk=>by simp at hk;omega) ?_ (by simp[hs,PV.cellsOf]) (by simp;omega) (by rw[hfl];exact xP F ts) ?_ ?_ hfree
 ·refine ⟨by simp[hs];omega,.inr ⟨g',cap,_,hb,hv,hB,heap_sortedI ts.toArray hh,hnc,hcm,by simp[putCells,hsz],?_⟩⟩
  have:t.n * t.s=ts.length:=by rw[hs];omega
  rw[this];exact take_putCellsI cur ts (by rw[hsz,hs];omega)
 ·intro b o u x
  have hne:b≠g':=fun e=>by rw[e,hfree g' hb o] at x;cases x
  have hlt:=World.block_lt_of_cell? w _ (h.fz b o u x);rw[World.cell?_of_block (w:=w) (hgr.block b hlt (by simp;omega))];exact h.fz b o u x
 ·intro e he k hk
  have hne:t.b≠some k:=by
   rcases hsep.1 e he with hh | hh
   ·simp only[aj.blk] at hh;rw[hh];simp
   ·intro hx;exact hh (by rw[hk];exact hx)
  have hlt:=(aj.jr (h.eZ e (List.mem_cons_of_mem _ he)) hk).2;exact ⟨hgr.block k hlt (by rw[hb] at hne;exact fun e=>hne e.symm),hne⟩
theorem AU (l:List Int):(Lib.compact l).length≤l.length:=by
 unfold Lib.compact Lib.compactUpTo;rw[List.length_map];exact Nat.le_trans (List.length_filter_le _ _) (by simp)
theorem B0 {w0:World} {F:Fz} {M:List aj} {w:World} {t:Tok} {l:List Int} (h:aP w0 F (.row t (l.map (PV.int .i64))::M) w) (hs:t.s=1):
  (l= []∧ ∃ p,t.v=.slice p 0 0)∨ ∃ g cap,t.b=some g∧t.v=.slice (some ⟨g,0,none⟩) l.length cap∧Holds (Value.int .i64) w g 0 l.toArray∧g < w.heap.size∧l.length≤cap∧t.n=l.length:=by
 obtain ⟨⟨xs,hown,hr⟩,hes,e2,hfree⟩:=h.eZ _ (List.mem_cons_self ..);have hn:l.length=t.n:=by simpa using e2
 rcases hown.2 with ⟨h1,h2,h3⟩ | ⟨g,cap,cur,hb,hv,hB,hh,hnc,hcm,hsz,htake⟩
 ·refine .inl ⟨List.eq_nil_of_length_eq_zero (by omega),?_⟩
  rcases h3 with h3 | ⟨a,h3⟩
  ·exact ⟨none,h3⟩
  ·exact ⟨some a,h3⟩
 ·rw[qH] at hr
  have hx:=qm hr;refine .inr ⟨g,cap,hb,by rw[hn];exact hv,holds_of_blockI (e:=t.e) (cur:=cur) hh (by rw[←hx, ←htake,hs,hn,Nat.mul_one]),(Array.getElem?_eq_some_iff.1 hh).1,by omega,hn.symm⟩
theorem DE (t:Tok) (l:List Int) (hs:t.s=1) (hl:l.length≤1000000000):
  af Tryz.prog 87 [.ms t] [.row t (l.map (PV.int .i64))] (fun y Γ'=>y=.bp []∧Γ'= [.row t ((l.mergeSort fun x y=>decide (x≤y)).map (PV.int .i64))]):=by
 refine ⟨⟨_,Tryz.func87,rfl,rfl⟩,fun w0 F M w vs hS hT=>?_⟩
 obtain rfl:vs= [t.v]:=by
  match vs,hT with
  | [v],hT=>simp only[ay,aB,and_true] at hT;rw[hT.1]
 rcases B0 hS hs with ⟨rfl,p,hv⟩ | ⟨g,cap,hb,hv,hH,hg,hc,hn⟩
 ·rw[hv]
  refine (Any.slices_Sort_int_none Tryz.Et p 0 w).mono ?_;rintro e w' ⟨rfl,rfl⟩;exact ⟨_,F,.bp [],_,rfl,Fz.le_refl F,hS,by simp only[aB];exact ⟨[],rfl,by simp[ay]⟩,rfl,by simp⟩
 ·rw[hv]
  refine (Any.slices_Sort_int Tryz.Et g 0 cap l w hH hg (by omega)).mono ?_;rintro e w' ⟨rfl,q,os,rfl⟩;exact ⟨_,F,.bp [],_,rfl,Fz.le_refl F,hS.EO hs (by simp) hb q os,by simp only[aB];exact ⟨[],rfl,by simp[ay]⟩,rfl,rfl⟩
theorem Fh (t:Tok) (l:List Int) (hs:t.s=1) (hl:l.length≤1000000000):
  af Tryz.prog 88 [.ms t] [.row t (l.map (PV.int .i64))] (fun y Γ'=> ∃ t':Tok,t'.e=t.e∧t'.s=1∧y=.ms t'∧Γ'= [.row t' ((Lib.compact l).map (PV.int .i64))]):=by
 refine ⟨⟨_,Tryz.func88,rfl,rfl⟩,fun w0 F M w vs hS hT=>?_⟩
 obtain ⟨rfl,h1⟩:vs= [t.v]∧t.v.oneCell'=true:=by
  match vs,hT with
  | [v],hT=>simp only[ay,aB,and_true] at hT;rw[hT.1];exact ⟨rfl,hT.2⟩
 rcases B0 hS hs with ⟨rfl,p,hv⟩ | ⟨g,cap,hb,hv,hH,hg,hc,hn⟩
 ·rw[hv]
  refine (Any.slices_Compact_int_empty Tryz.xD p 0 w).mono ?_;rintro e w' ⟨rfl,rfl⟩;exact ⟨_,F,.ms t,_,rfl,Fz.le_refl F,hS,by simp only[aB];exact ⟨hv.symm,h1⟩,t,rfl,hs,rfl,by simp[Lib.compact,Lib.compactUpTo]⟩
 ·rw[hv]
  refine (Any.slices_Compact_int Tryz.xD g 0 cap l w hH (by omega) hc).mono ?_;rintro e w' ⟨rfl,q,rfl⟩;have hle:=AU l;have h2:=hS.EO (ts:=Lib.compact l++List.replicate (l.length - (Lib.compact l).length) 0) hs (by simp;omega) hb q #[];rw[grow_empty] at h2;have h3:=aP.Cd (M1:= []) h2 hb (by rw[hn];exact hv) (Lib.compact l).length (by simp)
  have fin: ∀ T:Tok,T=⟨.slice (some ⟨g,0,none⟩) (Lib.compact l).length cap,(Lib.compact l).length,t.s,t.e,some g⟩→ ∃ v F' y Γ',(Ending.returned (.slice (some ⟨g,0,none⟩) (Lib.compact l).length cap))=.returned v∧F.le F'∧aP w0 F' (Γ'++M) (putRow (Value.int .i64) (Sort.ahead w q) g 0 (Lib.compact l++List.replicate (l.length - (Lib.compact l).length) 0).toArray)∧aB F' y v∧ ∃ t':Tok,t'.e=t.e∧t'.s=1∧y=.ms t'∧Γ'= [.row t' ((Lib.compact l).map (PV.int .i64))]:=by
   intro T hT;subst hT;refine ⟨_,F,.ms ⟨.slice (some ⟨g,0,none⟩) (Lib.compact l).length cap,(Lib.compact l).length,t.s,t.e,some g⟩, [.row ⟨.slice (some ⟨g,0,none⟩) (Lib.compact l).length cap,(Lib.compact l).length,t.s,t.e,some g⟩ ((Lib.compact l).map (PV.int .i64))],rfl,Fz.le_refl F,?_,by unfold aB;exact ⟨rfl,rfl⟩,⟨.slice (some ⟨g,0,none⟩) (Lib.compact l).length cap,(Lib.compact l).length,t.s,t.e,some g⟩,rfl,hs,rfl,rfl⟩;simpa using h3
  exact fin _ rfl
theorem BZ (t:Tok) (l:List Int) (hs:t.s=1) (hl:l.length≤1000000000):
  af Tryz.prog 50 [.ms t] [.row t (l.map (PV.int .i64))] (fun y Γ'=> ∃ t':Tok,t'.e=t.e∧t'.s=1∧y=.ms t'∧Γ'= [.row t' ((fF l).map (PV.int .i64))]):=by
 refine af.ah ai Tryz.func50 rfl rfl (n:=7) rfl rfl ?_
 conv=>whnf
 skip
 refine aq.go (DE t l hs hl) (aY.refl _) ?_;rintro _ _ ⟨rfl,rfl⟩
 conv=>whnf
 skip
 refine aq.go (Fh t (l.mergeSort fun x y=>decide (x≤y)) hs (by simp;omega)) (aY.refl _) ?_;rintro _ _ ⟨t2,e2,s2,rfl,rfl⟩
 conv=>whnf
 skip
 have e:Lib.compact (l.mergeSort fun x y=>decide (x≤y))=fF l:=rfl;rw[e];exact ak.gen (Wk.refl _) ⟨t2,e2,s2,rfl,rfl⟩
def bx (l:List (aa×List Int)):List Int:=l.flatMap fun m=>m.1.v
theorem yt (l:List (aa×List Int)) (k:Nat):(bx (l.take k)).length≤(bx l).length:=by
 have:=congrArg List.length (congrArg bx (List.take_append_drop k l));unfold bx at this ⊢;rw[List.flatMap_append,List.length_append] at this;omega
theorem aa.Iv (t:aa): ∀ (sc:List Int) (deep:Int),(bx (t.met sc deep)).length≤t.aR:=by
 induction t using aa.ind with
 | h t ih=>
  intro sc deep;rw[aa.zk,t.bu]
  have key: ∀ (l:List aa),(∀ y∈l, ∀ (sc:List Int) (deep:Int),(bx (y.met sc deep)).length≤y.aR)→ ∀ sc inner deep,(bx (aa.lP t.op sc inner l deep)).length≤aa.aD l:=by
   intro l
   induction l with
   | nil=>intro _ _ _ _;simp[aa.lP,bx]
   | cons x l ihl=>
    intro hy sc inner deep;have h1:=hy x (by simp) (if ia t.op=true∨l= [] then inner else sc) deep;have h2:=ihl (fun y h=>hy y (by simp[h])) sc inner deep;unfold bx at h1 h2 ⊢;rw[aa.lP,aa.aD,List.flatMap_append,List.length_append];omega
  have:=key t.t ih sc (sc++t.v) (deep + 1);unfold bx at this ⊢;rw[List.flatMap_cons,List.length_append]
  split
  ·simp;omega
  ·show t.v.length + _≤_
   omega
theorem Kt (t:aa) (hb:t.aR≤1000000000):af Tryz.prog 141 [.agg t.cells] [] (fun y Γ'=> ∃ tk:Tok,tk.e=3∧tk.s=1∧y=.ms tk∧Γ'= [.row tk ((fF (ek t.all)).map (PV.int .i64))]):=by
 have hlen:t.all.length≤t.aR:=t.KN [] 0;refine af.ah ai Tryz.func141 rfl rfl (n:=28) rfl rfl ?_
 conv=>whnf
 repeat' (first|refine dc ?_|((intro _);conv=>whnf)|(refine zX (fun hc=>?_) (fun hc=>?_)<;>(try simp only[SY] at hc)<;>omega))
 rename_i bt bo;refine aq.NB (au.trans (au.cE 1 3 _) (au.box (b:=bo) (cs:= [.nil]) (cs':= [.ms (aC 1 3)]) (.cons (Wk.cE 1 3) .nil))) (LD t) (aY.refl _) ?_;rintro _ _ ⟨b,rfl,rfl⟩
 conv=>whnf
 skip
 refine PRange.go (t.all.map fun m=> [Ga m]) (fun s:Tok×List Int=> [.box bo [.ms s.1],.row s.1 (s.2.map (PV.int .i64))]) (fun k s=>s.1.e=3∧s.1.s=1∧s.2=ek (t.all.take k)) (fun _ _=>False) (aC 1 3, []) (G7 b t hb) ⟨rfl,rfl,rfl⟩
  (hp:=(inferInstance:bw _ [.box bo [.ms (aC 1 3)],.row (aC 1 3) [],.box b t.cells] _)) (by intro ys hy;obtain ⟨m,_,rfl⟩:=List.mem_map.1 hy;rfl) ?_ ?_ (fun _ _ _ h=>h.elim)
 ·rintro k ys ⟨tk,l⟩ hk ⟨k1,k2,k3⟩
  dsimp only at k1 k2 k3⊢
  obtain ⟨m,hm,rfl⟩: ∃ m,t.all[k]?=some m∧ys= [Ga m]:=by
   rw[List.getElem?_map] at hk
   cases h:t.all[k]? with
   | none=>rw[h] at hk;cases hk
   | some m=>rw[h] at hk;cases hk;exact ⟨m,rfl,rfl⟩
  obtain ⟨hlt,hmg⟩:=List.getElem?_eq_some_iff.1 hm
  have hst:ek (t.all.take (k + 1))=ek (t.all.take k)++(if (vu m.1.op && !m.2.contains m.1.n)=true then [m.1.n] else []):=by
   rw[List.take_succ_eq_append_getElem hlt,ek,List.filter_append,List.map_append,hmg];congr 1;by_cases h:(vu m.1.op && !m.2.contains m.1.n)=true
   ·rw[if_pos h];simp only[List.filter,h];rfl
   ·rw[if_neg h];rw[Bool.not_eq_true] at h;simp only[List.filter,h];rfl
  have hll:l.length≤k:=by
   rw[k3,ek,List.length_map];exact Nat.le_trans (List.length_filter_le _ _) (by rw[List.length_take];omega)
  conv=>whnf
  repeat' (first|refine dc ?_|((intro _);conv=>whnf)|(refine zX (fun hc=>?_) (fun hc=>?_)<;>(try simp only[SY] at hc)<;>omega))
  refine ⟨rfl,?_⟩
  conv=>whnf
  repeat' (first|refine dc ?_|((first|(((apply zY;intro hg));(conv=>whnf);(repeat ((first|refine pC (fA m.2 m.1.n) wR ?_|refine aG ?_);conv=>whnf));exact pZ)|refine pC (KR m.1) wR ?_|intro _);conv=>whnf)|(refine zX (fun hc=>?_) (fun hc=>?_)<;>(try simp only[SY] at hc)<;>(conv=>whnf)))
  ·refine aW.M4 (f:=PV.int .i64) (l:=l) m.1.n k1 k2 (Wk.tok _ _ _) (by omega) (by show _ * 8≤_;omega) (fun t3 e3 s3=>?_)
   conv=>whnf
   repeat (refine lB ?_)
   exact vK (k:=k) (G:=fun s:Tok×List Int=> [.box bo [.ms s.1],.row s.1 (s.2.map (PV.int .i64))]) (I:=fun k s=>s.1.e=3∧s.1.s=1∧s.2=ek (t.all.take k)) (X:=fun _ _=>False) (t3,l++ [m.1.n]) ⟨e3,s3,by show l++ [m.1.n]=ek (t.all.take (k + 1));rw[hst,if_pos (by rw[Bool.and_eq_true,hc.1,hc.2];exact ⟨rfl,rfl⟩),k3]⟩ (hp:=(inferInstance:bw _ [.box bo [.ms t3],.row t3 ((l++ [m.1.n]).map (PV.int .i64))] _))
  ·exact vK (k:=k) (G:=fun s:Tok×List Int=> [.box bo [.ms s.1],.row s.1 (s.2.map (PV.int .i64))]) (I:=fun k s=>s.1.e=3∧s.1.s=1∧s.2=ek (t.all.take k)) (X:=fun _ _=>False) (tk,l) ⟨k1,k2,by show l=ek (t.all.take (k + 1));rw[hst,if_neg (by rw[Bool.and_eq_true,Bool.not_eq_true'];rintro ⟨a,b⟩;rcases hc with h | h;rw[a] at h;cases h;rw[b] at h;cases h),List.append_nil,k3]⟩ (hp:=(inferInstance:bw _ [.box bo [.ms tk],.row tk (l.map (PV.int .i64))] _))
 ·rintro bd ⟨tk,l⟩ ⟨k1,k2,k3⟩
  dsimp only at k1 k2 k3 ⊢;rw[List.length_map,List.take_length] at k3;subst k3
  have hfl:(ek t.all).length≤1000000000:=by
   rw[ek,List.length_map];exact Nat.le_trans (List.length_filter_le _ _) (by omega)
  conv=>whnf
  repeat' (first|refine dc ?_|(refine zX (fun hc=>?_) (fun hc=>?_)<;>(try simp only[SY] at hc)<;>omega))
  refine aq.Ku [.ob bd kA [] [],.box bo [.ms tk]] (BZ tk (ek t.all) k2 hfl) (aY.refl _) (List.Perm.refl _) ?_;rintro _ _ ⟨t4,e4,s4,rfl,rfl⟩
  conv=>whnf
  skip
  refine Aw.at_ rfl ?_
  conv=>whnf
  exact ak.gen (y:=.ms t4) (Wk.refl _) ⟨t4,e4.trans k1,s4,rfl,rfl⟩
theorem Mu (t:aa) (hb:t.aR≤1000000000):aA Tryz.prog 141 [.agg t.cells] (jN (fF (ek t.all))):=
 aA.Dj ((Kt t hb).shift fun y Γ' hq=>by
  obtain ⟨tk,h1,h2,rfl,rfl⟩:=hq
  exact ⟨_,_,Shift.cu (es:=(fF (ek t.all)).map (PV.int .i64)) (qz.ms' h2),rfl⟩)
theorem Hi (t:aa) (hb:t.aR≤1000000000):af Tryz.prog 30 [.agg t.cells] [] (fun y Γ'=> ∃ tk:Tok,tk.e=3∧tk.s=1∧y=.ms tk∧Γ'= [.row tk ((fF (bx t.all)).map (PV.int .i64))]):=by
 have hlen:(bx t.all).length≤t.aR:=t.Iv [] 0;refine af.ah ai Tryz.func30 rfl rfl (n:=15) rfl rfl ?_
 conv=>whnf
 repeat' (first|refine dc ?_|((intro _);conv=>whnf)|(refine zX (fun hc=>?_) (fun hc=>?_)<;>(try simp only[SY] at hc)<;>omega))
 rename_i bt bo;refine aq.NB (au.trans (au.cE 1 3 _) (au.box (b:=bo) (cs:= [.nil]) (cs':= [.ms (aC 1 3)]) (.cons (Wk.cE 1 3) .nil))) (LD t) (aY.refl _) ?_;rintro _ _ ⟨b,rfl,rfl⟩
 conv=>whnf
 skip
 refine PRange.go (t.all.map fun m=> [Ga m]) (fun s:Tok×List Int=> [.box bo [.ms s.1],.row s.1 (s.2.map (PV.int .i64))]) (fun k s=>s.1.e=3∧s.1.s=1∧s.2=bx (t.all.take k)) (fun _ _=>False) (aC 1 3, []) (G7 b t hb) ⟨rfl,rfl,rfl⟩
  (hp:=(inferInstance:bw _ [.box bo [.ms (aC 1 3)],.row (aC 1 3) [],.box b t.cells] _)) (by intro ys hy;obtain ⟨m,_,rfl⟩:=List.mem_map.1 hy;rfl) ?_ ?_ (fun _ _ _ h=>h.elim)
 ·rintro k ys ⟨tk,l⟩ hk ⟨k1,k2,k3⟩
  dsimp only at k1 k2 k3⊢
  obtain ⟨m,hm,rfl⟩: ∃ m,t.all[k]?=some m∧ys= [Ga m]:=by
   rw[List.getElem?_map] at hk
   cases h:t.all[k]? with
   | none=>rw[h] at hk;cases hk
   | some m=>rw[h] at hk;cases hk;exact ⟨m,rfl,rfl⟩
  obtain ⟨hlt,hmg⟩:=List.getElem?_eq_some_iff.1 hm
  have hst:bx (t.all.take (k + 1))=bx (t.all.take k)++m.1.v:=by
   rw[List.take_succ_eq_append_getElem hlt,bx,List.flatMap_append,hmg];simp[bx]
  have hll:l.length + m.1.v.length≤1000000000:=by
   have h1:(bx (t.all.take (k + 1))).length≤(bx t.all).length:=yt _ _;rw[hst,List.length_append, ←k3] at h1;omega
  conv=>whnf
  repeat' (first|refine dc ?_|((intro _);conv=>whnf)|(refine zX (fun hc=>?_) (fun hc=>?_)<;>(try simp only[SY] at hc)<;>omega))
  refine ⟨rfl,?_⟩
  conv=>whnf
  repeat' (first|refine dc ?_|(refine zX (fun hc=>?_) (fun hc=>?_)<;>(try simp only[SY] at hc)<;>omega))
  refine aW.EU (f:=PV.int .i64) (l:=l) (m:=m.1.v) k1 k2 (Wk.tok _ _ _) (by omega) (by show _ * 8≤_;omega) (fun t3 e3 s3=>?_)
  conv=>whnf
  repeat (refine lB ?_)
  exact vK (k:=k) (G:=fun s:Tok×List Int=> [.box bo [.ms s.1],.row s.1 (s.2.map (PV.int .i64))]) (I:=fun k s=>s.1.e=3∧s.1.s=1∧s.2=bx (t.all.take k)) (X:=fun _ _=>False) (t3,l++m.1.v) ⟨e3,s3,by show l++m.1.v=bx (t.all.take (k + 1));rw[hst,k3]⟩ (hp:=(inferInstance:bw _ [.box bo [.ms t3],.row t3 ((l++m.1.v).map (PV.int .i64))] _))
 ·rintro bd ⟨tk,l⟩ ⟨k1,k2,k3⟩
  dsimp only at k1 k2 k3 ⊢;rw[List.length_map,List.take_length] at k3;subst k3;have hfl:(bx t.all).length≤1000000000:=by omega
  conv=>whnf
  repeat' (first|refine dc ?_|(refine zX (fun hc=>?_) (fun hc=>?_)<;>(try simp only[SY] at hc)<;>omega))
  refine aq.Ku [.ob bd kA [] [],.box bo [.ms tk]] (BZ tk (bx t.all) k2 hfl) (aY.refl _) (List.Perm.refl _) ?_;rintro _ _ ⟨t4,e4,s4,rfl,rfl⟩
  conv=>whnf
  skip
  refine Aw.at_ rfl ?_
  conv=>whnf
  exact ak.gen (y:=.ms t4) (Wk.refl _) ⟨t4,e4.trans k1,s4,rfl,rfl⟩
theorem Kg (t:aa) (hb:t.aR≤1000000000):aA Tryz.prog 30 [.agg t.cells] (jN (fF (bx t.all))):=
 aA.Dj ((Hi t hb).shift fun y Γ' hq=>by
  obtain ⟨tk,h1,h2,rfl,rfl⟩:=hq
  exact ⟨_,_,Shift.cu (es:=(fF (bx t.all)).map (PV.int .i64)) (qz.ms' h2),rfl⟩)
mutual
def aa.sh (k:Int):aa→aa
 | .mk op n v t=>.mk op (if vu op=true then n + k else n) (v.map (· + k)) (aa.PG k t)
def aa.PG (k:Int):List aa→List aa
 | []=> []
 | x::xs=>aa.sh k x::aa.PG k xs
end
mutual
def aa.Aq:aa→List Int
 | .mk op n _ t=>(if op=2∨op=14 then [n] else [])++aa.yl t
def aa.yl:List aa→List Int
 | []=> []
 | x::xs=>aa.Aq x++aa.yl xs
end
theorem aa.G8 (t:aa):t.Aq=(if t.op=2∨t.op=14 then [t.n] else [])++aa.yl t.t:=by cases t;rw[aa.Aq];rfl
def I1 (v:Int):aa:=.mk 1 v [] []
def Mg (t:aa):aa:=.mk 15 0 [] [t]
def MH (A:Int→Bool):List Int→Int→List Int
 | [],_=> []
 | x::xs,k=>if A x=true then k::MH A xs (k + 1) else x::MH A xs k
def MG (A:Int→Bool):List Int→Int→List aa
 | [],_=> []
 | x::xs,k=>if A x=true then Mg (I1 k)::MG A xs (k + 1) else MG A xs k
def MD (A:Int→Bool) (l:List Int):Int:=((l.filter A).length:Int)
def Hj (A:Int→Bool):List Int→List aa→List aa
 | v::vs,x::xs=>(if A v=true then Mg x else x)::Hj A vs xs
 | _,l=>l
def Mt (A:Int→Bool):List Int→List aa→List aa
 | v::vs,x::xs=>if A v=true then Mt A vs xs else x::Mt A vs xs
 | _,_=> []
def Ms (A:Int→Bool):List Int→List aa→aa→aa
 | v::vs,x::xs,o=>if A v=true then .mk 6 0 [] [.mk 17 0 [] [I1 v,x],Ms A vs xs o] else Ms A vs xs o
 | _,_,o=>o
def O6 (A:Int→Bool) (vs:List Int) (l:List aa):aa:=
 let o:=Ms A vs l (l.getD vs.length (I1 0))
 if vs.filter (fun v=>!A v)= [] then o else .mk 9 0 (vs.filter fun v=>!A v) (Mt A vs l++ [o])
def O7 (A:Int→Bool) (vs:List Int) (l:List aa):aa:=
 .mk 8 0 (vs.filter A) ((vs.filter A).map (fun _=>Mg (.mk 13 0 [] []))++ [O6 A vs l])
mutual
def aa.fr (A:Int→Bool):aa→Int
 | .mk op _ v t=>(if op=4 then MD A v else 0) + aa.Px A t
def aa.Px (A:Int→Bool):List aa→Int
 | []=>0
 | x::xs=>aa.fr A x + aa.Px A xs
end
mutual
def aa.cv (A:Int→Bool):aa→Int→aa
 | .mk op n v t,k=>
  if op=1∧A n=true then .mk 16 0 [] [.mk op n v t]
  else if op=2 then .mk 17 0 [] (I1 n::aa.LG A t k)
  else if op=14 then .mk 18 0 [] (I1 n::aa.LG A t k)
  else if op=4 then .mk 4 n (MH A v k) (if v.filter A= [] then aa.LG A t (k + MD A v) else [.mk 8 0 (v.filter A) (MG A v k++aa.LG A t (k + MD A v))])
  else if op=9∧v.any A=true then O7 A v (aa.LG A t k)
  else .mk op n v (if op=8 then Hj A v (aa.LG A t k) else aa.LG A t k)
def aa.LG (A:Int→Bool):List aa→Int→List aa
 | [],_=> []
 | x::xs,k=>aa.cv A x k::aa.LG A xs (k + aa.fr A x)
end
mutual
def aa.NG:aa→Prop
 | .mk op n v t=>((op=1→v= []∧t= [])∧(op=2∨op=14∨op=4→t.length=1)∧(op=8∨op=9→t.length=v.length + 1)∧(op=9→n=0))∧aa.GA t
def aa.GA:List aa→Prop
 | []=>True
 | x::xs=>aa.NG x∧aa.GA xs
end
theorem aa.Nb (t:aa):t.NG↔((t.op=1→t.v= []∧t.t= [])∧(t.op=2∨t.op=14∨t.op=4→t.t.length=1)∧(t.op=8∨t.op=9→t.t.length=t.v.length + 1)∧(t.op=9→t.n=0))∧aa.GA t.t:=by
 cases t;rw[aa.NG];rfl
mutual
def aa.Qj:aa→List Int
 | .mk op n v t=>(if op=1 then [n] else [])++v++aa.Om t
def aa.Om:List aa→List Int
 | []=> []
 | x::xs=>aa.Qj x++aa.Om xs
end
def aa.sz (l:List aa):Int:=aa.cR l
def OT:List aa→List aa→Prop
 | [], []=>True
 | x::l,y::m=>x.cnt=y.cnt∧OT l m
 | _,_=>False
theorem OT.getD: ∀ {l m:List aa} (i:Nat) (d:aa),OT l m→(l.getD i d).cnt=(m.getD i d).cnt
 | [], [],_,_,_=>rfl
 | x::l,y::m,0,d,h=>by simpa using h.1
 | x::l,y::m,i + 1,d,h=>by simpa using h.2.getD i d
 | [],_::_,_,_,h=>h.elim
 | _::_, [],_,_,h=>h.elim
section
variable {A B:Int→Bool} {s:Int} (hAB: ∀ v,B (v + s)=A v)
include hAB
end
theorem aa.KX {level c codes:Int} {free:Bool} (t:aa): ∀ {scope:List Int} {deep:Int},t.wg level c codes free scope deep→t.NG:=by
 induction t using aa.ind with
 | h t ih=>
  intro scope deep h;rw[aa.mU] at h;rw[aa.Nb]
  have key: ∀ (op:Int) (sc inner:List Int) (deep:Int) (l:List aa),(∀ y∈l, ∀ {scope:List Int} {deep:Int},y.wg level c codes free scope deep→y.NG)→aa.iK level c codes free op sc inner l deep→aa.GA l:=by
   intro op sc inner deep l
   induction l with
   | nil=>intro _ _;rw[aa.GA];trivial
   | cons x l ihl=>
    intro hy hk;rw[aa.iK] at hk;rw[aa.GA];exact ⟨hy x (by simp) hk.2.1,ihl (fun z hz=>hy z (by simp[hz])) hk.2.2⟩
  refine ⟨?_,key _ _ _ _ _ ih h.2⟩;obtain ⟨⟨_,_,h3,h4⟩,_⟩:=h;unfold dm at h3;refine ⟨fun e=>?_,fun e=>?_,fun e=>?_,fun e=>?_⟩
  ·rw[e] at h3
   simp[yq] at h3;exact h3
  ·split at h3
   ·cases h3
   ·rw[if_neg (by omega),if_pos (by omega)] at h3
    have:(t.t.length:Int)=1:=by simpa using h3
    omega
  ·split at h3
   ·cases h3
   ·rw[if_neg (by omega),if_neg (by omega),if_neg (by omega),if_neg (by omega),if_neg (by omega),if_pos (by omega)] at h3
    have:(t.t.length:Int)=(t.v.length:Int) + 1:=by simpa using h3
    omega
  ·unfold cq at h4
   rw[if_neg (by omega),if_neg (by omega),if_neg (by omega),if_neg (by omega),if_neg (by omega),if_neg (by omega),if_neg (by omega)] at h4;simpa using h4
mutual
def aa.uC (P:Int→Int→Bool):aa→Int→Int
 | .mk op n _ t,deep=>(if P op n=true then 1 else 0) + (if deep < 1000 then aa.Ak P t (deep + 1) else 0)
def aa.Ak (P:Int→Int→Bool):List aa→Int→Int
 | [],_=>0
 | x::xs,deep=>aa.uC P x deep + aa.Ak P xs deep
end
theorem aa.E1 (P:Int→Int→Bool) (t:aa) (deep:Int):t.uC P deep=(if P t.op t.n=true then 1 else 0) + (if deep < 1000 then aa.Ak P t.t (deep + 1) else 0):=by cases t;rw[aa.uC];rfl
theorem aa.sr (P:Int→Int→Bool) (t:aa): ∀ deep:Int,0≤t.uC P deep∧t.uC P deep≤t.cnt:=by
 induction t using aa.ind with
 | h t ih=>
  intro deep
  have key: ∀ l:List aa,(∀ y∈l, ∀ deep:Int,0≤y.uC P deep∧y.uC P deep≤y.cnt)→ ∀ deep,0≤aa.Ak P l deep∧aa.Ak P l deep≤aa.cR l:=by
   intro l
   induction l with
   | nil=>intro _ _;rw[aa.Ak,aa.cR];omega
   | cons x l ihl=>intro hy deep;rw[aa.Ak,aa.cR];have:=hy x (by simp) deep;have:=ihl (fun z hz=>hy z (by simp[hz])) deep;omega
  have:=key t.t ih (deep + 1);have:=aa.ee t.t;rw[aa.E1,aa.lF]
  split<;>split<;>omega
theorem aa.Al (P:Int→Int→Bool) (l:List aa) (deep:Int):0≤aa.Ak P l deep∧aa.Ak P l deep≤aa.cR l:=by
 induction l with
 | nil=>rw[aa.Ak,aa.cR];omega
 | cons x l ih=>rw[aa.Ak,aa.cR];have:=x.sr P deep;omega
def gN (v op n:Int):Bool:=(op == 2 || op == 14) && n == v
def ql (v op n:Int):Bool:=op == 1 && n == v
theorem aa.No (v:Int) (t:aa): ∀ deep:Int,deep + t.dep < 1000→(0 < t.uC (gN v) deep↔v∈t.Aq):=by
 induction t using aa.ind with
 | h t ih=>
  intro deep h;have hge:=aa.tG t.t 0;rw[aa.uE] at h;have hd:=(aa.pP (999 - deep) t.t 0).1 (by omega)
  have key: ∀ l:List aa,(∀ y∈l, ∀ deep:Int,deep + y.dep < 1000→(0 < y.uC (gN v) deep↔v∈y.Aq))→ ∀ deep,(∀ x∈l,deep + x.dep < 1000)→(0 < aa.Ak (gN v) l deep↔v∈aa.yl l):=by
   intro l
   induction l with
   | nil=>intro _ _ _;rw[aa.Ak,aa.yl];simp
   | cons x l ihl=>
    intro hy deep hx;rw[aa.Ak,aa.yl,List.mem_append, ←hy x (by simp) deep (hx x (by simp)), ←ihl (fun z hz=>hy z (by simp[hz])) deep fun z hz=>hx z (by simp[hz])];have:=x.sr (gN v) deep;have:=aa.Al (gN v) l deep;omega
  have hk:=key t.t ih (deep + 1) fun x hx=>by have:=hd.2 x hx;omega
  have hb:=aa.Al (gN v) t.t (deep + 1);have hlt:deep < 1000:=by omega
  rw[aa.E1,if_pos hlt,aa.G8,List.mem_append, ←hk];by_cases hp:gN v t.op t.n=true
  ·rw[if_pos hp]
   simp[gN] at hp;rw[if_pos hp.1];simp[hp.2];omega
  ·rw[if_neg hp]
   have: ¬ v∈(if t.op=2∨t.op=14 then [t.n] else []):=by
    split
    ·rename_i ho
     intro hv;exact hp (by simp[gN,ho];simp at hv;exact hv.symm)
    ·simp
   simp only[this,false_or];omega
def mW (l:List Int) (v:Int):List Int:=l.takeWhile (fun x=>decide (x < v))++(if (l.dropWhile fun x=>decide (x < v)).head?=some v then l.dropWhile (fun x=>decide (x < v)) else v::l.dropWhile fun x=>decide (x < v))
theorem rj (x:Int) (l:List Int) (v:Int):mW (x::l) v=if x < v then x::mW l v else if x=v then x::l else v::x::l:=by
 unfold mW;by_cases h:x < v
 ·simp[List.takeWhile_cons,List.dropWhile_cons,h]
 ·simp[List.takeWhile_cons,List.dropWhile_cons,h]
theorem vr (v x:Int): ∀ l:List Int,x∈mW l v↔x=v∨x∈l
 | []=>by simp[mW]
 | y::l=>by
  rw[rj]
  split
  ·rw[List.mem_cons,vr v x l,List.mem_cons]
   constructor
   ·rintro (h | h | h)
    ·exact .inr (.inl h)
    ·exact .inl h
    ·exact .inr (.inr h)
   ·rintro (h | h | h)
    ·exact .inr (.inl h)
    ·exact .inl h
    ·exact .inr (.inr h)
  ·split
   ·rename_i e;rw[List.mem_cons,e]
    constructor
    ·rintro (h | h)
     ·exact .inl h
     ·exact .inr (.inr h)
    ·rintro (h | h | h)
     ·exact .inl h
     ·exact .inl h
     ·exact .inr h
   ·rw[List.mem_cons]
theorem EN (v:Int): ∀ {l:List Int},l.Pairwise (· < ·)→(mW l v).Pairwise (· < ·)
 | [],_=>by simp[mW]
 | y::l,h=>by
  rw[List.pairwise_cons] at h;rw[rj]
  split
  ·rw[List.pairwise_cons]
   refine ⟨fun z hz=>?_,EN v h.2⟩;rcases (vr v z l).1 hz with rfl | hz
   ·assumption
   ·exact h.1 z hz
  ·split
   ·exact List.pairwise_cons.2 h
   ·rw[List.pairwise_cons]
    refine ⟨fun z hz=>?_,List.pairwise_cons.2 h⟩;rcases List.mem_cons.1 hz with rfl | hz
    ·omega
    ·have:=h.1 z hz;omega
theorem BQ (v:Int): ∀ l:List Int,(mW l v).length≤l.length + 1
 | []=>by simp[mW]
 | y::l=>by
  rw[rj];have:=BQ v l
  split
  ·simp;omega
  ·split<;>simp
mutual
def aa.bD:aa→Int→List Int→List Int
 | .mk _ _ v t,deep,out=>if deep < 1000 then aa.LF t (deep + 1) (v.foldl mW out) else v.foldl mW out
def aa.LF:List aa→Int→List Int→List Int
 | [],_,out=>out
 | x::xs,deep,out=>aa.LF xs deep (aa.bD x deep out)
end
theorem aa.N1 (t:aa) (deep:Int) (out:List Int):t.bD deep out=if deep < 1000 then aa.LF t.t (deep + 1) (t.v.foldl mW out) else t.v.foldl mW out:=by cases t;rw[aa.bD];rfl
theorem oc: ∀ (v out:List Int),out.Pairwise (· < ·)→(v.foldl mW out).Pairwise (· < ·)
 | [],_,h=>h
 | x::v,out,h=>oc v _ (EN x h)
theorem mS (x:Int): ∀ (v out:List Int),x∈v.foldl mW out↔x∈out∨x∈v
 | [],_=>by simp
 | y::v,out=>by
  rw[List.foldl_cons,mS x v,vr,List.mem_cons];constructor
  ·rintro ((h | h) | h)
   ·exact .inr (.inl h)
   ·exact .inl h
   ·exact .inr (.inr h)
  ·rintro (h | h | h)
   ·exact .inl (.inr h)
   ·exact .inl (.inl h)
   ·exact .inr h
theorem mI: ∀ (v out:List Int),(v.foldl mW out).length≤out.length + v.length
 | [],_=>by simp
 | x::v,out=>by
  rw[List.foldl_cons,List.length_cons];have:=mI v (mW out x);have:=BQ x out;omega
theorem aa.DZ (t:aa): ∀ (deep:Int) (out:List Int),out.Pairwise (· < ·)→(t.bD deep out).Pairwise (· < ·)∧(t.bD deep out).length≤out.length + t.aR∧(deep + t.dep < 1000→ ∀ x,x∈t.bD deep out↔x∈out∨x∈t.vars):=by
 induction t using aa.ind with
 | h t ih=>
  intro deep out ho;have hge:=aa.tG t.t 0;have hbe:=t.bu
  have key: ∀ l:List aa,(∀ y∈l, ∀ (deep:Int) (out:List Int),out.Pairwise (· < ·)→(y.bD deep out).Pairwise (· < ·)∧(y.bD deep out).length≤out.length + y.aR∧(deep + y.dep < 1000→ ∀ x,x∈y.bD deep out↔x∈out∨x∈y.vars))→
    ∀ (deep:Int) (out:List Int),out.Pairwise (· < ·)→(aa.LF l deep out).Pairwise (· < ·)∧(aa.LF l deep out).length≤out.length + aa.aD l∧((∀ x∈l,deep + x.dep < 1000)→ ∀ x,x∈aa.LF l deep out↔x∈out∨x∈aa.gP l):=by
   intro l
   induction l with
   | nil=>intro _ deep out ho;rw[aa.LF,aa.gP];exact ⟨ho,by omega,by simp⟩
   | cons x l ihl=>
    intro hy deep out ho;obtain ⟨a1,a2,a3⟩:=hy x (by simp) deep out ho;obtain ⟨b1,b2,b3⟩:=ihl (fun z hz=>hy z (by simp[hz])) deep (x.bD deep out) a1;rw[aa.LF,aa.gP,aa.aD];refine ⟨b1,by omega,fun hd z=>?_⟩;rw[b3 (fun y hz=>hd y (by simp[hz])),a3 (hd x (by simp)),List.mem_append,or_assoc]
  have hf:=oc t.v out ho;have hl:=mI t.v out;obtain ⟨b1,b2,b3⟩:=key t.t ih (deep + 1) _ hf;rw[aa.N1]
  split
  ·refine ⟨b1,by omega,fun hd z=>?_⟩
   rw[aa.uE] at hd;have hd2:=(aa.pP (999 - deep) t.t 0).1 (by omega);rw[b3 fun x hx=>by have:=hd2.2 x hx;omega];rw[mS,aa.uf,List.mem_append,or_assoc]
  ·exact ⟨hf,by omega,fun hd=>by rw[aa.uE] at hd;omega⟩
def iZ (t:aa):List Int:=fF t.vars
theorem aa.J9 (t:aa) (h:t.dep < 1000):t.bD 0 []=iZ t:=by
 obtain ⟨h1,_,h3⟩:=t.DZ 0 [] List.Pairwise.nil;exact Ip h1 (ET _) fun x=>by rw[h3 (by omega),iZ,vt];simp
theorem aa.Cx (t:aa) (h:t.dep < 1000):fF (bx t.all)=iZ t:=by
 have:=(t.EA [] 0 (by omega)).2;unfold iZ bx;exact congrArg fF this
def fZ (t:aa):Int:=if iZ t= [] then 0 else (iZ t).getD ((iZ t).length - 1) 0 + 1
def OL:Prog:=⟨[],.mk 0 0 [] []⟩
theorem Np (v:Int) (t:aa): ∀ deep:Int,0≤deep→deep≤1000→t.aR≤1000000000→aA Tryz.prog 67 [.agg t.cells,.int .i64 v,.int .i64 deep] (.bp [.int .i64 (t.uC (ql v) deep),.int .i64 (t.uC (gN v) deep)]):=by
 induction t using aa.ind with
 | h t ih=>
  intro deep h0 h1 hb;have hbe:=t.bu;have he:=t.E1 (ql v) deep;have he2:=t.E1 (gN v) deep;have hbd:=t.sr (ql v) deep;have hbd2:=t.sr (gN v) deep;have hcb:=t.AS;have ih': ∀ x∈t.t, ∀ deep:Int,0≤deep→deep≤1000→aA Tryz.prog 67 [.agg x.cells,.int .i64 v,.int .i64 deep] (.bp [.int .i64 (x.uC (ql v) deep),.int .i64 (x.uC (gN v) deep)]):=fun x hx d a b=>ih x hx d a b (by have:=aa.bL hx;omega);refine af.ah ai Tryz.func67 rfl rfl (n:=67) rfl rfl ?_
  conv=>whnf
  repeat (((intro _);conv=>whnf))
  refine mu.keep (fun r:Int=> [(8,.int .i64 r)]) (fun r=>r=if ql v t.op t.n=true then 1 else 0) ?_ ?_
  ·conv=>whnf
   repeat' (first|refine wh ?_|(refine zX (fun hc=>?_) (fun hc=>?_)<;>(try simp only[SY] at hc)<;>(conv=>whnf)))
   ·exact gH 1 (by rw[if_pos (by simp[ql,hc])]) wA
   ·exact gH 0 (by rw[if_neg (by simp only[ql,Bool.and_eq_true,beq_iff_eq];omega)]) wA
  rintro r hr
  conv=>whnf
  skip
  refine mu.keep (fun s:Int=> [(9,.int .i64 s)]) (fun s=>s=if gN v t.op t.n=true then 1 else 0) ?_ ?_
  ·conv=>whnf
   repeat' (first|refine wh ?_|(refine zX (fun hc=>?_) (fun hc=>?_)<;>(try simp only[SY] at hc)<;>(conv=>whnf)))
   ·exact gH 1 (by rw[if_pos (by simp only[gN,Bool.and_eq_true,Bool.or_eq_true,beq_iff_eq];omega)]) wA
   ·exact gH 0 (by rw[if_neg (by simp only[gN,Bool.and_eq_true,Bool.or_eq_true,beq_iff_eq];omega)]) wA
  rintro s hs;have hr1:0≤r∧r≤1:=by rw[hr];split<;>omega
  have hs1:0≤s∧s≤1:=by rw[hs];split<;>omega
  rw[←hr] at he;rw[←hs] at he2
  conv=>whnf
  skip
  refine ax.keep [8,9,10,11,12,36,37,38,39,40,41,42,43,44,45,46,47,48,49,50,51,52,53,54,55,56,57,58,59,60,61,62,63,64] (fun x:Nat×Int×Int=> [(8,.int .i64 x.2.1),(9,.int .i64 x.2.2),(10,.int .i64 x.1)])
   (fun x=>x.1≤t.t.length∧(0≤x.2.1∧0≤x.2.2)∧x.2.1 + (if deep < 1000 then aa.Ak (ql v) (t.t.drop x.1) (deep + 1) else 0)=t.uC (ql v) deep∧x.2.2 + (if deep < 1000 then aa.Ak (gN v) (t.t.drop x.1) (deep + 1) else 0)=t.uC (gN v) deep)
   (fun x=>t.t.length - x.1) (0,r,s) ⟨Nat.zero_le _,⟨by simp;omega,by simp;omega⟩,by rw[he];simp,by rw[he2];simp⟩ wA ?_
  rintro ⟨i,n,m⟩ ⟨hi,hn,hm,hm2⟩;dsimp only at hi hn hm hm2⊢
  conv=>whnf
  repeat' (first|refine wh ?_|((first|refine pC (ih' _ (List.getElem_mem _) _ (by omega) (by omega)) wR ?_|intro _);conv=>whnf)|(refine zX (fun hc=>?_) (fun hc=>?_)<;>(try simp only[SY] at hc)<;>(conv=>whnf)))
  ·have hlt:deep < 1000:=by omega
   rw[if_pos hlt,aO (show i < t.t.length by omega),aa.Ak] at hm hm2;have hx:=(t.t[i]).sr (ql v) (deep + 1);have hr:=aa.Al (ql v) (t.t.drop (i + 1)) (deep + 1);have hx2:=(t.t[i]).sr (gN v) (deep + 1);have hr2:=aa.Al (gN v) (t.t.drop (i + 1)) (deep + 1);refine jo.ok (by omega) (by omega) ?_
   conv=>whnf
   repeat' (first|refine wh ?_|(refine zX (fun hc=>?_) (fun hc=>?_)<;>(try simp only[SY] at hc)<;>omega))
   exact av (i + 1,n + t.t[i].uC (ql v) (deep + 1),m + t.t[i].uC (gN v) (deep + 1)) ⟨by show i + 1≤_;omega,⟨by show 0≤n + (t.t[i]).uC _ (deep + 1);omega,by show 0≤m + (t.t[i]).uC _ (deep + 1);omega⟩,by dsimp only;rw[if_pos hlt];omega,by dsimp only;rw[if_pos hlt];omega⟩ (by show t.t.length - (i + 1) < t.t.length - i;omega) wA
  ·have e1:n=t.uC (ql v) deep:=by
    rw[←hm]
    split
    ·rw[List.drop_of_length_le (by omega),aa.Ak];omega
    ·omega
   have e2:m=t.uC (gN v) deep:=by
    rw[←hm2]
    split
    ·rw[List.drop_of_length_le (by omega),aa.Ak];omega
    ·omega
   rw[←e1, ←e2];exact ak.pure (Wk.refl _)
theorem L9 (v:Int) (t:aa) (hb:t.aR≤1000000000):aA Tryz.prog 42 [.agg t.cells,.int .i64 v] (.bp [.int .i64 (t.uC (ql v) 0),.int .i64 (t.uC (gN v) 0)]):=by
 refine af.ah ai Tryz.func42 rfl rfl (n:=11) rfl rfl ?_
 conv=>whnf
 repeat (first|refine Pt ?_|((first|refine pC (Np v t 0 (by omega) (by omega) hb) wR ?_|intro _);conv=>whnf))
 exact ak.pure (Wk.refl _)
def NF (p:Prog):Bool:=iO p 0 == 0
abbrev Oy (r:Pr):PV:=.bp [.agg r.p.cells,.int .i64 r.e]
theorem Shift.IB {x:PV} {Γ Γ':List aj} (g:au Γ Γ'):Shift x Γ x Γ':=fun w0 F M w v hS hx=>by
 obtain ⟨F',e,h⟩:=g w0 F M w hS;exact ⟨F',e,h,aB.mono e _ _ hx⟩
theorem au.KT (Γ:List aj):au Γ (.row (aC 5 55) (([]:List Datum).map Datum.pv)::Γ):=au.cE _ _ _
theorem Ja (b:Nat) (d:Datum) (hs:d.sz≤100000000) (hp:d.pr=true) (hc:cm d.sz d=true):
  af Tryz.prog 62 [.ptr b 0,.agg d.cells,.agg (mE [])] (oW b (aC 5 55) ⟨[],0,false⟩)
   (fun y Γ'=> ∃ tk,y=.agg (TF (-1) d.sz d [] ⟨[],0,false⟩).1.cells∧Γ'= [.box b [.sl 5 ((TF (-1) d.sz d [] ⟨[],0,false⟩).2.cs.map Datum.pv) none,.int .i64 (TF (-1) d.sz d [] ⟨[],0,false⟩).2.vars,.bool (TF (-1) d.sz d [] ⟨[],0,false⟩).2.lost],.tok tk]):=
 (sk b d.sz hs d hp (Nat.le_refl _) hc (aC 5 55) [] ⟨[],0,false⟩ rfl rfl (fun p h=>by cases h) (by simp;omega) ⟨by simp,by simp;omega,by simp;omega⟩).2.shift fun y Γ' hq=>by
  obtain ⟨tk',e,s,hy,hΓ⟩:=hq;generalize TF (-1) d.sz d [] ⟨[],0,false⟩=r at *;subst hy hΓ;exact ⟨_,_,Shift.IB (au.cu (t:=tk') (es:=r.2.cs.map Datum.pv) (b:=b) (cs:= [.ms tk',.int .i64 r.2.vars,.bool r.2.lost]) (cs':= [.sl 5 (r.2.cs.map Datum.pv) none,.int .i64 r.2.vars,.bool r.2.lost]) (.cons (qz.ms' s) (.cons (qz.of (Wk.refl _)) (.cons (qz.of (Wk.refl _)) .nil)))),tk',rfl,rfl⟩
theorem CV {p q:Prop} (k:q) (h:q→p:=by intro hq;first | exact aE.sP (some 22) rfl [6] [7] ai mixed hq):p:=h k
theorem BX (d:Datum) (hs:d.sz≤100000000):aA Tryz.prog 39 [.agg d.cells] (Oy (Gm NF (-1) d)):=by
 have hC:=GS d (by omega) (rz d 0);have hR:Gm NF (-1) d=Gm NF (-1) d:=rfl
 conv at hR=>rhs;unfold Gm;dsimp only
 generalize Gm NF (-1) d=O at *
 cases hc:A0 d with
 | false=>
  rw[hc] at hC;rw[if_pos hc] at hR;rw[hR];refine af.ah ai Tryz.func39 rfl rfl (n:=33) rfl rfl ?_
  conv=>whnf
  repeat' (first|refine aX ?_|((first|refine pC (hC) wR ?_|intro _);conv=>whnf)|(refine zX (fun hc=>?_) (fun hc=>?_)<;>(try simp only[SY] at hc)<;>(conv=>whnf)))
  exact ak.pure wA
 | true=>
  rw[hc] at hC;rw[if_neg (by rw[hc];simp)] at hR;have hcd:=hc;unfold A0 at hcd;rw[Bool.and_eq_true] at hcd;have hp:=rz d 0 hcd.1;have hgo:=G3 (-1) d.sz d hp [] ⟨[],0,false⟩;have hroot:=fun b=>Ja b d hs hp hcd.2;generalize TF (-1) d.sz d [] ⟨[],0,false⟩=r at *;obtain ⟨t,s⟩:=r;dsimp only at hgo hroot hR;have hck:=AO ⟨s.cs,t⟩ 0 (by show t.aR≤_;omega) (by have:=hgo.1.2.2;dsimp only at this ⊢; simp at this;omega);have hok:NF ⟨s.cs,t⟩=(iO ⟨s.cs,t⟩ 0 == 0):=rfl;generalize iO ⟨s.cs,t⟩ 0=ck at *;refine af.ah ai Tryz.func39 rfl rfl (n:=33) rfl rfl ?_
  conv=>whnf
  repeat' (first|refine aX ?_|((first|refine pC (hC) wR ?_|intro _);conv=>whnf)|(refine zX (fun hc=>?_) (fun hc=>?_)<;>(try simp only[SY] at hc)<;>(conv=>whnf)))
  rename_i b1 b2 b4;refine aq.NB (au.trans (au.KT _) (au.box (b:=b4) (cs:= [.nil,.int .i64 0,.bfalse]) (cs':= [.ms (aC 5 55),.int .i64 0,.bool false]) (.cons (Wk.cE 5 55) (.cons (Wk.refl _) (.cons (Wk.ff rfl) .nil))))) (hroot b4) (.cons (Wk.refl _) (.cons (Wk.refl _) (.cons (Wk.agg (.cons (Wk.eg rfl) (.cons (Wk.eg rfl) .nil))) .nil))) ?_;rintro _ _ ⟨tk,rfl,rfl⟩
  conv=>whnf
  repeat' (first|refine aX ?_|((first|refine pC (hck) wR ?_|refine CV ?_|intro _);conv=>whnf)|(refine zX (fun hc=>?_) (fun hc=>?_)<;>(try simp only[SY] at hc)<;>(conv=>whnf)))
  ·rw[if_pos hc] at hR
   rw[hR];exact ak.pure wA
  ·have hl:s.lost=false:= ‹s.lost=false›
   rw[if_neg (by rw[hl];simp),hok,if_pos (by simpa using hc)] at hR;rw[hR];exact ak.pure wA
  ·have hl:s.lost=false:= ‹s.lost=false›
   rw[if_neg (by rw[hl];simp),hok,if_neg (by simp[hc])] at hR;rw[hR];exact ak.pure (Wk.refl _)
def PS (k:Nat) (r:Nu):Prop:=r.2.2= -1→r.1.sz + 1 + 5 * k≤5 * r.2.1
def PR (k:Nat) (l:List Datum) (e:Datum) (r:(List Datum×Datum)×Nat×Int):Prop:=r.2.2= -1→r.1.1.length + Datum.dZ r.1.1 + r.1.2.sz + 5 + 5 * k≤5 * r.2.1 + l.length + Datum.dZ l + e.sz
abbrev iD:=List (Int×Nat)
structure LC where
 v:List Int
 rest:Bool
 body:aa
 env:iD
inductive Vl where
 | mk (k n d:Int) (s:List UInt8) (l:List Vl) (p:Option LC) (c:Option Nat)
def Vl.k:Vl→Int | .mk k _ _ _ _ _ _=>k
def Vl.n:Vl→Int | .mk _ n _ _ _ _ _=>n
def Vl.d:Vl→Int | .mk _ _ d _ _ _ _=>d
def Vl.s:Vl→List UInt8 | .mk _ _ _ s _ _ _=>s
def Vl.l:Vl→List Vl | .mk _ _ _ _ l _ _=>l
def Vl.p:Vl→Option LC | .mk _ _ _ _ _ p _=>p
def Vl.c:Vl→Option Nat | .mk _ _ _ _ _ _ c=>c
def cB:iD→PV
 | []=>.np
 | (v,a)::e=>.ep [.int .i64 v,.ptr a 0,cB e]
abbrev LC.cells (c:LC):List PV:= [.sl 1 (c.v.map (PV.int .i64)) none,.bool c.rest,.int .i64 c.body.op,.int .i64 c.body.n,.sl 1 (c.body.v.map (PV.int .i64)) none,.sl 4 (c.body.t.map aa.pv) none,cB c.env,.int .i64 (-1),.nil]
def oa:Option LC→PV
 | none=>.np
 | some c=>.ep c.cells
def js:Option Nat→PV
 | none=>.np
 | some a=>.ptr a 0
mutual
def Vl.pv:Vl→PV
 | .mk k n d s l p c=>.agg [.int .i64 k,.int .i64 n,.int .i64 d,.str s,.sl 7 (Vl.EP l) none,oa p,js c]
def Vl.EP:List Vl→List PV
 | []=> []
 | x::xs=>Vl.pv x::Vl.EP xs
end
theorem Vl.mY: ∀ l:List Vl,Vl.EP l=l.map Vl.pv
 | []=>rfl
 | x::xs=>by simp only[Vl.EP,List.map_cons,Vl.mY xs]
def Vl.cells (x:Vl):List PV:= [.int .i64 x.k,.int .i64 x.n,.int .i64 x.d,.str x.s,.sl 7 (x.l.map Vl.pv) none,oa x.p,js x.c]
abbrev gO (x:Vl):List PV:= [.int .i64 x.k,.int .i64 x.n,.int .i64 x.d,.str x.s,.sl 7 (x.l.map Vl.pv) none,oa x.p,js x.c]
abbrev AN (x:Vl) (r:Bool):List PV:= [.int .i64 x.k,.int .i64 x.n,.int .i64 x.d,.str x.s,.sl 7 (x.l.map Vl.pv) none,oa x.p,js x.c,.bool r]
theorem Vl.gd (x:Vl):x.pv=.agg x.cells:=by
 cases x;simp only[Vl.pv,Vl.cells,Vl.mY,Vl.k,Vl.n,Vl.d,Vl.s,Vl.l,Vl.p,Vl.c]
instance:cn Vl.pv Vl.cells:=⟨fun x=>by rw[Vl.gd];rfl⟩
mutual
theorem Vl.lH {p:Vl→Prop} (h: ∀ x:Vl,(∀ y∈x.l,p y)→p x): ∀ d,p d
 | .mk k n d s l pr c=>h (.mk k n d s l pr c) (Vl.iH h l)
theorem Vl.iH {p:Vl→Prop} (h: ∀ x:Vl,(∀ y∈x.l,p y)→p x): ∀ (l:List Vl), ∀ x∈l,p x
 | []=>by simp
 | y::ys=>List.forall_mem_cons.2 ⟨Vl.lH h y,Vl.iH h ys⟩
end
instance:Ap Vl:=⟨.mk 0 0 0 [] [] none none⟩
instance (priority:=high) bU.PN (t:Vl):bU Vl.pv (Vl.pv t) t:=⟨Wk.refl _,gm.refl _⟩
instance (priority:=high) bU.Po (t:Vl):bU Vl.pv (.agg t.cells) t:=⟨by rw[Vl.gd];exact Wk.refl _,by rw[Vl.gd];exact gm.refl _⟩
theorem bU.PE {x:List PV} {t:Vl} (h:gm x t.cells):bU Vl.pv (.agg x) t:=⟨by rw[Vl.gd];exact Wk.agg h,by rw[Vl.gd];exact h⟩
instance (priority:=high) bU.Pp (t:Vl) (tk:Option Tok):bU Vl.pv (.agg [.int .i64 (Vl.k t),.int .i64 (Vl.n t),.int .i64 (Vl.d t),.str (Vl.s t),.sl 7 ((Vl.l t).map Vl.pv) tk,oa (Vl.p t),js (Vl.c t)]) t:=
 bU.PE (.cons (Wk.refl _) (.cons (Wk.refl _) (.cons (Wk.refl _) (.cons (Wk.refl _) (.cons (Wk.tok _ _ _) (.cons (Wk.refl _) (.cons (Wk.refl _) .nil)))))))
class n4 {α:Type} (f:α→PV) (x:PV) (v:outParam α):Prop where
 h:x=f v
instance n4.PA:n4 oa .np none:=⟨rfl⟩
instance n4.PB:n4 js .np none:=⟨rfl⟩
instance n4.PJ (a:Nat):n4 js (.ptr a 0) (some a):=⟨rfl⟩
instance (priority:=high) n4.same {α:Type} (f:α→PV) (v:α):n4 f (f v) v:=⟨rfl⟩
instance bU.QM (a b c:Int) (s:List UInt8) (x y z:PV) (l:List Vl) (p:Option LC) (q:Option Nat) [h:sw Vl.pv 7 x l] [hy:n4 oa y p] [hz:n4 js z q]:bU Vl.pv (.agg [.int .i64 a,.int .i64 b,.int .i64 c,.str s,x,y,z]) (.mk a b c s l p q):=
 bU.PE (.cons (Wk.refl _) (.cons (Wk.refl _) (.cons (Wk.refl _) (.cons (Wk.refl _) (.cons h.wk (.cons (by rw[hy.h];exact Wk.refl _) (.cons (by rw[hz.h];exact Wk.refl _) .nil)))))))
theorem NW.wk {x:PV} {t:Vl} [h:bU Vl.pv x t]:Wk x (.agg t.cells):=by rw[←Vl.gd];exact h.wk
theorem dw {x:PV} {l:List PV} {K:List PV→Prop} (hx:qh x=x) (h:r5 l fun r=>K (x::r)):r5 (x::l) K:=by
 rw[vw] at h ⊢;rw[List.map_cons,hx];exact h
theorem nC {p:Option LC}:qh (oa p)=oa p:=by cases p<;>rfl
theorem nD {c:Option Nat}:qh (js c)=js c:=by cases c<;>rfl
abbrev dz:Vl:=.mk 0 0 0 [] [] none none
abbrev fD (k:Int):Vl:=.mk k 0 0 [] [] none none
mutual
def OH:Datum→Vl
 | .mk k n d s l=>.mk k n d s (L4 l) none none
def L4:List Datum→List Vl
 | []=> []
 | x::xs=>OH x::L4 xs
end
def Da (l:List Vl):Vl:=l.foldr (fun x r=>.mk 6 0 0 [] [x,r] none none) (fD 4)
abbrev Hp:=List (Nat×Vl×Bool)
def Ck (h:Hp):List aj:=h.map fun c=>.box c.1 (AN c.2.1 c.2.2)
def qI:iD→Int→Option Nat
 | [],_=>none
 | (x,a)::e,v=>if x=v then some a else qI e v
structure kE where
 fuel:Int
 out:List UInt8
 alive:List Bool
 to:Int
 val:Vl
 h:Hp
abbrev Pb (K:List Vl) (t:Tok) (s:kE):List PV:= [.sl 7 (K.map Vl.pv) none,.nil,.int .i64 s.fuel,.str s.out,.ms t,.int .i64 s.to,.int .i64 s.val.k,.int .i64 s.val.n,.int .i64 s.val.d,.str s.val.s,.sl 7 (s.val.l.map Vl.pv) none,oa s.val.p,js s.val.c]
abbrev eB (b:Nat) (K:List Vl) (t:Tok) (s:kE):List aj:=.box b (Pb K t s)::.row t (s.alive.map PV.bool)::Ck s.h
theorem Cw (e:iD) (v:Int) (x:Vl) (r:Bool):af Tryz.prog 170 [cB e,.int .i64 v,.agg x.cells,.bool r] [] (fun y Γ'=> ∃ a,y=cB ((v,a)::e)∧Γ'= [.box a (AN x r)]):=by
 rcases e with _ | ⟨⟨w,c⟩,e⟩
 all_goals
  refine af.ah ai Tryz.func170 rfl rfl (n:=17) rfl rfl ?_
  conv=>whnf
  repeat' (first|refine aX ?_|((intro _);conv=>whnf)|(refine zX (fun hc=>?_) (fun hc=>?_)<;>(try simp only[SY] at hc)<;>omega))
  rename_i b1 b2 b3;exact ak.freeze (b:=b3) (Γ':= [.box b2 (AN x r)]) (Wk.refl _) ⟨b2,rfl,rfl⟩
theorem zx (e:iD) (v:Int) (a:Nat) (h:qI e v=some a):aA Tryz.prog 125 [cB e,.int .i64 v] (.ptr a 0):=by
 refine af.ah ai Tryz.func125 rfl rfl (n:=28) rfl rfl ?_
 conv=>whnf
 skip
 refine ax.keep [0,5,6,7,8,9,10,11,12,13,14,15,16,17,18] (fun x:iD=> [(0,cB x)]) (fun x=>qI x v=some a) (fun x=>x.length) e h wA ?_;intro x hx
 rcases x with _ | ⟨⟨w,c⟩,x⟩
 ·cases hx
 rw[qI] at hx
 conv=>whnf
 repeat' (first|refine aX ?_|(refine zX (fun hc=>?_) (fun hc=>?_)<;>(try simp only[SY] at hc)<;>(conv=>whnf)))
 ·rw[if_neg hc] at hx
  exact av x hx (by show x.length < x.length + 1;omega) wA
 ·rw[if_pos hc] at hx
  obtain rfl:=Option.some.inj hx;exact ak.pure (Wk.refl _)
theorem IJ {a b:Vl}:gm [.int .i64 6,.int .i64 0,.int .i64 0,.str [],.sl 7 [.agg a.cells,.agg b.cells] none,.np,.np] (Vl.mk 6 0 0 [] [a,b] none none).cells:=
 .cons (Wk.refl _) (.cons (Wk.refl _) (.cons (Wk.refl _) (.cons (Wk.refl _) (.cons (sw.wk (f:=Vl.pv) (l:= [a,b])) (.cons (Wk.refl _) (.cons (Wk.refl _) .nil))))))
theorem Es {k:Int}:gm [.int .i64 k,.int .i64 0,.int .i64 0,.str [],.nil,.np,.np] (fD k).cells:=.cons (Wk.refl _) (.cons (Wk.refl _) (.cons (Wk.refl _) (.cons (Wk.refl _) (.cons (Wk.eg rfl) (.cons (Wk.refl _) (.cons (Wk.refl _) .nil))))))
theorem Fv {p q:Prop} (k:q) (h:q→p:=by intro hq;first | exact aE.sP (some 13) rfl [] [7] ai mixed hq):p:=h k
theorem KD (l:List Vl):aA Tryz.prog 236 [.sl 7 (l.map Vl.pv) none] (.agg (Da l).cells):=by
 refine af.ah ai Tryz.func236 rfl rfl (n:=21) rfl rfl ?_
 conv=>whnf
 repeat' (first|refine aX ?_|((intro _);conv=>whnf)|(refine zX (fun hc=>?_) (fun hc=>?_)<;>(try simp only[SY] at hc)<;>omega))
 rename_i b2 b3 hl;refine ax.gh (au.box (b:=b3) (cs:= [.int .i64 4,.int .i64 0,.int .i64 0,.str [],.nil,.np,.np]) (cs':=gO (fD 4)) Es) ?_;refine ax.over [4,9,10,11,12,13,14,15,16,17,18,19] (fun x:Nat×Vl=> [(4,.int .i64 ((x.1:Int) - 1))]) (fun x:Nat×Vl=> [.box b2 [.int .i64 0,.int .i64 0,.int .i64 0,.str [],.nil,.np,.np],.box b3 (gO x.2)]) (fun x=>x.1≤l.length∧x.2=Da (l.drop x.1)) (fun x=>x.1) (l.length,fD 4) ⟨Nat.le_refl _,by rw[List.drop_of_length_le (Nat.le_refl _)];rfl⟩ wA ?_;rintro ⟨i,D⟩ ⟨hi,hD⟩;dsimp only at hi hD⊢
 conv=>whnf
 repeat' (first|refine aX ?_|((first|refine dw nC ?_|refine dw nD ?_|refine Fv ?_);conv=>whnf)|(refine zX (fun hc=>?_) (fun hc=>?_)<;>(try simp only[SY] at hc)<;>(conv=>whnf)))
 ·have h1:i - 1 < l.length:=by omega
  have e:l.drop (i - 1)=l[i - 1]::l.drop i:=by rw[aO h1,show i - 1 + 1=i by omega]
  refine jm.gh (i - 1,.mk 6 0 0 [] [l[i - 1],D] none none) ⟨by show i - 1≤_;omega,by show _=Da (l.drop (i - 1));rw[e,hD];rfl⟩ (by show i - 1 < i;omega) wA ?_;refine au.trans (au.box (b:=b3) (cs:= [.int .i64 6,.int .i64 0,.int .i64 0,.str [],.sl 7 [.agg (gO l[i - 1]),.agg (gO D)] none,.np,.np]) (cs':=gO (Vl.mk 6 0 0 [] [l[i - 1],D] none none)) IJ) ?_;exact au.pick
 ·have e:D=Da l:=by rw[hD,show i=0 by omega];rfl
  rw[←e];exact ak.pure (Wk.refl _)
def Mp:Nat→Nat→List UInt8
 | 0,_=> []
 | f + 1,n=>if n < 10 then [(48 + n).toUInt8] else Mp f (n / 10)++ [(48 + n % 10).toUInt8]
def Pd (n d:Int):List UInt8:=if cF n d=false then [] else (if n < 0 then [45] else [])++Mp 10 n.natAbs++(if d=1 then [] else 47::Mp 10 d.natAbs)
abbrev Pf:List UInt8:= [35,60,112,114,111,99,101,100,117,114,101,62]
mutual
def wV (tail:Bool):Vl→List UInt8→List UInt8
 | .mk k n d s l _ _,out=>
  let core:=fun (out:List UInt8)=>
   if 1000≤out.length then out else
   if k=0 then out++Pd n d else
   if k=1 then out++(if bitsOf .and .i64 n 1=0 then [35,102] else [35,116]) else
   if k=2 then out++s else
   if k=3 then out++ [34]++s++ [34] else
   if k=4 then out++ [40,41] else
   if k=5 then out++ [35,118] else
   if k=11 then out++ [35,60,98,111,120,62] else
   if k=12 then out++ [35,60,117,110,115,101,116,62] else
   if k=8∨k=9∨k=10 then out++Pf else
   if k=7 then wL true l (out++ [35,40])++ [41] else wP l (out++ [40])
  if tail=false then core out else
  if k=6∧out.length < 1000 then wP l (out++ [32]) else
  if k=4 then out++ [41] else core (out++ [32,46,32])++ [41]
def wL (first:Bool):List Vl→List UInt8→List UInt8
 | [],out=>out
 | x::xs,out=>if 1000≤out.length then out else wL false xs (wV false x (if first=true then out else out++ [32]))
def wP:List Vl→List UInt8→List UInt8
 | [a,b],out=>wV true b (wV false a out)
 | _,out=>out
end
def Pn (x:Vl):List UInt8:=(wV false x []).take 1000
mutual
def Vl.tx:Vl→Bool
 | .mk k _ _ s l _ _=>decide (0≤k∧k≤12) && (k !=6 || l.length == 2) && decide (s.length≤1000000000) && Vl.PM l
def Vl.PM:List Vl→Bool
 | []=>true
 | x::xs=>Vl.tx x && Vl.PM xs
end
mutual
def Vl.sz:Vl→Nat
 | .mk _ _ _ _ l _ _=>1 + Vl.dZ l
def Vl.dZ:List Vl→Nat
 | []=>0
 | x::xs=>Vl.sz x + Vl.dZ xs
end
def NX (n d m e:Int):Int×Int×Int:=if (cF n d && cF m e)=false then (0,0,3) else j6 (n * e + m * d) (d * e)
def Pm (n d m e:Int):Int×Int×Int:=if (cF n d && cF m e)=false then (0,0,3) else NX n d (0 - m) e
def MO (n d m e:Int):Int×Int×Int:=if (cF n d && cF m e)=false then (0,0,3) else
 j6 (n.tdiv (Nat.gcd n.natAbs e.natAbs:Nat) * m.tdiv (Nat.gcd m.natAbs d.natAbs:Nat)) (d.tdiv (Nat.gcd m.natAbs d.natAbs:Nat) * e.tdiv (Nat.gcd n.natAbs e.natAbs:Nat))
def OY (n d m e:Int):Int×Int×Int:=if (cF n d && cF m e)=false then (0,0,3) else
 if m=0 then (0,0,4) else if m < 0 then MO n d (0 - e) (0 - m) else MO n d e m
def Ol (n d m e:Int):Bool:=cF n d && (cF m e && decide (n * e < m * d))
def ON (n:Int) (a b:Int×Int):Int×Int×Int:=if n=0 then NX a.1 a.2 b.1 b.2 else if n=1 then Pm a.1 a.2 b.1 b.2 else if n=2 then MO a.1 a.2 b.1 b.2 else OY a.1 a.2 b.1 b.2
abbrev Ge (a:Int×Int):Datum:=.mk 0 a.1 a.2 [] []
def JA (n:Int):List Datum→Int×Int→Datum×Int
 | [],a=>(Ge a,0)
 | x::l,a=>if (ON n a (x.n,x.d)).2.2≠0 then (Ge (0,0),(ON n a (x.n,x.d)).2.2) else JA n l ((ON n a (x.n,x.d)).1,(ON n a (x.n,x.d)).2.1)
def Oo (l:List Datum):Bool:=l.all fun x=>x.kind == 0
def OG (n:Int) (l:List Datum):Datum×Int:=
 if Oo l=false then (Ge (0,0),1) else
 if (n=1∨n=3)∧1 < l.length then JA n (l.drop 1) ((l.getD 0 aJ).n,(l.getD 0 aJ).d) else
 JA n l (if 2≤n then (1,1) else (0,1))
set_option maxHeartbeats 8000000
instance:fO 4 4:=⟨rfl⟩
instance:fO 5 5:=⟨rfl⟩
instance:fO 6 6:=⟨rfl⟩
def Lu (b:Bool):Datum:=.mk 1 (if b=true then 1 else 0) 0 [] []
def Pa (n:Int):Int:= [4,6,0,2,1,3,7].getD (n - 9).toNat (-1)
def N7 (n:Int) (l:List Datum):Datum×Int:=
 if n < 4 then OG n l else
 if n=4∨n=5 then (if ¬(l.getD 0 aJ).kind=0∨ ¬(l.getD 1 aJ).kind=0 then (Ge (0,0),1) else if n=4 then (Lu ((l.getD 0 aJ).NY (l.getD 1 aJ)),0) else (Lu (Ol (l.getD 0 aJ).n (l.getD 0 aJ).d (l.getD 1 aJ).n (l.getD 1 aJ).d),0)) else
 if n=8 then (Lu ((l.getD 0 aJ).kind == 1 && (l.getD 0 aJ).n == 0),0) else
 if n=25 then (.mk 5 0 0 [] [],0) else (Lu ((l.getD 0 aJ).kind == Pa n),0)
def Ni (n:Int) (k:Nat):Bool:=decide (0≤n∧n < 31) && (decide ((fQ n).least≤k) && (decide ((fQ n).most < 0) || decide ((k:Int)≤(fQ n).most)))
def LM (n:Int) (l:List Datum):Datum×Int:=if l.all (fun d=>d.bH 0)=false then (Ge (0,0),0) else if Ni n l.length=false then (Ge (0,0),2) else N7 n l
set_option maxHeartbeats 4000000
def Qh (a b:Vl):Bool:=a.k == b.k && decide (a.k≤5) && a.k !=3 && a.n == b.n && a.d == b.d && a.s == b.s
def Lv (b:Bool):Vl:=.mk 1 (if b=true then 1 else 0) 0 [] [] none none
mutual
def HM:Vl→Vl→Int→Bool×Int
 | .mk k n d s l _ _,b,left=>if left - 1 < 0∨ ¬k=b.k∨7 < k∨ ¬n=b.n∨ ¬d=b.d∨ ¬s=b.s∨ ¬l.length=b.l.length then (false,left - 1) else LH l b.l (left - 1)
def LH:List Vl→List Vl→Int→Bool×Int
 | x::xs,y::ys,left=>if (HM x y left).1=false then (false,(HM x y left).2) else LH xs ys (HM x y left).2
 | _,_,left=>(true,left)
end
mutual
def Vl.an:Vl→List Vl×Vl
 | .mk k n d s l p c=>if k=6 then Vl.H8 l else ([],.mk k n d s l p c)
def Vl.H8:List Vl→List Vl×Vl
 | [a,b]=>(a::b.an.1,b.an.2)
 | _=>([],dz)
end
theorem Vl.lI (x:Vl) (h: ¬x.k=6):x.an=([],x):=by
 cases x with
 | mk k n d s l p c=>
  have h': ¬k=6:=h;rw[Vl.an,if_neg h']
theorem Vl.jA (x:Vl) (h:x.k=6) (h2:x.l.length=2):x.an=((x.l[0]'(by omega))::(x.l[1]'(by omega)).an.1,(x.l[1]'(by omega)).an.2):=by
 cases x with
 | mk k n d s l p c=>
  have h':k=6:=h;rw[Vl.an,if_pos h']
  match l,h2 with
  | [a,b],_=>rw[Vl.H8];rfl
abbrev Pk (r:Vl×Int):PV:=.bp [.agg (gO r.1),.int .i64 r.2]
abbrev On (n:Int):Vl:=.mk 0 n 1 [] [] none none
def Ow (n:Int) (l:List Vl):Vl×Int:=
 let a:=l.getD 0 dz
 let b:=l.getD 1 dz
 if n=18∨n=19 then (if ¬a.k=6 then (dz,1) else (a.l.getD (n - 18).toNat dz,0)) else
 if n=22 then (if ¬a.k=7∨ ¬b.k=0 then (dz,1) else if ¬b.d=1∨b.n < 0∨(a.l.length:Int)≤b.n then (dz,3) else (a.l.getD b.n.toNat dz,0)) else
 if n=23 then (if ¬a.k=7 then (dz,1) else (On a.l.length,0)) else
 if a.an.2.k=4 then (On a.an.1.length,0) else (dz,1)
set_option maxHeartbeats 8000000
def OF (x:Vl):Datum:=if x.k≤5 then .mk x.k x.n x.d x.s [] else if x.k=6 then gJ [aJ] else .mk 7 0 0 [] []
def Nc (n:Int) (l:List Vl):Vl×Int×List UInt8:=
 let a:=l.getD 0 dz
 let b:=l.getD 1 dz
 if n=6 then (Lv (Qh a b),0, []) else
 if n=7 then (if (HM a b 1000).2 < 0 then (dz,3, []) else (Lv (HM a b 1000).1,0, [])) else
 if n=16 then (Lv (decide (8≤a.k) && decide (a.k≤10)),0, []) else
 if n=17 then (.mk 6 0 0 [] l none none,0, []) else
 if n=20 then (Da l,0, []) else
 if n=21 then (.mk 7 0 0 [] l none none,0, []) else
 if n=26 then (fD 5,0,Pn a) else
 if n=27 then (fD 5,0, [10]) else
 if n=18∨n=19∨n=22∨n=23∨n=24 then ((Ow n l).1,(Ow n l).2, []) else
 if n=15∧l.any (fun x=>decide (7 < x.k))=true then (Lv false,0, []) else
 (OH (LM n (l.map OF)).1,(LM n (l.map OF)).2, [])
abbrev Pe (s:kE) (w:List UInt8):kE:=⟨s.fuel,s.out++w,s.alive,s.to,s.val,s.h⟩
theorem o9.res {x:PV} {v:Vl} {c:Int} [h:bU Vl.pv x v]:Wk (.bp [x,.int .i64 c]) (Pk (v,c)):=Wk.bp (.cons NW.wk (.cons (Wk.refl _) .nil))
set_option maxHeartbeats 4000000
instance (priority:=low) bw.PI (e:aj) (Γ D r:List aj) [h:bw Γ D r]:bw (e::Γ) D (e::r):=⟨(h.p.cons e).trans List.perm_middle.symm⟩
def Fa (b:Nat) (cs:List PV) (x y:PV):Prop:= ∀ F v,(∀ o u,aB F (.ptr b o) u→aB F (.ep (cs.drop o)) u)→aB F x v→aB F y v
inductive uk (b:Nat) (cs:List PV):List PV→List PV→Prop
 | nil:uk b cs [] []
 | cons {x y:PV} {xs ys:List PV}:Fa b cs x y→uk b cs xs ys→uk b cs (x::xs) (y::ys)
theorem Fa.of {b:Nat} {cs:List PV} {x y:PV} (h:Wk x y):Fa b cs x y:=fun F v _ r=>h F v r
theorem Fa.ep {b:Nat} {cs:List PV}:Fa b cs (.ptr b 0) (.ep cs):=fun _ v h r=>h 0 v r
theorem uk.rep {b:Nat} {cs:List PV} {F:Fz} (hF: ∀ o u,aB F (.ptr b o) u→aB F (.ep (cs.drop o)) u): ∀ {xs ys:List PV} {vs:List Value},uk b cs xs ys→ay F xs vs→ay F ys vs
 | _,_, [],.nil,h=>h
 | _,_,_::_,.nil,h=>h
 | _,_, [],.cons _ _,h=>by simp only[ay] at h
 | _,_,v::vs,.cons h1 h2,h=>by
  simp only[ay] at h ⊢;exact ⟨h1 _ _ hF h.1,uk.rep hF h2 h.2⟩
theorem uk.oS {b:Nat} {cs:List PV} {F:Fz} (hF: ∀ o u,aB F (.ptr b o) u→aB F (.ep (cs.drop o)) u): ∀ {xs ys:List PV} {vs:List Value},uk b cs xs ys→aQ F xs vs→aQ F ys vs
 | _,_, [],.nil,h=>h
 | _,_,_::_,.nil,h=>h
 | _,_, [],.cons _ _,h=>by simp only[aQ] at h
 | _,_,v::vs,.cons h1 h2,h=>by
  simp only[aQ] at h ⊢;exact ⟨⟨h.1.1,h1 _ _ hF h.1.2⟩,uk.oS hF h2 h.2⟩
theorem Fa.agg {b:Nat} {cs xs ys:List PV} (h:uk b cs xs ys):Fa b cs (.agg xs) (.agg ys):=fun F v hF r=>by
 simp only[aB] at r ⊢;obtain ⟨vs,h1,h2⟩:=r;exact ⟨vs,h1,h.oS hF h2⟩
theorem Fa.bp {b:Nat} {cs xs ys:List PV} (h:uk b cs xs ys):Fa b cs (.bp xs) (.bp ys):=fun F v hF r=>by
 simp only[aB] at r ⊢;obtain ⟨vs,h1,h2⟩:=r;exact ⟨vs,h1,h.rep hF h2⟩
theorem ak.O8 {b:Nat} {cs:List PV} {x y:PV} {Γ Γ1 Γ' Γ2:List aj} {Q:PV→List aj→Prop} [hp:iE Γ (.box b cs) Γ1] [hq:bw Γ1 Γ' Γ2] (h:Fa b cs x y) (q:Q y Γ'):ak x Γ Q:=
 ⟨y,Γ',Shift.trans (Γ':=Γ1) (y:=y) (fun w0 F M w v hS hx=>by
  have hS':=hS.perm (hp.p.append_right M);obtain ⟨F',h1,h2,h3⟩:=aP.freeze (M:=Γ1++M) (by simpa using hS');refine ⟨F',h1,h2,h F' v (fun o u hu=>?_) (aB.mono h1 _ _ hx)⟩;simp only[aB] at hu⊢
  exact ⟨b,o,hu,h3 o⟩) (Shift.wk (Wk.refl _) hq.p),q⟩
theorem aq.HS {P:Program} {f:FuncId} {args args':List PV} {Γ Γ1 Γ2:List aj} {Q K:PV→List aj→Prop} (h:af P f args' Γ1 Q) (hw:aY args args') [hp:bw Γ Γ1 Γ2]
  (k: ∀ y Γ1',Q y Γ1'→ko Γ2 Γ1' fun Γ'=>K y Γ'):aq P f args Γ K:=by
 refine ⟨.inl (((h.wk hw).frame hp.p).shift ?_)⟩;rintro y Γ' ⟨Γ1',rfl,hq⟩;have:=k y Γ1' hq;rw[eX] at this;exact ⟨y,Γ2++Γ1',Shift.wk (Wk.refl _) (Γ1:= []) (by rw[List.append_nil];exact List.perm_append_comm),this⟩
theorem N0 {Γ:List aj} {K:List aj→Prop} (h:K Γ):ko Γ [] K:=by rw[eX,List.append_nil];exact h
abbrev bC (s:kE):kE:=⟨s.fuel - 1,s.out,s.alive,s.to,s.val,s.h⟩
section
variable (b:Nat) (K:List Vl) (tk:Tok) (s:kE) (t:aa) (e:iD)
theorem Fw {p q:Prop} (k:q) (h:q→p:=by intro hq;first | exact aE.sP (some 32) rfl [] [8,9] ai mixed hq | exact aE.sP (some 73) rfl [] [11,12,13,14] ai mixed hq):p:=h k
theorem Ko (h0:0 < s.fuel∧s.fuel≤1000000) (ho:t.op=4) (hl:t.t.length=1):
  af Tryz.prog 70 [.ptr b 0,.agg t.cells,cB e,.nil] (eB b K tk s) (fun y Γ'=>y=.bp [.agg (gO (.mk 8 0 0 [] [] (some ⟨t.v,t.n == 1,t.t[0],e⟩) none)),.int .i64 0]∧Γ'=eB b K tk (bC s)):=by
 rcases e with _ | ⟨⟨w,c⟩,e⟩
 all_goals
  refine af.ah ai Tryz.func70 rfl rfl (n:=181) rfl rfl ?_
  conv=>whnf
  repeat' (first|refine aX ?_|((first|refine Fw ?_|intro _);conv=>whnf)|(refine zX (fun hc=>?_) (fun hc=>?_)<;>(try simp only[SY] at hc)<;>first|omega|(conv=>whnf)))
  rename_i b3 b2 b1;exact ak.O8 (b:=b1) (y:=.bp [.agg (gO (.mk 8 0 0 [] [] (some ⟨t.v,t.n == 1,t.t[0],_⟩) none)),.int .i64 0]) (Γ':=eB b K tk (bC s)) (Fa.bp (.cons (Fa.agg (.cons (.of (Wk.refl _)) (.cons (.of (Wk.refl _)) (.cons (.of (Wk.refl _)) (.cons (.of (Wk.refl _)) (.cons (.of (Wk.eg rfl)) (.cons Fa.ep (.cons (.of (Wk.refl _)) .nil)))))))) (.cons (.of (Wk.refl _)) .nil))) ⟨rfl,rfl⟩
end
end Go.Cb


