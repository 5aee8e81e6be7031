/-
 Contracts: the document's check of programs.
 Plain law: a program's term, and the document's: where no name is lost they are the same.
 Drawn regions in two stages: stable operations, a chain, stable operations, a chain.
 Calls among entries that end in entries unknown.
 Drawn regions with allocations that may come at any time.
 Indices within bounds by a condition.
 More for the walk: elements within bounds on a condition; what values are as data; appends.
 Appends onto rows of one's own; maps from numbers.
 Contracts: the program's check of terms: variables are bound.
 Contracts: package slices with functions that change what they hold.
 Contracts: the program's check of terms: what is done at the end.
 Contracts: the program's check of terms: whether a term is right.
 Plain law: the program's check of a term and the document's answer alike.
 Plain law: the program's data and the document's are right alike.
 Contracts: the program's check of programs.
 Plain law: the program's check of programs and the document's answer alike.
 Modules: the check of their codes, and that both answers are alike.
 The document's machine: its values and how they lie in memory.
 Plain law: the document's reading goes on, and needs no more fuel than there are bytes.
 Contracts: the document's reader: blanks, marks, failure.
 Contracts: the document's reader: lists, data.
 Drawn regions with two effects that no order binds to one another: both orders are walked.
 Drawn regions with a read that no order binds to two effects: it is walked at each place.
 Drawn regions whose effects may come in several orders: a tree of what may come next.
-/
import Derived.Test.YtkcbpdpiodgaiaaGreatDoorC3
set_option linter.unusedSimpArgs false
set_option linter.unusedVariables false
namespace Go.Cb
open Go.Proofs
set_option maxRecDepth 100000
set_option maxHeartbeats 4000000
structure Prog where
 consts:List Datum
 body:aa
def Prog.cells (p:Prog):List PV:=.sl 5 (p.consts.map Datum.pv) none::p.body.cells
def yZ (p:Prog) (level:Int):Int:=
 if (decide (level < 0) || decide (level > 2))=true then 1 else
 if (p.consts.all (fun d=>d.cM 0) && (p.body.wI level p.consts.length 0 false [] 0 0 []).isSome)=true then 0 else 5
structure Ql where
 p:Prog
 e:Int
open Go.RowKit (Below)
section
variable {P:Program} {tt:Nat→TI}
structure dM (ops:Array Oper) (bK:List Nat) (A R1 R2:List Nat):Prop where
 pa:A.Pairwise fun j i=>gl bK i j=true∨bn ops j i=true
 par: ∀ j∈A, ∀ i∈R1,gl bK i j=true∨bn ops j i=true
 r1:R1.Pairwise fun j i=>gl bK i j=true
 tl: ∀ j∈A++R1, ∀ i∈R2,gl bK i j=true
 ug: ∀ i∈R1, ∀ o,ops[i]?=some o→o.guard=none
 nd: ∀ i∈R1, ∀ o,ops[i]?=some o→jP o.op=true
theorem dM.pY {ops:Array Oper} {bK A1 A2 R1 R2:List Nat} {i:Nat} (h:dM ops bK (A1++i::A2) R1 R2):dM ops bK (A1++A2) R1 R2:=by
 have hs:List.Sublist (A1++A2) (A1++i::A2):=List.Sublist.append (List.Sublist.refl _) (List.sublist_cons_self _ _);refine ⟨h.pa.sublist hs,fun j hj=>h.par j (hs.subset hj),h.r1,fun j hj=>h.tl j ?_,h.ug,h.nd⟩
 ·exact (List.Sublist.append hs (List.Sublist.refl R1)).subset hj
theorem dM.En {ops:Array Oper} {bK A R1 R2:List Nat} {i:Nat} (h:dM ops bK A (i::R1) R2):dM ops bK A R1 R2:=by
 have hs:List.Sublist (A++R1) (A++i::R1):=List.Sublist.append (List.Sublist.refl _) (List.sublist_cons_self _ _);exact ⟨h.pa,fun j hj i hi=>h.par j hj i (by simp[hi]),(List.pairwise_cons.1 h.r1).2,fun j hj=>h.tl j (hs.subset hj),fun j hj=>h.ug j (by simp[hj]),fun j hj=>h.nd j (by simp[hj])⟩
theorem Eu (hk:TT.ok P tt) (rd:Option Nat) (nn:Nat) {ops:Array Oper} {bK R2:List Nat} (hc:fq ops bK=true) {w0:World} {M Γ2:List ak} {F0:Fz} {ds:List Deferred} {Q':Exit→Act→World→Prop}
  {Tl:List PV→List ak→Prop} (hTl: ∀ (fuel:Nat) (listed:Array Bool) (T:List PV) (Γ:List ak) (F:Fz) (a:Act) (w:World),R2.length≤fuel→Down ops listed→ez ops listed R2→F0.le F→aN w0 F (Γ++M) w→av F T a.tmps.toList→a.defers=ds→
   Tl T Γ→wpAnyIn (cY rd) nn P .any ops Q' fuel listed a w):
  ∀ (n:Nat) (A R1:List Nat) (fuel:Nat) (listed:Array Bool) (T:List PV) (Γ1:List ak) (F:Fz) (a:Act) (w:World),A.length + R1.length=n→n + R2.length≤fuel→
   Down ops listed→ez ops listed (A++(R1++R2))→dM ops bK A R1 R2→F0.le F→aN w0 F (Γ1++(Γ2++M)) w→av F T a.tmps.toList→a.defers=ds→
   (eA P tt ops.toList (A.filterMap (ops[·]?)) T Γ2 fun T'=>bG P tt ops.toList (R1.filterMap (ops[·]?)) T' Γ1 [] fun T2 Γ1' _=>Tl T2 (Γ1'++Γ2))→
   wpAnyIn (cY rd) nn P .any ops Q' fuel listed a w:=by
 intro n
 induction n with
 | zero=>
  intro A R1 fuel listed T Γ1 F a w hn hf hd hp hsp hle hS hT hds h;obtain rfl:A= []:=List.eq_nil_of_length_eq_zero (by omega);obtain rfl:R1= []:=List.eq_nil_of_length_eq_zero (by omega);exact hTl fuel listed T (Γ1++Γ2) F a w (by simp at hn;omega) hd (by simpa using hp) hle (by simpa using hS) hT hds h
 | succ n ih=>
  intro A R1 fuel listed T Γ1 F a w hn hf hd hp hsp hle hS hT hds h
  cases fuel with
  | zero=>omega
  | succ fuel=>
  refine ⟨fun hnil=>?_,fun i hi=>?_⟩
  ·exfalso
   cases hAR:A++(R1++R2) with
   | nil=>simp at hAR;rw[hAR.1,hAR.2.1] at hn;simp at hn
   | cons x xs=>
    rw[hAR] at hp;obtain ⟨k,hk'⟩:=ei hc hp;rw[hnil] at hk';cases hk'
  ·obtain ⟨o,ho⟩:=hp.2.2 i (hp.ready hi)
   have un: ∀ {j:Nat},j∈A++(R1++R2)→gl bK i j=true→False:=fun {j} hj ha=>blocked hc hd i ho ha ((hp.2.1 j).2 hj) hi
   have free: ∀ {j:Nat} {x:Oper},j∈A++(R1++R2)→ops[j]?=some x→(gl bK i j=true∨bn ops j i=true)→x.apart ops o=true:=by
    intro j x hj hx h;rcases h with h | h
    ·exact (un hj h).elim
    ·simpa[bn,hx,ho] using h
   have hmem:=hp.ready hi;rw[List.mem_append,List.mem_append] at hmem;rcases hmem with hm | hm | hm
   ·
    obtain ⟨A1,A2,rfl⟩:=List.append_of_mem hm;rw[dZ ho] at h
    have hap: ∀ x∈A1.filterMap (ops[·]?),x.apart ops o=true:=by
     intro x hx;obtain ⟨j,hj,hx⟩:=List.mem_filterMap.1 hx;exact free (by simp[hj]) hx ((List.pairwise_append.1 hsp.pa).2.2 j hj i (by simp))
    obtain ⟨v,h1,h2⟩:=iz _ T hap h
    have hS2:aN w0 F (Γ2++(Γ1++M)) w:=hS.perm (by
     rw[←List.append_assoc, ←List.append_assoc]
     exact List.perm_append_comm.append_right M)
    unfold wpOpIn;simp only[ho];have key:=iA hk (rd:=rd) (nn:=nn) (Q:=Q') (next:=fun a w=>wpAnyIn (cY rd) nn P .any ops Q' fuel (listed.setIfInBounds i true) a w) hS2 hT h1 ?_
    ·split at key<;>rename_i hw
     ·rw[if_pos hw];exact key
     ·rw[if_neg hw];exact ⟨fun _ _=>trivial,key⟩
    intro F' u w' hle' hS' hx
    refine ih (A1++A2) R1 fuel _ (eX T o.dst v) Γ1 F' _ w' (by simp at hn ⊢; omega) (by omega) (hd.set hi) ?_ hsp.pY (Fz.le_trans hle hle') ?_ (dm (av.mono hle' _ _ hT) hx o.dst)
     ((put_defers a o.dst u).trans hds) ?_
    ·have:=ez.set (l1:=A1) (l2:=A2++(R1++R2)) (i:=i) (by simpa using hp)
     rwa [List.append_assoc]
    ·exact hS'.perm (by
      rw[←List.append_assoc, ←List.append_assoc]
      exact List.perm_append_comm.append_right M)
    ·rw[List.filterMap_append];exact h2
   ·
    cases R1 with
    | nil=>cases hm
    | cons r R1=>
     rcases List.mem_cons.1 hm with hir | hir
     ·subst hir
      have hg:o.guard=none:=hsp.ug i (by simp) o ho;have e1:(i::R1).filterMap (ops[·]?)=o::R1.filterMap (ops[·]?):=by rw[List.filterMap_cons,ho]
      rw[e1] at h
      have hap: ∀ x∈A.filterMap (ops[·]?),x.apart ops o=true:=by
       intro x hx;obtain ⟨j,hj,hx⟩:=List.mem_filterMap.1 hx;exact free (by simp[hj]) hx (hsp.par j hj i (by simp))
      have h2:=gM (kk:=fun T' Γ1'=>bG P tt ops.toList (R1.filterMap (ops[·]?)) T' Γ1' [] fun T2 Γ1' _=>Tl T2 (Γ1'++Γ2)) _ T hap (by
       have hnd:=hsp.nd i (by simp) o ho
       simpa only[bG,hg,eR hnd,m0] using h)
      unfold wpOpIn;simp only[ho];rw[if_pos (by simp[Region.wanted,hg])];refine dX hk (M:=Γ2++M) hS hT h2 ?_;rintro F' x Γ' v' w' hle' hS' hx hK
      refine ih A R1 fuel _ (eX T o.dst x) Γ' F' _ w' (by simp at hn ⊢; omega) (by omega) (hd.set hi) ?_ hsp.En (Fz.le_trans hle hle') hS' (dm (av.mono hle' _ _ hT) hx o.dst)
       ((put_defers a o.dst v').trans hds) hK
      have:=ez.set (l1:=A) (l2:=R1++R2) (i:=i) (by simpa using hp);simpa using this
     ·exact (un (j:=r) (by simp) ((List.pairwise_cons.1 hsp.r1).1 i hir)).elim
   ·
    exfalso
    cases A with
    | cons j A=>exact un (j:=j) (by simp) (hsp.tl j (by simp) i hm)
    | nil=>
     cases R1 with
     | cons j R1=>exact un (j:=j) (by simp) (hsp.tl j (by simp) i hm)
     | nil=>simp at hn
def Au (ops:Array Oper) (bK A R1 B R2:List Nat):Bool:=
 fq ops bK &&
 fe (fun j i=>gl bK i j || bn ops j i) A && A.all (fun j=>R1.all fun i=>gl bK i j || bn ops j i) &&
 fe (fun j i=>gl bK i j) R1 && (A++R1).all (fun j=>(B++R2).all fun i=>gl bK i j) &&
 R1.all (fun i=>match ops[i]? with | some o=>o.guard.isNone | none=>false) && (R1++R2).all (fun i=>match ops[i]? with | some o=>jP o.op | none=>false) &&
 fe (fun j i=>gl bK i j || bn ops j i) B && fe (fun j i=>gl bK i j) R2 && B.all (fun j=>R2.all fun i=>gl bK i j) &&
 fe (fun j i=>!(Nat.beq j i)) (A++(R1++(B++R2))) && (List.range ops.size).all (fun i=>(A++(R1++(B++R2))).contains i) && (A++(R1++(B++R2))).all (fun i=>Nat.blt i ops.size)
theorem dM.of {ops:Array Oper} {bK A R1 B R2:List Nat} (h:Au ops bK A R1 B R2=true):
  fq ops bK=true∧dM ops bK A R1 (B++R2)∧Split ops bK B [] R2∧ez ops (Array.replicate ops.size false) (A++(R1++(B++R2))):=by
 simp only[Au,Bool.and_eq_true] at h;obtain ⟨⟨⟨⟨⟨⟨⟨⟨⟨⟨⟨⟨h0,h1⟩,h2⟩,h3⟩,h5⟩,h6⟩,h6'⟩,b1⟩,b2⟩,b3⟩,h7⟩,h8⟩,h9⟩:=h
 have hlt: ∀ i∈A++(R1++(B++R2)),i < ops.size:=fun i hi=>by
  have:=List.all_eq_true.1 h9 i hi;simpa[Nat.blt,Nat.succ_le_iff] using this
 have hnd: ∀ i∈R1++R2, ∀ o,ops[i]?=some o→jP o.op=true:=by
  intro i hi o ho;have:=List.all_eq_true.1 h6' i hi;rw[ho] at this;exact this
 refine ⟨h0,⟨?_,?_,bP h3,?_,?_,fun i hi=>hnd i (by simp[hi])⟩,⟨?_,fun _ _ _ h=>(by cases h),List.Pairwise.nil,bP b2,?_,fun _ h=>(by cases h),fun i hi=>hnd i (by simpa using .inr (by simpa using hi))⟩,?_,?_,?_⟩
 ·exact (bP h1).imp fun h=>by simpa using h
 ·intro j hj i hi
  have:=List.all_eq_true.1 (List.all_eq_true.1 h2 j hj) i hi;simpa using this
 ·intro j hj i hi
  exact List.all_eq_true.1 (List.all_eq_true.1 h5 j hj) i hi
 ·intro i hi o ho
  have:=List.all_eq_true.1 h6 i hi;rw[ho] at this;simpa using this
 ·exact (bP b1).imp fun h=>by simpa using h
 ·intro j hj i hi
  exact List.all_eq_true.1 (List.all_eq_true.1 b3 j (by simpa using hj)) i hi
 ·exact (bP h7).imp fun h=>by
   intro e;subst e;simp at h
 ·intro i
  constructor
  ·intro hi
   rcases Nat.lt_or_ge i ops.size with h' | h'
   ·have:=List.all_eq_true.1 h8 i (List.mem_range.2 h')
    simpa only[List.contains_iff_mem] using this
   ·simp[Array.getElem?_eq_none,h'] at hi
  ·intro hi
   simp[hlt i hi]
 ·intro i hi
  exact ⟨_,Array.getElem?_eq_getElem (hlt i hi)⟩
theorem aC.Jh (hk:TT.ok P tt) (hm:P.follows .mixedOrders=true) {ops:Array Oper} {T:List PV} {Γ Γ2:List ak} {K:List PV→List ak→Prop} (bK A R1 B R2:List Nat) (Γ1:List ak)
  (hchk:Au ops bK A R1 B R2=true) [hp:cr Γ Γ1 Γ2]
  (h:eA P tt ops.toList (aZ ops.toList A) T Γ2 fun T'=>bG P tt ops.toList (aZ ops.toList R1) T' Γ1 [] fun T2 Γ1' _=>ic Γ1' Γ2 fun Γ'=>
   eA P tt ops.toList (aZ ops.toList B) T2 Γ' fun T3=>bG P tt ops.toList (aZ ops.toList R2) T3 Γ' [] fun T' Γ' _=>K T' Γ'):aC P ops T Γ K:=by
 refine ⟨fun rd nn id w0 F M w a Q' hS hT hQ=>wpIn_region_any hm ?_⟩;obtain ⟨hc,hsp,hsp2,hpend⟩:=dM.of hchk
 have hlen:A.length + R1.length + (B++R2).length≤ops.size:=by
  have hsub:(A++(R1++(B++R2))) ⊆ List.range ops.size:=fun i hi=>by
   obtain ⟨o,ho⟩:=hpend.2.2 i hi;exact List.mem_range.2 (Array.getElem?_eq_some_iff.1 ho).1
  have:=hpend.1.length_le_of_subset hsub;simpa[Nat.add_assoc] using this
 have hS':aN w0 F (Γ1++(Γ2++M)) { w with drawn:=w.drawn + 1 }:=by
  have:=(hS.perm (hp.p.append_right M)).of_heap (w':={ w with drawn:=w.drawn + 1 }) rfl rfl rfl rfl;simpa using this
 refine Eu hk rd nn hc (R2:=B++R2) (F0:=F) (ds:=a.defers) (Tl:=fun T2 Γ'=>eA P tt ops.toList (aZ ops.toList B) T2 Γ' fun T3=>bG P tt ops.toList (aZ ops.toList R2) T3 Γ' [] fun T' Γ' _=>K T' Γ') ?_ _ A R1 ops.size _ T Γ1 F a _ rfl hlen ?_ hpend hsp (Fz.le_refl F) hS' hT rfl ?_
 ·intro fuel listed T2 Γ' F' a' w' hf hd hpd hle hS2 hT2 hds ht
  refine Kg hk rd nn hc (R2:=R2) (F0:=F) (ds:=a.defers) hQ _ B [] fuel listed T2 [] F' a' w' rfl (by simpa using hf) hd (by simpa using hpd) hsp2 hle (Γ2:=Γ') (by simpa using hS2) hT2 hds ?_;simpa only[gi,Array.getElem?_toList,List.filterMap_nil,bG,List.nil_append] using ht
 ·intro k o hk'
  rcases Nat.lt_or_ge k ops.size with h' | h'
  ·simp[h'] at hk'
  ·intro ho
   have:=(Array.getElem?_eq_some_iff.1 ho).1;omega
 ·simpa only[gi,Array.getElem?_toList,eS] using h
theorem kD.go {f:FuncId} {args args':List PV} {Γ Γ1 Γ2:List ak} {Q K:PV→List ak→Prop} (h:mA P f args' Γ1 Q) (hw:bU args args') [hp:cr Γ Γ1 Γ2]
  (k: ∀ y Γ1',Q y Γ1'→ic Γ1' Γ2 fun Γ'=>K y Γ'):kD P f args Γ K:=kD.gen h hw (hp:=hp) fun y Γ1' hq=>by have:=k y Γ1' hq;rwa [eS] at this
theorem tE.hi {sz:Nat} {Γ:List ak} {t:Tok} {es:List PV} {put:Tok→List PV→List ak} [hp:dR Γ t es put] {k:IntKind} {n:Int} {i:Nat} [x:fQ n i] {K:PV→List ak→Prop} (hs:t.s=sz) (h0:0≤n) (hl:n≤es.length)
  (hk: ∀ t':Tok,t'.e=t.e→t'.s=t.s→K (.ms t') (put t' (es.take i))):nx sz t none (some (.int k n)) Γ K:=by
 obtain ⟨Γ1,Γ2,h1,h2⟩:=hp.at_;have e:=x.eq h0;exact ⟨.inl ⟨es,Γ1,Γ2,i,h1,hs,rfl,e,by omega,fun t' a b=>by rw[←h2];exact hk t' a b⟩⟩
theorem nx.tail {sz:Nat} {Γ:List ak} {t:Tok} {es:List PV} {put:Tok→List PV→List ak} [hp:dR Γ t es put] {k:IntKind} {n:Int} {i:Nat} [x:fQ n i] {K:PV→List ak→Prop} (hs:t.s=sz) (h0:0≤n) (hl:n≤es.length)
  (hk: ∀ v,wm t i v→K (.sc v) Γ):nx sz t (some (.int k n)) none Γ K:=by
 obtain ⟨Γ1,Γ2,h1,h2⟩:=hp.at_;have e:=x.eq h0;exact ⟨.inr ⟨rfl,es,i,by rw[h1];simp,hs,e,by omega,hk⟩⟩
theorem uq.at_ {Γ:List ak} {t:Tok} {es:List PV} {put:Tok→List PV→List ak} [hp:dR Γ t es put] {k:IntKind} {n:Int} {l:Nat} {v:Value} {K:List ak→Prop} (hv:wm t l v) (hs:t.s=1) (hl:l≤es.length)
  (hk:K (put t (es.take l++List.replicate (es.length - l) (.int k n)))):uq (.int k n) v Γ K:=by
 obtain ⟨Γ1,Γ2,h1,h2⟩:=hp.at_;rw[h2] at hk;exact ⟨k,n,rfl,t,es,l,Γ1,Γ2,hv,h1,hs,hl,hk⟩
end
section
variable {P:Program} {tt:Nat→TI}
theorem fB.C2 {l:Nat} {args:List PV} {Γ Γ1 Γ2:List ak} {Q:PV→List ak→Prop} (h:fB P l args Γ1 Q) (hp:Γ.Perm (Γ2++Γ1)):fB P l args Γ fun y Γ'=> ∃ Γ1',Γ'=Γ2++Γ1'∧Q y Γ1':=fun w0 F M w vs hS hT=>by
 have hS':aN w0 F (Γ1++(Γ2++M)) w:=hS.perm (by
  rw[←List.append_assoc]
  exact (hp.trans List.perm_append_comm).append_right M)
 obtain ⟨fn,tmps,assign,body,h1,h2⟩:=h w0 F (Γ2++M) w vs hS' hT;refine ⟨fn,tmps,assign,body,h1,h2.mono ?_⟩;rintro _ _ ⟨v,F',y,Γ',e1,e2,e3,e4,e5⟩
 exact ⟨v,F',y,Γ2++Γ',e1,e2,e3.perm (by
  rw[←List.append_assoc]
  exact List.perm_append_comm.append_right M),e4,Γ',rfl,e5⟩
theorem ah.C2 {f:FuncId} {args:List PV} {Γ Γ1 Γ2:List ak} {Q:PV→List ak→Prop} (h:ah P f args Γ1 Q) (hp:Γ.Perm (Γ2++Γ1)):ah P f args Γ fun y Γ'=> ∃ Γ1',Γ'=Γ2++Γ1'∧Q y Γ1':=
 ⟨h.1,fun w0 F M w vs hS hT=>by
  have hS':aN w0 F (Γ1++(Γ2++M)) w:=hS.perm (by
   rw[←List.append_assoc]
   exact (hp.trans List.perm_append_comm).append_right M)
  refine (h.2 w0 F (Γ2++M) w vs hS' hT).mono ?_;rintro _ _ ⟨v,F',y,Γ',e1,e2,e3,e4,e5⟩
  exact ⟨v,F',y,Γ2++Γ',e1,e2,e3.perm (by
   rw[←List.append_assoc]
   exact List.perm_append_comm.append_right M),e4,Γ',rfl,e5⟩⟩
theorem lD.LJ {l:Nat} {args args':List PV} {Γ Γ1:List ak} (Γ2:List ak) {Q K:PV→List ak→Prop} (h:fB P l args' Γ1 Q) (hw:bU args args') (hp:Γ.Perm (Γ2++Γ1)) (k: ∀ y Γ1',Q y Γ1'→ic Γ2 Γ1' fun Γ'=>K y Γ'):lD P l args Γ K:=
 ⟨((h.wk hw).C2 hp).mono fun y Γ' ⟨Γ1',e,hq⟩=>by have:=k y Γ1' hq;rw[eS] at this;rw[e];exact this⟩
theorem au.LJ {f:FuncId} {args args':List PV} {Γ Γ1:List ak} (Γ2:List ak) {Q K:PV→List ak→Prop} (h:ah P f args' Γ1 Q) (hw:bU args args') (hp:Γ.Perm (Γ2++Γ1)) (k: ∀ y Γ1',Q y Γ1'→ic Γ2 Γ1' fun Γ'=>K y Γ'):au P f args Γ K:=
 au.same ((h.wk hw).C2 hp) (bU.refl _) fun y Γ' ⟨Γ1',e,hq⟩=>by have:=k y Γ1' hq;rw[eS] at this;rw[e];exact this
end
section
variable {P:Program} {tt:Nat→TI}
def u0 (tt:Nat→TI):Op→Option (Nat→PV×ak)
 | .alloc t=>match (tt t).cG with
  | .other=>none
  | _=>some fun b=>(.ptr b 0,.box b ((tt t).zero.map ZK.pv))
 | .makeMap t none=>match (tt t).cG with
  | .mp kt _=>match oP tt (tt kt).cG with
   | some d=>some fun r=>(.mp r,.mp r d (fun _=>none) [])
   | none=>none
  | _=>none
 | _=>none
theorem xD {op:Op} {f:Nat→PV×ak} (h:u0 tt op=some f) {T:List PV} {Γ:List ak} {K:PV→List ak→Prop}:o7 P tt op T Γ K↔ ∀ b,K (f b).1 ((f b).2::Γ):=by
 unfold u0 at h
 split at h
 ·split at h
  ·cases h
  ·rename_i hne
   cases h;simp only[o7,cF]
 ·split at h
  ·rename_i hu
   split at h
   ·rename_i hd
    cases h;simp only[o7,hu,hd]
   ·cases h
  ·cases h
 ·cases h
theorem Bc {op:Op} {f:Nat→PV×ak} (h:u0 tt op=some f):jP op=true:=by
 cases op<;>first | rfl | cases h
def kZ (ops:Array Oper) (i:Nat):Option Tmp:=(ops[i]?).bind (·.dst)
abbrev FE:=Nat→Option (PV×ak)
def eF (ops:Array Oper) (e:FE):List Nat→List PV→List PV
 | [],T=>T
 | i::l,T=>eF ops e l (match e i with
  | some x=>eX T (kZ ops i) x.1
  | none=>T)
theorem Be {β:Type} {f g:Nat→Option β}: ∀ {l:List Nat},(∀ x∈l,f x=g x)→l.filterMap f=l.filterMap g
 | [],_=>rfl
 | x::l,h=>by
  rw[List.forall_mem_cons] at h;rw[List.filterMap_cons,List.filterMap_cons,h.1,Be h.2]
theorem CB {i j:Nat} (h:j≠i):Nat.beq j i=false:=by
 cases hb:Nat.beq j i
 ·rfl
 ·exact (h (Nat.eq_of_beq_eq_true hb)).elim
def jm (e:FE) (l:List Nat):List ak:=l.filterMap fun i=>(e i).map (·.2)
def r7 (e:FE) (i:Nat) (x:PV×ak):FE:=fun j=>if j=i then some x else e j
def dx (e:FE) (l:List Nat):List Nat:=l.filter fun i=>(e i).isNone
theorem FI {e:FE} {l:List Nat} (h: ∀ i∈l,e i=none):jm e l= []:=by
 unfold jm;rw[List.filterMap_eq_nil_iff];intro i hi;rw[h i hi];rfl
theorem xY {ops:Array Oper} {e:FE}: ∀ {l:List Nat} {T:List PV},(∀ i∈l,e i=none)→eF ops e l T=T
 | [],_,_=>rfl
 | i::l,T,h=>by
  rw[List.forall_mem_cons] at h;rw[eF,h.1];exact xY h.2
theorem n9 {e:FE} {i j:Nat} {x:PV×ak} (h:j≠i):r7 e i x j=e j:=by simp[r7,h]
theorem lz {e:FE} {i:Nat} {x:PV×ak}:r7 e i x i=some x:=by simp[r7]
theorem A7 {e:FE} {i:Nat} {x:PV×ak} (he:e i=none): ∀ {l:List Nat},i∈l→l.Nodup→(jm (r7 e i x) l).Perm (x.2::jm e l)
 | [],h,_=>by cases h
 | j::l,h,hn=>by
  rw[List.nodup_cons] at hn;rcases List.mem_cons.1 h with rfl | h
  ·have h1:jm (r7 e i x) l=jm e l:=by
    unfold jm;refine Be fun j hj=>?_;rw[n9 (j:=j) (i:=i) fun e=>hn.1 (e▸hj)]
   unfold jm at h1 ⊢;rw[List.filterMap_cons,List.filterMap_cons,lz,he,h1];exact List.Perm.refl _
  ·have hne:j≠i:=fun e=>hn.1 (e▸h)
   have ih:=A7 (x:=x) he h hn.2;unfold jm at ih ⊢;rw[List.filterMap_cons,List.filterMap_cons,n9 hne]
   cases hj:e j with
   | none=>simpa using ih
   | some y=>
    simp only[Option.map_some];exact (ih.cons _).trans (List.Perm.swap _ _ _)
theorem mY {ops:Array Oper} {e:FE} {d:Option Tmp} {v:PV}: ∀ {l:List Nat} {T:List PV},(∀ i∈l, ∀ k,d=some k→kZ ops i≠some k)→eF ops e l (eX T d v)=eX (eF ops e l T) d v
 | [],_,_=>rfl
 | i::l,T,h=>by
  rw[List.forall_mem_cons] at h;rw[eF,eF]
  cases he:e i with
  | none=>exact mY h.2
  | some x=>
   simp only;rw[rX T h.1];exact mY h.2
theorem vM {ops:Array Oper} {e e':FE}: ∀ {l:List Nat} {T:List PV},(∀ i∈l,e i=e' i)→eF ops e l T=eF ops e' l T
 | [],_,_=>rfl
 | i::l,T,h=>by
  rw[List.forall_mem_cons] at h;rw[eF,eF,h.1];exact vM h.2
theorem BK {ops:Array Oper} {e:FE} {i:Nat} {x:PV×ak} (he:e i=none): ∀ {l:List Nat} {T:List PV},i∈l→l.Nodup→(∀ j∈l,j≠i→ ∀ k,kZ ops i=some k→kZ ops j≠some k)→
  eF ops (r7 e i x) l T=eX (eF ops e l T) (kZ ops i) x.1
 | [],_,h,_,_=>by cases h
 | j::l,T,h,hn,hd=>by
  rw[List.nodup_cons] at hn;rw[List.forall_mem_cons] at hd;rcases List.mem_cons.1 h with rfl | h
  ·rw[eF,eF,lz,he]
   simp only;rw[vM (e:=r7 e i x) (e':=e) fun j hj=>n9 fun e=>hn.1 (e▸hj)];exact mY fun j hj=>hd.2 j hj fun e=>hn.1 (e▸hj)
  ·have hne:j≠i:=fun e=>hn.1 (e▸h)
   rw[eF,eF,n9 hne];exact BK he h hn.2 hd.2
theorem xW {e:FE} {i:Nat} {x:PV×ak} {l l1 l2:List Nat} (hn:l.Nodup) (h:dx e l=l1++i::l2):dx (r7 e i x) l=l1++l2:=by
 have h1:dx (r7 e i x) l=(dx e l).filter fun j=>!(Nat.beq j i):=by
  unfold dx;rw[List.filter_filter];refine List.filter_congr fun j _=>?_;by_cases hj:j=i
  ·subst hj;rw[lz];simp
  ·rw[n9 hj]
   simp[CB hj]
 have hn2:(l1++i::l2).Nodup:=h▸hn.sublist List.filter_sublist;rw[h1,h,List.filter_append,List.filter_cons];have hni:=(List.perm_middle (a:=i) (l₁:=l1) (l₂:=l2)).nodup_iff.1 hn2;rw[List.nodup_cons,List.mem_append,not_or] at hni
 have hf: ∀ m:List Nat,i∉m→m.filter (fun j=>!(Nat.beq j i))=m:=fun m hm=>List.filter_eq_self.2 fun j hj=>by
  rw[CB (j:=j) (i:=i) fun e=>hm (e▸hj)];rfl
 rw[hf l1 hni.1.1,hf l2 hni.1.2];simp
theorem nU {e:FE} {l:List Nat} {i:Nat}:i∈dx e l↔i∈l∧e i=none:=by
 unfold dx;rw[List.mem_filter,Option.isNone_iff_eq_none]
theorem Ep {ops:Array Oper} {e:FE} {o:Oper}: ∀ {l:List Nat} {T:List PV},(∀ i∈l, ∀ k,kZ ops i=some k→k∉o.looksAt ops)→ ∀ y∈o.op.operands.toList,ev (eF ops e l T) y=ev T y
 | [],_,_=>fun _ _=>rfl
 | i::l,T,h=>fun y hy=>by
  rw[List.forall_mem_cons] at h;rw[eF,Ep h.2 y hy]
  cases e i with
  | none=>rfl
  | some x=>exact jK h.1 y hy
theorem xb {ops:Array Oper} {e:FE} {o:Oper} {Γ:List ak} {v:PV}: ∀ {l:List Nat} {T:List PV},(∀ i∈l, ∀ k,kZ ops i=some k→k∉o.looksAt ops)→(SVal P tt ops.toList o (eF ops e l T) Γ v↔SVal P tt ops.toList o T Γ v)
 | [],_,_=>Iff.rfl
 | i::l,T,h=>by
  rw[List.forall_mem_cons] at h;rw[eF,xb h.2]
  cases e i with
  | none=>exact Iff.rfl
  | some x=>exact o9 h.1
def ND (tt:Nat→TI) (ops:Array Oper) (e:FE) (l:List Nat):Prop:= ∀ i∈l,e i=none∨ ∃ o f b,ops[i]?=some o∧u0 tt o.op=some f∧e i=some (f b)
structure Fa (tt:Nat→TI) (ops:Array Oper) (l:List Nat):Prop where
 fl: ∀ i∈l, ∃ o f,ops[i]?=some o∧o.guard=none∧u0 tt o.op=some f
 ff:l.Pairwise fun j i=>bn ops j i=true
 nd:l.Nodup
theorem qO {ops:Array Oper} {j i:Nat} (h:bn ops j i=true): ∀ k,kZ ops i=some k→kZ ops j≠some k:=by
 intro k hk hj;unfold bn at h;unfold kZ at hk hj
 cases hx:ops[j]? with
 | none=>rw[hx] at hj;cases hj
 | some x=>
  cases hy:ops[i]? with
  | none=>rw[hy] at hk;cases hk
  | some y=>
   rw[hx,hy] at h;rw[hx] at hj;rw[hy] at hk;obtain ⟨a1,a2,a3⟩:=Oper.apart_spec h;simp only[Option.bind_some] at hk hj;exact a2 k hj hk
theorem Fa.dst {ops:Array Oper} {l:List Nat} (h:Fa tt ops l): ∀ i∈l, ∀ j∈l,j≠i→ ∀ k,kZ ops i=some k→kZ ops j≠some k:=by
 intro i hi j hj hne k hk hjk
 have key: ∀ {l:List Nat},l.Pairwise (fun j i=>bn ops j i=true)→i∈l→j∈l→bn ops i j=true∨bn ops j i=true:=by
  intro l hp hi hj
  induction l with
  | nil=>cases hi
  | cons x l ih=>
   rw[List.pairwise_cons] at hp;rcases List.mem_cons.1 hi with e1 | h1
   ·rcases List.mem_cons.1 hj with e2 | h2
    ·exact (hne (e2.trans e1.symm)).elim
    ·subst e1;exact .inl (hp.1 j h2)
   ·rcases List.mem_cons.1 hj with e2 | h2
    ·subst e2;exact .inr (hp.1 i h1)
    ·exact ih hp.2 h1 h2
 rcases key h.ff hi hj with h | h
 ·exact qO h k hjk hk
 ·exact qO h k hk hjk
theorem Bd (hk:TT.ok P tt) {rd:Option Nat} {nn:Nat} {ops:Array Oper} {l:List Nat} (hF:Fa tt ops l) {e:FE} {i:Nat} {o:Oper} (hi:i∈l) (he:e i=none) (ho:ops[i]?=some o) (hE:ND tt ops e l)
  {w0:World} {F:Fz} {Γ M:List ak} {w:World} {T:List PV} {a:Act} {next:Act→World→Prop} {Q:Exit→Act→World→Prop} (hS:aN w0 F (Γ++(jm e l++M)) w) (hT:av F (eF ops e l T) a.tmps.toList)
  (hn: ∀ e' F' u w',ND tt ops e' l→e'=r7 e i ((e' i).getD (.any,.tok (aT 0 0)))→F.le F'→aN w0 F' (Γ++(jm e' l++M)) w'→av F' (eF ops e' l T) (a.put o.dst u).tmps.toList→next (a.put o.dst u) w'):
  wpOpIn (cY rd) nn P ops Q i next a w:=by
 obtain ⟨o',f,ho',hg,hf⟩:=hF.fl i hi;rw[ho] at ho';cases ho';unfold wpOpIn;simp only[ho];rw[if_pos (by simp[Region.wanted,hg])]
 have hW:o7 P tt o.op (eF ops e l T) [] fun x Γ'=> ∃ b,x=(f b).1∧Γ'= [(f b).2]:=(xD hf).2 fun b=>⟨b,rfl,rfl⟩
 refine dX hk (Γ:= []) (M:=Γ++(jm e l++M)) hS hT hW ?_;rintro F' x Γ' u w' hle hS' hx ⟨b,rfl,rfl⟩;have hp:=A7 (x:=f b) he hi hF.nd;have hd:kZ ops i=o.dst:=by simp[kZ,ho]
 refine hn (r7 e i (f b)) F' u w' ?_ (by rw[lz];rfl) hle ?_ ?_
 ·intro j hj
  by_cases hji:j=i
  ·subst hji;rw[lz];exact .inr ⟨o,f,b,ho,hf,rfl⟩
  ·rw[n9 hji];exact hE j hj
 ·refine hS'.perm ?_
  have h1:((f b).2::(Γ++(jm e l++M))).Perm (Γ++((f b).2::(jm e l++M))):=List.perm_middle.symm;refine h1.trans ?_
  have h2:((f b).2::(jm e l++M)).Perm (jm (r7 e i (f b)) l++M):=(hp.symm.append_right M)
  exact h2.append_left Γ
 ·rw[BK he hi hF.nd (hF.dst i hi),hd]
  exact dm (av.mono hle _ _ hT) hx o.dst
theorem xE {ops:Array Oper} {e:FE} {K:List PV→List ak→Ds→Prop}: ∀ (l:List Nat) (T:List PV) (Γ:List ak),(∀ i∈l, ∃ o f b,ops[i]?=some o∧o.guard=none∧u0 tt o.op=some f∧e i=some (f b))→
  bG P tt ops.toList (l.filterMap (ops[·]?)) T Γ [] K→ ∃ Γ4,K (eF ops e l T) Γ4 []∧Γ4.Perm (jm e l++Γ)
 | [],T,Γ,_,h=>⟨Γ,h,List.Perm.refl _⟩
 | i::l,T,Γ,hl,h=>by
  rw[List.forall_mem_cons] at hl;obtain ⟨o,f,b,ho,hg,hf,he⟩:=hl.1;rw[List.filterMap_cons,ho] at h;simp only[bG,hg,eR (Bc hf),m0] at h;have h2:=(xD hf).1 h b;obtain ⟨Γ4,h3,h4⟩:=xE l _ _ hl.2 h2;refine ⟨Γ4,?_,h4.trans ?_⟩
  ·rw[eF,he]
   have hd:kZ ops i=o.dst:=by simp[kZ,ho]
   rw[hd];exact h3
  ·unfold jm
   rw[List.filterMap_cons,he];exact List.perm_middle
theorem LI (hk:TT.ok P tt) (rd:Option Nat) (nn:Nat) {ops:Array Oper} {bK Fl R2:List Nat} (hF:Fa tt ops Fl) (hc:fq ops bK=true) {w0:World} {M Γ2:List ak} {F0:Fz} {ds:List Deferred} {Q':Exit→Act→World→Prop}
  {Tl:List PV→List ak→Prop} (hTl: ∀ (fuel:Nat) (listed:Array Bool) (T:List PV) (Γ:List ak) (e:FE) (F:Fz) (a:Act) (w:World),(dx e Fl).length + R2.length≤fuel→Down ops listed→ez ops listed (dx e Fl++R2)→ND tt ops e Fl→F0.le F→
   aN w0 F (Γ++(jm e Fl++M)) w→av F (eF ops e Fl T) a.tmps.toList→a.defers=ds→Tl T Γ→wpAnyIn (cY rd) nn P .any ops Q' fuel listed a w):
  ∀ (n:Nat) (A R1:List Nat) (e:FE) (fuel:Nat) (listed:Array Bool) (T:List PV) (Γ1:List ak) (F:Fz) (a:Act) (w:World),A.length + R1.length + (dx e Fl).length=n→n + R2.length≤fuel→
   Down ops listed→ez ops listed (A++(R1++(dx e Fl++R2)))→dM ops bK A R1 R2→(∀ j∈A++R1, ∀ i∈Fl,bn ops j i=true)→ND tt ops e Fl→F0.le F→aN w0 F (Γ1++(Γ2++(jm e Fl++M))) w→av F (eF ops e Fl T) a.tmps.toList→a.defers=ds→
   (eA P tt ops.toList (A.filterMap (ops[·]?)) T Γ2 fun T'=>bG P tt ops.toList (R1.filterMap (ops[·]?)) T' Γ1 [] fun T2 Γ1' _=>Tl T2 (Γ1'++Γ2))→
   wpAnyIn (cY rd) nn P .any ops Q' fuel listed a w:=by
 intro n
 induction n with
 | zero=>
  intro A R1 e fuel listed T Γ1 F a w hn hf hd hp hsp hfx hE hle hS hT hds h;obtain rfl:A= []:=List.eq_nil_of_length_eq_zero (by omega);obtain rfl:R1= []:=List.eq_nil_of_length_eq_zero (by omega);exact hTl fuel listed T (Γ1++Γ2) e F a w (by simp at hn;rw[hn];simpa using hf) hd (by simpa using hp) hE hle (by simpa using hS) hT hds h
 | succ n ih=>
  intro A R1 e fuel listed T Γ1 F a w hn hf hd hp hsp hfx hE hle hS hT hds h;by_cases hAR0:A= []∧R1= []
  ·obtain ⟨rfl,rfl⟩:=hAR0
   exact hTl fuel listed T (Γ1++Γ2) e F a w (by simp at hn;omega) hd (by simpa using hp) hE hle (by simpa using hS) hT hds h
  cases fuel with
  | zero=>omega
  | succ fuel=>
  refine ⟨fun hnil=>?_,fun i hi=>?_⟩
  ·exfalso
   cases hAR:A++(R1++(dx e Fl++R2)) with
   | nil=>simp at hAR;exact hAR0 ⟨hAR.1,hAR.2.1⟩
   | cons x xs=>
    rw[hAR] at hp;obtain ⟨k,hk'⟩:=ei hc hp;rw[hnil] at hk';cases hk'
  ·obtain ⟨o,ho⟩:=hp.2.2 i (hp.ready hi)
   have un: ∀ {j:Nat},j∈A++(R1++(dx e Fl++R2))→gl bK i j=true→False:=fun {j} hj ha=>blocked hc hd i ho ha ((hp.2.1 j).2 hj) hi
   have free: ∀ {j:Nat} {x:Oper},j∈A++(R1++(dx e Fl++R2))→ops[j]?=some x→(gl bK i j=true∨bn ops j i=true)→x.apart ops o=true:=by
    intro j x hj hx h;rcases h with h | h
    ·exact (un hj h).elim
    ·simpa[bn,hx,ho] using h
   have looks:i∈A++R1→ ∀ f∈Fl, ∀ k,kZ ops f=some k→k∉o.looksAt ops:=by
    intro hiA f hf k hk;have:=hfx i hiA f hf;obtain ⟨of,_,hof,_,_⟩:=hF.fl f hf;simp only[bn,ho,hof] at this;obtain ⟨a1,a2,a3⟩:=Oper.apart_spec this;exact a3 k (by simpa[kZ,hof] using hk)
   have dsts:i∈A++R1→ ∀ f∈Fl, ∀ k,o.dst=some k→kZ ops f≠some k:=by
    intro hiA f hf k hk hfk;exact qO (hfx i hiA f hf) k hfk (by simp[kZ,ho,hk])
   have hmem:=hp.ready hi;rw[List.mem_append,List.mem_append,List.mem_append] at hmem;rcases hmem with hm | hm | hm | hm
   ·
    obtain ⟨A1,A2,rfl⟩:=List.append_of_mem hm;rw[dZ ho] at h
    have hap: ∀ x∈A1.filterMap (ops[·]?),x.apart ops o=true:=by
     intro x hx;obtain ⟨j,hj,hx⟩:=List.mem_filterMap.1 hx;exact free (by simp[hj]) hx ((List.pairwise_append.1 hsp.pa).2.2 j hj i (by simp))
    obtain ⟨v,h1,h2⟩:=iz _ T hap h;have h1':=(xb (e:=e) (looks (by simp))).2 h1
    have hS2:aN w0 F (Γ2++(Γ1++(jm e Fl++M))) w:=hS.perm (by
     rw[←List.append_assoc, ←List.append_assoc Γ2]
     exact List.perm_append_comm.append_right _)
    unfold wpOpIn;simp only[ho];have key:=iA hk (rd:=rd) (nn:=nn) (Q:=Q') (next:=fun a w=>wpAnyIn (cY rd) nn P .any ops Q' fuel (listed.setIfInBounds i true) a w) hS2 hT h1' ?_
    ·split at key<;>rename_i hw
     ·rw[if_pos hw];exact key
     ·rw[if_neg hw];exact ⟨fun _ _=>trivial,key⟩
    intro F' u w' hle' hS' hx
    refine ih (A1++A2) R1 e fuel _ (eX T o.dst v) Γ1 F' _ w' (by simp at hn ⊢; omega) (by omega) (hd.set hi) ?_ hsp.pY (fun j hj=>hfx j ?_) hE (Fz.le_trans hle hle') ?_ ?_
     ((put_defers a o.dst u).trans hds) ?_
    ·have:=ez.set (l1:=A1) (l2:=A2++(R1++(dx e Fl++R2))) (i:=i) (by simpa using hp)
     rwa [List.append_assoc]
    ·simp only[List.mem_append,List.mem_cons] at hj⊢
     rcases hj with (h | h) | h
     ·exact .inl (.inl h)
     ·exact .inl (.inr (.inr h))
     ·exact .inr h
    ·exact hS'.perm (by
      rw[←List.append_assoc, ←List.append_assoc Γ1]
      exact List.perm_append_comm.append_right _)
    ·rw[mY (dsts (by simp))]
     exact dm (av.mono hle' _ _ hT) hx o.dst
    ·rw[List.filterMap_append];exact h2
   ·
    cases R1 with
    | nil=>cases hm
    | cons r R1=>
     rcases List.mem_cons.1 hm with hir | hir
     ·subst hir
      have hg:o.guard=none:=hsp.ug i (by simp) o ho;have e1:(i::R1).filterMap (ops[·]?)=o::R1.filterMap (ops[·]?):=by rw[List.filterMap_cons,ho]
      rw[e1] at h
      have hap: ∀ x∈A.filterMap (ops[·]?),x.apart ops o=true:=by
       intro x hx;obtain ⟨j,hj,hx⟩:=List.mem_filterMap.1 hx;exact free (by simp[hj]) hx (hsp.par j hj i (by simp))
      have h2:=gM (kk:=fun T' Γ1'=>bG P tt ops.toList (R1.filterMap (ops[·]?)) T' Γ1' [] fun T2 Γ1' _=>Tl T2 (Γ1'++Γ2)) _ T hap (by
       have hnd:=hsp.nd i (by simp) o ho
       simpa only[bG,hg,eR hnd,m0] using h)
      have h3:=iD (T':=eF ops e Fl T) (fun y hy=>(Ep (looks (by simp)) y hy).symm) h2;unfold wpOpIn;simp only[ho];rw[if_pos (by simp[Region.wanted,hg])];refine dX hk (M:=Γ2++(jm e Fl++M)) hS hT h3 ?_;rintro F' x Γ' v' w' hle' hS' hx hK
      refine ih A R1 e fuel _ (eX T o.dst x) Γ' F' _ w' (by simp at hn ⊢; omega) (by omega) (hd.set hi) ?_ hsp.En (fun j hj=>hfx j ?_) hE (Fz.le_trans hle hle') hS' ?_
       ((put_defers a o.dst v').trans hds) hK
      ·have:=ez.set (l1:=A) (l2:=R1++(dx e Fl++R2)) (i:=i) (by simpa using hp)
       simpa using this
      ·simp only[List.mem_append,List.mem_cons] at hj⊢
       rcases hj with h | h
       ·exact .inl h
       ·exact .inr (.inr h)
      ·rw[mY (dsts (by simp))]
       exact dm (av.mono hle' _ _ hT) hx o.dst
     ·exact (un (j:=r) (by simp) ((List.pairwise_cons.1 hsp.r1).1 i hir)).elim
   ·
    obtain ⟨hiF,hie⟩:=nU.1 hm;obtain ⟨l1,l2,hl⟩:=List.append_of_mem hm;have hS2:aN w0 F ((Γ1++Γ2)++(jm e Fl++M)) w:=by simpa using hS
    refine Bd hk hF hiF hie ho hE hS2 hT ?_;intro e' F' u w' hE' he' hle' hS' hT';have hpe:dx e' Fl=l1++l2:=by rw[he'];exact xW hF.nd hl
    have hlen:(dx e Fl).length=l1.length + l2.length + 1:=by rw[hl];simp;omega
    refine ih A R1 e' fuel _ T Γ1 F' _ w' (by rw[hpe];simp;omega) (by omega) (hd.set hi) ?_ hsp hfx hE' (Fz.le_trans hle hle') (by simpa using hS') hT' ((put_defers a o.dst u).trans hds) h;rw[hpe];have:=ez.set (l1:=A++(R1++l1)) (l2:=l2++R2) (i:=i) (by rw[hl] at hp;simpa using hp);simpa using this
   ·
    exfalso
    cases A with
    | cons j A=>exact un (j:=j) (by simp) (hsp.tl j (by simp) i hm)
    | nil=>
     cases R1 with
     | cons j R1=>exact un (j:=j) (by simp) (hsp.tl j (by simp) i hm)
     | nil=>exact hAR0 ⟨rfl,rfl⟩
theorem Mz (hk:TT.ok P tt) (rd:Option Nat) (nn:Nat) {ops:Array Oper} {bK Fl R2:List Nat} (hF:Fa tt ops Fl) (hc:fq ops bK=true) (hr2:R2.Pairwise fun j i=>gl bK i j=true) (hfr: ∀ j∈Fl, ∀ i∈R2,gl bK i j=true)
  (hnd: ∀ i∈R2, ∀ o,ops[i]?=some o→jP o.op=true) {w0:World} {M:List ak} {F0:Fz} {ds:List Deferred} {Q':Exit→Act→World→Prop}
  {K:List PV→List ak→Prop} (hQ: ∀ F' T' Γ' a' w',F0.le F'→aN w0 F' (Γ'++M) w'→av F' T' a'.tmps.toList→a'.defers=ds→K T' Γ'→Q' .normal a' w'):
  ∀ (n:Nat) (e:FE) (fuel:Nat) (listed:Array Bool) (T:List PV) (Γ:List ak) (F:Fz) (a:Act) (w:World),(dx e Fl).length=n→n + R2.length≤fuel→
   Down ops listed→ez ops listed (dx e Fl++R2)→ND tt ops e Fl→F0.le F→aN w0 F (Γ++(jm e Fl++M)) w→av F (eF ops e Fl T) a.tmps.toList→a.defers=ds→
   (bG P tt ops.toList (Fl.filterMap (ops[·]?)) T Γ [] fun T4 Γ4 _=>bG P tt ops.toList (R2.filterMap (ops[·]?)) T4 Γ4 [] fun T' Γ' _=>K T' Γ')→
   wpAnyIn (cY rd) nn P .any ops Q' fuel listed a w:=by
 intro n
 induction n with
 | zero=>
  intro e fuel listed T Γ F a w hn hf hd hp hE hle hS hT hds h;have hnil:dx e Fl= []:=List.eq_nil_of_length_eq_zero hn
  obtain ⟨Γ4,h4,hpm⟩:=xE (e:=e) Fl T Γ (fun i hi=>by
   rcases hE i hi with h0 | ⟨o,f,b,ho,hf,he⟩
   ·have:i∈dx e Fl:=nU.2 ⟨hi,h0⟩
    rw[hnil] at this;cases this
   ·obtain ⟨o',f',ho',hg,_⟩:=hF.fl i hi
    rw[ho] at ho';cases ho'
    exact ⟨o,f,b,ho,hg,hf,he⟩) h
  have hS4:aN w0 F (Γ4++M) w:=hS.perm (by
   rw[←List.append_assoc]
   exact (List.perm_append_comm.trans hpm.symm).append_right M)
  refine nw hc R2 fuel listed a w (by omega) hd (by simpa[hnil] using hp) hr2 (gZ (fun _=>trivial) ops _ _ a w ?_)
  refine lF hk rd nn ops (ds:=ds) (K:=fun T' Γ' D'=>D'= []∧K T' Γ') ?_ _ (.inr (quiet_of fun o ho=>by
   obtain ⟨j,hj,ho⟩:=List.mem_filterMap.1 ho
   exact hnd j hj o ho)) _ Γ4 [] F a w hle hS4 hT (by rw[hds];exact kN.nil F ds) (qM _ _ _ _ _ ?_ h4)
  ·rintro F' T' Γ' D' a' w' k1 k2 k3 ⟨new,k4,k5⟩ ⟨rfl,k6⟩
   have:new= []:=by cases new with
    | nil=>rfl
    | cons d l=>exact k5.elim
   subst this;exact hQ F' T' Γ' a' w' k1 k2 k3 k4 k6
  ·intro o ho
   obtain ⟨j,hj,ho⟩:=List.mem_filterMap.1 ho;exact hnd j hj o ho
 | succ n ih=>
  intro e fuel listed T Γ F a w hn hf hd hp hE hle hS hT hds h
  cases fuel with
  | zero=>omega
  | succ fuel=>
  have hpos: ∃ j,j∈dx e Fl:=by
   cases hpe:dx e Fl with
   | nil=>rw[hpe] at hn;cases hn
   | cons j l=>exact ⟨j,by simp⟩
  obtain ⟨j0,hj0⟩:=hpos;refine ⟨fun hnil=>?_,fun i hi=>?_⟩
  ·exfalso
   cases hAR:dx e Fl++R2 with
   | nil=>simp at hAR;rw[hAR.1] at hn;cases hn
   | cons x xs=>
    rw[hAR] at hp;obtain ⟨k,hk'⟩:=ei hc hp;rw[hnil] at hk';cases hk'
  ·obtain ⟨o,ho⟩:=hp.2.2 i (hp.ready hi)
   rcases List.mem_append.1 (hp.ready hi) with hm | hm
   ·obtain ⟨hiF,hie⟩:=nU.1 hm
    obtain ⟨l1,l2,hl⟩:=List.append_of_mem hm;refine Bd hk hF hiF hie ho hE hS hT ?_;intro e' F' u w' hE' he' hle' hS' hT';have hpe:dx e' Fl=l1++l2:=by rw[he'];exact xW hF.nd hl
    have hlen:(dx e Fl).length=l1.length + l2.length + 1:=by rw[hl];simp;omega
    refine ih e' fuel _ T Γ F' _ w' (by rw[hpe];simp;omega) (by omega) (hd.set hi) ?_ hE' (Fz.le_trans hle hle') hS' hT' ((put_defers a o.dst u).trans hds) h;rw[hpe];have:=ez.set (l1:=l1) (l2:=l2++R2) (i:=i) (by rw[hl] at hp;simpa using hp);simpa using this
   ·exact (blocked hc hd i ho (hfr j0 (nU.1 hj0).1 i hm) ((hp.2.1 j0).2 (by simp[hj0])) hi).elim
def Av (tt:Nat→TI) (ops:Array Oper) (bK A R1 B Fl R2:List Nat):Bool:=
 fq ops bK &&
 fe (fun j i=>gl bK i j || bn ops j i) A && A.all (fun j=>R1.all fun i=>gl bK i j || bn ops j i) &&
 fe (fun j i=>gl bK i j) R1 && (A++R1).all (fun j=>(B++R2).all fun i=>gl bK i j) &&
 R1.all (fun i=>match ops[i]? with | some o=>o.guard.isNone | none=>false) && (R1++R2).all (fun i=>match ops[i]? with | some o=>jP o.op | none=>false) &&
 fe (fun j i=>gl bK i j || bn ops j i) B && fe (fun j i=>gl bK i j) R2 && B.all (fun j=>R2.all fun i=>gl bK i j) &&
 Fl.all (fun i=>match ops[i]? with | some o=>o.guard.isNone && (u0 tt o.op).isSome | none=>false) && fe (fun j i=>bn ops j i) Fl && (A++(R1++B)).all (fun j=>Fl.all fun i=>bn ops j i) && Fl.all (fun j=>R2.all fun i=>gl bK i j) &&
 fe (fun j i=>!(Nat.beq j i)) (A++(R1++(B++(Fl++R2)))) && (List.range ops.size).all (fun i=>(A++(R1++(B++(Fl++R2)))).contains i) && (A++(R1++(B++(Fl++R2)))).all (fun i=>Nat.blt i ops.size)
theorem aC.M9 (hk:TT.ok P tt) (hm:P.follows .mixedOrders=true) {ops:Array Oper} {T:List PV} {Γ Γ2:List ak} {K:List PV→List ak→Prop} (bK A R1 B Fl R2:List Nat) (Γ1:List ak)
  (hchk:Av tt ops bK A R1 B Fl R2=true) [hp:cr Γ Γ1 Γ2]
  (h:eA P tt ops.toList (aZ ops.toList A) T Γ2 fun T'=>bG P tt ops.toList (aZ ops.toList R1) T' Γ1 [] fun T2 Γ1' _=>ic Γ1' Γ2 fun Γ'=>
   eA P tt ops.toList (aZ ops.toList B) T2 Γ' fun T3=>bG P tt ops.toList (aZ ops.toList Fl) T3 Γ' [] fun T4 Γ4 _=>bG P tt ops.toList (aZ ops.toList R2) T4 Γ4 [] fun T' Γ' _=>K T' Γ'):aC P ops T Γ K:=by
 refine ⟨fun rd nn id w0 F M w a Q' hS hT hQ=>wpIn_region_any hm ?_⟩;simp only[Av,Bool.and_eq_true] at hchk;obtain ⟨⟨⟨⟨⟨⟨⟨⟨⟨⟨⟨⟨⟨⟨⟨⟨h0,h1⟩,h2⟩,h3⟩,h5⟩,h6⟩,h6'⟩,b1⟩,b2⟩,b3⟩,f1⟩,f2⟩,f3⟩,f4⟩,h7⟩,h8⟩,h9⟩:=hchk
 have hlt: ∀ i∈A++(R1++(B++(Fl++R2))),i < ops.size:=fun i hi=>by
  have:=List.all_eq_true.1 h9 i hi;simpa[Nat.blt,Nat.succ_le_iff] using this
 have hnd: ∀ i∈R1++R2, ∀ o,ops[i]?=some o→jP o.op=true:=by
  intro i hi o ho;have:=List.all_eq_true.1 h6' i hi;rw[ho] at this;exact this
 have hnodup:(A++(R1++(B++(Fl++R2)))).Nodup:=(bP h7).imp fun h=>by
  intro e;subst e;simp at h
 have hpend:ez ops (Array.replicate ops.size false) (A++(R1++(B++(Fl++R2)))):=by
  refine ⟨hnodup,?_,fun i hi=>⟨_,Array.getElem?_eq_getElem (hlt i hi)⟩⟩;intro i;constructor
  ·intro hi
   rcases Nat.lt_or_ge i ops.size with h' | h'
   ·have:=List.all_eq_true.1 h8 i (List.mem_range.2 h')
    simpa only[List.contains_iff_mem] using this
   ·simp[Array.getElem?_eq_none,h'] at hi
  ·intro hi
   simp[hlt i hi]
 have hF:Fa tt ops Fl:=by
  refine ⟨fun i hi=>?_,bP f2,?_⟩
  ·have:=List.all_eq_true.1 f1 i hi
   cases ho:ops[i]? with
   | none=>rw[ho] at this;cases this
   | some o=>
    rw[ho] at this;simp only[Bool.and_eq_true,Option.isNone_iff_eq_none,Option.isSome_iff_exists] at this;obtain ⟨g,f,hf⟩:=this;exact ⟨o,f,rfl,g,hf⟩
  ·exact hnodup.sublist (((List.sublist_append_left Fl R2).trans (List.sublist_append_right B _)).trans ((List.sublist_append_right R1 _).trans (List.sublist_append_right A _)))
 have hs1:dM ops bK A R1 (B++R2):=by
  refine ⟨(bP h1).imp fun h=>by simpa using h,fun j hj i hi=>?_,bP h3,fun j hj i hi=>?_,fun i hi o ho=>?_,fun i hi=>hnd i (by simp[hi])⟩
  ·have:=List.all_eq_true.1 (List.all_eq_true.1 h2 j hj) i hi
   simpa using this
  ·exact List.all_eq_true.1 (List.all_eq_true.1 h5 j hj) i hi
  ·have:=List.all_eq_true.1 h6 i hi
   rw[ho] at this;simpa using this
 have hs2:dM ops bK B [] R2:=by
  refine ⟨(bP b1).imp fun h=>by simpa using h,fun _ _ _ h=>(by cases h),List.Pairwise.nil,fun j hj i hi=>?_,fun _ h=>(by cases h),fun _ h=>(by cases h)⟩;exact List.all_eq_true.1 (List.all_eq_true.1 b3 j (by simpa using hj)) i hi
 have hfx: ∀ j∈A++(R1++B), ∀ i∈Fl,bn ops j i=true:=fun j hj i hi=>List.all_eq_true.1 (List.all_eq_true.1 f3 j hj) i hi;have hfr: ∀ j∈Fl, ∀ i∈R2,gl bK i j=true:=fun j hj i hi=>List.all_eq_true.1 (List.all_eq_true.1 f4 j hj) i hi
 have hlen:A.length + R1.length + (B.length + (Fl.length + R2.length))≤ops.size:=by
  have hsub:(A++(R1++(B++(Fl++R2)))) ⊆ List.range ops.size:=fun i hi=>List.mem_range.2 (hlt i hi);have:=hpend.1.length_le_of_subset hsub;simpa[Nat.add_assoc] using this
 have hS':aN w0 F (Γ1++(Γ2++M)) { w with drawn:=w.drawn + 1 }:=by
  have:=(hS.perm (hp.p.append_right M)).of_heap (w':={ w with drawn:=w.drawn + 1 }) rfl rfl rfl rfl;simpa using this
 have e0: ∀ i∈Fl,(fun _=>none:FE) i=none:=fun _ _=>rfl;have p0:dx (fun _=>none) Fl=Fl:=List.filter_eq_self.2 fun _ _=>rfl
 refine LI hk rd nn hF h0 (w0:=w0) (bK:=bK) (R2:=B++R2) (Γ2:=Γ2) (M:=M) (F0:=F) (ds:=a.defers) (Tl:=fun T2 Γ'=>eA P tt ops.toList (aZ ops.toList B) T2 Γ' fun T3=>bG P tt ops.toList (aZ ops.toList Fl) T3 Γ' [] fun T4 Γ4 _=>bG P tt ops.toList (aZ ops.toList R2) T4 Γ4 [] fun T' Γ' _=>K T' Γ') ?_
  _ A R1 (fun _=>none) ops.size _ T Γ1 F a _ rfl ?_ ?_ ?_ hs1 (fun j hj i hi=>hfx j (by simp only[List.mem_append] at hj ⊢; rcases hj with h | h;exact .inl h;exact .inr (.inl h)) i hi) (fun i hi=>.inl rfl) (Fz.le_refl F) ?_ ?_ rfl ?_
 ·intro fuel listed T2 Γ' e F' a' w' hf hd hpd hE hle hS2 hT2 hds ht
  refine LI hk rd nn hF h0 (w0:=w0) (bK:=bK) (R2:=R2) (Γ2:=Γ') (M:=M) (F0:=F) (ds:=a.defers) (Tl:=fun T3 Γ'=>bG P tt ops.toList (aZ ops.toList Fl) T3 Γ' [] fun T4 Γ4 _=>bG P tt ops.toList (aZ ops.toList R2) T4 Γ4 [] fun T' Γ' _=>K T' Γ') ?_
   _ B [] e fuel listed T2 [] F' a' w' rfl (by simp at hf ⊢; omega) hd ?_ hs2 (fun j hj i hi=>hfx j (by simp at hj ⊢; exact .inr (.inr hj)) i hi) hE hle (by simpa using hS2) hT2 hds ?_
  ·intro fuel3 listed3 T3 Γ3 e3 F3 a3 w3 hf3 hd3 hpd3 hE3 hle3 hS3 hT3 hds3 ht3
   refine Mz hk rd nn hF h0 (bP b2) hfr (fun i hi=>hnd i (by simp[hi])) (F0:=F) (ds:=a.defers) hQ _ e3 fuel3 listed3 T3 Γ3 F3 a3 w3 rfl hf3 hd3 hpd3 hE3 hle3 hS3 hT3 hds3 ?_;simpa only[gi,Array.getElem?_toList] using ht3
  ·simp only[List.nil_append]
   refine ⟨?_,fun i=>?_,fun i hi=>hpd.2.2 i ?_⟩
   ·have hperm:(dx e Fl++(B++R2)).Perm (B++(dx e Fl++R2)):=by
     rw[←List.append_assoc, ←List.append_assoc];exact List.perm_append_comm.append_right R2
    exact hperm.nodup_iff.1 hpd.1
   ·rw[hpd.2.1 i]
    simp only[List.mem_append];constructor
    ·rintro (h | h | h)
     ·exact .inr (.inl h)
     ·exact .inl h
     ·exact .inr (.inr h)
    ·rintro (h | h | h)
     ·exact .inr (.inl h)
     ·exact .inl h
     ·exact .inr (.inr h)
   ·simp only[List.mem_append] at hi⊢
    rcases hi with h | h | h
    ·exact .inr (.inl h)
    ·exact .inl h
    ·exact .inr (.inr h)
  ·simpa only[gi,Array.getElem?_toList,List.filterMap_nil,bG,List.nil_append] using ht
 ·rw[p0];simp;omega
 ·intro k o hk'
  rcases Nat.lt_or_ge k ops.size with h' | h'
  ·simp[h'] at hk'
  ·intro ho
   have:=(Array.getElem?_eq_some_iff.1 ho).1;omega
 ·rw[p0]
  refine ⟨?_,fun i=>?_,fun i hi=>hpend.2.2 i ?_⟩
  ·have hperm:(A++(R1++(B++(Fl++R2)))).Perm (A++(R1++(Fl++(B++R2)))):=by
    refine List.Perm.append_left A (List.Perm.append_left R1 ?_);rw[←List.append_assoc, ←List.append_assoc];exact List.perm_append_comm.append_right R2
   exact hperm.nodup_iff.1 hpend.1
  ·rw[hpend.2.1 i]
   simp only[List.mem_append];constructor
   ·rintro (h | h | h | h | h)
    ·exact .inl h
    ·exact .inr (.inl h)
    ·exact .inr (.inr (.inr (.inl h)))
    ·exact .inr (.inr (.inl h))
    ·exact .inr (.inr (.inr (.inr h)))
   ·rintro (h | h | h | h | h)
    ·exact .inl h
    ·exact .inr (.inl h)
    ·exact .inr (.inr (.inr (.inl h)))
    ·exact .inr (.inr (.inl h))
    ·exact .inr (.inr (.inr (.inr h)))
  ·simp only[List.mem_append] at hi⊢
   rcases hi with h | h | h | h | h
   ·exact .inl h
   ·exact .inr (.inl h)
   ·exact .inr (.inr (.inr (.inl h)))
   ·exact .inr (.inr (.inl h))
   ·exact .inr (.inr (.inr (.inr h)))
 ·rw[FI e0];simpa using hS'
 ·rw[xY e0];exact hT
 ·simpa only[gi,Array.getElem?_toList,eS] using h
theorem aC.sF (d:Option Nat) {ops:Array Oper} (hd:u6 ops=d) (Γ1:List ak) (R1 B Fl R2:List Nat) (hk:TT.ok P tt) (hm:P.follows .mixedOrders=true) {T:List PV} {Γ Γ2:List ak} {K:List PV→List ak→Prop} [hp:cr Γ Γ1 Γ2]
  (h:eA P tt ops.toList (aZ ops.toList (kz ops.toList 0 (R1++(B++(Fl++R2))))) T Γ2 fun T'=>bG P tt ops.toList (aZ ops.toList R1) T' Γ1 [] fun T2 Γ1' _=>ic Γ1' Γ2 fun Γ'=>
   eA P tt ops.toList (aZ ops.toList B) T2 Γ' fun T3=>bG P tt ops.toList (aZ ops.toList Fl) T3 Γ' [] fun T4 Γ4 _=>bG P tt ops.toList (aZ ops.toList R2) T4 Γ4 [] fun T' Γ' _=>K T' Γ')
  (hchk:Av tt ops (wh ops.toList []) (kz ops.toList 0 (R1++(B++(Fl++R2)))) R1 B Fl R2=true:=by kernel_rfl):aC P ops T Γ K:=
 aC.M9 hk hm _ _ R1 B Fl R2 Γ1 hchk h
end
theorem dQ.P6 {α:Type} {f:α→PV} {g:α→List PV} [c:ec f g] {sz:Nat} {l:List α} {tk:Option Tok} {k:IntKind} {n:Int} {i:Nat} [x:fQ n i] {K:PV→Prop} (d:α) (h0:0≤n) (h:n < l.length)
  (hk:K (.ep (g (l.getD i d)))):dQ sz (.sl sz (l.map f) tk) (.int k n) K:=by
 have hi:=fQ.lt h0 h;refine dQ.ix h0 h ?_;have e:l.getD i d=l[i]:=by simp[List.getD,hi]
 rwa [e] at hk
class Lv (α:Type) where
 d:α
instance:Lv Int:=⟨0⟩
instance:Lv UInt8:=⟨0⟩
instance:Lv aa:=⟨.mk 0 0 [] []⟩
instance:Lv Datum:=⟨.mk 0 0 0 [] []⟩
theorem Qj {α:Type} {f:α→PV} {g:α→List PV} [c:ec f g] {sz:Nat} {l:List α} {tk:Option Tok} {k:IntKind} {n:Int} {i:Nat} [x:fQ n i] {K:PV→Prop} [q:Lv α] (h0:0≤n) (h:n < l.length)
  (hk:K (.ep (g (l.getD i q.d)))):dQ sz (.sl sz (l.map f) tk) (.int k n) K:=dQ.P6 q.d h0 h hk
theorem PU {p:Prop} (h:p:=by
 conv=>whnf
 repeat ((first|(refine zW ?_ ?_;exact gA)|refine zH rfl ?_|refine zA ?_|refine zI bA ?_|refine zI rfl ?_|refine zJ rfl rfl ?_|refine zB ?_|refine zK rfl ?_|refine zL rfl ?_|refine zC ?_|(refine zO ?_ ?_ ?_;exact OA;exact OA)|(refine Qj ?_ ?_ ?_;exact OA;exact OA)|refine zM rfl ?_|(refine zQ ?_ ?_ ?_;exact OA;exact OA)|(refine zR ?_ ?_;exact OA)|(refine zI ?_ ?_;exact NA)|(refine zS ?_ ?_ ?_;exact OA;exact OA)|(refine zT ?_ ?_ ?_;exact OA;exact OA)|(refine zU ?_ ?_ ?_;exact OA;exact OA)|(refine zV ?_ ?_ ?_;exact OA;exact OA)|intro _);conv=>whnf)
 first | exact bV.same | exact bV.lit | exact bV.ep):p:=h
class dy {α:Type} (f:α→PV) (x:PV) (v:outParam α):Prop where
 wk:Wk x (f v)
 wl:ia x.cellsOf (f v).cellsOf
class oo {α:Type} (f:α→PV) (es:List PV) (l:outParam (List α)):Prop where
 h:hY es (l.map f)
class mh {α:Type} (f:α→PV) (s:Nat) (x:PV) (l:outParam (List α)):Prop where
 wk:Wk x (.sl s (l.map f) none)
instance (priority:=high) oo.map {α:Type} (f:α→PV) (l:List α):oo f (l.map f) l:=⟨hY.refl _⟩
instance oo.nil {α:Type} (f:α→PV):oo f [] []:=⟨.nil⟩
instance oo.cons {α:Type} (f:α→PV) (x:PV) (es:List PV) (v:α) (l:List α) [h:dy f x v] [k:oo f es l]:oo f (x::es) (v::l):=⟨.cons h.wl k.h⟩
instance mh.nil {α:Type} (f:α→PV) (s:Nat):mh f s .nil []:=⟨Wk.lp rfl⟩
instance mh.sl {α:Type} (f:α→PV) (s:Nat) (es:List PV) (l:List α) (tk:Option Tok) [h:oo f es l]:mh f s (.sl s es tk) l:=⟨Wk.trans (Wk.tok _ _ _) (Wk.row h.h)⟩
instance (k:IntKind) (n:Int):dy (PV.int k) (.int k n) n:=⟨Wk.refl _,ia.refl _⟩
instance (b:Bool):dy PV.bool (.bool b) b:=⟨Wk.refl _,ia.refl _⟩
instance (s:List UInt8):dy PV.str (.str s) s:=⟨Wk.refl _,ia.refl _⟩
instance (priority:=high) dy.same (t:aa):dy aa.pv (aa.pv t) t:=⟨Wk.refl _,ia.refl _⟩
instance (priority:=high) dy.cells (t:aa):dy aa.pv (.agg t.cells) t:=⟨by rw[aa.gC];exact Wk.refl _,by rw[aa.gC];exact ia.refl _⟩
theorem dy.PK {x:List PV} {t:aa} (h:ia x t.cells):dy aa.pv (.agg x) t:=⟨by rw[aa.gC];exact Wk.agg h,by rw[aa.gC];exact h⟩
instance (priority:=high) dy.parts (t:aa) (tk1 tk2:Option Tok):dy aa.pv (.agg [.int .i64 (aa.op t),.int .i64 (aa.n t),.sl 1 ((aa.v t).map (PV.int .i64)) tk1,.sl 4 ((aa.t t).map aa.pv) tk2]) t:=
 dy.PK (.cons (Wk.refl _) (.cons (Wk.refl _) (.cons (Wk.tok _ _ _) (.cons (Wk.tok _ _ _) .nil))))
instance dy.mk' (a b:Int) (x y:PV) (v:List Int) (t:List aa) [h:mh (PV.int .i64) 1 x v] [k:mh aa.pv 4 y t]:dy aa.pv (.agg [.int .i64 a,.int .i64 b,x,y]) (.mk a b v t):=
 dy.PK (.cons (Wk.refl _) (.cons (Wk.refl _) (.cons h.wk (.cons k.wk .nil))))
theorem l8.wk {x:PV} {t:aa} [h:dy aa.pv x t]:Wk x (.agg t.cells):=by rw[←aa.gC];exact h.wk
instance (priority:=high) dy.PE (t:Datum):dy Datum.pv (Datum.pv t) t:=⟨Wk.refl _,ia.refl _⟩
instance (priority:=high) dy.O4 (t:Datum):dy Datum.pv (.agg t.cells) t:=⟨by rw[Datum.gC];exact Wk.refl _,by rw[Datum.gC];exact ia.refl _⟩
theorem dy.PJ {x:List PV} {t:Datum} (h:ia x t.cells):dy Datum.pv (.agg x) t:=⟨by rw[Datum.gC];exact Wk.agg h,by rw[Datum.gC];exact h⟩
instance (priority:=high) dy.O6 (t:Datum) (tk:Option Tok):dy Datum.pv (.agg [.int .i64 (Datum.kind t),.int .i64 (Datum.n t),.int .i64 (Datum.d t),.str (Datum.s t),.sl 5 ((Datum.l t).map Datum.pv) tk]) t:=
 dy.PJ (.cons (Wk.refl _) (.cons (Wk.refl _) (.cons (Wk.refl _) (.cons (Wk.refl _) (.cons (Wk.tok _ _ _) .nil)))))
instance dy.Qn (a b c:Int) (s:List UInt8) (x:PV) (l:List Datum) [h:mh Datum.pv 5 x l]:dy Datum.pv (.agg [.int .i64 a,.int .i64 b,.int .i64 c,.str s,x]) (.mk a b c s l):=
 dy.PJ (.cons (Wk.refl _) (.cons (Wk.refl _) (.cons (Wk.refl _) (.cons (Wk.refl _) (.cons h.wk .nil)))))
section
theorem pq {n jC:Nat} (hb:Nat.ble jC 4096=true) (h:n≤34359738368):n * jC≤140737488355328:=
 Nat.le_trans (Nat.mul_le_mul h (Nat.le_of_ble_eq_true hb)) (by decide)
theorem bg.more {α:Type} {f:α→PV} {l m:List α} {es:List PV} {s jC:Nat} {e:TypeId} {tk:Option Tok} {t:Tok} {Γ:List ak} {put:Tok→List ak} [hp:iK Γ t put] [hm:oo f es m] {K:PV→List ak→Prop} (he:t.e=e)
  (hb:Nat.ble jC 4096=true) (h1:l.length + m.length≤34359738368)
  (k: ∀ t':Tok,t'.e=e→K (.sl s ((l++m).map f) (some t')) (put t')):bg s jC e (.sl s (l.map f) (some t)) (.sl s es tk) Γ K:=by
 obtain ⟨Γ1,Γ2,e1,e2⟩:=hp.at_;refine ⟨l.map f,m.map f,.inl ⟨tk,Wk.row hm.h⟩,by simp;omega,by simpa using pq hb h1,.inr (.inl ⟨t,Γ1,Γ2,rfl,e1,he,fun t' ht=>?_⟩)⟩;have:=k t' ht;rw[List.map_append,e2] at this;exact this
theorem bg.empty {ys:List PV} {s jC:Nat} {e:TypeId} {tk:Option Tok} {t:Tok} {Γ:List ak} {put:Tok→List ak} [hp:iK Γ t put] {K:PV→List ak→Prop} (he:t.e=e)
  (hb:Nat.ble jC 4096=true) (h1:ys.length≤34359738368)
  (k: ∀ t':Tok,t'.e=e→K (.sl s ys (some t')) (put t')):bg s jC e (.sl s [] (some t)) (.sl s ys tk) Γ K:=by
 obtain ⟨Γ1,Γ2,e1,e2⟩:=hp.at_;refine ⟨[],ys,.inl ⟨tk,Wk.refl _⟩,by simp;omega,by simpa using pq hb h1,.inr (.inl ⟨t,Γ1,Γ2,rfl,e1,he,fun t' ht=>?_⟩)⟩;have:=k t' ht;rw[e2] at this;exact this
theorem bg.LM {ys:List PV} {s jC:Nat} {e:TypeId} {tk:Option Tok} {Γ:List ak} {K:PV→List ak→Prop}
  (hb:Nat.ble jC 4096=true) (h1:ys.length≤34359738368)
  (k: ∀ t:Tok,t.e=e→K (.sl s ys (some t)) (.tok t::Γ)):bg s jC e .nil (.sl s ys tk) Γ K:=
 ⟨[],ys,.inl ⟨tk,Wk.refl _⟩,by simp;omega,by simpa using pq hb h1,.inl ⟨rfl,rfl,.inl k⟩⟩
end
class yJ (Γ:List ak) (Γ1 Γ2:outParam (List ak)):Prop where
 p:Γ.Perm (Γ1++Γ2)
instance yJ.nil:yJ [] [] []:=⟨List.Perm.refl _⟩
instance (priority:=high) yJ.tok (t:Tok) (Γ Γ1 Γ2:List ak) [h:yJ Γ Γ1 Γ2]:yJ (.tok t::Γ) (.tok t::Γ1) Γ2:=⟨h.p.cons _⟩
instance yJ.other (e:ak) (Γ Γ1 Γ2:List ak) [h:yJ Γ Γ1 Γ2]:yJ (e::Γ) Γ1 (e::Γ2):=⟨(h.p.cons e).trans List.perm_middle.symm⟩
section
variable {P:Program} {tt:Nat→TI}
theorem aC.sT (d:Option Nat) {ops:Array Oper} (hd:u6 ops=d) (R1 R2:List Nat) {T:List PV} {Γ Γ1 Γ2:List ak} {K:List PV→List ak→Prop} (hk:TT.ok P tt) (hm:P.follows .mixedOrders=true) [hp:yJ Γ Γ1 Γ2]
  (h:eA P tt ops.toList (aZ ops.toList (kz ops.toList 0 (R1++R2))) T Γ2 fun T'=>bG P tt ops.toList (aZ ops.toList R1) T' Γ1 [] fun T2 Γ1' _=>ic Γ1' Γ2 fun Γ'=>bG P tt ops.toList (aZ ops.toList R2) T2 Γ' [] fun T' Γ' _=>K T' Γ')
  (hchk:ni ops (wh ops.toList []) (kz ops.toList 0 (R1++R2)) R1 R2=true:=by kernel_rfl):aC P ops T Γ K:=
 aC.split hk hm _ _ R1 R2 Γ1 (hp:=⟨hp.p⟩) hchk h
end
theorem yA:type_of% @bg.more:= @bg.more
theorem yB:type_of% @bg.empty:= @bg.empty
theorem yC:type_of% @bg.LM:= @bg.LM
theorem lA {p:Prop} (h:p:=by first | omega | (simp only[List.length_cons,List.length_nil,List.length_map,List.length_append,List.length_take,List.length_drop];omega)):p:=h
theorem sE {p q:Prop} (k:q) (h:q→p:=by intro hq;first | exact yA (by clear hq;assumption) rfl lA hq | exact yB (by clear hq;assumption) rfl lA hq | exact yC rfl lA hq):p:=h k
theorem tB {p:Prop} (h:p:=by first | exact OU | exact PU):p:=h
theorem PZ {p q:Prop} (k:q) (h:Hd q→p:=by intro hq;(conv=>whnf);(repeat1' ((first | ((first | (apply zY;intro hg) | apply zZ);exact tB) | (refine zW ?_ ?_;exact gA) | refine zH rfl ?_ | refine zA ?_ | refine zI bA ?_ | refine zI rfl ?_ | refine zJ rfl rfl ?_ | refine zB ?_ | refine zK rfl ?_ | refine zL rfl ?_ | refine zC ?_ | (refine zO ?_ ?_ ?_;omega;omega) | (refine zP ?_ ?_ ?_;omega;omega) | refine zM rfl ?_ | (refine zQ ?_ ?_ ?_;omega;omega) | (refine zR ?_ ?_;omega) | (refine zI ?_ ?_;exact nA) | (refine zS ?_ ?_ ?_;omega;omega) | (refine zT ?_ ?_ ?_;omega;omega) | (refine zU ?_ ?_ ?_;omega;omega) | (refine zV ?_ ?_ ?_;omega;omega) | (refine yA ?_ rfl lA ?_;assumption) | (refine yB ?_ rfl lA ?_;assumption) | refine yC rfl lA ?_ | refine n0 ?_ | refine zN rfl rfl rfl ?_ | refine zD ?_ | refine zE ?_ | refine zF ?_);conv=>whnf));exact hq.h):p:=h ⟨k⟩
theorem LB {p q:Prop} (k:q) (h:Hd q→p:=by intro hq;(conv=>whnf);(repeat1' ((first | ((first | (apply zY;intro hg) | apply zZ);exact tB) | (refine zW ?_ ?_;exact gA) | refine zH rfl ?_ | refine zA ?_ | refine zI bA ?_ | refine zI rfl ?_ | refine zJ rfl rfl ?_ | refine zB ?_ | refine zK rfl ?_ | refine zL rfl ?_ | refine zC ?_ | (refine zO ?_ ?_ ?_;omega;omega) | (refine zP ?_ ?_ ?_;omega;omega) | refine zM rfl ?_ | (refine zQ ?_ ?_ ?_;omega;omega) | (refine zR ?_ ?_;omega) | (refine zI ?_ ?_;exact nA) | (refine zS ?_ ?_ ?_;omega;omega) | (refine zT ?_ ?_ ?_;omega;omega) | (refine zU ?_ ?_ ?_;omega;omega) | (refine zV ?_ ?_ ?_;omega;omega) | (refine yA ?_ rfl lA ?_;assumption) | (refine yB ?_ rfl lA ?_;assumption) | refine yC rfl lA ?_ | refine n0 ?_ | refine zN rfl rfl rfl ?_ | refine zD ?_ | refine zE ?_ | refine zF ?_ | refine zG ?_);conv=>whnf));exact hq.h):p:=h ⟨k⟩
theorem bg.E1 {α:Type} {f:α→PV} {l m:List α} {es:List PV} {s jC:Nat} {e:TypeId} {tk:Option Tok} {t:Tok} {Γ:List ak} {put:Tok→List PV→List ak} [hp:dR Γ t (l.map f) put] [hm:oo f es m] {K:PV→List ak→Prop} (he:t.e=e) (hs:t.s=s)
  (hb:Nat.ble jC 4096=true) (h1:l.length + m.length≤34359738368)
  (k: ∀ t':Tok,t'.e=e→t'.s=s→K (.ms t') (put t' ((l++m).map f))):bg s jC e (.ms t) (.sl s es tk) Γ K:=by
 obtain ⟨Γ1,Γ2,e1,e2⟩:=hp.at_;refine ⟨l.map f,m.map f,.inl ⟨none,Wk.trans (Wk.tok _ _ _) (Wk.row hm.h)⟩,by simp;omega,by simpa using pq hb h1,.inr (.inr ⟨t,Γ1,Γ2,rfl,e1,he,hs,fun t' ht hs'=>?_⟩)⟩;have:=k t' ht hs';rw[List.map_append,e2] at this;exact this
theorem yD:type_of% @bg.E1:= @bg.E1
def mapM {α:Type} (f:α→PV) (m:Int→Option α) (v:Value):Option PV:=match v with
 | .int .i64 k=>(m k).map f
 | _=>none
theorem eN.num {α:Type} {f:α→PV} {r:Nat} {m:Int→Option α} {n:Int} {z:PV} {Γ:List ak} {aE:List (Int×Value)} {put:(Value→Option PV)→List (Int×Value)→List ak} [hp:c5 Γ r (.int .i64) (mapM f m) aE put] {K:PV→Bool→Prop}
  (h:K (match m n with | some x=>f x | none=>z) (m n).isSome):eN r (.int .i64) (some (.int .i64 n)) z Γ K:=
 eN.at_ (hp:=hp) _ _ (by simp[oh,MapKept.IsKey]) (fun p hp=>by
  simp only[mapM] at hp
  cases hm:m n with
  | none=>rw[hm] at hp;cases hp
  | some x=>rw[hm] at hp;cases hp;exact ⟨Wk.refl _,rfl⟩) (fun hn=>by
  simp only[mapM] at hn
  cases hm:m n with
  | none=>exact ⟨Wk.refl _,rfl⟩
  | some x=>rw[hm] at hn;cases hn) h
theorem yH {α:Type} {f:α→PV} {r:Nat} {m:Int→Option α} {n:Int} {x:α} {z:PV} {Γ:List ak} {aE:List (Int×Value)} {put:(Value→Option PV)→List (Int×Value)→List ak} [hp:c5 Γ r (.int .i64) (mapM f m) aE put] {K:PV→Bool→Prop}
  (hx:m n=some x) (h:K (f x) true):eN r (.int .i64) (some (.int .i64 n)) z Γ K:=eN.num (hp:=hp) (by rw[hx];exact h)
theorem yI {α:Type} {f:α→PV} {r:Nat} {m:Int→Option α} {n:Int} {z:PV} {Γ:List ak} {aE:List (Int×Value)} {put:(Value→Option PV)→List (Int×Value)→List ak} [hp:c5 Γ r (.int .i64) (mapM f m) aE put] {K:PV→Bool→Prop}
  (hx:m n=none) (h:K z false):eN r (.int .i64) (some (.int .i64 n)) z Γ K:=eN.num (hp:=hp) (by rw[hx];exact h)
def wv {α:Type} (m:Int→Option α) (n:Int) (x:α):Int→Option α:=fun k=>if k=n then some x else m k
theorem dg.num {α:Type} {f:α→PV} {r:Nat} {m:Int→Option α} {n:Int} {p:PV} {Γ:List ak} {aE:List (Int×Value)} {put:(Value→Option PV)→List (Int×Value)→List ak} [hp:c5 Γ r (.int .i64) (mapM f m) aE put] {K:List ak→Prop} (x:α) (hx:p=f x)
  (h:K (put (mapM f (wv m n x)) aE)) (hq:mapM f m (.int .i64 n)≠none∨ ∀ q∈aE,q.2≠.tuple #[]:=by right;simp):dg r (.int .i64) (some (.int .i64 n)) p Γ K:=
 dg.at_ (hp:=hp) (mapM f (wv m n x)) (by simp[oh,MapKept.IsKey]) (by simp[mapM,wv,hx]) (fun k hk=>by
  unfold mapM
  split
  ·rename_i j
   have:j≠n:=fun e=>hk (by rw[e]);simp[wv,this]
  ·rfl) h hq
theorem rV {α β:Type} {f:α→β}: ∀ {l:List α},(l.map f).Nodup→ ∀ {x y:α},x∈l→y∈l→f x=f y→x=y
 | [],_,x,_,hx,_,_=>by cases hx
 | a::l,h,x,y,hx,hy,e=>by
  rw[List.map_cons,List.nodup_cons] at h;rcases List.mem_cons.1 hx with hx1 | hx
  ·rcases List.mem_cons.1 hy with hy1 | hy
   ·rw[hx1,hy1]
   ·exact absurd (List.mem_map.2 ⟨y,hy,by rw[←e,hx1]⟩) h.1
  ·rcases List.mem_cons.1 hy with hy1 | hy
   ·exact absurd (List.mem_map.2 ⟨x,hx,by rw[e,hy1]⟩) h.1
   ·exact rV h.2 hx hy e
structure LU {α:Type} (m:Int→Option α) (all:List (Nat×Int)):Prop where
 dom: ∀ z,m z≠none↔ ∃ n,(n,z)∈all
 nk:(all.map (·.2)).Nodup
 nb:(all.map (·.1)).Nodup
def Nz (cl:Nat) (all:List (Nat×Int)):List (Int×Value):=((cl:Int),.tuple #[])::all.map fun q=>((q.1:Int),.int .i64 q.2)
abbrev Oc (r cl:Nat) (seen:Array Nat):Obj:=.mapIter (some r) cl seen cl
theorem MC {v:Value} (h:oh (.int .i64) v): ∃ z,v=.int .i64 z:=by
 rcases h with h | ⟨e,a,b,h,_⟩
 ·cases v<;>first | exact h.elim | skip
  rename_i k z;have:k=.i64:=h;exact ⟨z,by rw[this]⟩
 ·cases h
theorem xg: ∀ l:List (Int×Value),(∀ q∈l,0≤q.1∧oh (.int .i64) q.2)→ ∃ all:List (Nat×Int),l=all.map fun q=>((q.1:Int),Value.int .i64 q.2)
 | [],_=>⟨[],rfl⟩
 | (a,v)::l,h=>by
  obtain ⟨h1,h2⟩:=h (a,v) (by simp);obtain ⟨z,rfl⟩:=MC h2;obtain ⟨all,rfl⟩:=xg l fun q hq=>h q (by simp[hq]);simp only at h1;exact ⟨(a.toNat,z)::all,by rw[List.map_cons];simp only[List.cons.injEq,Prod.mk.injEq,and_true];omega⟩
theorem j3.num {α:Type} {f:α→PV} {r:Nat} {m:Int→Option α} {Γ:List ak} {aE:List (Int×Value)} {put:(Value→Option PV)→List (Int×Value)→List ak} [hp:c5 Γ r (.int .i64) (mapM f m) aE put] {K:PV→List ak→Prop}
  (h: ∀ b all cl,LU m all→(∀ q∈all,q.1 < cl)→K (.ptr b 0) (.ob b (Oc r cl #[]) [] []::put (mapM f m) (Nz cl all))):j3 r (.int .i64) Γ K:=by
 obtain ⟨Γ1,Γ2,e1,e2⟩:=hp.at_;refine ⟨mapM f m,aE,Γ1,Γ2,e1,fun b l cl ha=>?_⟩
 obtain ⟨all,rfl⟩:=xg l fun q hq=>⟨(ha.lt q hq).1,(ha.key q hq).1⟩
 have hA:LU m all:=by
  refine ⟨fun z=>⟨fun hz=>?_,fun ⟨n,hn⟩ hz=>?_⟩,?_,?_⟩
  ·cases hm:m z with
   | none=>exact absurd hm hz
   | some x=>
    obtain ⟨n,hn⟩:=ha.dom (.int .i64 z) (f x) (by simp[mapM,hm]);obtain ⟨q,hq,e⟩:=List.mem_map.1 hn;simp only[Prod.mk.injEq,Value.int.injEq,true_and] at e;exact ⟨q.1,by rw[←e.2];exact hq⟩
  ·have:=(ha.key ((n:Int),.int .i64 z) (List.mem_map.2 ⟨(n,z),hn,rfl⟩)).2
   exact this (by simp[mapM,hz])
  ·have:=ha.nk
   rw[List.map_map,List.Nodup,List.pairwise_map] at this;rw[List.Nodup,List.pairwise_map];exact this.imp fun {x y} h e=>h (by simp only[Function.comp,e])
  ·have:=ha.nb
   rw[List.map_map,List.Nodup,List.pairwise_map] at this;rw[List.Nodup,List.pairwise_map];exact this.imp fun {x y} h e=>h (by simp only[Function.comp,e])
 have:=h b all cl hA fun q hq=>by have:=(ha.lt _ (List.mem_map.2 ⟨q,hq,rfl⟩)).2;simp only at this;omega
 rw[e2] at this;exact this
class oE (Γ:List ak) (b:Nat) (o:outParam Obj) (put:outParam (Obj→List ak)):Prop where
 at_: ∃ Γ1 Γ2,Γ=Γ1++.ob b o [] []::Γ2∧ ∀ o',put o'=Γ1++.ob b o' [] []::Γ2
instance (priority:=high) oE.head (Γ:List ak) (b:Nat) (o:Obj):oE (.ob b o [] []::Γ) b o (fun o'=>.ob b o' [] []::Γ):=⟨[],Γ,rfl,fun _=>rfl⟩
instance oE.tail (e:ak) (Γ:List ak) (b:Nat) (o:Obj) (put:Obj→List ak) [h:oE Γ b o put]:oE (e::Γ) b o (fun o'=>e::put o'):=by
 obtain ⟨Γ1,Γ2,h1,h2⟩:=h.at_;exact ⟨e::Γ1,Γ2,by rw[h1];rfl,fun o'=>by rw[h2];rfl⟩
theorem tR {cl:Nat} {all:List (Nat×Int)} {n:Nat} {z:Int}:((n:Int),Value.int .i64 z)∈all.map (fun q=>((q.1:Int),Value.int .i64 q.2))↔(n,z)∈all:=by
 rw[List.mem_map];constructor
 ·rintro ⟨q,hq,e⟩
  simp only[Prod.mk.injEq,Value.int.injEq,true_and] at e;have:q=(n,z):=Prod.ext (by have:=e.1;simp only;omega) e.2;rw[←this];exact hq
 ·intro h;exact ⟨_,h,rfl⟩
theorem mB.num {α:Type} {f:α→PV} {b r cl:Nat} {seen:Array Nat} {m:Int→Option α} {all:List (Nat×Int)} {Γ:List ak} {put:Obj→List ak} [hb:oE Γ b (Oc r cl seen) put] {put2:(Value→Option PV)→List (Int×Value)→List ak} [hp:c5 Γ r (.int .i64) (mapM f m) (Nz cl all) put2] {K:PV→List ak→Prop}
  (hA:LU m all) (hl: ∀ q∈all,q.1 < cl) (h1: ∀ n z x,(n,z)∈all→m z=some x→n∉seen.toList→K (.aU [.bB,.any,.any]) (put (Oc r cl (seen.push n)))) (h2:(∀ q∈all,q.1∈seen.toList)→K (.aU [.bfalse]) Γ):mB b Γ K:=by
 obtain ⟨Γ1,Γ2,e1,e2⟩:=hb.at_;obtain ⟨Γ3,Γ4,e3,e4⟩:=hp.at_
 have hdom: ∀ k p,mapM f m k=some p→ ∃ z x,k=.int .i64 z∧m z=some x:=fun k p hk=>by
  unfold mapM at hk
  split at hk
  ·rename_i z
   cases hm:m z with
   | none=>rw[hm] at hk;cases hk
   | some x=>exact ⟨z,x,rfl,hm⟩
  ·cases hk
 refine ⟨r,cl,seen,.int .i64,mapM f m,all.map (fun q=>((q.1:Int),.int .i64 q.2)),Γ1,Γ2,e1,by rw[e3];simp[Nz],fun k p hk=>?_,fun q hq=>?_,fun n k p hn hk hs=>?_,fun hs=>h2 fun q hq=>?_⟩
 ·obtain ⟨z,x,rfl,hm⟩:=hdom k p hk
  obtain ⟨n,hn⟩:=(hA.dom z).1 (by simp[hm]);exact ⟨(n:Int),(tR (cl:=cl)).2 hn⟩
 ·obtain ⟨q',hq',rfl⟩:=List.mem_map.1 hq
  have:=hl q' hq';simp only;omega
 ·obtain ⟨z,x,rfl,hm⟩:=hdom k p hk
  have:=h1 n z x ((tR (cl:=cl)).1 hn) hm hs;rw[e2] at this;exact this
 ·obtain ⟨n,z⟩:=q
  have hz:m z≠none:=(hA.dom z).2 ⟨n,hq⟩
  cases hm:m z with
  | none=>exact absurd hm hz
  | some x=>
   obtain ⟨n',hn',hs'⟩:=hs (.int .i64 z) (f x) (by simp[mapM,hm]);have hn2:=(tR (cl:=cl)).1 hn';have:=rV hA.nk hq hn2 rfl;cases this;exact hs'
theorem jW.num {α:Type} {f:α→PV} {b r cl n:Nat} {seen:Array Nat} {m:Int→Option α} {all:List (Nat×Int)} {Γ:List ak} {put:Obj→List ak} [hb:oE Γ b (Oc r cl (seen.push n)) put] {put2:(Value→Option PV)→List (Int×Value)→List ak} [hp:c5 Γ r (.int .i64) (mapM f m) (Nz cl all) put2] {K:PV→Prop}
  (z:Int) (x:α) (hn:(n,z)∈all) (hm:m z=some x) (h:K (.aU [.int .i64 z,f x])):jW b Γ K:=by
 obtain ⟨Γ1,Γ2,e1,_⟩:=hb.at_;obtain ⟨Γ3,Γ4,e3,_⟩:=hp.at_;exact ⟨r,cl,seen,n,.int .i64 z,.int .i64 z,f x,.int .i64,mapM f m,all.map (fun q=>((q.1:Int),.int .i64 q.2)),by rw[e1];simp,by rw[e3];simp[Nz],(tR (cl:=cl)).2 hn,by simp,by simp[mapM,hm],fun F=>by simp[ax],h⟩
theorem ji.Pz {α:Type} {f:α→PV} {l:List α} {sz:Nat} {Γ:List ak} {t:Tok} {put:Tok→List PV→List ak} [hp:dR Γ t (l.map f) put] {k:IntKind} {n:Int} {i:Nat} [x:fQ n i] {K:PV→Prop} (hs:t.s=sz) (h0:0≤n) (h:n < l.length) (hk:K (.rp t i 0)):ji sz t (.int k n) Γ K:=
 ji.at_ (hp:=hp) hs h0 (by have:=x.eq h0;rw[List.length_map];omega) hk
theorem yE:type_of% @ji.Pz:= @ji.Pz
theorem yF:type_of% @e8.row:= @e8.row
theorem dz.IX {α:Type} {f:α→PV} {c:α→List PV} [hc:ec f c] {l:List α} {Γ:List ak} {t:Tok} {put:Tok→List PV→List ak} [hp:dR Γ t (l.map f) put] {i n:Nat} {x:PV} {v:α} [hv:dy f x v] {K:List ak→Prop} (hi:i < l.length)
  (hl:Nat.beq (c l[i]).length n=true) (hx:jJ x.cellsOf n=true) (hcl:x.cR=true) (k:K (put t ((l.set i v).map f))):dz n (.rp t i 0) x Γ K:=by
 have hn:(c l[i]).length=n:=Nat.eq_of_beq_eq_true hl;have hw:ia x.cellsOf (c v):=by have:=hv.wl;rwa [hc.eq] at this
 refine dz.row (hp:=hp) v hi (by rw[hn,Nat.zero_add];exact Nat.ble_eq_true_of_le (Nat.le_refl _)) hx hcl hw ?_ k;rw[List.take_zero,List.nil_append,Nat.zero_add,List.drop_of_length_le (by omega),List.append_nil]
theorem yG:type_of% @dz.IX:= @dz.IX
theorem sF {p q:Prop} (k:q) (h:q→p:=by intro hq;first | exact yA (by clear hq;assumption) rfl lA hq | exact yB (by clear hq;assumption) rfl lA hq | exact yC rfl lA hq | exact yD (by clear hq;assumption) (by clear hq;assumption) rfl lA hq | exact yE (by clear hq;assumption) (by clear hq;omega) (by clear hq;omega) hq | exact yF (by clear hq;omega) rfl hq | exact yH (by clear hq;assumption) hq | exact yI (by clear hq;assumption) hq | exact yG (by clear hq;omega) rfl rfl rfl hq):p:=h k
theorem JE {p:Prop} (h:p:=by
 conv=>whnf
 repeat ((first|(refine zW ?_ ?_;exact gA)|refine zA ?_|refine zH rfl ?_|refine zB ?_|(refine yE ?_ ?_ ?_ ?_;assumption;omega;omega)|(refine yF ?_ rfl ?_;omega)|(apply yH;assumption)|(refine yI ?_ ?_;assumption)|intro _);conv=>whnf)
 first | exact pS | exact pL | exact pE):p:=h
theorem tC {p:Prop} (h:p:=by first | exact OU | exact PU | exact JE):p:=h
theorem aF {p q:Prop} (k:q) (h:Hd q→p:=by intro hq;(first | (refine yA ?_ rfl lA ?_;assumption) | (refine yB ?_ rfl lA ?_;assumption) | refine yC rfl lA ?_ | (refine yD ?_ ?_ rfl lA ?_;assumption;assumption) | (refine yE ?_ ?_ ?_ ?_;assumption;omega;omega) | (refine yF ?_ rfl ?_;omega) | (apply yH;assumption) | (refine yI ?_ ?_;assumption) | (refine yG ?_ rfl rfl rfl ?_;omega) | refine n0 ?_ | refine zN rfl rfl rfl ?_ | refine zD ?_ | refine zE ?_ | refine zF ?_);exact hq.h):p:=h ⟨k⟩
theorem aH {p q:Prop} (k:q) (h:Hd q→p:=by intro hq;(first | (refine zW ?_ ?_;exact gA) | refine zA ?_ | refine zH rfl ?_ | refine zB ?_ | (refine yE ?_ ?_ ?_ ?_;assumption;omega;omega) | (refine yF ?_ rfl ?_;omega) | (apply yH;assumption) | (refine yI ?_ ?_;assumption));exact hq.h):p:=h ⟨k⟩
theorem yQ {p q:Prop} (k:q) (h:Hd q→p:=by intro hq;(conv=>whnf);(repeat1' ((first | ((first | (apply zY;intro hg) | apply zZ);exact tC) | (refine zW ?_ ?_;exact gA) | refine zH rfl ?_ | refine zA ?_ | refine zI bA ?_ | refine zI rfl ?_ | refine zJ rfl rfl ?_ | refine zB ?_ | refine zK rfl ?_ | refine zL rfl ?_ | refine zC ?_ | (refine zO ?_ ?_ ?_;omega;omega) | (refine zP ?_ ?_ ?_;omega;omega) | refine zM rfl ?_ | (refine zQ ?_ ?_ ?_;omega;omega) | (refine zR ?_ ?_;omega) | (refine zI ?_ ?_;exact nA) | (refine zS ?_ ?_ ?_;omega;omega) | (refine zT ?_ ?_ ?_;omega;omega) | (refine zU ?_ ?_ ?_;omega;omega) | (refine zV ?_ ?_ ?_;omega;omega) | (refine yA ?_ rfl lA ?_;assumption) | (refine yB ?_ rfl lA ?_;assumption) | refine yC rfl lA ?_ | (refine yD ?_ ?_ rfl lA ?_;assumption;assumption) | (refine yE ?_ ?_ ?_ ?_;assumption;omega;omega) | (refine yF ?_ rfl ?_;omega) | (apply yH;assumption) | (refine yI ?_ ?_;assumption) | (refine yG ?_ rfl rfl rfl ?_;omega) | refine n0 ?_ | refine zN rfl rfl rfl ?_ | refine zD ?_ | refine zE ?_ | refine zF ?_);conv=>whnf));exact hq.h):p:=h ⟨k⟩
theorem aW {p q:Prop} (k:q) (h:Hd q→p:=by intro hq;(conv=>whnf);(repeat1' ((first | ((first | (apply zY;intro hg) | apply zZ);exact tC) | (refine zW ?_ ?_;exact gA) | refine zH rfl ?_ | refine zA ?_ | refine zI bA ?_ | refine zI rfl ?_ | refine zJ rfl rfl ?_ | refine zB ?_ | refine zK rfl ?_ | refine zL rfl ?_ | refine zC ?_ | (refine zO ?_ ?_ ?_;omega;omega) | (refine zP ?_ ?_ ?_;omega;omega) | refine zM rfl ?_ | (refine zQ ?_ ?_ ?_;omega;omega) | (refine zR ?_ ?_;omega) | (refine zI ?_ ?_;exact nA) | (refine zS ?_ ?_ ?_;omega;omega) | (refine zT ?_ ?_ ?_;omega;omega) | (refine zU ?_ ?_ ?_;omega;omega) | (refine zV ?_ ?_ ?_;omega;omega) | (refine yA ?_ rfl lA ?_;assumption) | (refine yB ?_ rfl lA ?_;assumption) | refine yC rfl lA ?_ | (refine yD ?_ ?_ rfl lA ?_;assumption;assumption) | (refine yE ?_ ?_ ?_ ?_;assumption;omega;omega) | (refine yF ?_ rfl ?_;omega) | (apply yH;assumption) | (refine yI ?_ ?_;assumption) | (refine yG ?_ rfl rfl rfl ?_;omega) | refine n0 ?_ | refine zN rfl rfl rfl ?_ | refine zD ?_ | refine zE ?_ | refine zF ?_ | refine zG ?_);conv=>whnf));exact hq.h):p:=h ⟨k⟩
def ko (consts codes:Int) (free:Bool) (t:aa) (scope:List Int):Bool:=
 if t.op=0 then decide (t.n≥0) && decide (t.n < consts) else
 if t.op=1∨t.op=2∨t.op=14 then scope.contains t.n else
 if t.op=11∨t.op=10 then decide (0≤t.n∧t.n < 31) else
 if t.op=4 then t.n == 0 || (t.n == 1 && decide ((t.v.length:Int) > 0)) else
 if t.op=7 then t.n == 0 || t.n == 1 else
 if t.op=19∨t.op=21∨t.op=22 then decide (t.n≥0) && decide (t.n < codes) else
 if t.op=20 then decide (t.n≥0) && free else t.n == 0
theorem si: ∀ (l b1 b2:List Int),(∀ x,x∈b1↔x∈b2)→(bH l b1).1=(bH l b2).1
 | [],_,_,_=>rfl
 | v::l,b1,b2,h=>by
  have hv:Jv b1 v=Jv b2 v:=by
   have:b1.contains v=b2.contains v:=by rw[Bool.eq_iff_iff];simp[h]
   unfold Jv;rw[this]
  rw[bH,bH,hv]
  split
  ·exact si l _ _ (by intro x;simp[h])
  ·rfl
theorem uA (c rb rs:Nat) (level consts codes size:Int) (frees:Bool) (l bound scope:List Int) (pb ps:List (Int×Value)):
  ah Tryz.prog 63 [.ptr c 0,.sl 1 (l.map (PV.int .i64)) none,.mp rs] [.box c (tc level consts codes size frees rb),.mp rb (.int .i64) (bT bound) pb,.mp rs (.int .i64) (bT scope) ps]
  (fun y Γ'=>y=.bool (bH l bound).1∧ ∃ pb' mb ms,Γ'= [.box c (tc level consts codes size frees rb),.mp rb (.int .i64) mb pb',.mp rs (.int .i64) ms []]∧((bH l bound).1=true→mb=bT (bound++l)∧ms=bT (scope++l))):=by
 refine ah.ghost (Γ':= [.box c (tc level consts codes size frees rb),.mp rb (.int .i64) (bT bound) [],.mp rs (.int .i64) (bT scope) []]) (aA.trans (Γ':= [.box c (tc level consts codes size frees rb),.mp rb (.int .i64) (bT bound) [],.mp rs (.int .i64) (bT scope) ps]) (aA.dx rb) (aA.dx rs)) ?_;refine ah.ai aj Tryz.func63 rfl rfl (n:=39) rfl rfl ?_
 conv=>whnf
 repeat (first|refine kM ?_|((intro _);conv=>whnf))
 refine aI.over [6,8,11,12,13,14,15,16,17,18,19,20,21,22,23,24,25,26,27,28,29,30,31,32,33,34,35,36,37,38] (fun | ((i,bd,sc,pb):Nat×List Int×List Int×List (Int×Value))=> [(11,.int .i64 i)])
  (fun x=> [.box c (tc level consts codes size frees rb),.mp rb (.int .i64) (bT x.2.1) x.2.2.2,.mp rs (.int .i64) (bT x.2.2.1) []])
  (fun | (i,bd,sc,pb)=>i≤l.length∧(∀ x,x∈bd↔x∈bound∨x∈l.take i)∧(∀ x,x∈sc↔x∈scope∨x∈l.take i)∧(bH (l.drop i) bd).1=(bH l bound).1∧ ∀ q∈pb,q.2≠.tuple #[]) (fun | (i,_)=>l.length - i) (0,bound,scope, [])
  ⟨by omega,by simp,by simp,rfl,by simp⟩ wA ?_
 rintro ⟨i,bd,sc,pb'⟩ ⟨hi,hbd,hsc,hr,hpb⟩
 conv=>whnf
 repeat' (first|refine cW ?_|(refine zX (fun hc=>?_) (fun hc=>?_)<;>(try simp only[SY] at hc)<;>(conv=>whnf)))
 ·have hlt:i < l.length:=by omega
  have hb:(bH l bound).1=false:=by
   rw[←hr,aq hlt,bH,if_neg (by simp only[Jv,SS];rintro ⟨h,h'⟩;rw[h'] at hc;simp at hc;omega)]
  exact an.gen (Wk.ff hb) ⟨rfl,pb',bT bd,bT sc,rfl,fun h=>by rw[hb] at h;cases h⟩
 ·have hlt:i < l.length:=by omega
  refine ew.set hc.2 ?_ (.inr hpb);intro j
  conv=>whnf
  refine cZ.set ?_
  conv=>whnf
  repeat (refine kM ?_)
  have htk: ∀ x,x∈l.take (i + 1)↔x=l[i]∨x∈l.take i:=by
   intro x;rw[List.take_succ_eq_append_getElem hlt,List.mem_append,List.mem_singleton,or_comm]
  refine aJ (i + 1,l[i]::bd,l[i]::sc,(j,.int .i64 l[i])::pb') ⟨by omega,fun x=>?_,fun x=>?_,?_,?_⟩ (by show l.length - (i + 1) < l.length - i;omega) wA
  ·rw[htk,List.mem_cons,hbd]
   constructor
   ·rintro (h | h | h)
    ·exact .inr (.inl h)
    ·exact .inl h
    ·exact .inr (.inr h)
   ·rintro (h | h | h)
    ·exact .inr (.inl h)
    ·exact .inl h
    ·exact .inr (.inr h)
  ·rw[htk,List.mem_cons,hsc]
   constructor
   ·rintro (h | h | h)
    ·exact .inr (.inl h)
    ·exact .inl h
    ·exact .inr (.inr h)
   ·rintro (h | h | h)
    ·exact .inr (.inl h)
    ·exact .inl h
    ·exact .inr (.inr h)
  ·rw[←hr,aq hlt,bH,if_pos (by simp only[Jv,SS];exact hc)]
   exact si _ _ _ (by intro x;simp[or_comm])
  ·intro q hq
   rcases List.mem_cons.1 hq with rfl | hq
   ·simp
   ·exact hpb q hq
 ·have hb:(bH l bound).1=true:=by rw[←hr,List.drop_of_length_le (by omega),bH]
  have ht:l.take i=l:=List.take_of_length_le (by omega);rw[ht] at hbd hsc;exact an.gen (Wk.tt hb) ⟨rfl,pb',bT bd,bT sc,rfl,fun _=>⟨vV (by simpa using hbd),vV (by simpa using hsc)⟩⟩
theorem CX {p q:Prop} (k:q) (h:q→p:=by intro hq;first | exact aC.sP (some 13) rfl [] [] aj mixed hq | exact aC.sP (some 73) rfl [] [] aj mixed hq):p:=h k
theorem Dg (c rb rs:Nat) (level consts codes size:Int) (frees:Bool) (t:aa) (scope:List Int) (ps:List (Int×Value)):
  ah Tryz.prog 70 [.ptr c 0,.agg t.cells,.mp rs] [.box c (tc level consts codes size frees rb),.mp rs (.int .i64) (bT scope) ps]
  (fun y Γ'=>y=.bool (ko consts codes frees t scope)∧Γ'= [.box c (tc level consts codes size frees rb),.mp rs (.int .i64) (bT scope) ps]):=by
 have hs:ko consts codes frees t scope=ko consts codes frees t scope:=rfl
 conv at hs=>rhs;unfold ko
 refine ah.ai aj Tryz.func70 rfl rfl (n:=99) rfl rfl ?_
 conv=>whnf
 repeat' (first|refine cW ?_|((first|refine pC (JH _) wR ?_|refine CX ?_|intro _);conv=>whnf)|(refine zX (fun hc=>?_) (fun hc=>?_)<;>(try simp only[SY] at hc)<;>first|omega|(conv=>whnf)))
 all_goals repeat (first|rw[if_neg (by omega)] at hs|rw[if_pos (by omega)] at hs)
 all_goals rw[hs]
 all_goals exact an.gen (Wk.refl _) ⟨rfl,rfl⟩
theorem tj (k:Nat) (cap:List PV) (l:List aa) (J:Nat→List ak→Prop) (X:Nat→List ak→Prop)
  (hf: ∀ i x Γ,l[i]?=some x→J i Γ→ah Tryz.prog k (.agg (aa.cells x)::cap) Γ (fun y Γ'=>(y=.bool false∧J (i + 1) Γ')∨(y=.bool true∧X i Γ'))) (Γ0:List ak) (h0:J 0 Γ0):
  ah Tryz.prog 104 [.sl 4 (l.map aa.pv) none,.fn (.func k) cap] Γ0 (fun y Γ'=>(y=.int .i64 (-1)∧J l.length Γ')∨ ∃ i:Nat,y=.int .i64 i∧i < l.length∧X i Γ'):=by
 refine ah.ai aj Tryz.func104 rfl rfl (n:=19) rfl rfl ?_
 conv=>whnf
 repeat (first|refine kM ?_|((intro _);conv=>whnf))
 refine aI.over [4,5,8,9,10,11,12,13,14,15,16,17,18] (fun s:Nat×List ak=> [(8,.int .i64 s.1)]) (fun s=>s.2) (fun s=>s.1≤l.length∧J s.1 s.2) (fun s=>l.length - s.1) (0,Γ0) ⟨by omega,h0⟩ wA ?_;rintro ⟨i,Γ⟩ ⟨h1,h2⟩
 conv=>whnf
 repeat' (first|refine cW ?_|(refine zX (fun hc=>?_) (fun hc=>?_)<;>(try simp only[SY] at hc)<;>(conv=>whnf)))
 ·have hlt:i < l.length:=by omega
  refine au.same (hf i _ Γ (List.getElem?_eq_getElem hlt) h2) (bU.refl _) ?_;rintro _ Γ' (⟨rfl,h⟩ | ⟨rfl,h⟩)
  ·conv=>whnf
   repeat' (first|refine cW ?_|(refine zX (fun hc=>?_) (fun hc=>?_)<;>(try simp only[SY] at hc)<;>(conv=>whnf)))
   ·exact aJ (i + 1,Γ') ⟨by omega,h⟩ (by show l.length - (i + 1) < l.length - i;omega) wA
  ·conv=>whnf
   repeat' ((refine zX (fun hc=>?_) (fun hc=>?_)<;>(try simp only[SY] at hc)<;>(conv=>whnf)))
   ·exact an.gen (Wk.refl _) (.inr ⟨i,rfl,hlt,h⟩)
 ·obtain rfl:i=l.length:=by omega
  exact an.gen (Wk.refl _) (.inl ⟨rfl,h2⟩)
theorem oK (k:Nat) (cap:List PV) (l:List aa) (J:Nat→List ak→Prop) (X:Nat→List ak→Prop)
  (hf: ∀ i x Γ,l[i]?=some x→J i Γ→ah Tryz.prog k (.agg (aa.cells x)::cap) Γ (fun y Γ'=>(y=.bool false∧J (i + 1) Γ')∨(y=.bool true∧X i Γ'))) (Γ0:List ak) (h0:J 0 Γ0):
  ah Tryz.prog 73 [.sl 4 (l.map aa.pv) none,.fn (.func k) cap] Γ0 (fun y Γ'=>(y=.bool false∧J l.length Γ')∨ ∃ i:Nat,y=.bool true∧i < l.length∧X i Γ'):=by
 refine ah.ai aj Tryz.func73 rfl rfl (n:=9) rfl rfl ?_
 conv=>whnf
 skip
 refine au.same (tj k cap l J X hf Γ0 h0) (bU.refl _) ?_;rintro _ Γ' (⟨rfl,h⟩ | ⟨i,rfl,hi,h⟩)
 ·conv=>whnf
  skip
  exact an.gen (Wk.bool rfl) (.inl ⟨rfl,h⟩)
 ·conv=>whnf
  skip
  exact an.gen (Wk.bool (by simp)) (.inr ⟨i,rfl,hi,h⟩)
def lJ (s:List Int) (m:Value→Option PV) (v:Value):Option PV:=match v with
 | .int .i64 k=>if s.contains k then none else m v
 | v=>m v
theorem Hs (m:Value→Option PV):lJ [] m=m:=by
 funext v;unfold lJ;split<;>simp
theorem er.O5 {r:Nat} {s:List Int} {n:Int} {m:Value→Option PV} {Γ:List ak} {aE:List (Int×Value)} {put:(Value→Option PV)→List (Int×Value)→List ak} [hp:c5 Γ r (.int .i64) (lJ s m) aE put] {K:List ak→Prop} (h:K (put (lJ (s++ [n]) m) [])):
  er r (.int .i64) (some (.int .i64 n)) Γ K:=
 er.at_ (hp:=hp) (lJ (s++ [n]) m) (by simp[oh,MapKept.IsKey]) (by simp[lJ]) (fun k hk=>by
  unfold lJ
  split
  ·rename_i m
   have hm:m≠n:=fun e=>hk (by rw[e]);have:(s++ [n]).contains m=s.contains m:=by rw[Bool.eq_iff_iff];simp[hm]
   rw[this]
  ·rfl) h
theorem xp (v scope:List Int) (h: ∀ x∈scope,x∉v):lJ v (bT (scope++v))=bT scope:=by
 funext k;unfold lJ bT
 split
 ·rename_i n
  by_cases h1:n∈v
  ·have:n∉scope:=fun h2=>h n h2 h1
   simp[h1,this]
  ·simp[h1]
 ·rename_i hne
  split
  ·rename_i n;exact absurd rfl (hne n)
  ·rfl
theorem tK (b5 b6 rs:Nat) (op n:Int) (v:List Int) (ts:List PV) (m:Value→Option PV) (ps:List (Int×Value)):
  mA Tryz.prog 72 [.ptr b5 0,.ptr b6 0] [.box b5 [.int .i64 op,.int .i64 n,.sl 1 (v.map (PV.int .i64)) none,.sl 4 ts none],.box b6 [.mp rs],.mp rs (.int .i64) m ps]
  (fun _ Γ'=> ∃ ps',Γ'= [.box b5 [.int .i64 op,.int .i64 n,.sl 1 (v.map (PV.int .i64)) none,.sl 4 ts none],.box b6 [.mp rs],.mp rs (.int .i64) (lJ v m) ps']):=by
 have key:mA Tryz.prog 72 [.ptr b5 0,.ptr b6 0] [.box b5 [.int .i64 op,.int .i64 n,.sl 1 (v.map (PV.int .i64)) none,.sl 4 ts none],.box b6 [.mp rs],.mp rs (.int .i64) (lJ (v.take 0) m) ps]
   (fun _ Γ'=> ∃ ps',Γ'= [.box b5 [.int .i64 op,.int .i64 n,.sl 1 (v.map (PV.int .i64)) none,.sl 4 ts none],.box b6 [.mp rs],.mp rs (.int .i64) (lJ v m) ps']):=by
  refine mA.ai aj Tryz.func72 rfl rfl (n:=14) rfl rfl ?_
  conv=>whnf
  repeat (first|refine kM ?_|((intro _);conv=>whnf))
  refine aI.over [3,7,8,9,10,11,12,13] (fun (x:Nat×List (Int×Value))=> [(7,.int .i64 x.1)])
   (fun (x:Nat×List (Int×Value))=> [.box b5 [.int .i64 op,.int .i64 n,.sl 1 (v.map (PV.int .i64)) none,.sl 4 ts none],.box b6 [.mp rs],.mp rs (.int .i64) (lJ (v.take x.1) m) x.2]) (fun x=>x.1≤v.length) (fun x=>v.length - x.1) (0,ps) (by simp) wA ?_
  rintro ⟨i,ps'⟩ hi
  conv=>whnf
  repeat' (first|refine cW ?_|(refine zX (fun hc=>?_) (fun hc=>?_)<;>(try simp only[SY] at hc)<;>(conv=>whnf)))
  ·have hlt:i < v.length:=by omega
   refine er.O5 ?_
   conv=>whnf
   repeat (refine kM ?_)
   show gJ _ _ _ _ _ _ _ _ _ [_,_,.mp rs (.int .i64) (lJ (v.take i++ [v[i]]) m) []] _;rw[←List.take_succ_eq_append_getElem hlt];exact aJ (i + 1, []) (by show i + 1≤v.length;omega) (by show v.length - (i + 1) < v.length - i;omega) wA
  ·refine ⟨rfl,?_⟩
   have ht:v.take i=v:=List.take_of_length_le (by omega);show Aj _ _ _ [_,_,.mp rs (.int .i64) (lJ (v.take i) m) ps'] _;rw[ht]
   conv=>whnf
   exact an.gen (Wk.refl _) ⟨ps',rfl⟩
 rw[List.take_zero,Hs] at key;exact key
def yU (level consts codes:Int) (free:Bool) (t:aa) (scope:List Int) (deep size:Int):Bool:=
 !(de t.op).2 || decide (deep > 400) || decide (size > 20000) || decide (level < (de t.op).1.fm) || decide (level > (de t.op).1.to) || !mR (de t.op).1 t || !ko consts codes free t scope
mutual
def aa.oH (level consts codes:Int) (free:Bool):aa→List Int→Int→Int→List Int→Option (Int×List Int)
 | .mk op n v t,scope,deep,size,bound=>
  if yU level consts codes free (.mk op n v t) scope deep (size + 1)=true then none else
  if fV op=true then
   if (op == 9 && !jd level t.dropLast)=true then none else if (bH v bound).1=true then aa.kG level consts codes free (scope++v) t (deep + 1) (size + 1) (bound++v) else none
  else aa.pI level consts codes free scope v t (deep + 1) (size + 1) bound
def aa.kG (level consts codes:Int) (free:Bool) (scope:List Int):List aa→Int→Int→List Int→Option (Int×List Int)
 | [],_,size,bound=>some (size,bound)
 | x::xs,deep,size,bound=>
  match aa.oH level consts codes free x scope deep size bound with
  | none=>none
  | some (s,b)=>aa.kG level consts codes free scope xs deep s b
def aa.pI (level consts codes:Int) (free:Bool) (scope v:List Int):List aa→Int→Int→List Int→Option (Int×List Int)
 | [],_,size,bound=>if (bH v bound).1=true then some (size,bound++v) else none
 | x::xs,deep,size,bound=>
  if xs.isEmpty=true then (if (bH v bound).1=true then aa.oH level consts codes free x (scope++v) deep size (bound++v) else none) else
  match aa.oH level consts codes free x scope deep size bound with
  | none=>none
  | some (s,b)=>aa.pI level consts codes free scope v xs deep s b
end
theorem aa.CM (level consts codes:Int) (free:Bool) (t:aa) (scope:List Int) (deep size:Int) (bound:List Int):t.oH level consts codes free scope deep size bound=
  if yU level consts codes free t scope deep (size + 1)=true then none else
  if fV t.op=true then
   if (t.op == 9 && !jd level t.t.dropLast)=true then none else if (bH t.v bound).1=true then aa.kG level consts codes free (scope++t.v) t.t (deep + 1) (size + 1) (bound++t.v) else none
  else aa.pI level consts codes free scope t.v t.t (deep + 1) (size + 1) bound:=by
 cases t;rw[aa.oH];rfl
theorem aa.y5 (level consts codes:Int) (free:Bool) (x:aa): ∀ (scope:List Int) (deep size:Int) (bound:List Int) (s:Int) (b:List Int),x.oH level consts codes free scope deep size bound=some (s,b)→
  size < s∧s≤20000∧ ∀ v∈bound,v∈b:=by
 induction x using aa.ind with
 | h x ih=>
  intro scope deep size bound s b h;rw[aa.CM] at h
  split at h
  ·cases h
  rename_i hc;have hsz:size + 1≤20000:=by simp[yU] at hc;omega
  split at h
  ·split at h
   ·cases h
   split at h
   ·have key: ∀ (l:List aa),(∀ y∈l, ∀ (scope:List Int) (deep size:Int) (bound:List Int) (s:Int) (b:List Int),y.oH level consts codes free scope deep size bound=some (s,b)→size < s∧s≤20000∧ ∀ v∈bound,v∈b)→
      ∀ (sc:List Int) (deep size:Int) (bound:List Int) (s:Int) (b:List Int),size≤20000→aa.kG level consts codes free sc l deep size bound=some (s,b)→size≤s∧s≤20000∧ ∀ v∈bound,v∈b:=by
     intro l
     induction l with
     | nil=>intro _ sc deep size bound s b h0 h;rw[aa.kG] at h;cases h;exact ⟨by omega,by omega,fun _ h=>h⟩
     | cons y l ihl=>
      intro hy sc deep size bound s b h0 h;rw[aa.kG] at h
      split at h
      ·cases h
      ·rename_i s1 b1 h1
       have e1:=hy y (by simp) _ _ _ _ _ _ h1;have e2:=ihl (fun z hz=>hy z (by simp[hz])) _ _ _ _ _ _ (by omega) h;exact ⟨by omega,e2.2.1,fun v hv=>e2.2.2 v (e1.2.2 v hv)⟩
    have:=key x.t ih _ _ _ _ _ _ hsz h;exact ⟨by omega,this.2.1,fun v hv=>this.2.2 v (by simp[hv])⟩
   ·cases h
  ·have key: ∀ (l:List aa),(∀ y∈l, ∀ (scope:List Int) (deep size:Int) (bound:List Int) (s:Int) (b:List Int),y.oH level consts codes free scope deep size bound=some (s,b)→size < s∧s≤20000∧ ∀ v∈bound,v∈b)→
     ∀ (sc:List Int) (deep size:Int) (bound:List Int) (s:Int) (b:List Int),size≤20000→aa.pI level consts codes free sc x.v l deep size bound=some (s,b)→size≤s∧s≤20000∧ ∀ v∈bound,v∈b:=by
    intro l
    induction l with
    | nil=>
     intro _ sc deep size bound s b h0 h;rw[aa.pI] at h
     split at h
     ·cases h;exact ⟨by omega,by omega,fun _ h=>by simp[h]⟩
     ·cases h
    | cons y l ihl=>
     intro hy sc deep size bound s b h0 h;rw[aa.pI] at h
     split at h
     ·split at h
      ·have e1:=hy y (by simp) _ _ _ _ _ _ h
       exact ⟨by omega,e1.2.1,fun v hv=>e1.2.2 v (by simp[hv])⟩
      ·cases h
     split at h
     ·cases h
     ·rename_i s1 b1 h1
      have e1:=hy y (by simp) _ _ _ _ _ _ h1;have e2:=ihl (fun z hz=>hy z (by simp[hz])) _ _ _ _ _ _ (by omega) h;exact ⟨by omega,e2.2.1,fun v hv=>e2.2.2 v (e1.2.2 v hv)⟩
   have:=key x.t ih _ _ _ _ _ _ hsz h;exact ⟨by omega,this.2⟩
def IJ (c rb rs:Nat) (level consts codes:Int) (free:Bool) (scope:List Int) (r:Option (Int×List Int)) (y:PV) (Γ':List ak):Prop:=
 y=.bool r.isSome∧ ∃ size' mb ms pb' ps',Γ'= [.box c (tc level consts codes size' free rb),.mp rb (.int .i64) mb pb',.mp rs (.int .i64) ms ps']∧ ∀ s b,r=some (s,b)→size'=s∧mb=bT b∧ms=bT scope
theorem Gi (c rb rs b4 b6 b7:Nat) (level consts codes:Int) (free:Bool) (x:aa) (scope:List Int) (deep size:Int) (bound:List Int) (pb ps:List (Int×Value)) (hd0:0≤deep) (hd1:deep≤400)
  (hx:ah Tryz.prog 39 [.ptr c 0,.agg x.cells,.mp rs,.int .i64 (deep + 1)] [.box c (tc level consts codes size free rb),.mp rb (.int .i64) (bT bound) pb,.mp rs (.int .i64) (bT scope) ps]
   (IJ c rb rs level consts codes free scope (x.oH level consts codes free scope (deep + 1) size bound))):
  ah Tryz.prog 74 [.agg x.cells,.ptr b4 0,.ptr b6 0,.ptr b7 0] [.box c (tc level consts codes size free rb),.mp rb (.int .i64) (bT bound) pb,.mp rs (.int .i64) (bT scope) ps,.box b4 [.ptr c 0],.box b6 [.mp rs],.box b7 [.int .i64 deep]]
   (fun y Γ'=> ∃ size' mb ms pb' ps',y=.bool (!(x.oH level consts codes free scope (deep + 1) size bound).isSome)∧Γ'= [.box c (tc level consts codes size' free rb),.mp rb (.int .i64) mb pb',.mp rs (.int .i64) ms ps',.box b4 [.ptr c 0],.box b6 [.mp rs],.box b7 [.int .i64 deep]]∧
    ∀ s b,x.oH level consts codes free scope (deep + 1) size bound=some (s,b)→size'=s∧mb=bT b∧ms=bT scope):=by
 refine ah.ai aj Tryz.func74 rfl rfl (n:=13) rfl rfl ?_
 conv=>whnf
 repeat' (first|refine cW ?_|((intro _);conv=>whnf)|(refine zX (fun hc=>?_) (fun hc=>?_)<;>(try simp only[SY] at hc)<;>omega))
 refine au.go hx (bU.refl _) ?_;rintro _ _ ⟨rfl,sz2,mb,ms,pb2,ps2,rfl,hs⟩
 conv=>whnf
 skip
 exact an.gen (Wk.refl _) ⟨sz2,mb,ms,pb2,ps2,rfl,rfl,hs⟩
theorem DV (c rb rs b4 b6 b7:Nat) (level consts codes:Int) (free:Bool) (l:List aa) (scope:List Int) (deep:Int) (hd0:0≤deep) (hd1:deep≤400)
  (ih: ∀ x∈l, ∀ (size:Int) (bound:List Int) (pb ps:List (Int×Value)),0≤size→size≤20000→(∀ x∈scope,x∈bound)→ah Tryz.prog 39 [.ptr c 0,.agg x.cells,.mp rs,.int .i64 (deep + 1)] [.box c (tc level consts codes size free rb),.mp rb (.int .i64) (bT bound) pb,.mp rs (.int .i64) (bT scope) ps]
   (IJ c rb rs level consts codes free scope (x.oH level consts codes free scope (deep + 1) size bound)))
  (size:Int) (bound:List Int) (pb ps:List (Int×Value)) (hs0:0≤size) (hs1:size≤20000) (hsub: ∀ x∈scope,x∈bound):
  ah Tryz.prog 73 [.sl 4 (l.map aa.pv) none,.fn (.func 74) [.ptr b4 0,.ptr b6 0,.ptr b7 0]] [.box c (tc level consts codes size free rb),.mp rb (.int .i64) (bT bound) pb,.mp rs (.int .i64) (bT scope) ps,.box b4 [.ptr c 0],.box b6 [.mp rs],.box b7 [.int .i64 deep]]
   (fun y Γ'=> ∃ size' mb ms pb' ps',y=.bool (!(aa.kG level consts codes free scope l (deep + 1) size bound).isSome)∧Γ'= [.box c (tc level consts codes size' free rb),.mp rb (.int .i64) mb pb',.mp rs (.int .i64) ms ps',.box b4 [.ptr c 0],.box b6 [.mp rs],.box b7 [.int .i64 deep]]∧
    ∀ s b,aa.kG level consts codes free scope l (deep + 1) size bound=some (s,b)→size'=s∧mb=bT b∧ms=bT scope):=by
 refine (oK 74 [.ptr b4 0,.ptr b6 0,.ptr b7 0] l
  (fun i Γ=> ∃ sz bd pb ps,Γ= [.box c (tc level consts codes sz free rb),.mp rb (.int .i64) (bT bd) pb,.mp rs (.int .i64) (bT scope) ps,.box b4 [.ptr c 0],.box b6 [.mp rs],.box b7 [.int .i64 deep]]∧0≤sz∧sz≤20000∧(∀ x∈scope,x∈bd)∧aa.kG level consts codes free scope l (deep + 1) size bound=aa.kG level consts codes free scope (l.drop i) (deep + 1) sz bd)
  (fun _ Γ=> ∃ sz mb ms pb ps,Γ= [.box c (tc level consts codes sz free rb),.mp rb (.int .i64) mb pb,.mp rs (.int .i64) ms ps,.box b4 [.ptr c 0],.box b6 [.mp rs],.box b7 [.int .i64 deep]]∧aa.kG level consts codes free scope l (deep + 1) size bound=none)
  ?_ _ ⟨size,bound,pb,ps,rfl,hs0,hs1,hsub,rfl⟩).mono ?_
 ·rintro i x _ hx ⟨sz,bd,pb,ps,rfl,h0,h1,h2,h3⟩
  obtain ⟨hi,rfl⟩:=List.getElem?_eq_some_iff.1 hx;refine (Gi c rb rs b4 b6 b7 level consts codes free l[i] scope deep sz bd pb ps hd0 hd1 (ih _ (List.getElem_mem _) sz bd pb ps h0 h1 h2)).mono ?_;rintro _ _ ⟨sz2,mb,ms,pb2,ps2,rfl,rfl,hs⟩;rw[aq hi,aa.kG] at h3
  cases e:aa.oH level consts codes free l[i] scope (deep + 1) sz bd with
  | none=>rw[e] at h3;exact .inr ⟨by simp[PV.bool],sz2,mb,ms,pb2,ps2,rfl,h3⟩
  | some q=>
   obtain ⟨s1,b1⟩:=q;obtain ⟨rfl,rfl,rfl⟩:=hs s1 b1 e;have hbd:=aa.y5 _ _ _ _ _ _ _ _ _ _ _ e;rw[e] at h3;exact .inl ⟨by simp[PV.bool],sz2,b1,pb2,ps2,rfl,by omega,hbd.2.1,fun x h=>hbd.2.2 x (h2 x h),h3⟩
 ·rintro _ _ (⟨rfl,sz,bd,pb,ps,rfl,h0,h1,h2,h3⟩ | ⟨i,rfl,hi,sz,mb,ms,pb,ps,rfl,h3⟩)
  ·rw[List.drop_length,aa.kG] at h3
   rw[h3];exact ⟨sz,bT bd,bT scope,pb,ps,rfl,rfl,fun s b h=>by cases h;exact ⟨rfl,rfl,rfl⟩⟩
  ·rw[h3]
   exact ⟨sz,mb,ms,pb,ps,rfl,rfl,fun s b h=>by cases h⟩
theorem Hh {level consts codes:Int} {free:Bool} {scope v:List Int} {l:List aa} {deep size:Int} {bound:List Int} (h:l.length≤1):
  aa.pI level consts codes free scope v l deep size bound=if (bH v bound).1=true then aa.kG level consts codes free (scope++v) l deep size (bound++v) else none:=by
 match l,h with
 | [],_=>rw[aa.pI,aa.kG]
 | [x],_=>
  rw[aa.pI,if_pos (show ([]:List aa).isEmpty=true from rfl),aa.kG]
  split
  ·cases hx:aa.oH level consts codes free x (scope++v) deep size (bound++v) with
   | none=>rfl
   | some q=>obtain ⟨s,b⟩:=q;simp only[aa.kG]
  ·rfl
 | _::_::_,h=>simp at h
theorem mF: ∀ {l bound:List Int},(bH l bound).1=true→ ∀ x,x∈l→x∈bound→False
 | [],_,_,_,h,_=>by cases h
 | v::l,bound,h,x,hx,hb=>by
  rw[bH] at h
  split at h
  ·rename_i hv
   rcases List.mem_cons.1 hx with rfl | hx
   ·simp[Jv,hb] at hv
   ·exact mF h x hx (by simp[hb])
  ·cases h
theorem ya {r ck:Option (Int×List Int)} {a:Int} {b:Bool} (hck:ck=if (a == 9 && !b)=true then none else r):(!!r.isSome && (a !=9 || b))=ck.isSome:=by
 subst hck;cases h:a == 9<;>cases b<;>cases r<;>simp_all [bne]
theorem N3 {t:aa} (h:mR (de t.op).1 t=true) (h9:t.op=9):1≤t.t.length:=by
 have e:de 9=(⟨1,3,0,false,true⟩,true):=rfl;rw[h9,e] at h;simp[mR,h9] at h;omega
theorem uP {p q:Prop} (k:q) (h:q→p:=by intro hq;first | exact aC.sP (some 27) rfl [] [41,42,43] aj mixed hq | exact aC.sP (some 83) rfl [] [9,10] aj mixed hq | exact aC.sP (some 106) rfl [] [17,18,19,20] aj mixed hq):p:=h k
theorem vR (c rb rs:Nat) (level consts codes:Int) (free:Bool) (t:aa): ∀ (scope:List Int) (deep size:Int) (bound:List Int) (pb ps:List (Int×Value)),0≤deep→deep≤401→0≤size→size≤20000→(∀ x∈scope,x∈bound)→t.bp≤1000000000→
  ah Tryz.prog 39 [.ptr c 0,.agg t.cells,.mp rs,.int .i64 deep] [.box c (tc level consts codes size free rb),.mp rb (.int .i64) (bT bound) pb,.mp rs (.int .i64) (bT scope) ps]
  (IJ c rb rs level consts codes free scope (t.oH level consts codes free scope deep size bound)):=by
 induction t using aa.ind with
 | h t ih=>
  intro scope deep size bound pb ps hd0 hd1 hs0 hs1 hsub hbk;have hbe:=t.cX;have hlv:=aa.dA t.t;have hr:=t.CM level consts codes free scope deep size bound;refine ah.ai aj Tryz.func39 rfl rfl (n:=126) rfl rfl ?_
  conv=>whnf
  repeat' (first|refine cW ?_|((first|(((apply zY;intro hg));(conv=>whnf);(repeat ((first|refine pC (Mu (de t.op).1 t OA) wR ?_|refine au.read (Dg c rb rs level consts codes (size + 1) free t scope ps) wR ?_|refine aG ?_);conv=>whnf));exact pZ)|refine pC (Gq _) wR ?_|refine pC (tO t) wR ?_|refine uP ?_|intro _);conv=>whnf)|(refine zX (fun hc=>?_) (fun hc=>?_)<;>(try simp only[SY] at hc)<;>(conv=>whnf)))
  ·rw[hr,if_pos (by simp only[yU,SS];exact hc)]
   exact an.gen (y:=.bool false) (Wk.ff rfl) ⟨rfl,size + 1,bT bound,bT scope,pb,ps,rfl,fun _ _ h=>by cases h⟩
  all_goals
   rename_i b4 b5 b6 b7 b9 hgood hlen;have hfx:t.op=9→1≤t.t.length:=N3 hgood.1.2;rw[if_neg (by simp only[yU,SS];intro h;obtain ⟨⟨⟨⟨⟨⟨g1,g2⟩,g3⟩,g4⟩,g5⟩,g6⟩,g7⟩:=hgood;simp only[g1,g6,g7,Bool.true_eq_false,or_false,false_or] at h;omega)] at hr
  ·have hgr:=hc
   rw[if_neg (by rw[hc];simp)] at hr
   refine aI.over [8,12,78,79,80,81,82,83,84,85,86,87,88,89,90,91,92,93] (fun (x:Nat×Int×List Int×List (Int×Value)×List (Int×Value))=> [(12,.int .i64 x.1)])
    (fun (x:Nat×Int×List Int×List (Int×Value)×List (Int×Value))=> [.box b9 (de t.op).1.cells,.box b7 [.int .i64 deep],.box b6 [.mp rs],.box b5 [.int .i64 t.op,.int .i64 t.n,.sl 1 (t.v.map (PV.int .i64)) none,.sl 4 (t.t.map aa.pv) none],.box b4 [.ptr c 0],
     .box c (tc level consts codes x.2.1 free rb),.mp rb (.int .i64) (bT x.2.2.1) x.2.2.2.1,.mp rs (.int .i64) (bT scope) x.2.2.2.2])
    (fun | (k,sz,bd,pb,ps)=>(k=0∨k < t.t.length)∧0≤sz∧sz≤20000∧(∀ x∈bound,x∈bd)∧t.oH level consts codes free scope deep size bound=aa.pI level consts codes free scope t.v (t.t.drop k) (deep + 1) sz bd) (fun | (k,_)=>t.t.length - k) (0,size + 1,bound,pb,ps)
    ⟨.inl rfl,by omega,by omega,fun _ h=>h,by rw[hr];rfl⟩ wA ?_
   rintro ⟨k,sz,bd,pb',ps'⟩ ⟨hk,hz0,hz1,hsb,hck⟩;dsimp only
   conv=>whnf
   repeat' (first|refine cW ?_|((refine uP ?_);conv=>whnf)|(refine zX (fun hc=>?_) (fun hc=>?_)<;>(try simp only[SY] at hc)<;>(conv=>whnf)))
   ·have hlt:k < t.t.length:=by omega
    have hbm:=aa.cU (List.getElem_mem hlt);rw[aq hlt,aa.pI,if_neg (by rw[List.isEmpty_iff,List.drop_eq_nil_iff];omega)] at hck;refine au.go (ih t.t[k] (List.getElem_mem _) scope (deep + 1) sz bd pb' ps' (by omega) (by omega) hz0 hz1 (fun x h=>hsb x (hsub x h)) (by omega)) (bU.refl _) ?_;rintro _ _ ⟨rfl,sz2,mb,ms,pb2,ps2,rfl,hs⟩
    conv=>whnf
    repeat' (first|refine cW ?_|(refine zX (fun hc=>?_) (fun hc=>?_)<;>(try simp only[SY] at hc)<;>(conv=>whnf)))
    ·have hn:=hc
     rw[Option.isSome_eq_false_iff,Option.isNone_iff_eq_none] at hn;rw[hn] at hck;exact an.gen (y:=.bool false) (Wk.ff rfl) ⟨by rw[hck];rfl,sz2,mb,ms,pb2,ps2,rfl,fun _ _ h=>by rw[hck] at h;cases h⟩
    ·obtain ⟨⟨s1,b1⟩,e⟩:=Option.isSome_iff_exists.mp hc
     obtain ⟨rfl,rfl,rfl⟩:=hs s1 b1 e;have hbd:=aa.y5 _ _ _ _ _ _ _ _ _ _ _ e;rw[e] at hck;exact aJ (k + 1,sz2,b1,pb2,ps2) ⟨.inr (by omega),by show (0:Int)≤sz2;omega,hbd.2.1,fun x h=>hbd.2.2 x (hsb x h),hck⟩ (by show t.t.length - (k + 1) < t.t.length - k;omega) wA
   ·rw[Hh (by rw[List.length_drop];omega)] at hck
    have hop:t.op≠9:=fun h=>by simp[fV,h] at hgr
    have hdk:(if (t.t.length:Int) - 1 < 0 then 0 else (t.t.length:Int) - 1).toNat=k:=by split<;>omega
    have hck:t.oH level consts codes free scope deep size bound=if (t.op == 9 && !jd level t.t.dropLast)=true then none else if (bH t.v bd).1=true then aa.kG level consts codes free (scope++t.v) (t.t.drop (if (t.t.length:Int) - 1 < 0 then 0 else (t.t.length:Int) - 1).toNat) (deep + 1) sz (bd++t.v) else none:=by
     rw[if_neg (by simp[hop]),hdk];exact hck
    have hgc:ay Tryz.prog 71 [.agg t.cells] (.bool false):=by
     have:=tO t;rw[hgr] at this;exact this
    refine au.go (uA c rb rs level consts codes sz free t.v bd scope pb' ps') (bU.refl _) ?_;rintro _ _ ⟨rfl,pb3,mb,ms,rfl,hb⟩
    conv=>whnf
    repeat' (first|refine cW ?_|((refine pC (hgc) wR ?_);conv=>whnf)|(refine zX (fun hc=>?_) (fun hc=>?_)<;>(try simp only[SY] at hc)<;>(conv=>whnf)))
    ·refine kD.go (tK b5 b6 rs t.op t.n t.v (t.t.map aa.pv) ms []) (bU.refl _) ?_
     rintro _ _ ⟨ps4,rfl⟩
     conv=>whnf
     have hno:t.oH level consts codes free scope deep size bound=none:=by rw[hck];split;rfl;exact if_neg (by rw[hc];simp)
     exact an.gen (y:=.bool false) (Wk.ff rfl) ⟨by rw[hno];rfl,sz,mb,lJ t.v ms,pb3,ps4,rfl,fun _ _ h=>by rw[hno] at h;cases h⟩
    ·have hbt:= ‹(bH t.v bd).1=true›
     obtain ⟨rfl,rfl⟩:=hb hbt;rw[if_pos hbt] at hck;refine aC.Jh aj mixed [0,1,0,7,0,31,63,127,255,511,1023,2047,4095,4095,12287,4095,61439,131071,262143,524287,1048575] [0,1,2,3,4] [5] [6,7,8,9,10,11,12,13,14,15,16,17,18,19,20] [] [.box c (tc level consts codes sz free rb),.mp rb (.int .i64) (bT (bd++t.v)) pb3,.mp rs (.int .i64) (bT (scope++t.v)) [],.box b4 [.ptr c 0],.box b6 [.mp rs],.box b7 [.int .i64 deep]] (by kernel_rfl) ?_
     conv=>whnf
     repeat (refine kM ?_)
     have hdj: ∀ x∈scope,x∉t.v:=fun x h h'=>mF hbt x h' (hsb x (hsub x h));refine au.go (DV c rb rs b4 b6 b7 level consts codes free (t.t.drop (if (t.t.length:Int) - 1 < 0 then 0 else (t.t.length:Int) - 1).toNat) (scope++t.v) deep hd0 (by omega) (fun x hx sz bd pb ps h0 h1 h2=>ih x (List.mem_of_mem_drop hx) (scope++t.v) (deep + 1) sz bd pb ps (by omega) (by omega) h0 h1 h2 (by have:=aa.cU (List.mem_of_mem_drop hx);omega)) sz (bd++t.v) pb3 [] (by omega) (by omega) (by intro x h;rw[List.mem_append] at h ⊢; exact h.imp (fun h=>hsb x (hsub x h)) id)) (bU.refl _) ?_;rintro _ _ ⟨sz5,mb5,ms5,pb5,ps5,rfl,rfl,hs5⟩
     conv=>whnf
     repeat (first|refine kM ?_|(((((apply zY;intro hg));(conv=>whnf);(repeat ((first|refine au.read (EV c rb level consts codes sz5 free (t.t.take (t.t.length - 1))) wR ?_|refine aG ?_);conv=>whnf));exact pZ));conv=>whnf))
     refine kD.go (tK b5 b6 rs t.op t.n t.v (t.t.map aa.pv) ms5 ps5) (bU.refl _) ?_;rintro _ _ ⟨ps4,rfl⟩
     conv=>whnf
     refine an.gen (y:=.bool (t.oH level consts codes free scope deep size bound).isSome) (Wk.bool ?_) ⟨rfl,sz5,mb5,lJ t.v ms5,pb5,ps4,rfl,fun s b h=>?_⟩
     ·exact ya (by rw[←List.dropLast_eq_take];exact hck)
     ·rw[hck] at h
      split at h
      ·cases h
      ·obtain ⟨h1,h2,h3⟩:=hs5 s b h
       exact ⟨h1,h2,by rw[h3,xp _ _ hdj]⟩
  ·have hgr:=hc
   rw[if_pos hc] at hr;have hck:=hr
   have hgc:ay Tryz.prog 71 [.agg t.cells] (.bool true):=by
    have:=tO t;rw[hgr] at this;exact this
   refine au.go (uA c rb rs level consts codes (size + 1) free t.v bound scope pb ps) (bU.refl _) ?_;rintro _ _ ⟨rfl,pb3,mb,ms,rfl,hb⟩
   conv=>whnf
   repeat' (first|refine cW ?_|((refine pC (hgc) wR ?_);conv=>whnf)|(refine zX (fun hc=>?_) (fun hc=>?_)<;>(try simp only[SY] at hc)<;>(conv=>whnf)))
   ·refine kD.go (tK b5 b6 rs t.op t.n t.v (t.t.map aa.pv) ms []) (bU.refl _) ?_
    rintro _ _ ⟨ps4,rfl⟩
    conv=>whnf
    have hno:t.oH level consts codes free scope deep size bound=none:=by rw[hck];split;rfl;exact if_neg (by rw[hc];simp)
    exact an.gen (y:=.bool false) (Wk.ff rfl) ⟨by rw[hno];rfl,(size + 1),mb,lJ t.v ms,pb3,ps4,rfl,fun _ _ h=>by rw[hno] at h;cases h⟩
   ·have hbt:= ‹(bH t.v bound).1=true›
    obtain ⟨rfl,rfl⟩:=hb hbt;rw[if_pos hbt] at hck;refine aC.Jh aj mixed [0,1,0,7,0,31,63,127,255,511,1023,2047,4095,4095,12287,4095,61439,131071,262143,524287,1048575] [0,1,2,3,4] [5] [6,7,8,9,10,11,12,13,14,15,16,17,18,19,20] [] [.box c (tc level consts codes (size + 1) free rb),.mp rb (.int .i64) (bT (bound++t.v)) pb3,.mp rs (.int .i64) (bT (scope++t.v)) [],.box b4 [.ptr c 0],.box b6 [.mp rs],.box b7 [.int .i64 deep]] (by kernel_rfl) ?_
    conv=>whnf
    repeat (refine kM ?_)
    have hdj: ∀ x∈scope,x∉t.v:=fun x h h'=>mF hbt x h' (hsub x h);refine au.go (DV c rb rs b4 b6 b7 level consts codes free (t.t.drop 0) (scope++t.v) deep hd0 (by omega) (fun x hx sz bd pb ps h0 h1 h2=>ih x (List.mem_of_mem_drop hx) (scope++t.v) (deep + 1) sz bd pb ps (by omega) (by omega) h0 h1 h2 (by have:=aa.cU (List.mem_of_mem_drop hx);omega)) (size + 1) (bound++t.v) pb3 [] (by omega) (by omega) (by intro x h;rw[List.mem_append] at h ⊢; exact h.imp (fun h=>hsub x h) id)) (bU.refl _) ?_;rintro _ _ ⟨sz5,mb5,ms5,pb5,ps5,rfl,rfl,hs5⟩
    conv=>whnf
    repeat (first|refine kM ?_|(((((apply zY;intro hg));(conv=>whnf);(repeat ((first|refine au.read (EV c rb level consts codes sz5 free (t.t.take (t.t.length - 1))) wR ?_|refine aG ?_);conv=>whnf));exact pZ));conv=>whnf))
    refine kD.go (tK b5 b6 rs t.op t.n t.v (t.t.map aa.pv) ms5 ps5) (bU.refl _) ?_;rintro _ _ ⟨ps4,rfl⟩
    conv=>whnf
    refine an.gen (y:=.bool (t.oH level consts codes free scope deep size bound).isSome) (Wk.bool ?_) ⟨rfl,sz5,mb5,lJ t.v ms5,pb5,ps4,rfl,fun s b h=>?_⟩
    ·exact ya (by rw[←List.dropLast_eq_take];exact hck)
    ·rw[hck] at h
     split at h
     ·cases h
     ·obtain ⟨h1,h2,h3⟩:=hs5 s b h
      exact ⟨h1,h2,by rw[h3,xp _ _ hdj]⟩
def iR (l bound:List Int):Prop:=(∀ x∈l,0≤x∧x≤1000000∧x∉bound)∧l.Nodup
theorem iR.perm {l m b:List Int} (h:l.Perm m):iR l b↔iR m b:=by
 unfold iR;rw[h.nodup_iff];simp only[h.mem_iff]
theorem iR.append {l m b c:List Int} (h: ∀ x,x∈c↔x∈b∨x∈l):iR (l++m) b↔iR l b∧iR m c:=by
 unfold iR;simp only[List.mem_append,List.nodup_append,h];constructor
 ·rintro ⟨h1,h2,h3,h4⟩
  exact ⟨⟨fun x hx=>h1 x (.inl hx),h2⟩,fun x hx=>⟨(h1 x (.inr hx)).1,(h1 x (.inr hx)).2.1,by rintro (h | h);exact (h1 x (.inr hx)).2.2 h;exact h4 x h x hx rfl⟩,h3⟩
 ·rintro ⟨⟨h1,h2⟩,h3,h4⟩
  refine ⟨?_,h2,h4,?_⟩
  ·rintro x (hx | hx)
   ·exact h1 x hx
   ·exact ⟨(h3 x hx).1,(h3 x hx).2.1,fun h=>(h3 x hx).2.2 (.inl h)⟩
  ·rintro x hx y hy rfl
   exact (h3 x hy).2.2 (.inr hx)
def Sp (r:Option (Int×List Int)) (c:Prop) (n:Int) (V:List Int) (size:Int) (bound:List Int):Prop:=
 (r=none∧ ¬(c∧size + n≤20000∧iR V bound))∨(∃ b,r=some (size + n,b)∧(c∧size + n≤20000∧iR V bound)∧ ∀ x,x∈b↔x∈bound∨x∈V)
theorem Sp.jS {r c n V size bound} (h:Sp r c n V size bound):r.isSome=true↔(c∧size + n≤20000∧iR V bound):=by
 rcases h with ⟨rfl,h⟩ | ⟨b,rfl,h,_⟩
 ·simpa using h
 ·simpa using h
theorem Sp.iff {r c c' n V size bound} (h:Sp r c n V size bound) (hc:c↔c'):Sp r c' n V size bound:=by
 unfold Sp at h ⊢; rwa [hc] at h
theorem Sp.perm {r c n V W size bound} (h:Sp r c n V size bound) (hp:V.Perm W):Sp r c n W size bound:=by
 unfold Sp at h ⊢; simpa only[iR.perm hp,hp.mem_iff] using h
theorem Sp.nil {size:Int} {bound:List Int} (h:size≤20000):Sp (some (size,bound)) True 0 [] size bound:=
 .inr ⟨bound,by simp,⟨trivial,by omega,by simp[iR]⟩,by simp⟩
theorem Sp.test {r c n V size bound} {p:Prop} [Decidable p] (h: ¬p→Sp r c n V size bound):Sp (if p then none else r) (¬p∧c) n V size bound:=by
 by_cases hp:p
 ·rw[if_pos hp];exact .inl ⟨rfl,fun h=>h.1.1 hp⟩
 ·rw[if_neg hp];exact (h hp).iff (by simp[hp])
theorem Sp.seq {r1:Option (Int×List Int)} {f:Int→List Int→Option (Int×List Int)} {c1 c2:Prop} {n1 n2:Int} {V1 V2:List Int} {size:Int} {bound:List Int} (h1:Sp r1 c1 n1 V1 size bound) (hn:0≤n2)
  (h2: ∀ b,size + n1≤20000→Sp (f (size + n1) b) c2 n2 V2 (size + n1) b):Sp (match (generalizing:=false) r1 with | none=>none | some (s,b)=>f s b) (c1∧c2) (n1 + n2) (V1++V2) size bound:=by
 rcases h1 with ⟨rfl,h⟩ | ⟨b,rfl,⟨k1,k2,k3⟩,hb⟩
 ·exact .inl ⟨rfl,fun ⟨⟨g1,g2⟩,g3,g4⟩=>h ⟨g1,by omega,((iR.append (c:=bound++V1) (by simp)).1 g4).1⟩⟩
 ·rcases h2 b k2 with ⟨e,h⟩ | ⟨b',e,⟨g1,g2,g3⟩,hb'⟩
  ·exact .inl ⟨e,fun ⟨⟨g1,g2⟩,g3,g4⟩=>h ⟨g2,by omega,((iR.append hb).1 g4).2⟩⟩
  ·exact .inr ⟨b',by rw[←Int.add_assoc];exact e,⟨⟨k1,g1⟩,by omega,(iR.append hb).2 ⟨k3,g3⟩⟩,fun x=>by rw[hb',hb,List.mem_append,or_assoc]⟩
theorem oF: ∀ (l bound:List Int),(bH l bound).1=true↔iR l bound
 | [],bound=>by simp[bH,iR]
 | v::l,bound=>by
  rw[bH]
  split
  ·rename_i hv
   rw[oF l,show v::l= [v]++l from rfl,iR.append (l:= [v]) (c:=bound++ [v]) (by simp)];simp[Jv] at hv;simp[iR];intro _ _;exact ⟨by omega,by omega,hv.2⟩
  ·rename_i hv
   simp only[Bool.false_eq_true,false_iff];rintro ⟨h,_⟩;have:=h v (by simp);apply hv;simp[Jv];exact ⟨by omega,this.2.2⟩
theorem qP: ∀ (l bound:List Int),(bH l bound).1=true→(bH l bound).2=bound++l
 | [],bound,_=>by simp[bH]
 | v::l,bound,h=>by
  rw[bH] at h⊢
  split at h
  ·rename_i hv
   rw[if_pos hv,qP l _ h];simp
  ·cases h
theorem Sp.bind {v bound:List Int} {size:Int} {r:Option (Int×List Int)} {c:Prop} {n:Int} {V:List Int} (h:(bH v bound).1=true→Sp r c n V size (bound++v)):Sp (if (bH v bound).1=true then r else none) c n (v++V) size bound:=by
 have ha:iR (v++V) bound↔iR v bound∧iR V (bound++v):=iR.append (by simp);by_cases hb:(bH v bound).1=true
 ·have hd:=(oF _ _).1 hb
  rw[if_pos hb]
  rcases h hb with ⟨rfl,hh⟩ | ⟨b,rfl,⟨k1,k2,k3⟩,hm⟩
  ·exact .inl ⟨rfl,fun ⟨g1,g2,g3⟩=>hh ⟨g1,g2,(ha.1 g3).2⟩⟩
  ·exact .inr ⟨b,rfl,⟨k1,k2,ha.2 ⟨hd,k3⟩⟩,fun x=>by rw[hm,List.mem_append,List.mem_append,or_assoc]⟩
 ·rw[if_neg hb]
  exact .inl ⟨rfl,fun ⟨_,_,g3⟩=>hb ((oF _ _).2 (ha.1 g3).1)⟩
theorem Sp.tick {r c n V size bound} (hn:0≤n) (h:size + 1≤20000→Sp r c n V (size + 1) bound):Sp (if size + 1 > 20000 then none else r) c (1 + n) V size bound:=by
 split
 ·exact .inl ⟨rfl,fun ⟨_,h,_⟩=>by omega⟩
 ·rcases h (by omega) with ⟨rfl,hh⟩ | ⟨b,rfl,k,hm⟩
  ·exact .inl ⟨rfl,fun ⟨g1,g2,g3⟩=>hh ⟨g1,by omega,g3⟩⟩
  ·exact .inr ⟨b,by rw[←Int.add_assoc],⟨k.1,by omega,k.2.2⟩,hm⟩
mutual
def aa.cnt:aa→Int
 | .mk _ _ _ t=>1 + aa.cQ t
def aa.cQ:List aa→Int
 | []=>0
 | x::xs=>aa.cnt x + aa.cQ xs
end
mutual
def aa.vars:aa→List Int
 | .mk _ _ v t=>v++aa.bN t
def aa.bN:List aa→List Int
 | []=> []
 | x::xs=>aa.vars x++aa.bN xs
end
theorem aa.mM (t:aa):t.cnt=1 + aa.cQ t.t:=by cases t;rfl
theorem aa.gY (t:aa):t.vars=t.v++aa.bN t.t:=by cases t;rfl
theorem aa.gp (t:aa):1≤t.cnt:=by
 induction t using aa.ind with
 | h t ih=>
  rw[aa.mM]
  have: ∀ l:List aa,(∀ x∈l,1≤x.cnt)→0≤aa.cQ l:=by
   intro l
   induction l with
   | nil=>intro _;rw[aa.cQ];omega
   | cons y l ih=>intro h;rw[aa.cQ];have:=h y (by simp);have:=ih fun x hx=>h x (by simp[hx]);omega
  have:=this t.t ih;omega
theorem aa.c7: ∀ l:List aa,0≤aa.cQ l
 | []=>by rw[aa.cQ];omega
 | x::l=>by rw[aa.cQ];have:=x.gp;have:=aa.c7 l;omega
mutual
def aa.lC (level consts codes:Int) (free:Bool):aa→List Int→Int→Prop
 | .mk op n v t,scope,deep=>(deep≤400∧dW op level=true∧di (.mk op n v t)=true∧bW consts codes free (.mk op n v t) scope=true)∧aa.eW level consts codes free op scope (scope++v) t (deep + 1)
def aa.eW (level consts codes:Int) (free:Bool) (op:Int) (scope inner:List Int):List aa→Int→Prop
 | [],_=>True
 | x::xs,deep=>(¬(op=9∧xs≠ []∧x.op≠jf level))∧aa.lC level consts codes free x (if xs= []∨op=7∨op=9 then inner else scope) deep∧aa.eW level consts codes free op scope inner xs deep
end
theorem aa.dP (level consts codes:Int) (free:Bool) (t:aa) (scope:List Int) (deep:Int):t.lC level consts codes free scope deep↔
  (deep≤400∧dW t.op level=true∧di t=true∧bW consts codes free t scope=true)∧aa.eW level consts codes free t.op scope (scope++t.v) t.t (deep + 1):=by cases t;rw[aa.lC];rfl
theorem aa.qR (level consts codes:Int) (free:Bool) (t:aa): ∀ (scope:List Int) (deep size:Int) (bound:List Int),Sp (t.wI level consts codes free scope deep size bound) (t.lC level consts codes free scope deep) t.cnt t.vars size bound:=by
 induction t using aa.ind with
 | h t ih=>
  intro scope deep size bound
  have key: ∀ l:List aa,(∀ y∈l, ∀ (scope:List Int) (deep size:Int) (bound:List Int),Sp (y.wI level consts codes free scope deep size bound) (y.lC level consts codes free scope deep) y.cnt y.vars size bound)→
    ∀ (deep size:Int) (bound:List Int),size≤20000→Sp (aa.oc level consts codes free t.op scope (scope++t.v) l deep size bound) (aa.eW level consts codes free t.op scope (scope++t.v) l deep) (aa.cQ l) (aa.bN l) size bound:=by
   intro l
   induction l with
   | nil=>intro _ deep size bound h;rw[aa.oc,aa.eW,aa.cQ,aa.bN];exact Sp.nil h
   | cons x l ihl=>
    intro hy deep size bound h;rw[aa.oc,aa.eW,aa.cQ,aa.bN];exact Sp.test fun _=>Sp.seq (hy x (by simp) _ _ _ _) (aa.c7 l) fun b hb=>ihl (fun y hh=>hy y (by simp[hh])) _ _ _ hb
  rw[aa.CL,aa.mM,aa.gY,aa.dP]
  have h1:(if (decide (deep > 400) || decide (size + 1 > 20000) || !dW t.op level || !di t || !bW consts codes free t scope)=true then none else
    if (bH t.v bound).1=true then aa.oc level consts codes free t.op scope (scope++t.v) t.t (deep + 1) (size + 1) (bH t.v bound).2 else none)=
    (if ¬(deep≤400∧dW t.op level=true∧di t=true∧bW consts codes free t scope=true) then none else if size + 1 > 20000 then none else
    if (bH t.v bound).1=true then aa.oc level consts codes free t.op scope (scope++t.v) t.t (deep + 1) (size + 1) (bound++t.v) else none):=by
   by_cases a:deep≤400∧dW t.op level=true∧di t=true∧bW consts codes free t scope=true
   ·rw[if_neg (c:= ¬ _) (by simpa using a)]
    by_cases b:size + 1 > 20000
    ·rw[if_pos b,if_pos (by simp[b])]
    ·rw[if_neg b,if_neg (by simp[a];omega)]
     split
     ·rename_i hb;rw[qP _ _ hb]
     ·rfl
   ·rw[if_pos (c:= ¬ _) a,if_pos]
    simp only[Bool.or_eq_true,decide_eq_true_eq,Bool.not_eq_true'];apply Classical.byContradiction;intro h;apply a;simp only[not_or,Bool.not_eq_false] at h;exact ⟨by omega,h.1.1.2,h.1.2,h.2⟩
  rw[h1];refine (Sp.test fun _=>Sp.tick (aa.c7 _) fun hs=>Sp.bind fun _=>key t.t ih _ _ _ hs).iff ?_;rw[Classical.not_not]
theorem Dh (consts codes:Int) (free:Bool) (t:aa) (scope:List Int):ko consts codes free t scope=bW consts codes free t scope:=by
 unfold ko bW
 split;rfl
 split;rfl
 split
 ·rw[Bool.eq_iff_iff];simp;omega
 ·rfl
theorem Jf (level:Int) (h0:0≤level) (h3:level≤3) (t:aa):
  ((de t.op).2=true∧(de t.op).1.fm≤level∧level≤(de t.op).1.to∧mR (de t.op).1 t=true)↔(dW t.op level=true∧di t=true):=by
 have hc:t.op < 0∨t.op > 22∨t.op=0∨t.op=1∨t.op=2∨t.op=3∨t.op=4∨t.op=5∨t.op=6∨t.op=7∨t.op=8∨t.op=9∨t.op=10∨t.op=11∨t.op=12∨t.op=13∨t.op=14∨t.op=15∨t.op=16∨t.op=17∨t.op=18∨t.op=19∨t.op=20∨t.op=21∨t.op=22:=by omega
 rcases hc with h | h | h | h | h | h | h | h | h | h | h | h | h | h | h | h | h | h | h | h | h | h | h | h | h
 ·have e:de t.op=(⟨0,0,0,false,false⟩,false):=by unfold de;repeat rw[if_neg (by omega)]
  have e2:dW t.op level=false:=by unfold dW;repeat rw[if_neg (by omega)]
  simp[e,e2]
 ·have e:de t.op=(⟨0,0,0,false,false⟩,false):=by unfold de;repeat rw[if_neg (by omega)]
  have e2:dW t.op level=false:=by unfold dW;repeat rw[if_neg (by omega)]
  simp[e,e2]
 all_goals
  simp[de,dW,di,mR,oG,h]
  try (first | omega | (simp only[←List.length_eq_zero_iff];omega))
def aa.KF (level consts codes:Int) (free:Bool) (inner:List Int):List aa→Int→Prop
 | [],_=>True
 | x::xs,deep=>aa.lC level consts codes free x inner deep∧aa.KF level consts codes free inner xs deep
theorem aa.Ir {level consts codes:Int} {free:Bool} {op:Int} (hop:op=7∨op=9) (scope inner:List Int) (deep:Int): ∀ l:List aa,aa.eW level consts codes free op scope inner l deep↔(¬((op == 9 && !jd level l.dropLast)=true)∧aa.KF level consts codes free inner l deep)
 | []=>by simp[aa.eW,aa.KF,jd]
 | [x]=>by
  rw[aa.eW,aa.KF,if_pos (.inl rfl)];simp[aa.eW,aa.KF,jd]
 | x::y::l=>by
  rw[aa.eW,aa.KF,if_pos (.inr hop),aa.Ir hop scope inner deep (y::l)]
  have e:(op == 9 && !jd level (x::y::l).dropLast)=true↔(op=9∧x.op≠jf level)∨(op == 9 && !jd level (y::l).dropLast)=true:=by
   rw[show (x::y::l).dropLast=x::(y::l).dropLast from rfl];simp only[jd,jf,Bool.and_eq_true,beq_iff_eq,List.any_cons,Bool.not_not,Bool.or_eq_true,bne_iff_ne];constructor
   ·rintro ⟨h1,h2 | h2⟩
    ·exact .inl ⟨h1,h2⟩
    ·exact .inr ⟨h1,h2⟩
   ·rintro (⟨h1,h2⟩ | ⟨h1,h2⟩)
    ·exact ⟨h1,.inl h2⟩
    ·exact ⟨h1,.inr h2⟩
  rw[e];constructor
  ·rintro ⟨h1,h2,h3,h4⟩
   exact ⟨fun h=>h.elim (fun h=>h1 ⟨h.1,by simp,h.2⟩) h3,h2,h4⟩
  ·rintro ⟨h1,h2,h4⟩
   exact ⟨fun h=>h1 (.inl ⟨h.1,h.2.2⟩),h2,fun h=>h1 (.inr h),h4⟩
theorem aa.CN (level consts codes:Int) (free:Bool) (h0:0≤level) (h3:level≤3) (t:aa): ∀ (scope:List Int) (deep size:Int) (bound:List Int),Sp (t.oH level consts codes free scope deep size bound) (t.lC level consts codes free scope deep) t.cnt t.vars size bound:=by
 induction t using aa.ind with
 | h t ih=>
  intro scope deep size bound
  have keyG: ∀ l:List aa,(∀ y∈l, ∀ (scope:List Int) (deep size:Int) (bound:List Int),Sp (y.oH level consts codes free scope deep size bound) (y.lC level consts codes free scope deep) y.cnt y.vars size bound)→
    ∀ (inner:List Int) (deep size:Int) (bound:List Int),size≤20000→Sp (aa.kG level consts codes free inner l deep size bound) (aa.KF level consts codes free inner l deep) (aa.cQ l) (aa.bN l) size bound:=by
   intro l
   induction l with
   | nil=>intro _ inner deep size bound h;rw[aa.kG,aa.KF,aa.cQ,aa.bN];exact Sp.nil h
   | cons x l ihl=>
    intro hy inner deep size bound h;rw[aa.kG,aa.KF,aa.cQ,aa.bN];exact Sp.seq (hy x (by simp) _ _ _ _) (aa.c7 l) fun b hb=>ihl (fun y hh=>hy y (by simp[hh])) _ _ _ _ hb
  have keyI:t.op≠7→t.op≠9→ ∀ l:List aa,(∀ y∈l, ∀ (scope:List Int) (deep size:Int) (bound:List Int),Sp (y.oH level consts codes free scope deep size bound) (y.lC level consts codes free scope deep) y.cnt y.vars size bound)→
    ∀ (deep size:Int) (bound:List Int),size≤20000→Sp (aa.pI level consts codes free scope t.v l deep size bound) (aa.eW level consts codes free t.op scope (scope++t.v) l deep) (aa.cQ l) (t.v++aa.bN l) size bound:=by
   intro h7 h9 l
   induction l with
   | nil=>intro _ deep size bound h;rw[aa.pI,aa.eW,aa.cQ,aa.bN];exact Sp.bind fun _=>Sp.nil h
   | cons x l ihl=>
    intro hy deep size bound h;rw[aa.pI,aa.eW,aa.cQ,aa.bN]
    cases l with
    | nil=>
     rw[if_pos (show ([]:List aa).isEmpty=true from rfl),if_pos (show ([]:List aa)= []∨t.op=7∨t.op=9 from .inl rfl),aa.cQ,aa.bN,List.append_nil,Int.add_zero];exact (Sp.bind fun _=>hy x (by simp) _ _ _ _).iff (by simp[h9,aa.eW])
    | cons y l=>
     rw[if_neg (show ¬((y::l).isEmpty=true) by simp),if_neg (show ¬((y::l)= []∨t.op=7∨t.op=9) by simp[h7,h9])];refine ((Sp.seq (hy x (by simp) _ _ _ _) (aa.c7 (y::l)) fun b hb=>ihl (fun y hh=>hy y (by simp[hh])) _ _ _ hb).iff (by simp[h9])).perm ?_;rw[←List.append_assoc, ←List.append_assoc];exact List.perm_append_comm.append_right _
  rw[aa.CM,aa.mM,aa.gY,aa.dP];have hsh:=Jf level h0 h3 t
  have hloc:(deep≤400∧dW t.op level=true∧di t=true∧bW consts codes free t scope=true)↔(deep≤400∧((de t.op).2=true∧(de t.op).1.fm≤level∧level≤(de t.op).1.to∧mR (de t.op).1 t=true)∧ko consts codes free t scope=true):=by
   rw[hsh,Dh,and_assoc]
  have hb: ∀ r:Option (Int×List Int),(if yU level consts codes free t scope deep (size + 1)=true then none else r)=
    (if ¬(deep≤400∧dW t.op level=true∧di t=true∧bW consts codes free t scope=true) then none else if size + 1 > 20000 then none else r):=by
   intro r;by_cases a:deep≤400∧dW t.op level=true∧di t=true∧bW consts codes free t scope=true
   ·rw[if_neg (c:= ¬ _) (by simpa using a)]
    have a':=hloc.1 a;by_cases b:size + 1 > 20000
    ·rw[if_pos b,if_pos (by simp[yU,b])]
    ·rw[if_neg b,if_neg (by simp[yU,a'];omega)]
   ·rw[if_pos (c:= ¬ _) a,if_pos]
    simp only[yU,Bool.or_eq_true,decide_eq_true_eq,Bool.not_eq_true'];apply Classical.byContradiction;intro h;apply a;rw[hloc];simp only[not_or,Bool.not_eq_false] at h;exact ⟨by omega,⟨h.1.1.1.1.1.1,by omega,by omega,h.1.2⟩,h.2⟩
  rw[hb];by_cases hg:fV t.op=true
  ·have hop:t.op=7∨t.op=9:=by simpa[fV] using hg
   rw[if_pos hg];refine (Sp.test fun _=>Sp.tick (aa.c7 _) fun hs=>Sp.test fun _=>Sp.bind fun _=>keyG t.t ih _ _ _ _ hs).iff ?_;rw[Classical.not_not,aa.Ir hop]
  ·have hop:t.op≠7∧t.op≠9:=by simpa[fV] using hg
   rw[if_neg hg];refine (Sp.test fun _=>Sp.tick (aa.c7 _) fun hs=>keyI hop.1 hop.2 t.t ih _ _ _ hs).iff ?_;rw[Classical.not_not]
theorem NS (level consts codes:Int) (free:Bool) (h0:0≤level) (h3:level≤3) (t:aa) (scope:List Int) (deep size:Int) (bound:List Int):
  (t.oH level consts codes free scope deep size bound).isSome=(t.wI level consts codes free scope deep size bound).isSome:=by
 rw[Bool.eq_iff_iff,(t.CN level consts codes free h0 h3 scope deep size bound).jS,(t.qR level consts codes free scope deep size bound).jS]
theorem uM {a:List UInt8} (r:List UInt8) (h:a.all eE=true):ig (a++r)=a.length + ig r:=by
 induction a with
 | nil=>simp
 | cons c a ih=>
  simp only[List.all_cons,Bool.and_eq_true] at h;rw[List.cons_append,ig,if_pos h.1,ih h.2,List.length_cons];omega
theorem uN {a:List UInt8} (r:List UInt8) (h:a.all eE=false): ∃ c,a[ig (a++r)]?=some c∧eE c=false∧ig (a++r) < a.length:=by
 induction a with
 | nil=>simp at h
 | cons c a ih=>
  rw[List.cons_append,ig];by_cases hc:eE c=true
  ·rw[List.all_cons,hc,Bool.true_and] at h
   obtain ⟨x,h1,h2,h3⟩:=ih h;rw[if_pos hc];exact ⟨x,by simpa using h1,h2,by simp;exact h3⟩
  ·rw[if_neg hc]
   exact ⟨c,by simp,by simpa using hc,by simp⟩
theorem jv (a:List UInt8):iq a=true↔((cq a).2≠0∧(cq a).2=a.length):=by
 unfold iq cq;cases h:a.all eE
 ·obtain ⟨c,h1,h2,h3⟩:=uN [] h
  rw[List.append_nil] at h3;simp only[Bool.and_false,Bool.false_eq_true,false_iff]
  split
  ·simp
  ·rintro ⟨_,h⟩;simp only at h;omega
 ·have hd:=uM [] h
  rw[List.append_nil] at hd;simp only[ig] at hd;simp only[Bool.and_true,Bool.and_eq_true,decide_eq_true_eq]
  split
  ·simp;omega
  ·simp;omega
theorem xQ {a:List UInt8} (h:iq a=true):jc a=(cq a).1:=by
 have h2:=(jv a).1 h;unfold jc;rw[if_pos h];unfold cq at h2⊢
 split at h2
 ·simp at h2
 ·rename_i hd
  rw[if_neg hd];simp only at h2;rw[h2.2,List.take_length]
theorem Fk (u:List UInt8):(Go.Lib.indexByte u 47 < 0∧tg u 47=u∧(47:UInt8)∉u)∨(∃ a b,u=a++47::b∧0≤Go.Lib.indexByte u 47∧tg u 47=a∧za u 47=b∧(47:UInt8)∉a):=by
 induction u with
 | nil=>left;simp[Go.Lib.indexByte,tg]
 | cons c u ih=>
  by_cases h:c=47
  ·subst h
   right;have e:Go.Lib.indexByte (47::u) 47=0:=by simp[Go.Lib.indexByte]
   exact ⟨[],u,rfl,by omega,by simp[tg,e],by simp[za,e],by simp⟩
  ·have h1:(c == 47)=false:=by simp[h]
   rcases ih with ⟨h2,h3,h4⟩ | ⟨a,b,rfl,h2,h3,h4,h5⟩
   ·have e:Go.Lib.indexByte (c::u) 47= -1:=by have:=Go.Lib.indexByte_ge u 47;rw[Go.Lib.indexByte,h1];simp;omega
    exact .inl ⟨by omega,by simp[tg,e],by simp;exact ⟨fun e=>h e.symm,h4⟩⟩
   ·have e:Go.Lib.indexByte (c::(a++47::b)) 47=Go.Lib.indexByte (a++47::b) 47 + 1:=by rw[Go.Lib.indexByte,h1];simp;omega
    refine .inr ⟨c::a,b,rfl,by omega,?_,?_,by simp;exact ⟨fun e=>h e.symm,h5⟩⟩
    ·unfold tg at h3⊢
     rw[if_pos h2] at h3;rw[if_pos (by omega),e,show (Go.Lib.indexByte (a++47::b) 47 + 1).toNat=(Go.Lib.indexByte (a++47::b) 47).toNat + 1 by omega,List.take_succ_cons,h3]
    ·unfold za at h4⊢
     rw[if_pos h2] at h4;rw[if_pos (by omega),e,show (Go.Lib.indexByte (a++47::b) 47 + 1).toNat=(Go.Lib.indexByte (a++47::b) 47).toNat + 1 by omega,List.drop_succ_cons,h4]
theorem Kj:eE 47=false:=by decide
theorem Iy (s:List UInt8):vH s=vG s:=by
 have hu:(if lQ s=true then s.drop 1 else s)=iw s:=rfl;unfold vH;simp only[hu];rw[xV];generalize iw s=u
 rcases Fk u with ⟨hi,ha,hn⟩ | ⟨a,b,rfl,hi,ha,hb,hn⟩
 ·rw[ha,if_neg (show ¬(0≤Go.Lib.indexByte u 47) by omega)]
  have h49:iq [49]=true:=by decide
  have h49v:jc [49]=1:=by decide
  rw[h49,h49v,Bool.and_true];cases hall:u.all eE
  ·obtain ⟨c,h1,h2,h3⟩:=uN [] hall
   rw[List.append_nil] at h1 h3;have hnb:iq u=false:=by unfold iq;rw[hall];simp
   rw[hnb];simp only[Bool.false_eq_true,if_false];unfold cq
   split
   ·rfl
   ·rename_i h10
    simp only
    split
    ·rfl
    ·have:jL u (ig u)=none:=by
      unfold jL;rw[if_pos h3,if_neg];rintro ⟨h,_⟩;rw[h1] at h;cases h;exact hn (List.mem_of_getElem? h1)
     rw[this]
  ·have hd:=uM [] hall
   rw[List.append_nil] at hd;simp only[ig,Nat.add_zero] at hd;by_cases hnb:iq u=true
   ·have hp:=(jv u).1 hnb
    rw[hnb,if_pos rfl,if_neg hp.1,xQ hnb];have:jL u (cq u).2=some 1:=by unfold jL;rw[if_neg (by omega)]
    rw[this]
   ·have:(cq u).2=0:=by
     have:=mt (jv u).2 hnb;unfold cq at this⊢
     split at this
     ·rename_i h;rw[if_pos h]
     ·rename_i h;rw[if_neg h];simp only at this ⊢; omega
    rw[if_neg hnb,if_pos this]
 ·rw[ha,hb,if_pos hi]
  have h47:ig (47::b)=0:=by rw[ig,Kj];rfl
  cases hall:a.all eE
  ·obtain ⟨c,h1,h2,h3⟩:=uN (47::b) hall
   have hnb:iq a=false:=by unfold iq;rw[hall];simp
   rw[hnb];simp only[Bool.false_and,Bool.false_eq_true,if_false];unfold cq
   split
   ·rfl
   ·simp only
    split
    ·rfl
    ·have:jL (a++47::b) (ig (a++47::b))=none:=by
      unfold jL;rw[if_pos (by simp;omega),if_neg];rintro ⟨h,_⟩;rw[List.getElem?_append_left h3,h1] at h;cases h;exact hn (List.mem_of_getElem? h1)
     rw[this]
  ·have hd:=uM (47::b) hall
   rw[h47,Nat.add_zero] at hd;by_cases hnb:iq a=true
   ·have hp:=(jv a).1 hnb
    have hl:1≤a.length∧a.length≤10:=by
     unfold iq at hnb;simp only[Bool.and_eq_true,decide_eq_true_eq] at hnb;exact ⟨hnb.1,hnb.2.1⟩
    have hpu:cq (a++47::b)=(jc a,a.length):=by
     unfold cq jc;rw[hd,if_neg (by omega),if_pos hnb,List.take_left]
    rw[hpu];simp only;rw[if_neg (show ¬(a.length=0) by omega),hnb,Bool.true_and]
    have hlo:jL (a++47::b) a.length=if iq b=true then some (jc b) else none:=by
     unfold jL;rw[if_pos (by simp)];have e1:(a++47::b)[a.length]?=some 47:=by simp
     have e2:(a++47::b).drop (a.length + 1)=b:=by rw[List.drop_append];simp
     rw[e1,e2];by_cases hb':iq b=true
     ·have:=(jv b).1 hb'
      rw[if_pos hb',xQ hb',if_pos ⟨rfl,this.1,by simp;omega⟩]
     ·rw[if_neg hb',if_neg]
      rintro ⟨_,g1,g2⟩;exact hb' ((jv b).2 ⟨g1,by simp at g2;omega⟩)
    rw[hlo];by_cases hb':iq b=true
    ·rw[if_pos hb',if_pos hb']
    ·rw[if_neg hb',if_neg hb']
   ·have:(cq (a++47::b)).2=0:=by
     unfold cq;rw[hd]
     split
     ·rfl
     ·simp only
      unfold iq at hnb;rw[hall] at hnb;simp only[Bool.and_true,Bool.and_eq_true,decide_eq_true_eq] at hnb;omega
    rw[if_pos this,show iq a=false by simpa using hnb];rfl
theorem Bx:dF.contains=mV:=by
 funext c;simp only[mV,DX,rR,dF,List.contains_cons,List.contains_nil,Bool.or_false];rw[Bool.eq_iff_iff];simp only[Bool.or_eq_true,beq_iff_eq,Bool.and_eq_true,decide_eq_true_eq, ←UInt8.toNat_inj];simp;omega
theorem Kv (s:List UInt8):rS s=qj s:=by
 unfold rS qj;rw[Iy,Bx]
 have ht:((kC mV s).dropWhile mV == [])=s.all mV:=by
  rw[Bool.eq_iff_iff,beq_iff_eq,wo]
 rw[ht];by_cases hs:s= []
 ·subst hs;simp
 ·have hl:=List.length_pos_iff.2 hs
  cases s.all mV<;>cases (vG s).2.2<;>rw[Bool.eq_iff_iff]<;>simp[hs]<;>omega
theorem Im {s:List UInt8} (h:qj s=true):s.any lW=false:=by
 simp only[qj,Bool.and_eq_true] at h;rw[List.any_eq_false];intro c hc;have hm:=List.all_eq_true.1 h.2.2.1 c hc;rw[←Bx] at hm;simp only[dF,List.contains_cons,List.contains_nil,Bool.or_false,Bool.or_eq_true,beq_iff_eq, ←UInt8.toNat_inj] at hm;simp only[lW,Bool.or_eq_true,decide_eq_true_eq];simp at hm ⊢;omega
theorem JR (d:Datum) (deep:Int):gO d deep=gN d deep:=by
 obtain ⟨k,n,e,s,l⟩:=d;have hn:=Kv s;have hs:= @Im s;have hz:s= []→s.any lW=false:=fun h=>by rw[h];rfl
 unfold gO gN;simp only[Datum.kind,Datum.n,Datum.d,Datum.s,Datum.l,mE];generalize s.any lW=B at *;have hc:k < 0∨k > 7∨k=0∨k=1∨k=2∨k=3∨k=4∨k=5∨k=6∨k=7:=by omega
 rcases hc with h | h | h | h | h | h | h | h | h | h
 ·simp[h,show ¬k=0 by omega,show ¬k=1 by omega,show ¬k=2 by omega,show ¬k=3 by omega,show ¬k=4 by omega,show ¬k=5 by omega,show ¬k=6 by omega,show ¬k=7 by omega]
 ·simp[h,show ¬k=0 by omega,show ¬k=1 by omega,show ¬k=2 by omega,show ¬k=3 by omega,show ¬k=4 by omega,show ¬k=5 by omega,show ¬k=6 by omega,show ¬k=7 by omega]
 all_goals
  subst h;rw[Bool.eq_iff_iff];simp
  grind
theorem BR (d:Datum): ∀ deep:Int,d.ej deep=d.cM deep:=by
 induction d using Datum.ind with
 | h d ih=>
  intro deep;rw[Datum.x9,Datum.nZ,JR];congr 1
  have: ∀ l:List Datum,(∀ y∈l, ∀ deep:Int,y.ej deep=y.cM deep)→ ∀ deep,Datum.kA l deep=Datum.eZ l deep:=by
   intro l
   induction l with
   | nil=>intro _ deep;rw[Datum.kA,Datum.eZ]
   | cons x l ihl=>intro hy deep;rw[Datum.kA,Datum.eZ,hy x (by simp),ihl fun y h=>hy y (by simp[h])]
  exact this d.l ih _
theorem wJ (d:Datum):ah Tryz.prog 66 [.agg d.cells] [] (fun y Γ'=>y=.bool (!d.ej 0)∧Γ'= []):=by
 refine ah.ai aj Tryz.func66 rfl rfl (n:=6) rfl rfl ?_
 conv=>whnf
 repeat' (first|refine cW ?_|((first|refine pC (IS d) wR ?_|intro _);conv=>whnf)|(refine zX (fun hc=>?_) (fun hc=>?_)<;>(try simp only[SY] at hc)<;>omega))
 exact an.gen (Wk.refl _) ⟨rfl,rfl⟩
theorem pV (l:List Datum):ay Tryz.prog 38 [.sl 5 (l.map Datum.pv) none] (.bool (l.all fun d=>d.ej 0)):=by
 refine ah.ai aj Tryz.func38 rfl rfl (n:=6) rfl rfl ?_
 conv=>whnf
 skip
 refine au.go (j8 66 [] [] (fun d=>!d.ej 0) l (fun d _=>wJ d)) (bU.refl _) ?_;rintro _ _ ⟨rfl,rfl⟩
 conv=>whnf
 skip
 exact an.pure (Wk.bool (by rw[List.not_any_eq_all_not];simp))
theorem vW:(fun (_:Value)=>(none:Option PV))=bT []:=by
 funext v;unfold bT;split<;>simp
def mI (p:Prog) (level:Int):Int:=
 if (decide (level < 0) || decide (level≥3))=true then 1 else
 if (p.consts.all (fun d=>d.ej 0) && (p.body.oH level p.consts.length 0 false [] 0 0 []).isSome)=true then 0 else 5
theorem Hg (p:Prog) (level:Int) (hb:p.body.bp≤1000000000) (hl:p.consts.length≤1000000000):ay Tryz.prog 23 [.agg p.cells,.int .i64 level] (.int .i64 (mI p level)):=by
 have hs:mI p level=mI p level:=rfl
 conv at hs=>rhs;unfold mI
 refine ah.ai aj Tryz.func23 rfl rfl (n:=31) rfl rfl ?_
 conv=>whnf
 repeat' (first|refine cW ?_|((first|refine pC (pV _) wR ?_|intro _);conv=>whnf)|(refine zX (fun hc=>?_) (fun hc=>?_)<;>(try simp only[SY] at hc)<;>(conv=>whnf)))
 ·rw[hs,if_pos (by simp only[SS];exact hc)]
  exact an.pure (Wk.refl _)
 ·refine eP.ways (fun hg=>?_) (fun hg=>?_)
  ·conv=>whnf
   conv=>whnf
   repeat (first|refine kM ?_|((intro _);conv=>whnf))
   rename_i b1 r1 b2 r2;have hall:(p.consts.all fun d=>d.ej 0)=true:=by simpa using hg
   have hcall:=vR b2 r1 r2 level p.consts.length 0 false p.body [] 0 0 [] [] [] (by omega) (by omega) (by omega) (by omega) (by simp) hb;rw[←vW] at hcall;refine au.Oa (aA.box (b:=b2) (cs:= [.int .i64 level,.int .i64 p.consts.length,.int .i64 0,.bfalse,.int .i64 0,.mp r1]) (cs':=tc level p.consts.length 0 0 false r1) wA) hcall (bU.refl _) ?_;rintro _ _ ⟨rfl,sz,mb,ms,pb,ps,rfl,hs2⟩
   conv=>whnf
   repeat' ((refine zX (fun hc=>?_) (fun hc=>?_)<;>(try simp only[SY] at hc)<;>(conv=>whnf)))
   ·rw[hs,if_neg (by simp only[SS];omega),if_neg (by rw[hc,hall];simp)]
    exact an.pure (Wk.refl _)
   ·rw[hs,if_neg (by simp only[SS];omega),if_pos (by rw[hc,hall];rfl)]
    exact an.pure (Wk.refl _)
  ·conv=>whnf
   rw[hs,if_neg (by simp only[SS];omega),if_neg (by simp only[Bool.not_not] at hg;rw[hg];simp)];exact an.pure (Wk.refl _)
theorem AP (p:Prog) (level:Int):mI p level=yZ p level:=by
 unfold mI yZ;have hr:(fun d:Datum=>d.ej 0)=fun d=>d.cM 0:=by funext d;exact BR d 0
 by_cases h:(decide (level < 0) || decide (level > 2))=true
 ·rw[if_pos h,if_pos (by simp at h ⊢; omega)]
 ·rw[if_neg h,if_neg (by simp at h ⊢; omega),hr,NS _ _ _ _ (by simp at h;omega) (by simp at h;omega)]
structure bZ where
 v:List Int
 rest:Bool
 body:aa
def bZ.cells (c:bZ):List PV:=.sl 1 (c.v.map (PV.int .i64)) none::.bool c.rest::c.body.cells
def bZ.pv (c:bZ):PV:=.agg c.cells
instance:ec bZ.pv bZ.cells:=⟨fun _=>rfl⟩
structure qI where
 consts:List Datum
 codes:List bZ
 body:aa
def qI.cells (m:qI):List PV:=.sl 5 (m.consts.map Datum.pv) none::.sl 6 (m.codes.map bZ.pv) none::m.body.cells
def bZ.bp (c:bZ):Nat:=c.v.length + c.body.bp
def bC:List bZ→Nat
 | []=>0
 | x::l=>x.bp + bC l
theorem lI {x:bZ}: ∀ {l:List bZ},x∈l→x.bp≤bC l
 | [],h=>by cases h
 | y::l,h=>by
  rw[bC];rcases List.mem_cons.1 h with rfl | h
  ·omega
  ·have:=lI h;omega
def vz (consts codes:Int):List bZ→Int→List Int→Option (Int×List Int)
 | [],size,bound=>some (size,bound)
 | x::xs,size,bound=>if (bH x.v bound).1=true then if x.rest=true∧x.v= [] then none else match x.body.wI 3 consts codes true x.v 0 size (bH x.v bound).2 with
  | none=>none
  | some (s,b)=>vz consts codes xs s b
  else none
def vA (consts codes:Int):List bZ→Int→List Int→Option (Int×List Int)
 | [],size,bound=>some (size,bound)
 | x::xs,size,bound=>if x.rest=true∧x.v= [] then none else if (bH x.v bound).1=true then match x.body.oH 3 consts codes true x.v 0 size (bound++x.v) with
  | none=>none
  | some (s,b)=>vA consts codes xs s b
  else none
def mW (consts codes:Int):List bZ→Prop
 | []=>True
 | x::xs=> ¬(x.rest=true∧x.v= [])∧x.body.lC 3 consts codes true x.v 0∧mW consts codes xs
def iG:List bZ→Int
 | []=>0
 | x::xs=>x.body.cnt + iG xs
def lP:List bZ→List Int
 | []=> []
 | x::xs=>x.v++(x.body.vars++lP xs)
theorem eV: ∀ l:List bZ,0≤iG l
 | []=>by simp[iG]
 | x::l=>by rw[iG];have:=x.body.gp;have:=eV l;omega
theorem EM (consts codes:Int): ∀ (l:List bZ) (size:Int) (bound:List Int),size≤20000→Sp (vA consts codes l size bound) (mW consts codes l) (iG l) (lP l) size bound
 | [],size,bound,h=>by rw[vA,mW,iG,lP];exact Sp.nil h
 | x::l,size,bound,h=>by
  rw[vA,mW,iG,lP];exact Sp.test fun _=>Sp.bind fun _=>Sp.seq (x.body.CN 3 consts codes true (by omega) (by omega) _ _ _ _) (eV l) fun b hb=>EM consts codes l _ _ hb
theorem tU (consts codes:Int): ∀ (l:List bZ) (size:Int) (bound:List Int),size≤20000→Sp (vz consts codes l size bound) (mW consts codes l) (iG l) (lP l) size bound
 | [],size,bound,h=>by rw[vz,mW,iG,lP];exact Sp.nil h
 | x::l,size,bound,h=>by
  rw[vz,mW,iG,lP];refine Sp.bind fun hb=>?_;rw[qP _ _ hb];exact Sp.test fun _=>Sp.seq (x.body.qR 3 consts codes true _ _ _ _) (eV l) fun b hb=>tU consts codes l _ _ hb
def LN (r:Option (Int×List Int)) (f:Int→List Int→Option (Int×List Int)):Option (Int×List Int):=match (generalizing:=false) r with
 | none=>none
 | some (s,b)=>f s b
def Db (m:qI):Int:=if (m.consts.all (fun d=>d.cM 0) && (LN (m.body.wI 3 m.consts.length m.codes.length false [] 0 0 []) (vz m.consts.length m.codes.length m.codes)).isSome)=true then 0 else 5
def vv (m:qI):Int:=if (m.consts.all (fun d=>d.ej 0) && (LN (m.body.oH 3 m.consts.length m.codes.length false [] 0 0 []) (vA m.consts.length m.codes.length m.codes)).isSome)=true then 0 else 5
theorem Dc (m:qI):vv m=Db m:=by
 unfold vv Db;have hr:(fun d:Datum=>d.ej 0)=fun d=>d.cM 0:=by funext d;exact BR d 0
 have h1:=(Sp.seq (m.body.CN 3 m.consts.length m.codes.length false (by omega) (by omega) [] 0 0 []) (eV m.codes) fun b hb=>EM m.consts.length m.codes.length m.codes _ b hb).jS;have h2:=(Sp.seq (m.body.qR 3 m.consts.length m.codes.length false [] 0 0 []) (eV m.codes) fun b hb=>tU m.consts.length m.codes.length m.codes _ b hb).jS
 have:(LN (m.body.oH 3 m.consts.length m.codes.length false [] 0 0 []) (vA m.consts.length m.codes.length m.codes)).isSome=(LN (m.body.wI 3 m.consts.length m.codes.length false [] 0 0 []) (vz m.consts.length m.codes.length m.codes)).isSome:=by
  rw[Bool.eq_iff_iff];exact Iff.trans h1 h2.symm
 rw[hr,this]
abbrev bq:=List (Int×Nat)
inductive Vl where
 | mk (k n d:Int) (s:List UInt8) (l:List Vl) (p:Option Nat) (c:Option Nat)
def Vl.k:Vl→Int | .mk k _ _ _ _ _ _=>k
def Vl.n:Vl→Int | .mk _ n _ _ _ _ _=>n
def Vl.d:Vl→Int | .mk _ _ d _ _ _ _=>d
def Vl.s:Vl→List UInt8 | .mk _ _ _ s _ _ _=>s
def Vl.l:Vl→List Vl | .mk _ _ _ _ l _ _=>l
def Vl.p:Vl→Option Nat | .mk _ _ _ _ _ p _=>p
def Vl.c:Vl→Option Nat | .mk _ _ _ _ _ _ c=>c
def bF:bq→PV
 | []=>.np
 | (v,a)::e=>.ep [.int .i64 v,.ptr a 0,bF e]
def mc:Option Nat→PV
 | none=>.np
 | some a=>.ptr a 0
def kF:Option Nat→PV
 | none=>.np
 | some a=>.ptr a 0
mutual
def Vl.pv:Vl→PV
 | .mk k n d s l p c=>.agg [.int .i64 k,.int .i64 n,.int .i64 d,.str s,.sl 7 (Vl.EX l) none,mc p,kF c]
def Vl.EX:List Vl→List PV
 | []=> []
 | x::xs=>Vl.pv x::Vl.EX xs
end
theorem Vl.m6: ∀ l:List Vl,Vl.EX l=l.map Vl.pv
 | []=>rfl
 | x::xs=>by simp only[Vl.EX,List.map_cons,Vl.m6 xs]
def Vl.cells (x:Vl):List PV:= [.int .i64 x.k,.int .i64 x.n,.int .i64 x.d,.str x.s,.sl 7 (x.l.map Vl.pv) none,mc x.p,kF x.c]
abbrev aS (x:Vl):List PV:= [.int .i64 x.k,.int .i64 x.n,.int .i64 x.d,.str x.s,.sl 7 (x.l.map Vl.pv) none,mc x.p,kF x.c]
abbrev qQ (x:Vl) (r:Bool):List PV:= [.int .i64 x.k,.int .i64 x.n,.int .i64 x.d,.str x.s,.sl 7 (x.l.map Vl.pv) none,mc x.p,kF x.c,.bool r]
theorem Vl.gC (x:Vl):x.pv=.agg x.cells:=by
 cases x;simp only[Vl.pv,Vl.cells,Vl.m6,Vl.k,Vl.n,Vl.d,Vl.s,Vl.l,Vl.p,Vl.c]
instance:ec Vl.pv Vl.cells:=⟨fun x=>by rw[Vl.gC];rfl⟩
mutual
theorem Vl.ki {p:Vl→Prop} (h: ∀ x:Vl,(∀ y∈x.l,p y)→p x): ∀ d,p d
 | .mk k n d s l pr c=>h (.mk k n d s l pr c) (Vl.iT h l)
theorem Vl.iT {p:Vl→Prop} (h: ∀ x:Vl,(∀ y∈x.l,p y)→p x): ∀ (l:List Vl), ∀ x∈l,p x
 | []=>by simp
 | y::ys=>List.forall_mem_cons.2 ⟨Vl.ki h y,Vl.iT h ys⟩
end
theorem Vl.ind {p:Vl→Prop} (h: ∀ x:Vl,(∀ y∈x.l,p y)→p x) (d:Vl):p d:=Vl.ki h d
instance:Lv Vl:=⟨.mk 0 0 0 [] [] none none⟩
instance (priority:=high) dy.PX (t:Vl):dy Vl.pv (Vl.pv t) t:=⟨Wk.refl _,ia.refl _⟩
instance (priority:=high) dy.Pv (t:Vl):dy Vl.pv (.agg t.cells) t:=⟨by rw[Vl.gC];exact Wk.refl _,by rw[Vl.gC];exact ia.refl _⟩
theorem dy.PL {x:List PV} {t:Vl} (h:ia x t.cells):dy Vl.pv (.agg x) t:=⟨by rw[Vl.gC];exact Wk.agg h,by rw[Vl.gC];exact h⟩
instance (priority:=high) dy.Pw (t:Vl) (tk:Option Tok):dy Vl.pv (.agg [.int .i64 (Vl.k t),.int .i64 (Vl.n t),.int .i64 (Vl.d t),.str (Vl.s t),.sl 7 ((Vl.l t).map Vl.pv) tk,mc (Vl.p t),kF (Vl.c t)]) t:=
 dy.PL (.cons (Wk.refl _) (.cons (Wk.refl _) (.cons (Wk.refl _) (.cons (Wk.refl _) (.cons (Wk.tok _ _ _) (.cons (Wk.refl _) (.cons (Wk.refl _) .nil)))))))
class l7 {α:Type} (f:α→PV) (x:PV) (v:outParam α):Prop where
 h:x=f v
instance l7.PG:l7 mc .np none:=⟨rfl⟩
instance l7.PI:l7 kF .np none:=⟨rfl⟩
instance l7.PS (a:Nat):l7 mc (.ptr a 0) (some a):=⟨rfl⟩
instance l7.PT (a:Nat):l7 kF (.ptr a 0) (some a):=⟨rfl⟩
instance (priority:=high) l7.same {α:Type} (f:α→PV) (v:α):l7 f (f v) v:=⟨rfl⟩
instance dy.Qo (a b c:Int) (s:List UInt8) (x y z:PV) (l:List Vl) (p:Option Nat) (q:Option Nat) [h:mh Vl.pv 7 x l] [hy:l7 mc y p] [hz:l7 kF z q]:dy Vl.pv (.agg [.int .i64 a,.int .i64 b,.int .i64 c,.str s,x,y,z]) (.mk a b c s l p q):=
 dy.PL (.cons (Wk.refl _) (.cons (Wk.refl _) (.cons (Wk.refl _) (.cons (Wk.refl _) (.cons h.wk (.cons (by rw[hy.h];exact Wk.refl _) (.cons (by rw[hz.h];exact Wk.refl _) .nil)))))))
theorem l9.wk {x:PV} {t:Vl} [h:dy Vl.pv x t]:Wk x (.agg t.cells):=by rw[←Vl.gC];exact h.wk
theorem bY {x:PV} {l:List PV} {K:List PV→Prop} (hx:sy x=x) (h:sA l fun r=>K (x::r)):sA (x::l) K:=by
 rw[vE] at h ⊢;rw[List.map_cons,hx];exact h
theorem nC {p:Option Nat}:sy (mc p)=mc p:=by cases p<;>rfl
abbrev bx:Vl:=.mk 0 0 0 [] [] none none
abbrev fF (k:Int):Vl:=.mk k 0 0 [] [] none none
mutual
def cN:Datum→Vl
 | .mk k n d s l=>.mk k n d s (E7 l) none none
def E7:List Datum→List Vl
 | []=> []
 | x::xs=>cN x::E7 xs
end
theorem Ci: ∀ l:List Datum,E7 l=l.map cN
 | []=>rfl
 | x::l=>by rw[E7,Ci l];rfl
theorem oa (d:Datum):cN d=.mk d.kind d.n d.d d.s (d.l.map cN) none none:=by cases d;rw[cN,Ci];rfl
def mu (l:List Vl):Vl:=l.foldr (fun x r=>.mk 6 0 0 [] [x,r] none none) (fF 4)
structure qH where
 v:List Int
 rest:Bool
 body:aa
 env:bq
 code:Int
 over:List Vl
abbrev wW (f:qH):List PV:= [.sl 1 (f.v.map (PV.int .i64)) none,.bool f.rest,.int .i64 f.body.op,.int .i64 f.body.n,.sl 1 (f.body.v.map (PV.int .i64)) none,.sl 4 (f.body.t.map aa.pv) none,bF f.env,.int .i64 f.code,.sl 7 (f.over.map Vl.pv) none]
inductive Ob where
 | cell (x:Vl) (r:Bool)
 | eH (f:qH)
def KB:Ob→List PV
 | .cell x r=>qQ x r
 | .eH f=>wW f
abbrev Hp:=List (Nat×Ob)
def nP (h:Hp):List ak:=h.map fun c=>.box c.1 (KB c.2)
def fc:bq→Int→Option Nat
 | [],_=>none
 | (x,a)::e,v=>if x=v then some a else fc e v
structure bJ where
 fuel:Int
 out:List UInt8
 alive:List Bool
 to:Int
 val:Vl
 h:Hp
structure KC where
 k:List Vl
 c:List bZ
abbrev FX (K:KC) (t:Tok) (s:bJ):List PV:= [.sl 7 (K.k.map Vl.pv) none,.sl 6 (K.c.map bZ.pv) none,.int .i64 s.fuel,.str s.out,.ms t,.int .i64 s.to,.int .i64 s.val.k,.int .i64 s.val.n,.int .i64 s.val.d,.str s.val.s,.sl 7 (s.val.l.map Vl.pv) none,mc s.val.p,kF s.val.c]
abbrev bw (b:Nat) (K:KC) (t:Tok) (s:bJ):List ak:=.box b (FX K t s)::.row t (s.alive.map PV.bool)::nP s.h
def LZ (s:List UInt8) (k:Nat) (r:Nat×Int):Prop:=r.1≤s.length∧((r.2= -1∧k < r.1)∨0≤r.2)
theorem LZ.mono {s:List UInt8} {k j:Nat} {r:Nat×Int} (h:LZ s j r) (hk:k≤j):LZ s k r:=⟨h.1,h.2.imp (fun h=>⟨h.1,by omega⟩) id⟩
theorem LZ.fail {s:List UInt8} {k j i:Nat} (h:j≤s.length):LZ s k (j,(i:Int)):=⟨h,.inr (Int.natCast_nonneg _)⟩
theorem LZ.ok {s:List UInt8} {k j:Nat} (h:j≤s.length) (h2:k < j):LZ s k (j, -1):=⟨h,.inl ⟨rfl,h2⟩⟩
theorem lX.wk {x:PV} {t:Datum} [h:dy Datum.pv x t]:Wk x (.agg t.cells):=by rw[←Datum.gC];exact h.wk
theorem gJ.gh {σ:Type} {ds:List Nat} {R:σ→List (Nat×PV)} {G:σ→List ak} {I:σ→Prop} {μ:σ→Nat} {T0:List PV} {s:σ} {T:List PV} {Γ:List ak} {D:Ds} (s':σ) (hI:I s') (hμ:μ s' < μ s)
  (hw:eB 0 T T0 ds (R s')) (hg:aA Γ (G s')):gJ ds R G I μ T0 s D T Γ D:=⟨rfl,s',hI,hμ,fX.of (eB.wk 0 T T0 ds (R s') hw) hg⟩
abbrev Pn (b:Nat):ak:=.box b [.int .i64 0,.int .i64 0,.int .i64 0,.str [],.nil]
section
theorem aI.gh {B:List PV→List ak→Ds→QT→Prop} {T:List PV} {Γ Γ':List ak} {D:Ds} {Q:QT} (hg:aA Γ Γ') (h:aI B T Γ' D Q):aI B T Γ D Q:=by
 obtain ⟨I,J,⟨n,T0,Γ0,h1,h2⟩,h3,h4⟩:=h.h;refine ⟨I,J,⟨n,T0,Γ0,fun w0 F M w vs hS hT=>?_,h2⟩,h3,h4⟩;obtain ⟨F1,e1,hS1⟩:=hg w0 F M w hS;obtain ⟨F2,e2,hS2,hT2⟩:=h1 w0 F1 M w vs hS1 (av.mono e1 _ _ hT);exact ⟨F2,Fz.le_trans e1 e2,hS2,hT2⟩
end
abbrev jE (d:Datum):List PV:= [.int .i64 d.kind,.int .i64 d.n,.int .i64 d.d,.str d.s,.sl 5 (d.l.map Datum.pv) none]
theorem KH {a b:Datum} {tk:Option Tok}:ia [.int .i64 6,.int .i64 0,.int .i64 0,.str [],.sl 5 [.agg (jE a),.agg (jE b)] tk] (jE (xU a b)):=
 .cons (Wk.refl _) (.cons (Wk.refl _) (.cons (Wk.refl _) (.cons (Wk.refl _) (.cons (mh.wk (f:=Datum.pv) (l:= [a,b])) .nil))))
theorem MM:ia [.int .i64 4,.int .i64 0,.int .i64 0,.str [],.nil] (jE jQ):=.cons (Wk.refl _) (.cons (Wk.refl _) (.cons (Wk.refl _) (.cons (Wk.refl _) (.cons (Wk.lp rfl) .nil))))
theorem FG {p q:Prop} (k:q) (h:q→p:=by intro hq;first | exact aC.sP (some 13) rfl [] [7] aj mixed hq):p:=h k
theorem Ie (l:List Datum):ay Tryz.prog 182 [.sl 5 (l.map Datum.pv) none] (.agg (xN l).cells):=by
 refine ah.ai aj Tryz.func182 rfl rfl (n:=21) rfl rfl ?_
 conv=>whnf
 repeat' (first|refine aW ?_|((intro _);conv=>whnf)|(refine zX (fun hc=>?_) (fun hc=>?_)<;>(try simp only[SY] at hc)<;>omega))
 rename_i b2 b3 hl;refine aI.gh (aA.box (b:=b3) (cs:= [.int .i64 4,.int .i64 0,.int .i64 0,.str [],.nil]) (cs':=jE jQ) MM) ?_;refine aI.over [4,9,10,11,12,13,14,15,16,17,18,19] (fun x:Nat×Datum=> [(4,.int .i64 ((x.1:Int) - 1))]) (fun x:Nat×Datum=> [Pn b2,.box b3 (jE x.2)]) (fun x=>x.1≤l.length∧x.2=(l.drop x.1).foldr xU jQ) (fun x=>x.1) (l.length,jQ) ⟨Nat.le_refl _,by rw[List.drop_of_length_le (Nat.le_refl _)];rfl⟩ wA ?_;rintro ⟨i,D⟩ ⟨hi,hD⟩;dsimp only at hi hD⊢
 conv=>whnf
 repeat' (first|refine aW ?_|((refine FG ?_);conv=>whnf)|(refine zX (fun hc=>?_) (fun hc=>?_)<;>(try simp only[SY] at hc)<;>(conv=>whnf)))
 ·have h1:i - 1 < l.length:=by omega
  have e:l.drop (i - 1)=l[i - 1]::l.drop i:=by rw[aq h1,show i - 1 + 1=i by omega]
  refine gJ.gh (i - 1,xU l[i - 1] D) ⟨by show i - 1≤_;omega,by show xU _ _=_;rw[e,hD];rfl⟩ (by show i - 1 < i;omega) wA ?_;refine aA.trans (aA.box (b:=b3) (cs:= [.int .i64 6,.int .i64 0,.int .i64 0,.str [],.sl 5 [.agg (jE l[i - 1]),.agg (jE D)] none]) (cs':=jE (xU l[i - 1] D)) KH) ?_;exact aA.pick
 ·have e:D=xN l:=by rw[hD,show i=0 by omega];rfl
  rw[←e];exact an.pure (Wk.refl _)
section
variable {P:Program} {tt:Nat→TI}
theorem kQ {full:List Oper} {Γ:List ak} {k k':List PV→Prop} (hk: ∀ T,k T→k' T): ∀ (l:List Oper) (T:List PV),eA P tt full l T Γ k→eA P tt full l T Γ k'
 | [],T,h=>hk T h
 | x::l,T,h=>by
  obtain ⟨v,h1,h2⟩:=iy.1 h;exact iy.2 ⟨v,h1,kQ hk l _ h2⟩
theorem N7 (hk:TT.ok P tt) (rd:Option Nat) (nn:Nat) {ops:Array Oper} {bK R2:List Nat} (hc:fq ops bK=true) {w0:World} {M Γ2:List ak} {F0:Fz} {ds:List Deferred} {Q':Exit→Act→World→Prop}
    {Tl:List PV→List ak→Prop} (hTl: ∀ (fuel:Nat) (listed:Array Bool) (T:List PV) (Γ:List ak) (F:Fz) (a:Act) (w:World),R2.length≤fuel→Down ops listed→ez ops listed R2→F0.le F→aN w0 F (Γ++M) w→av F T a.tmps.toList→a.defers=ds→
      Tl T Γ→wpAnyIn (cY rd) nn P .any ops Q' fuel listed a w) {p q:Nat} {R:List Nat}:
    ∀ (n:Nat) (A:List Nat) (fuel:Nat) (listed:Array Bool) (T:List PV) (Γ1:List ak) (F:Fz) (a:Act) (w:World),A.length=n→n + (2 + R.length) + R2.length≤fuel→
      Down ops listed→ez ops listed (A++(p::q::(R++R2)))→dM ops bK A (p::R) R2→dM ops bK A (q::R) R2→F0.le F→aN w0 F (Γ1++(Γ2++M)) w→av F T a.tmps.toList→a.defers=ds→
      (eA P tt ops.toList (A.filterMap (ops[·]?)) T Γ2 fun T'=>(bG P tt ops.toList ((p::q::R).filterMap (ops[·]?)) T' Γ1 [] fun T2 Γ1' _=>Tl T2 (Γ1'++Γ2))∧(bG P tt ops.toList ((q::p::R).filterMap (ops[·]?)) T' Γ1 [] fun T2 Γ1' _=>Tl T2 (Γ1'++Γ2)))→
      wpAnyIn (cY rd) nn P .any ops Q' fuel listed a w:=by
  intro n
  induction n with
  | zero | succ n ih=>
    intro A fuel listed T Γ1 F a w hn hf hd hp hsp hsq hle hS hT hds h
    cases fuel with
    | zero=>omega
    | succ fuel=>
    refine ⟨fun hnil=>?_,fun i hi=>?_⟩
    · exfalso
      cases hAR:A++(p::q::(R++R2)) with
      | nil=>simp at hAR
      | cons x xs=>
        rw[hAR] at hp;obtain ⟨k,hk'⟩:=ei hc hp;rw[hnil] at hk';cases hk'
    · obtain ⟨o,ho⟩:=hp.2.2 i (hp.ready hi)
      have un: ∀ {j:Nat},j∈A++(p::q::(R++R2))→gl bK i j=true→False:=fun {j} hj ha=>blocked hc hd i ho ha ((hp.2.1 j).2 hj) hi
      have free: ∀ {j:Nat} {x:Oper},j∈A++(p::q::(R++R2))→ops[j]?=some x→(gl bK i j=true∨bn ops j i=true)→x.apart ops o=true:=by
        intro j x hj hx h;rcases h with h | h
        · exact (un hj h).elim
        · simpa[bn,hx,ho] using h
      have hmem:=hp.ready hi;rw[List.mem_append,List.mem_cons,List.mem_cons,List.mem_append] at hmem;rcases hmem with hm | hm | hm | hm | hm
      · first
        | (exfalso;rw[List.eq_nil_of_length_eq_zero hn] at hm;cases hm)
        | (obtain ⟨A1,A2,rfl⟩:=List.append_of_mem hm
           rw[dZ ho] at h
           have hap: ∀ x∈A1.filterMap (ops[·]?),x.apart ops o=true:=by
             intro x hx;obtain ⟨j,hj,hx⟩:=List.mem_filterMap.1 hx;exact free (by simp[hj]) hx ((List.pairwise_append.1 hsp.pa).2.2 j hj i (by simp))
           obtain ⟨v,h1,h2⟩:=iz _ T hap h
           have hS2:aN w0 F (Γ2++(Γ1++M)) w:=hS.perm (by
             rw[←List.append_assoc, ←List.append_assoc]
             exact List.perm_append_comm.append_right M)
           unfold wpOpIn;simp only[ho]
           have key:=iA hk (rd:=rd) (nn:=nn) (Q:=Q') (next:=fun a w=>wpAnyIn (cY rd) nn P .any ops Q' fuel (listed.setIfInBounds i true) a w) hS2 hT h1 (by
             intro F' u w' hle' hS' hx
             refine ih (A1++A2) fuel _ (eX T o.dst v) Γ1 F' _ w' (by simp at hn ⊢; omega) (by omega) (hd.set hi) ?_ hsp.pY hsq.pY (Fz.le_trans hle hle') ?_ (dm (av.mono hle' _ _ hT) hx o.dst)
               ((put_defers a o.dst u).trans hds) ?_
             · have:=ez.set (l1:=A1) (l2:=A2++(p::q::(R++R2))) (i:=i) (by simpa using hp)
               rwa [List.append_assoc]
             · exact hS'.perm (by
                 rw[←List.append_assoc, ←List.append_assoc]
                 exact List.perm_append_comm.append_right M)
             · rw[List.filterMap_append];exact h2)
           split at key<;>rename_i hw
           · rw[if_pos hw];exact key
           · rw[if_neg hw];exact ⟨fun _ _=>trivial,key⟩)
      · subst hm
        have hg:o.guard=none:=hsp.ug i (by simp) o ho;have e1:(i::q::R).filterMap (ops[·]?)=o::(q::R).filterMap (ops[·]?):=by rw[List.filterMap_cons,ho]
        have h:=kQ (fun _ h=>h.1) _ _ h;rw[e1] at h
        have hap: ∀ x∈A.filterMap (ops[·]?),x.apart ops o=true:=by
          intro x hx;obtain ⟨j,hj,hx⟩:=List.mem_filterMap.1 hx;exact free (by simp[hj]) hx (hsp.par j hj i (by simp))
        have h2:=gM (kk:=fun T' Γ1'=>bG P tt ops.toList ((q::R).filterMap (ops[·]?)) T' Γ1' [] fun T2 Γ1' _=>Tl T2 (Γ1'++Γ2)) _ T hap (by
          have hnd:=hsp.nd i (by simp) o ho
          simpa only[bG,hg,eR hnd,m0] using h)
        unfold wpOpIn;simp only[ho];rw[if_pos (by simp[Region.wanted,hg])];refine dX hk (M:=Γ2++M) hS hT h2 ?_;rintro F' x Γ' v' w' hle' hS' hx hK
        refine Eu hk rd nn hc hTl _ A (q::R) fuel _ (eX T o.dst x) Γ' F' _ w' rfl (by simp only[List.length_cons];omega) (hd.set hi) ?_ hsq (Fz.le_trans hle hle') hS' (dm (av.mono hle' _ _ hT) hx o.dst)
          ((put_defers a o.dst v').trans hds) hK
        have:=ez.set (l1:=A) (l2:=q::(R++R2)) (i:=i) (by simpa using hp);simpa using this
      · subst hm
        have hg:o.guard=none:=hsq.ug i (by simp) o ho;have e1:(i::p::R).filterMap (ops[·]?)=o::(p::R).filterMap (ops[·]?):=by rw[List.filterMap_cons,ho]
        have h:=kQ (fun _ h=>h.2) _ _ h;rw[e1] at h
        have hap: ∀ x∈A.filterMap (ops[·]?),x.apart ops o=true:=by
          intro x hx;obtain ⟨j,hj,hx⟩:=List.mem_filterMap.1 hx;exact free (by simp[hj]) hx (hsq.par j hj i (by simp))
        have h2:=gM (kk:=fun T' Γ1'=>bG P tt ops.toList ((p::R).filterMap (ops[·]?)) T' Γ1' [] fun T2 Γ1' _=>Tl T2 (Γ1'++Γ2)) _ T hap (by
          have hnd:=hsq.nd i (by simp) o ho
          simpa only[bG,hg,eR hnd,m0] using h)
        unfold wpOpIn;simp only[ho];rw[if_pos (by simp[Region.wanted,hg])];refine dX hk (M:=Γ2++M) hS hT h2 ?_;rintro F' x Γ' v' w' hle' hS' hx hK
        refine Eu hk rd nn hc hTl _ A (p::R) fuel _ (eX T o.dst x) Γ' F' _ w' rfl (by simp only[List.length_cons];omega) (hd.set hi) ?_ hsp (Fz.le_trans hle hle') hS' (dm (av.mono hle' _ _ hT) hx o.dst)
          ((put_defers a o.dst v').trans hds) hK
        have:=ez.set (l1:=A++ [p]) (l2:=R++R2) (i:=i) (by simpa using hp);simpa using this
      · exact (un (j:=p) (by simp) ((List.pairwise_cons.1 hsp.r1).1 i hm)).elim
      · exact (un (j:=p) (by simp) (hsp.tl p (by simp) i hm)).elim
def qA (ops:Array Oper) (bK A R1 R2:List Nat):Bool:=
 fe (fun j i=>gl bK i j || bn ops j i) A && A.all (fun j=>R1.all fun i=>gl bK i j || bn ops j i) &&
 fe (fun j i=>gl bK i j) R1 && (A++R1).all (fun j=>R2.all fun i=>gl bK i j) &&
 R1.all (fun i=>match ops[i]? with | some o=>o.guard.isNone | none=>false) && R1.all (fun i=>match ops[i]? with | some o=>jP o.op | none=>false)
theorem dM.Ph {ops:Array Oper} {bK A R1 R2:List Nat} (h:qA ops bK A R1 R2=true):dM ops bK A R1 R2:=by
 simp only[qA,Bool.and_eq_true] at h;obtain ⟨⟨⟨⟨⟨h1,h2⟩,h3⟩,h5⟩,h6⟩,h6'⟩:=h;refine ⟨(bP h1).imp fun h=>by simpa using h,fun j hj i hi=>?_,bP h3,fun j hj i hi=>?_,fun i hi o ho=>?_,fun i hi o ho=>?_⟩
 ·have:=List.all_eq_true.1 (List.all_eq_true.1 h2 j hj) i hi
  simpa using this
 ·exact List.all_eq_true.1 (List.all_eq_true.1 h5 j hj) i hi
 ·have:=List.all_eq_true.1 h6 i hi
  rw[ho] at this;simpa using this
 ·have:=List.all_eq_true.1 h6' i hi
  rw[ho] at this;exact this
end
section
variable {P:Program} {tt:Nat→TI}
theorem N9 (hk:TT.ok P tt) (rd:Option Nat) (nn:Nat) {ops:Array Oper} {bK R2:List Nat} (hc:fq ops bK=true) {w0:World} {M Γ2:List ak} {F0:Fz} {ds:List Deferred} {Q':Exit→Act→World→Prop}
    {Tl:List PV→List ak→Prop} (hTl: ∀ (fuel:Nat) (listed:Array Bool) (T:List PV) (Γ:List ak) (F:Fz) (a:Act) (w:World),R2.length≤fuel→Down ops listed→ez ops listed R2→F0.le F→aN w0 F (Γ++M) w→av F T a.tmps.toList→a.defers=ds→
      Tl T Γ→wpAnyIn (cY rd) nn P .any ops Q' fuel listed a w) {p q m:Nat} {R:List Nat}:
    ∀ (n:Nat) (A:List Nat) (fuel:Nat) (listed:Array Bool) (T:List PV) (Γ1:List ak) (F:Fz) (a:Act) (w:World),A.length=n→n + (3 + R.length) + R2.length≤fuel→
      Down ops listed→ez ops listed (A++(p::q::m::(R++R2)))→dM ops bK A (p::R) R2→dM ops bK A (q::m::R) R2→dM ops bK A (m::R) R2→F0.le F→aN w0 F (Γ1++(Γ2++M)) w→av F T a.tmps.toList→a.defers=ds→
      (eA P tt ops.toList (A.filterMap (ops[·]?)) T Γ2 fun T'=>(bG P tt ops.toList ((p::q::m::R).filterMap (ops[·]?)) T' Γ1 [] fun T2 Γ1' _=>Tl T2 (Γ1'++Γ2))∧(bG P tt ops.toList ([q].filterMap (ops[·]?)) T' Γ1 [] fun T2 Γ1' _=>(bG P tt ops.toList ((p::m::R).filterMap (ops[·]?)) T2 Γ1' [] fun T2 Γ1' _=>Tl T2 (Γ1'++Γ2))∧(bG P tt ops.toList ((m::p::R).filterMap (ops[·]?)) T2 Γ1' [] fun T2 Γ1' _=>Tl T2 (Γ1'++Γ2))))→
      wpAnyIn (cY rd) nn P .any ops Q' fuel listed a w:=by
  intro n
  induction n with
  | zero | succ n ih=>
    intro A fuel listed T Γ1 F a w hn hf hd hp hsp hsq hsm hle hS hT hds h
    cases fuel with
    | zero=>omega
    | succ fuel=>
    refine ⟨fun hnil=>?_,fun i hi=>?_⟩
    · exfalso
      cases hAR:A++(p::q::m::(R++R2)) with
      | nil=>simp at hAR
      | cons x xs=>
        rw[hAR] at hp;obtain ⟨k,hk'⟩:=ei hc hp;rw[hnil] at hk';cases hk'
    · obtain ⟨o,ho⟩:=hp.2.2 i (hp.ready hi)
      have un: ∀ {j:Nat},j∈A++(p::q::m::(R++R2))→gl bK i j=true→False:=fun {j} hj ha=>blocked hc hd i ho ha ((hp.2.1 j).2 hj) hi
      have free: ∀ {j:Nat} {x:Oper},j∈A++(p::q::m::(R++R2))→ops[j]?=some x→(gl bK i j=true∨bn ops j i=true)→x.apart ops o=true:=by
        intro j x hj hx h;rcases h with h | h
        · exact (un hj h).elim
        · simpa[bn,hx,ho] using h
      have hmem:=hp.ready hi;rw[List.mem_append,List.mem_cons,List.mem_cons,List.mem_cons,List.mem_append] at hmem;rcases hmem with hm | hm | hm | hm | hm | hm
      · first
        | (exfalso;rw[List.eq_nil_of_length_eq_zero hn] at hm;cases hm)
        | (obtain ⟨A1,A2,rfl⟩:=List.append_of_mem hm
           rw[dZ ho] at h
           have hap: ∀ x∈A1.filterMap (ops[·]?),x.apart ops o=true:=by
             intro x hx;obtain ⟨j,hj,hx⟩:=List.mem_filterMap.1 hx;exact free (by simp[hj]) hx ((List.pairwise_append.1 hsp.pa).2.2 j hj i (by simp))
           obtain ⟨v,h1,h2⟩:=iz _ T hap h
           have hS2:aN w0 F (Γ2++(Γ1++M)) w:=hS.perm (by
             rw[←List.append_assoc, ←List.append_assoc]
             exact List.perm_append_comm.append_right M)
           unfold wpOpIn;simp only[ho]
           have key:=iA hk (rd:=rd) (nn:=nn) (Q:=Q') (next:=fun a w=>wpAnyIn (cY rd) nn P .any ops Q' fuel (listed.setIfInBounds i true) a w) hS2 hT h1 (by
             intro F' u w' hle' hS' hx
             refine ih (A1++A2) fuel _ (eX T o.dst v) Γ1 F' _ w' (by simp at hn ⊢; omega) (by omega) (hd.set hi) ?_ hsp.pY hsq.pY hsm.pY (Fz.le_trans hle hle') ?_ (dm (av.mono hle' _ _ hT) hx o.dst)
               ((put_defers a o.dst u).trans hds) ?_
             · have:=ez.set (l1:=A1) (l2:=A2++(p::q::m::(R++R2))) (i:=i) (by simpa using hp)
               rwa [List.append_assoc]
             · exact hS'.perm (by
                 rw[←List.append_assoc, ←List.append_assoc]
                 exact List.perm_append_comm.append_right M)
             · rw[List.filterMap_append];exact h2)
           split at key<;>rename_i hw
           · rw[if_pos hw];exact key
           · rw[if_neg hw];exact ⟨fun _ _=>trivial,key⟩)
      · subst hm
        have hg:o.guard=none:=hsp.ug i (by simp) o ho;have e1:(i::q::m::R).filterMap (ops[·]?)=o::(q::m::R).filterMap (ops[·]?):=by rw[List.filterMap_cons,ho]
        have h:=kQ (fun _ h=>h.1) _ _ h;rw[e1] at h
        have hap: ∀ x∈A.filterMap (ops[·]?),x.apart ops o=true:=by
          intro x hx;obtain ⟨j,hj,hx⟩:=List.mem_filterMap.1 hx;exact free (by simp[hj]) hx (hsp.par j hj i (by simp))
        have h2:=gM (kk:=fun T' Γ1'=>bG P tt ops.toList ((q::m::R).filterMap (ops[·]?)) T' Γ1' [] fun T2 Γ1' _=>Tl T2 (Γ1'++Γ2)) _ T hap (by
          have hnd:=hsp.nd i (by simp) o ho
          simpa only[bG,hg,eR hnd,m0] using h)
        unfold wpOpIn;simp only[ho];rw[if_pos (by simp[Region.wanted,hg])];refine dX hk (M:=Γ2++M) hS hT h2 ?_;rintro F' x Γ' v' w' hle' hS' hx hK
        refine Eu hk rd nn hc hTl _ A (q::m::R) fuel _ (eX T o.dst x) Γ' F' _ w' rfl (by simp only[List.length_cons];omega) (hd.set hi) ?_ hsq (Fz.le_trans hle hle') hS' (dm (av.mono hle' _ _ hT) hx o.dst)
          ((put_defers a o.dst v').trans hds) hK
        have:=ez.set (l1:=A) (l2:=q::m::(R++R2)) (i:=i) (by simpa using hp);simpa using this
      · subst hm
        have hg:o.guard=none:=hsq.ug i (by simp) o ho;have e1: [i].filterMap (ops[·]?)= [o]:=by rw[List.filterMap_cons,ho];rfl
        have h:=kQ (fun _ h=>h.2) _ _ h;rw[e1] at h
        have hap: ∀ x∈A.filterMap (ops[·]?),x.apart ops o=true:=by
          intro x hx;obtain ⟨j,hj,hx⟩:=List.mem_filterMap.1 hx;exact free (by simp[hj]) hx (hsq.par j hj i (by simp))
        have h2:=gM (kk:=fun T' Γ1'=>(bG P tt ops.toList ((p::m::R).filterMap (ops[·]?)) T' Γ1' [] fun T2 Γ1' _=>Tl T2 (Γ1'++Γ2))∧(bG P tt ops.toList ((m::p::R).filterMap (ops[·]?)) T' Γ1' [] fun T2 Γ1' _=>Tl T2 (Γ1'++Γ2))) _ T hap (by
          have hnd:=hsq.nd i (by simp) o ho
          simpa only[bG,hg,eR hnd,m0] using h)
        unfold wpOpIn;simp only[ho];rw[if_pos (by simp[Region.wanted,hg])];refine dX hk (M:=Γ2++M) hS hT h2 ?_;rintro F' x Γ' v' w' hle' hS' hx hK
        refine N7 hk rd nn hc hTl _ A fuel _ (eX T o.dst x) Γ' F' _ w' rfl (by omega) (hd.set hi) ?_ hsp hsm (Fz.le_trans hle hle') hS' (dm (av.mono hle' _ _ hT) hx o.dst)
          ((put_defers a o.dst v').trans hds) hK
        have:=ez.set (l1:=A++ [p]) (l2:=m::(R++R2)) (i:=i) (by simpa using hp);simpa using this
      · subst hm
        exact (un (j:=q) (by simp) ((List.pairwise_cons.1 hsq.r1).1 i (by simp))).elim
      · exact (un (j:=p) (by simp) ((List.pairwise_cons.1 hsp.r1).1 i hm)).elim
      · exact (un (j:=p) (by simp) (hsp.tl p (by simp) i hm)).elim
def Aw (ops:Array Oper) (bK A:List Nat) (p q m:Nat) (R B R2:List Nat):Bool:=
 fq ops bK && qA ops bK A (p::R) (B++R2) && qA ops bK A (q::m::R) (B++R2) && qA ops bK A (m::R) (B++R2) &&
 fe (fun j i=>gl bK i j || bn ops j i) B && fe (fun j i=>gl bK i j) R2 && B.all (fun j=>R2.all fun i=>gl bK i j) && R2.all (fun i=>match ops[i]? with | some o=>jP o.op | none=>false) &&
 fe (fun j i=>!(Nat.beq j i)) (A++(p::q::m::(R++(B++R2)))) && (List.range ops.size).all (fun i=>(A++(p::q::m::(R++(B++R2)))).contains i) && (A++(p::q::m::(R++(B++R2)))).all (fun i=>Nat.blt i ops.size)
theorem aC.Na (hk:TT.ok P tt) (hm:P.follows .mixedOrders=true) {ops:Array Oper} {T:List PV} {Γ Γ2:List ak} {K:List PV→List ak→Prop} (bK A:List Nat) (p q m:Nat) (R B R2:List Nat) (Γ1:List ak)
  (hchk:Aw ops bK A p q m R B R2=true) [hp:cr Γ Γ1 Γ2]
  (h:eA P tt ops.toList (aZ ops.toList A) T Γ2 fun T'=>
   (bG P tt ops.toList (aZ ops.toList (p::q::m::R)) T' Γ1 [] fun T2 Γ1' _=>ic Γ1' Γ2 fun Γ'=>eA P tt ops.toList (aZ ops.toList B) T2 Γ' fun T3=>bG P tt ops.toList (aZ ops.toList R2) T3 Γ' [] fun T' Γ' _=>K T' Γ')∧
   (bG P tt ops.toList (aZ ops.toList [q]) T' Γ1 [] fun T2 Γ1' _=>(bG P tt ops.toList (aZ ops.toList (p::m::R)) T2 Γ1' [] fun T2 Γ1' _=>ic Γ1' Γ2 fun Γ'=>eA P tt ops.toList (aZ ops.toList B) T2 Γ' fun T3=>bG P tt ops.toList (aZ ops.toList R2) T3 Γ' [] fun T' Γ' _=>K T' Γ')∧(bG P tt ops.toList (aZ ops.toList (m::p::R)) T2 Γ1' [] fun T2 Γ1' _=>ic Γ1' Γ2 fun Γ'=>eA P tt ops.toList (aZ ops.toList B) T2 Γ' fun T3=>bG P tt ops.toList (aZ ops.toList R2) T3 Γ' [] fun T' Γ' _=>K T' Γ'))):aC P ops T Γ K:=by
 refine ⟨fun rd nn id w0 F M w a Q' hS hT hQ=>wpIn_region_any hm ?_⟩;simp only[Aw,Bool.and_eq_true] at hchk;obtain ⟨⟨⟨⟨⟨⟨⟨⟨⟨⟨hc,s1⟩,s2⟩,s3⟩,b1⟩,b2⟩,b3⟩,b4⟩,h7⟩,h8⟩,h9⟩:=hchk
 have hlt: ∀ i∈A++(p::q::m::(R++(B++R2))),i < ops.size:=fun i hi=>by
  have:=List.all_eq_true.1 h9 i hi;simpa[Nat.blt,Nat.succ_le_iff] using this
 have hpend:ez ops (Array.replicate ops.size false) (A++(p::q::m::(R++(B++R2)))):=by
  refine ⟨(bP h7).imp fun h=>by
   intro e;subst e
   simp at h,?_,fun i hi=>⟨_,Array.getElem?_eq_getElem (hlt i hi)⟩⟩
  intro i;constructor
  ·intro hi
   rcases Nat.lt_or_ge i ops.size with h' | h'
   ·have:=List.all_eq_true.1 h8 i (List.mem_range.2 h')
    simpa only[List.contains_iff_mem] using this
   ·simp[Array.getElem?_eq_none,h'] at hi
  ·intro hi
   simp[hlt i hi]
 have hsp2:Split ops bK B [] R2:=by
  refine ⟨(bP b1).imp fun h=>by simpa using h,fun _ _ _ h=>(by cases h),List.Pairwise.nil,bP b2,fun j hj i hi=>?_,fun _ h=>(by cases h),fun i hi o ho=>?_⟩
  ·exact List.all_eq_true.1 (List.all_eq_true.1 b3 j (by simpa using hj)) i hi
  ·have:=List.all_eq_true.1 b4 i (by simpa using hi)
   rw[ho] at this;exact this
 have hlen:A.length + (3 + R.length) + (B++R2).length≤ops.size:=by
  have hsub:(A++(p::q::m::(R++(B++R2)))) ⊆ List.range ops.size:=fun i hi=>List.mem_range.2 (hlt i hi);have:=hpend.1.length_le_of_subset hsub;simp only[List.length_append,List.length_cons,List.length_range] at this ⊢;omega
 have hS':aN w0 F (Γ1++(Γ2++M)) { w with drawn:=w.drawn + 1 }:=by
  have:=(hS.perm (hp.p.append_right M)).of_heap (w':={ w with drawn:=w.drawn + 1 }) rfl rfl rfl rfl;simpa using this
 refine N9 hk rd nn hc (R2:=B++R2) (F0:=F) (ds:=a.defers) (Tl:=fun T2 Γ'=>eA P tt ops.toList (aZ ops.toList B) T2 Γ' fun T3=>bG P tt ops.toList (aZ ops.toList R2) T3 Γ' [] fun T' Γ' _=>K T' Γ') ?_ _ A ops.size _ T Γ1 F a _ rfl hlen ?_ hpend (dM.Ph s1) (dM.Ph s2) (dM.Ph s3) (Fz.le_refl F) hS' hT rfl ?_
 ·intro fuel listed T2 Γ' F' a' w' hf hd hpd hle hS2 hT2 hds ht
  refine Kg hk rd nn hc (R2:=R2) (F0:=F) (ds:=a.defers) hQ _ B [] fuel listed T2 [] F' a' w' rfl (by simpa using hf) hd (by simpa using hpd) hsp2 hle (Γ2:=Γ') (by simpa using hS2) hT2 hds ?_;simpa only[gi,Array.getElem?_toList,List.filterMap_nil,bG,List.nil_append] using ht
 ·intro k o hk'
  rcases Nat.lt_or_ge k ops.size with h' | h'
  ·simp[h'] at hk'
  ·intro ho
   have:=(Array.getElem?_eq_some_iff.1 ho).1;omega
 ·simpa only[gi,Array.getElem?_toList,eS] using h
theorem aC.sX {ops:Array Oper} (Γ1:List ak) (p q m:Nat) (R B R2:List Nat) (hk:TT.ok P tt) (hm:P.follows .mixedOrders=true) {T:List PV} {Γ Γ2:List ak} {K:List PV→List ak→Prop} [hp:cr Γ Γ1 Γ2]
  (h:eA P tt ops.toList (aZ ops.toList (kz ops.toList 0 (p::q::m::(R++(B++R2))))) T Γ2 fun T'=>
   (bG P tt ops.toList (aZ ops.toList (p::q::m::R)) T' Γ1 [] fun T2 Γ1' _=>ic Γ1' Γ2 fun Γ'=>eA P tt ops.toList (aZ ops.toList B) T2 Γ' fun T3=>bG P tt ops.toList (aZ ops.toList R2) T3 Γ' [] fun T' Γ' _=>K T' Γ')∧
   (bG P tt ops.toList (aZ ops.toList [q]) T' Γ1 [] fun T2 Γ1' _=>(bG P tt ops.toList (aZ ops.toList (p::m::R)) T2 Γ1' [] fun T2 Γ1' _=>ic Γ1' Γ2 fun Γ'=>eA P tt ops.toList (aZ ops.toList B) T2 Γ' fun T3=>bG P tt ops.toList (aZ ops.toList R2) T3 Γ' [] fun T' Γ' _=>K T' Γ')∧(bG P tt ops.toList (aZ ops.toList (m::p::R)) T2 Γ1' [] fun T2 Γ1' _=>ic Γ1' Γ2 fun Γ'=>eA P tt ops.toList (aZ ops.toList B) T2 Γ' fun T3=>bG P tt ops.toList (aZ ops.toList R2) T3 Γ' [] fun T' Γ' _=>K T' Γ')))
  (hchk:Aw ops (wh ops.toList []) (kz ops.toList 0 (p::q::m::(R++(B++R2)))) p q m R B R2=true:=by kernel_rfl):aC P ops T Γ K:=
 aC.Na hk hm _ _ p q m R B R2 Γ1 hchk h
end
def OS (bK rest:List Nat) (i:Nat):Bool:=rest.all fun j=>Nat.beq j i || !(gl bK i j)
def xw (i:Nat):List Nat→List Nat
 | []=> []
 | j::l=>match Nat.beq j i with
  | true=>l
  | false=>j::xw i l
def Bp (bK rest:List Nat):List Nat→List Nat
 | []=> []
 | i::l=>match OS bK rest i with
  | true=>i::Bp bK rest l
  | false=>Bp bK rest l
def L8:List Nat→(Nat→Prop)→Prop
 | [],_=>True
 | i::l,f=>f i∧L8 l f
theorem AL {f:Nat→Prop}: ∀ {l:List Nat},L8 l f→ ∀ i∈l,f i
 | [],_,i,h=>by cases h
 | j::l,h,i,hi=>by
  rcases List.mem_cons.1 hi with rfl | hi
  ·exact h.1
  ·exact AL h.2 i hi
theorem rP {bK rest:List Nat}: ∀ {l:List Nat} {i:Nat},i∈l→OS bK rest i=true→i∈Bp bK rest l
 | j::l,i,hi,ho=>by
  rw[Bp];rcases List.mem_cons.1 hi with rfl | hi
  ·rw[ho];exact List.mem_cons_self ..
  ·split
   ·exact List.mem_cons_of_mem _ (rP hi ho)
   ·exact rP hi ho
theorem sn {i:Nat}: ∀ {l1 l2:List Nat},i∉l1→xw i (l1++i::l2)=l1++l2
 | [],l2,_=>by
  rw[List.nil_append,xw,Nat.beq_refl];rfl
 | j::l1,l2,h=>by
  rw[List.mem_cons,not_or] at h;rw[List.cons_append,xw,CB (Ne.symm h.1),sn h.2];rfl
section
variable {P:Program} {tt:Nat→TI}
def xe (P:Program) (tt:Nat→TI) (ops:List Oper) (bK:List Nat):Nat→List Nat→List PV→List ak→(List PV→List ak→Prop)→Prop
 | 0,_,T,Γ,K=>K T Γ
 | n + 1,rest,T,Γ,K=>L8 (Bp bK rest rest) fun i=>match ops[i]? with
  | none=>False
  | some o=>o7 P tt o.op T Γ fun x Γ'=>xe P tt ops bK n (xw i rest) (eX T o.dst x) Γ' K
theorem N8 (hk:TT.ok P tt) (rd:Option Nat) (nn:Nat) {ops:Array Oper} {bK:List Nat} (hc:fq ops bK=true) {w0:World} {M Γ2:List ak} {F0:Fz} {ds:List Deferred} {Q':Exit→Act→World→Prop}
  {Tl:List PV→List ak→Prop} (hTl: ∀ (fuel:Nat) (listed:Array Bool) (T:List PV) (Γ:List ak) (F:Fz) (a:Act) (w:World),Down ops listed→ez ops listed []→F0.le F→aN w0 F (Γ++M) w→av F T a.tmps.toList→a.defers=ds→
   Tl T Γ→wpAnyIn (cY rd) nn P .any ops Q' fuel listed a w):
  ∀ (n:Nat) (A rest:List Nat) (fuel:Nat) (listed:Array Bool) (T:List PV) (Γ1:List ak) (F:Fz) (a:Act) (w:World),A.length + rest.length=n→n≤fuel→
   Down ops listed→ez ops listed (A++rest)→(A.Pairwise fun j i=>gl bK i j=true∨bn ops j i=true)→(∀ j∈A, ∀ i∈rest,gl bK i j=true∨bn ops j i=true)→(∀ i∈rest, ∀ o,ops[i]?=some o→o.guard=none)→
   F0.le F→aN w0 F (Γ1++(Γ2++M)) w→av F T a.tmps.toList→a.defers=ds→
   (eA P tt ops.toList (A.filterMap (ops[·]?)) T Γ2 fun T'=>xe P tt ops.toList bK rest.length rest T' Γ1 fun T2 Γ1'=>Tl T2 (Γ1'++Γ2))→
   wpAnyIn (cY rd) nn P .any ops Q' fuel listed a w:=by
 intro n
 induction n with
 | zero=>
  intro A rest fuel listed T Γ1 F a w hn hf hd hp hpa hpr hug hle hS hT hds h;obtain rfl:A= []:=List.eq_nil_of_length_eq_zero (by omega);obtain rfl:rest= []:=List.eq_nil_of_length_eq_zero (by omega);exact hTl fuel listed T (Γ1++Γ2) F a w hd (by simpa using hp) hle (by simpa using hS) hT hds h
 | succ n ih=>
  intro A rest fuel listed T Γ1 F a w hn hf hd hp hpa hpr hug hle hS hT hds h
  cases fuel with
  | zero=>omega
  | succ fuel=>
  refine ⟨fun hnil=>?_,fun i hi=>?_⟩
  ·exfalso
   cases hAR:A++rest with
   | nil=>rw[List.append_eq_nil_iff] at hAR;rw[hAR.1,hAR.2] at hn;simp at hn
   | cons x xs=>
    rw[hAR] at hp;obtain ⟨k,hk'⟩:=ei hc hp;rw[hnil] at hk';cases hk'
  ·obtain ⟨o,ho⟩:=hp.2.2 i (hp.ready hi)
   have un: ∀ {j:Nat},j∈A++rest→gl bK i j=true→False:=fun {j} hj ha=>blocked hc hd i ho ha ((hp.2.1 j).2 hj) hi
   have free: ∀ {j:Nat} {x:Oper},j∈A++rest→ops[j]?=some x→(gl bK i j=true∨bn ops j i=true)→x.apart ops o=true:=by
    intro j x hj hx h;rcases h with h | h
    ·exact (un hj h).elim
    ·simpa[bn,hx,ho] using h
   have hmem:=hp.ready hi;rw[List.mem_append] at hmem;rcases hmem with hm | hm
   ·obtain ⟨A1,A2,rfl⟩:=List.append_of_mem hm
    rw[dZ ho] at h
    have hap: ∀ x∈A1.filterMap (ops[·]?),x.apart ops o=true:=by
     intro x hx;obtain ⟨j,hj,hx⟩:=List.mem_filterMap.1 hx;exact free (by simp[hj]) hx ((List.pairwise_append.1 hpa).2.2 j hj i (by simp))
    obtain ⟨v,h1,h2⟩:=iz _ T hap h
    have hS2:aN w0 F (Γ2++(Γ1++M)) w:=hS.perm (by
     rw[←List.append_assoc, ←List.append_assoc]
     exact List.perm_append_comm.append_right M)
    have hs:List.Sublist (A1++A2) (A1++i::A2):=List.Sublist.append (List.Sublist.refl _) (List.sublist_cons_self _ _);unfold wpOpIn;simp only[ho]
    have key:=iA hk (rd:=rd) (nn:=nn) (Q:=Q') (next:=fun a w=>wpAnyIn (cY rd) nn P .any ops Q' fuel (listed.setIfInBounds i true) a w) hS2 hT h1 (by
     intro F' u w' hle' hS' hx
     refine ih (A1++A2) rest fuel _ (eX T o.dst v) Γ1 F' _ w' (by simp at hn ⊢; omega) (by omega) (hd.set hi) ?_ (hpa.sublist hs) (fun j hj=>hpr j (hs.subset hj)) hug (Fz.le_trans hle hle') ?_ (dm (av.mono hle' _ _ hT) hx o.dst)
      ((put_defers a o.dst u).trans hds) ?_
     ·have:=ez.set (l1:=A1) (l2:=A2++rest) (i:=i) (by simpa using hp)
      rwa [List.append_assoc]
     ·exact hS'.perm (by
       rw[←List.append_assoc, ←List.append_assoc]
       exact List.perm_append_comm.append_right M)
     ·rw[List.filterMap_append];exact h2)
    split at key<;>rename_i hw
    ·rw[if_pos hw];exact key
    ·rw[if_neg hw];exact ⟨fun _ _=>trivial,key⟩
   ·have hg:o.guard=none:=hug i hm o ho
    have hok:OS bK rest i=true:=by
     unfold OS;rw[List.all_eq_true];intro j hj;rw[Bool.or_eq_true,Bool.not_eq_true'];by_cases e:j=i
     ·left;rw[e];exact Nat.beq_refl i
     ·right
      rw[Bool.eq_false_iff];exact fun ha=>un (List.mem_append_right _ hj) ha
    obtain ⟨R1,R2,hR⟩:=List.append_of_mem hm;have hrl:rest.length=(R1++R2).length + 1:=by rw[hR,List.length_append,List.length_append,List.length_cons];omega
    have hnd:i∉R1:=by
     have h1:=hp.1;rw[hR] at h1;have h2:=(List.pairwise_append.1 (List.pairwise_append.1 h1).2.1).2.2;exact fun hi1=>h2 i hi1 i (List.mem_cons_self ..) rfl
    have hdn:xw i rest=R1++R2:=by rw[hR];exact sn hnd
    have ho2:ops.toList[i]?=some o:=by rw[Array.getElem?_toList];exact ho
    rw[hrl] at h
    have h:=kQ (k':=fun T'=>o7 P tt o.op T' Γ1 fun x Γ'=>xe P tt ops.toList bK (R1++R2).length (R1++R2) (eX T' o.dst x) Γ' fun T2 Γ1'=>Tl T2 (Γ1'++Γ2)) (fun T' h=>by
     rw[xe] at h;have:=AL h i (rP hm hok);rw[ho2,hdn] at this
     exact this) _ _ h
    have hap: ∀ x∈A.filterMap (ops[·]?),x.apart ops o=true:=by
     intro x hx;obtain ⟨j,hj,hx⟩:=List.mem_filterMap.1 hx;exact free (List.mem_append_left _ hj) hx (hpr j hj i hm)
    have h2:=gM (kk:=fun T' Γ1'=>xe P tt ops.toList bK (R1++R2).length (R1++R2) T' Γ1' fun T2 Γ1'=>Tl T2 (Γ1'++Γ2)) _ T hap h;unfold wpOpIn;simp only[ho];rw[if_pos (by simp[Region.wanted,hg])];refine dX hk (M:=Γ2++M) hS hT h2 ?_;rintro F' x Γ' v' w' hle' hS' hx hK
    have hs: ∀ j∈R1++R2,j∈rest:=fun j hj=>by
     rw[hR];rcases List.mem_append.1 hj with hj | hj
     ·exact List.mem_append_left _ hj
     ·exact List.mem_append_right _ (List.mem_cons_of_mem _ hj)
    refine ih A (R1++R2) fuel _ (eX T o.dst x) Γ' F' _ w' (by omega) (by omega) (hd.set hi) ?_ hpa (fun j hj k hk=>hpr j hj k (hs k hk)) (fun k hk=>hug k (hs k hk)) (Fz.le_trans hle hle') hS' (dm (av.mono hle' _ _ hT) hx o.dst)
     ((put_defers a o.dst v').trans hds) hK
    have:=ez.set (l1:=A++R1) (l2:=R2) (i:=i) (by rw[hR] at hp;simpa using hp);simpa using this
def LQ (ops:Array Oper) (bK A rest:List Nat):Bool:=
 fq ops bK && fe (fun j i=>gl bK i j || bn ops j i) A && A.all (fun j=>rest.all fun i=>gl bK i j || bn ops j i) && rest.all (fun i=>match ops[i]? with | some o=>o.guard.isNone | none=>false) &&
 fe (fun j i=>!(Nat.beq j i)) (A++rest) && (List.range ops.size).all (fun i=>(A++rest).contains i) && (A++rest).all (fun i=>Nat.blt i ops.size)
theorem aC.tree (hk:TT.ok P tt) (hm:P.follows .mixedOrders=true) {ops:Array Oper} {T:List PV} {Γ Γ2:List ak} {K:List PV→List ak→Prop} (bK A rest:List Nat) (Γ1:List ak) [hp:cr Γ Γ1 Γ2]
  (h:eA P tt ops.toList (aZ ops.toList A) T Γ2 fun T'=>xe P tt ops.toList bK rest.length rest T' Γ1 fun T2 Γ1'=>ic Γ1' Γ2 fun Γ'=>K T2 Γ')
  (hchk:LQ ops bK A rest=true:=by kernel_rfl):aC P ops T Γ K:=by
 refine ⟨fun rd nn id w0 F M w a Q' hS hT hQ=>wpIn_region_any hm ?_⟩;simp only[LQ,Bool.and_eq_true] at hchk;obtain ⟨⟨⟨⟨⟨⟨hc,s1⟩,s2⟩,s3⟩,h7⟩,h8⟩,h9⟩:=hchk
 have hlt: ∀ i∈A++rest,i < ops.size:=fun i hi=>by
  have:=List.all_eq_true.1 h9 i hi;simpa[Nat.blt,Nat.succ_le_iff] using this
 have hpend:ez ops (Array.replicate ops.size false) (A++rest):=by
  refine ⟨(bP h7).imp fun h=>by
   intro e;subst e
   simp at h,?_,fun i hi=>⟨_,Array.getElem?_eq_getElem (hlt i hi)⟩⟩
  intro i;constructor
  ·intro hi
   rcases Nat.lt_or_ge i ops.size with h' | h'
   ·have:=List.all_eq_true.1 h8 i (List.mem_range.2 h')
    simpa only[List.contains_iff_mem] using this
   ·simp[Array.getElem?_eq_none,h'] at hi
  ·intro hi
   simp[hlt i hi]
 have hlen:A.length + rest.length≤ops.size:=by
  have hsub:(A++rest) ⊆ List.range ops.size:=fun i hi=>List.mem_range.2 (hlt i hi);have:=hpend.1.length_le_of_subset hsub;simpa only[List.length_append,List.length_range] using this
 have hS':aN w0 F (Γ1++(Γ2++M)) { w with drawn:=w.drawn + 1 }:=by
  have:=(hS.perm (hp.p.append_right M)).of_heap (w':={ w with drawn:=w.drawn + 1 }) rfl rfl rfl rfl;simpa using this
 refine N8 hk rd nn hc (F0:=F) (ds:=a.defers) (Tl:=K) ?_ _ A rest ops.size _ T Γ1 F a _ rfl hlen ?_ hpend ((bP s1).imp fun h=>by simpa using h) (fun j hj i hi=>?_) (fun i hi o ho=>?_) (Fz.le_refl F) hS' hT rfl ?_
 ·intro fuel listed T2 Γ' F' a' w' hd hpd hle hS2 hT2 hds ht
  refine Kg hk rd nn hc (R2:= []) (F0:=F) (ds:=a.defers) hQ _ [] [] fuel listed T2 [] F' a' w' rfl (Nat.zero_le _) hd (by simpa using hpd) ⟨List.Pairwise.nil,fun _ h=>(by cases h),List.Pairwise.nil,List.Pairwise.nil,fun _ h=>(by cases h),fun _ h=>(by cases h),fun _ h=>(by cases h)⟩ hle (Γ2:=Γ') (by simpa using hS2) hT2 hds ?_;simp only[List.filterMap_nil,bG,List.nil_append];exact ht
 ·intro k o hk'
  rcases Nat.lt_or_ge k ops.size with h' | h'
  ·simp[h'] at hk'
  ·intro ho
   have:=(Array.getElem?_eq_some_iff.1 ho).1;omega
 ·have:=List.all_eq_true.1 (List.all_eq_true.1 s2 j hj) i hi
  simpa using this
 ·have:=List.all_eq_true.1 s3 i hi
  rw[ho] at this;simpa using this
 ·simpa only[gi,Array.getElem?_toList,eS] using h
end
end Go.Cb


