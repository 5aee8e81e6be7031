/-
 Contracts: the document's machine: values of data, places, lists.
 Plain: the texts of the document's machine's values.
 Contracts: the texts of the document's machine's values.
 Contracts: the document's numbers: sums, products, which is less.
 Contracts: primitives' facts, of the document.
 Contracts: the document's primitives that fold.
 Contracts: the document's comparisons.
 Contracts: the document's primitives that fold, of values as primitives look at them.
 Contracts: the document's Fold.
 Contracts: the document's machine: values held against one another, lists' values, parts.
 Contracts: the document's machine: primitives that are not calls.
 Contracts: the document's machine: primitives that fold, of values.
 Contracts: the document's machine, with codes: constants, procedures.
 Plain: what the document's machine does, with codes, as a relation; addresses as they come.
 Contracts: the document's machine: strict terms.
 Contracts: the document's machine: calls.
 Contracts: the document's machine: primitives called, escapes.
 Contracts: the document's machine: terms one after the other, terms.
 Contracts: the document's machine: bindings.
 Contracts: the document's machine: Rec and Fix.
 Plain law: what a check says of a program, and how it leans on the number of constants.
-/
import Derived.Test.YtkcbpdpiodgaiaaGreatDoorC4
set_option linter.unusedSimpArgs false
set_option linter.unusedVariables false
namespace Go.Cb
open Go.Proofs
set_option maxRecDepth 100000
set_option maxHeartbeats 4000000
theorem Fw {p q:Prop} (k:q) (h:q→p:=by intro hq;first | exact aC.sP (some 21) rfl [] [9,10,11] aj mixed hq):p:=h k
theorem E8 (d:Datum):d.sz≤1000000000→ay Tryz.prog 86 [.agg d.cells] (.agg (cN d).cells):=by
 induction d using Datum.ind with
 | h d ih=>
  intro hb;have hz:=d.Ca;have hlen:=Datum.n7 d.l;have ih': ∀ x∈d.l,ay Tryz.prog 86 [.agg x.cells] (.agg (cN x).cells):=fun x hx=>ih x hx (by have:=Datum.js hx;omega);refine ah.ai aj Tryz.func86 rfl rfl (n:=33) rfl rfl ?_
  conv=>whnf
  repeat (first|refine yQ ?_|((intro _);conv=>whnf))
  rename_i b1 b2 b3;refine aI.gh (aA.trans (aA.nil 7 140 _) (aA.box (b:=b3) (cs:= [.int .i64 d.kind,.int .i64 d.n,.int .i64 d.d,.str d.s,.nil,.np,.np]) (cs':= [.int .i64 d.kind,.int .i64 d.n,.int .i64 d.d,.str d.s,.sl 7 (([]:List Vl).map Vl.pv) (some (aT 7 140)),.np,.np]) wA)) ?_
  refine aI.over [4,14,15,16,17,18,19,20,21,22,23,24,25,26,27,28,29,30,31] (fun (x:Nat×List Vl×Tok)=> [(4,.int .i64 x.1)])
   (fun (x:Nat×List Vl×Tok)=> [.box b3 [.int .i64 d.kind,.int .i64 d.n,.int .i64 d.d,.str d.s,.sl 7 (x.2.1.map Vl.pv) (some x.2.2),.np,.np],.tok x.2.2,.box b2 [.int .i64 0,.int .i64 0,.int .i64 0,.str [],.nil,.np,.np],.box b1 (jE d)])
   (fun x=>x.1≤d.l.length∧x.2.2.e=140∧x.2.1=(d.l.map cN).take x.1) (fun x=>d.l.length - x.1) (0, [],aT 7 140) ⟨Nat.zero_le _,rfl,rfl⟩ wA ?_
  rintro ⟨i,m,tk⟩ ⟨hi,htk,hm⟩;dsimp only at hi htk hm ⊢;have hml:m.length≤1000000000:=by rw[hm,List.length_take];simp;omega
  conv=>whnf
  repeat' (first|refine aW ?_|((first|((apply zZ);(conv=>whnf);(repeat ((refine pC (ih' _ (List.getElem_mem _)) wR ?_);conv=>whnf));exact pZ)|refine Fw ?_|intro _);conv=>whnf)|(refine zX (fun hc=>?_) (fun hc=>?_)<;>(try simp only[SY] at hc)<;>(conv=>whnf)))
  ·rename_i tb htb
   exact aJ (i + 1,m++ [cN d.l[i]],tb) ⟨by show i + 1≤_;omega,htb,by show m++ [cN d.l[i]]=(d.l.map cN).take (i + 1);rw[List.take_succ_eq_append_getElem (by simp;omega), ←hm];simp⟩ (by show d.l.length - (i + 1) < d.l.length - i;omega) wA
  ·rw[List.take_of_length_le (by simp;omega)] at hm
   subst hm;rw[oa];exact an.pure l9.wk
theorem yV (e:bq) (v:Int) (x:Vl) (r:Bool):ah Tryz.prog 139 [bF e,.int .i64 v,.agg x.cells,.bool r] [] (fun y Γ'=> ∃ a,y=bF ((v,a)::e)∧Γ'= [.box a (qQ x r)]):=by
 rcases e with _ | ⟨⟨w,c⟩,e⟩
 all_goals
  refine ah.ai aj Tryz.func139 rfl rfl (n:=17) rfl rfl ?_
  conv=>whnf
  repeat' (first|refine aW ?_|((intro _);conv=>whnf)|(refine zX (fun hc=>?_) (fun hc=>?_)<;>(try simp only[SY] at hc)<;>omega))
  rename_i b1 b2 b3;exact an.freeze (b:=b3) (Γ':= [.box b2 (qQ x r)]) (Wk.refl _) ⟨b2,rfl,rfl⟩
theorem lS (e:bq) (v:Int) (a:Nat) (h:fc e v=some a):ay Tryz.prog 111 [bF e,.int .i64 v] (.ptr a 0):=by
 refine ah.ai aj Tryz.func111 rfl rfl (n:=28) rfl rfl ?_
 conv=>whnf
 skip
 refine aI.keep [0,5,6,7,8,9,10,11,12,13,14,15,16,17,18] (fun x:bq=> [(0,bF x)]) (fun x=>fc x v=some a) (fun x=>x.length) e h wA ?_;intro x hx
 rcases x with _ | ⟨⟨w,c⟩,x⟩
 ·cases hx
 rw[fc] at hx
 conv=>whnf
 repeat' (first|refine aW ?_|(refine zX (fun hc=>?_) (fun hc=>?_)<;>(try simp only[SY] at hc)<;>(conv=>whnf)))
 ·rw[if_neg hc] at hx
  exact aJ x hx (by show x.length < x.length + 1;omega) wA
 ·rw[if_pos hc] at hx
  obtain rfl:=Option.some.inj hx;exact an.pure (Wk.refl _)
theorem Iv {a b:Vl}:ia [.int .i64 6,.int .i64 0,.int .i64 0,.str [],.sl 7 [.agg a.cells,.agg b.cells] none,.np,.np] (Vl.mk 6 0 0 [] [a,b] none none).cells:=
 .cons (Wk.refl _) (.cons (Wk.refl _) (.cons (Wk.refl _) (.cons (Wk.refl _) (.cons (mh.wk (f:=Vl.pv) (l:= [a,b])) (.cons (Wk.refl _) (.cons (Wk.refl _) .nil))))))
theorem zw {k:Int}:ia [.int .i64 k,.int .i64 0,.int .i64 0,.str [],.nil,.np,.np] (fF k).cells:=.cons (Wk.refl _) (.cons (Wk.refl _) (.cons (Wk.refl _) (.cons (Wk.refl _) (.cons (Wk.lp rfl) (.cons (Wk.refl _) (.cons (Wk.refl _) .nil))))))
theorem Fx {p q:Prop} (k:q) (h:q→p:=by intro hq;first | exact aC.sP (some 13) rfl [] [7] aj mixed hq):p:=h k
theorem EI (l:List Vl):ay Tryz.prog 176 [.sl 7 (l.map Vl.pv) none] (.agg (mu l).cells):=by
 refine ah.ai aj Tryz.func176 rfl rfl (n:=21) rfl rfl ?_
 conv=>whnf
 repeat' (first|refine aW ?_|((intro _);conv=>whnf)|(refine zX (fun hc=>?_) (fun hc=>?_)<;>(try simp only[SY] at hc)<;>omega))
 rename_i b2 b3 hl;refine aI.gh (aA.box (b:=b3) (cs:= [.int .i64 4,.int .i64 0,.int .i64 0,.str [],.nil,.np,.np]) (cs':=aS (fF 4)) zw) ?_;refine aI.over [4,9,10,11,12,13,14,15,16,17,18,19] (fun x:Nat×Vl=> [(4,.int .i64 ((x.1:Int) - 1))]) (fun x:Nat×Vl=> [.box b2 [.int .i64 0,.int .i64 0,.int .i64 0,.str [],.nil,.np,.np],.box b3 (aS x.2)]) (fun x=>x.1≤l.length∧x.2=mu (l.drop x.1)) (fun x=>x.1) (l.length,fF 4) ⟨Nat.le_refl _,by rw[List.drop_of_length_le (Nat.le_refl _)];rfl⟩ wA ?_;rintro ⟨i,D⟩ ⟨hi,hD⟩;dsimp only at hi hD⊢
 conv=>whnf
 repeat' (first|refine aW ?_|((first|refine bY nC ?_|refine Fx ?_);conv=>whnf)|(refine zX (fun hc=>?_) (fun hc=>?_)<;>(try simp only[SY] at hc)<;>(conv=>whnf)))
 ·have h1:i - 1 < l.length:=by omega
  have e:l.drop (i - 1)=l[i - 1]::l.drop i:=by rw[aq h1,show i - 1 + 1=i by omega]
  refine gJ.gh (i - 1,.mk 6 0 0 [] [l[i - 1],D] none none) ⟨by show i - 1≤_;omega,by show _=mu (l.drop (i - 1));rw[e,hD];rfl⟩ (by show i - 1 < i;omega) wA ?_;refine aA.trans (aA.box (b:=b3) (cs:= [.int .i64 6,.int .i64 0,.int .i64 0,.str [],.sl 7 [.agg (aS l[i - 1]),.agg (aS D)] none,.np,.np]) (cs':=aS (Vl.mk 6 0 0 [] [l[i - 1],D] none none)) Iv) ?_;exact aA.pick
 ·have e:D=mu l:=by rw[hD,show i=0 by omega];rfl
  rw[←e];exact an.pure (Wk.refl _)
def wK:Nat→Nat→List UInt8
 | 0,_=> []
 | f + 1,n=>if n < 10 then [(48 + n).toUInt8] else wK f (n / 10)++ [(48 + n % 10).toUInt8]
def Aa (n d:Int):List UInt8:=if bE n d=false then [] else (if n < 0 then [45] else [])++wK 10 n.natAbs++(if d=1 then [] else 47::wK 10 d.natAbs)
theorem mO: ∀ (f n:Nat),(wK f n).length≤f
 | 0,_=>Nat.le_refl _
 | f + 1,n=>by
  rw[wK]
  split
  ·simp
  ·have:=mO f (n / 10);simp;omega
theorem BB (n d:Int):(Aa n d).length≤22:=by
 have h1:=mO 10 n.natAbs;have h2:=mO 10 d.natAbs;unfold Aa
 split
 ·simp
 ·simp only[List.length_append]
  split<;>split<;>simp<;>omega
abbrev MS:List UInt8:= [35,60,112,114,111,99,101,100,117,114,101,62]
mutual
def wV (tail:Bool):Vl→List UInt8→List UInt8
 | .mk k n d s l _ _,out=>
  let core:=fun (out:List UInt8)=>
   if 1000≤out.length then out else
   if k=0 then out++Aa n d else
   if k=1 then out++(if bitsOf .and .i64 n 1=0 then [35,102] else [35,116]) else
   if k=2 then out++s else
   if k=3 then out++ [34]++s++ [34] else
   if k=4 then out++ [40,41] else
   if k=5 then out++ [35,118] else
   if k=11 then out++ [35,60,98,111,120,62] else
   if k=12 then out++ [35,60,117,110,115,101,116,62] else
   if k=8∨k=9∨k=10 then out++MS else
   if k=7 then wL true l (out++ [35,40])++ [41] else wP l (out++ [40])
  if tail=false then core out else
  if k=6∧out.length < 1000 then wP l (out++ [32]) else
  if k=4 then out++ [41] else core (out++ [32,46,32])++ [41]
def wL (first:Bool):List Vl→List UInt8→List UInt8
 | [],out=>out
 | x::xs,out=>if 1000≤out.length then out else wL false xs (wV false x (if first=true then out else out++ [32]))
def wP:List Vl→List UInt8→List UInt8
 | [a,b],out=>wV true b (wV false a out)
 | _,out=>out
end
def kT (x:Vl) (out:List UInt8):List UInt8:=
 if 1000≤out.length then out else
 if x.k=0 then out++Aa x.n x.d else
 if x.k=1 then out++(if bitsOf .and .i64 x.n 1=0 then [35,102] else [35,116]) else
 if x.k=2 then out++x.s else
 if x.k=3 then out++ [34]++x.s++ [34] else
 if x.k=4 then out++ [40,41] else
 if x.k=5 then out++ [35,118] else
 if x.k=11 then out++ [35,60,98,111,120,62] else
 if x.k=12 then out++ [35,60,117,110,115,101,116,62] else
 if x.k=8∨x.k=9∨x.k=10 then out++MS else
 if x.k=7 then wL true x.l (out++ [35,40])++ [41] else wP x.l (out++ [40])
theorem nv (x:Vl) (out:List UInt8):wV false x out=kT x out:=by cases x;rw[wV];rfl
theorem uj (x:Vl) (out:List UInt8):wV true x out=if x.k=6∧out.length < 1000 then wP x.l (out++ [32]) else if x.k=4 then out++ [41] else kT x (out++ [32,46,32])++ [41]:=by cases x;rw[wV];rfl
def qD (x:Vl):List UInt8:=(wV false x []).take 1000
mutual
def Vl.tx:Vl→Bool
 | .mk k _ _ s l _ _=>decide (0≤k∧k≤12) && (k !=6 || l.length == 2) && decide (s.length≤1000000000) && Vl.ON l
def Vl.ON:List Vl→Bool
 | []=>true
 | x::xs=>Vl.tx x && Vl.ON xs
end
theorem Vl.E5: ∀ {l:List Vl},Vl.ON l=true↔ ∀ x∈l,x.tx=true
 | []=>by simp[Vl.ON]
 | x::l=>by rw[Vl.ON,Bool.and_eq_true,Vl.E5];simp
theorem Vl.jU (x:Vl):x.tx=true↔(0≤x.k∧x.k≤12)∧(x.k=6→x.l.length=2)∧x.s.length≤1000000000∧ ∀ y∈x.l,y.tx=true:=by
 cases x with
 | mk k n d s l p c=>
  rw[Vl.tx];simp only[Bool.and_eq_true,decide_eq_true_eq,Bool.or_eq_true,bne_iff_ne,ne_eq,beq_iff_eq,Vl.E5];show _↔(0≤k∧k≤12)∧(k=6→l.length=2)∧s.length≤1000000000∧ ∀ y∈l,y.tx=true;constructor
  ·rintro ⟨⟨⟨h1,h2⟩,h3⟩,h4⟩
   exact ⟨h1,fun h=>h2.resolve_left fun h'=>h' h,h3,h4⟩
  ·rintro ⟨h1,h2,h3,h4⟩
   refine ⟨⟨⟨h1,?_⟩,h3⟩,h4⟩;by_cases h:k=6
   ·exact .inr (h2 h)
   ·exact .inl h
def iF (L:Nat):Nat:=if 1000≤L then L else 1000002000 + 8 * (1000 - L)
def DM (x:Vl):Prop:= ∀ out:List UInt8,(out.length≤(wV false x out).length∧out.length≤(wV true x out).length)∧
 (out.length < 1000→(wV false x out).length≤iF out.length∧(wV true x out).length≤iF out.length)∧
 (1000≤out.length→wV false x out=out∧(wV true x out).length≤out.length + 4)
theorem rQ {L M:Nat} (h:L≤M) (hM:M < 1000):iF M≤iF L:=by unfold iF;rw[if_neg (by omega),if_neg (by omega)];omega
theorem nF {x:Vl} {out:List UInt8} (h:1000≤out.length):kT x out=out:=by rw[kT,if_pos h]
theorem wu: ∀ (l:List Vl) (first:Bool) (out:List UInt8),(∀ x∈l,DM x)→out.length≤(wL first l out).length∧(out.length < 1000→(wL first l out).length≤iF out.length)∧(1000≤out.length→wL first l out=out)
 | [],first,out,_=>by
  rw[wL];exact ⟨Nat.le_refl _,fun h=>by unfold iF;rw[if_neg (by omega)];omega,fun _=>rfl⟩
 | x::xs,first,out,h=>by
  rw[wL];by_cases hb:1000≤out.length
  ·rw[if_pos hb]
   exact ⟨Nat.le_refl _,fun h=>by omega,fun _=>rfl⟩
  ·rw[if_neg hb]
   obtain ⟨O,hO⟩: ∃ O,O=(if first=true then out else out++ [32]):=⟨_,rfl⟩
   rw[←hO];have hl:out.length≤O.length∧O.length≤out.length + 1:=by rw[hO];split<;>simp
   have h1:=h x (by simp) O;have h2:=wu xs false (wV false x O) fun y hy=>h y (List.mem_cons_of_mem _ hy);have e0:iF out.length=1000002000 + 8 * (1000 - out.length):=by unfold iF;rw[if_neg hb]
   refine ⟨by omega,fun _=>?_,fun h=>by omega⟩;by_cases hO2:O.length < 1000
   ·have h3:=(h1.2.1 hO2).1
    have h4:=rQ hl.1 hO2;by_cases hw:(wV false x O).length < 1000
    ·have h5:=h2.2.1 hw
     have h6:=rQ h1.1.1 hw;omega
    ·rw[h2.2.2 (by omega)];omega
   ·rw[(h1.2.2 (by omega)).1] at h2⊢
    rw[h2.2.2 (by omega)];omega
theorem Jx: ∀ (l:List Vl) (out:List UInt8), ¬l.length=2→wP l out=out
 | [],_,_=>by rw[wP];intro a b h;cases h
 | [_],_,_=>by rw[wP];intro a b h;cases h
 | [_,_],_,h=>absurd rfl h
 | _::_::_::_,_,_=>by rw[wP];intro a b h;cases h
theorem DH (l:List Vl) (out:List UInt8) (h: ∀ x∈l,DM x):out.length≤(wP l out).length∧(out.length < 1000→(wP l out).length≤iF out.length + 4)∧(1000≤out.length→(wP l out).length≤out.length + 4):=by
 have k: ∀ o:List UInt8,o.length≤o.length∧(o.length < 1000→o.length≤iF o.length + 4)∧(1000≤o.length→o.length≤o.length + 4):=fun o=>⟨Nat.le_refl _,fun h=>by unfold iF;rw[if_neg (by omega)];omega,fun _=>by omega⟩
 by_cases h2:l.length=2
 ·obtain ⟨a,b,rfl⟩: ∃ a b,l= [a,b]:=by
   rcases l with _ | ⟨a,_ | ⟨b,_ | ⟨c,l⟩⟩⟩
   ·simp at h2
   ·simp at h2
   ·exact ⟨a,b,rfl⟩
   ·simp at h2
  rw[wP];have h1:=h a (by simp) out;have h2:=h b (by simp) (wV false a out);refine ⟨by omega,fun hb=>?_,fun hb=>?_⟩
  ·have h3:=(h1.2.1 hb).1
   by_cases hw:(wV false a out).length < 1000
   ·have h5:=(h2.2.1 hw).2
    have h6:=rQ h1.1.1 hw;omega
   ·have h5:=(h2.2.2 (by omega)).2
    omega
  ·rw[(h1.2.2 hb).1] at h2⊢
   exact (h2.2.2 hb).2
 ·rw[Jx l out h2]
  exact k out
theorem xM (x:Vl):x.tx=true→DM x:=by
 induction x using Vl.ind with
 | h x ih=>
  intro ht;rw[Vl.jU] at ht;have ih': ∀ y∈x.l,DM y:=fun y hy=>ih y hy (ht.2.2.2 y hy);have hs:=ht.2.2.1
  have core: ∀ out:List UInt8,out.length≤(kT x out).length∧(out.length < 1000→(kT x out).length≤iF out.length):=fun out=>by
   by_cases hb:1000≤out.length
   ·rw[nF hb];exact ⟨Nat.le_refl _,fun h=>by omega⟩
   have e0:iF out.length=1000002000 + 8 * (1000 - out.length):=by unfold iF;rw[if_neg hb]
   have hn:=BB x.n x.d;rw[kT,if_neg hb]
   split
   ·simp only[List.length_append];omega
   split
   ·split<;>simp<;>omega
   split
   ·simp only[List.length_append];omega
   split
   ·simp only[List.length_append,List.length_cons,List.length_nil];omega
   split
   ·simp;omega
   split
   ·simp;omega
   split
   ·simp;omega
   split
   ·simp;omega
   split
   ·unfold MS;simp;omega
   split
   ·have h1:=wu x.l true (out++ [35,40]) ih'
    simp only[List.length_append,List.length_cons,List.length_nil] at h1 ⊢;refine ⟨by omega,fun _=>?_⟩;by_cases h2:out.length + 2 < 1000
    ·have h3:=h1.2.1 (by omega)
     have e1:iF (out.length + 2)=1000002000 + 8 * (1000 - (out.length + 2)):=by unfold iF;rw[if_neg (by omega)]
     simp only[Nat.zero_add,Nat.reduceAdd] at h3 ⊢;omega
    ·rw[h1.2.2 (by omega)];simp;omega
   ·have h1:=DH x.l (out++ [40]) ih'
    simp only[List.length_append,List.length_cons,List.length_nil] at h1 ⊢;refine ⟨by omega,fun _=>?_⟩;by_cases h2:out.length + 1 < 1000
    ·have h3:=h1.2.1 (by omega)
     have e1:iF (out.length + 1)=1000002000 + 8 * (1000 - (out.length + 1)):=by unfold iF;rw[if_neg (by omega)]
     simp only[Nat.zero_add] at h3;omega
    ·have h3:=h1.2.2 (by omega)
     omega
  intro out;rw[nv,uj];have c0:=core out;have c3:=core (out++ [32,46,32]);have p1:=DH x.l (out++ [32]) ih';simp only[List.length_append,List.length_cons,List.length_nil,Nat.zero_add,Nat.reduceAdd] at c3 p1;refine ⟨⟨c0.1,?_⟩,fun hb=>⟨c0.2 hb,?_⟩,fun hb=>⟨nF hb,?_⟩⟩
  ·split
   ·omega
   split
   ·simp
   ·simp;omega
  ·have e0:iF out.length=1000002000 + 8 * (1000 - out.length):=by unfold iF;rw[if_neg (by omega)]
   split
   ·by_cases h2:out.length + 1 < 1000
    ·have h3:=p1.2.1 h2
     have e1:iF (out.length + 1)=1000002000 + 8 * (1000 - (out.length + 1)):=by unfold iF;rw[if_neg (by omega)]
     omega
    ·have h3:=p1.2.2 (by omega)
     omega
   split
   ·simp;omega
   ·rw[List.length_append]
    show _ + 1≤_;by_cases h2:out.length + 3 < 1000
    ·have h3:=c3.2 h2
     have e1:iF (out.length + 3)=1000002000 + 8 * (1000 - (out.length + 3)):=by unfold iF;rw[if_neg (by omega)]
     omega
    ·rw[nF (by simp;omega)]
     simp;omega
  ·rw[if_neg (by omega)]
   split
   ·simp
   ·rw[nF (by simp;omega)]
    simp
mutual
def Vl.sz:Vl→Nat
 | .mk _ _ _ _ l _ _=>1 + Vl.w6 l
def Vl.w6:List Vl→Nat
 | []=>0
 | x::xs=>Vl.sz x + Vl.w6 xs
end
theorem Vl.js: ∀ {l:List Vl} {x:Vl},x∈l→x.sz≤Vl.w6 l
 | y::l,x,h=>by
  rw[Vl.w6];rcases List.mem_cons.1 h with h | h
  ·subst h;omega
  ·have:=Vl.js h;omega
theorem Vl.wg {x y:Vl} (h:y∈x.l):y.sz < x.sz:=by
 cases x with
 | mk k n d s l p c=>rw[Vl.sz];have:=Vl.js (l:=l) h;omega
theorem OM {l:List Vl} (h:l.length=2):l= [l[0]'(by omega),l[1]'(by omega)]:=by
 rcases l with _ | ⟨a,_ | ⟨b,_ | ⟨c,l⟩⟩⟩
 ·simp at h
 ·simp at h
 ·rfl
 ·simp at h
theorem DJ {l:List Vl} (h:l.length=2) (out:List UInt8):wP l out=wV true (l[1]'(by omega)) (wV false (l[0]'(by omega)) out):=by
 conv=>lhs;rw[OM h]
 rw[wP]
theorem LR {p K:Prop} (k:K) (h:p:=by unfold maxLen;first | omega | (simp only[List.length_append,List.length_cons,List.length_nil];omega)):gK p K:=⟨h,k⟩
theorem A5 (n:Nat) (h:n < 10000000000):ay Tryz.prog 162 [.int .i64 n] (.str (wK 10 n)):=by
 have hbyte: ∀ k:Nat,k < 10→((48 + k).toUInt8.toNat:Int)=48 + (k:Int):=fun k hk=>by
  have:(48 + k).toUInt8.toNat=48 + k:=by
   show (48 + k) % 256=48 + k;omega
  omega
 refine ah.ai aj Tryz.func162 rfl rfl (n:=23) rfl rfl ?_
 conv=>whnf
 skip
 refine aI.keep [0,3,4,5,6,7,8,9,10,11,12,13,14,15] (fun x:Nat×Nat×List UInt8=> [(0,.int .i64 x.2.1),(3,.str x.2.2)]) (fun x=>1≤x.1∧x.2.1 < 10 ^ x.1∧x.2.2.length + x.1=10∧wK x.1 x.2.1++x.2.2=wK 10 n) (fun x=>x.2.1) (10,n, []) ⟨by show 1≤10;omega,by dsimp only;omega,rfl,by simp⟩ wA ?_;rintro ⟨f,k,ds⟩ ⟨hf1,hk,hf,he⟩;dsimp only at hf1 hk hf he ⊢;have hk9:k < 10 ^ 10:=Nat.lt_of_lt_of_le hk (Nat.pow_le_pow_right (by decide) (by omega))
 obtain ⟨f,rfl⟩: ∃ f',f=f' + 1:=⟨f - 1,by omega⟩
 have ht:(k:Int).tmod 10=((k % 10:Nat):Int):=(Int.ofNat_tmod ..).symm;have hq:(k:Int).tdiv 10=((k / 10:Nat):Int):=(Int.ofNat_tdiv ..).symm
 conv=>whnf
 repeat' (first|refine aW ?_|((intro _);conv=>whnf)|(refine zX (fun hc=>?_) (fun hc=>?_)<;>(try simp only[SY] at hc)<;>(conv=>whnf)))
 ·have hb:=hbyte (k % 10) (Nat.mod_lt _ (by decide))
  refine ⟨⟨[(48 + k % 10).toUInt8],by rw[ht, ←hb];rfl,?_⟩⟩
  conv=>whnf
  repeat' (first|refine aW ?_|((refine LR ?_);conv=>whnf)|(refine zX (fun hc=>?_) (fun hc=>?_)<;>(try simp only[SY] at hc)<;>omega))
  rw[wK,if_neg (by omega),List.append_assoc] at he;exact aJ (f,k / 10,(48 + k % 10).toUInt8::ds) ⟨Nat.pos_of_ne_zero (fun h0=>by have h0':f=0:=h0;rw[h0'] at hk;simp at hk;omega),by show k / 10 < 10 ^ f;rw[Nat.pow_succ] at hk;omega,by show ds.length + 1 + f=10;omega,he⟩ (by show k / 10 < k;omega) wA
 ·have hb:=hbyte k (by omega)
  refine ⟨⟨[(48 + k).toUInt8],by rw[←hb];rfl,?_⟩⟩
  conv=>whnf
  repeat' (first|((refine LR ?_);conv=>whnf)|(refine zX (fun hc=>?_) (fun hc=>?_)<;>(try simp only[SY] at hc)<;>omega))
  rw[wK,if_pos (by omega)] at he;rw[←he];exact an.pure (Wk.refl _)
theorem Lm (n d:Int):ay Tryz.prog 142 [.int .i64 n,.int .i64 d] (.str (Aa n d)):=by
 have hr:=fh n d;have hN:Aa n d=Aa n d:=rfl
 conv at hN=>rhs;unfold Aa
 cases hb:bE n d with
 | false=>
  rw[hb] at hr hN;rw[hN];refine ah.ai aj Tryz.func142 rfl rfl (n:=26) rfl rfl ?_
  conv=>whnf
  repeat' (first|((refine pC (hr) wR ?_);conv=>whnf)|(refine zX (fun hc=>?_) (fun hc=>?_)<;>(try simp only[SY] at hc)<;>(conv=>whnf)))
  exact an.pure (Wk.refl _)
 | true=>
  rw[hb] at hr hN;unfold bE at hb;simp only[Bool.and_eq_true,decide_eq_true_eq] at hb;have l1:=mO 10 n.natAbs;have l2:=mO 10 d.natAbs;have d1:=A5 n.natAbs (by omega);have d2:=A5 d.natAbs (by omega);rw[show ((d.natAbs:Nat):Int)=d by omega] at d2;refine ah.ai aj Tryz.func142 rfl rfl (n:=26) rfl rfl ?_
  conv=>whnf
  repeat' (first|refine aW ?_|((first|refine LR ?_|refine pC (hr) wR ?_|refine pC (v7 _ OA OA) wR ?_|refine pC (d1) wR ?_|refine pC (d2) wR ?_);conv=>whnf)|(refine zX (fun hc=>?_) (fun hc=>?_)<;>(try simp only[SY] at hc)<;>(conv=>whnf)))
  all_goals
   rename_i kn;refine an.pure (Wk.str ?_);rw[hN,if_neg (by simp)]
   first | rw[if_pos kn] | rw[if_neg (Int.not_lt.2 kn)]
   first | rw[if_pos hc] | rw[if_neg hc]
   simp
theorem JV (a:Int):bitsOf .and .i64 a 1=0∨bitsOf .and .i64 a 1=1:=by
 have e: ∀ v:Nat,v≤1→IntKind.wrap .i64 (v:Int)=v:=fun v hv=>by
  simp[IntKind.wrap,IntKind.bits,IntKind.signed];omega
 have h:(BitVec.ofInt IntKind.i64.bits a &&& BitVec.ofInt IntKind.i64.bits 1).toNat≤1:=by
  rw[BitVec.toNat_and];exact Nat.le_trans Nat.and_le_right (by decide)
 unfold bitsOf;simp only;rw[e _ h];omega
abbrev lq (b:Nat) (s:List UInt8):ak:=.box b [.str s]
def L6 (x:Vl):Prop:= ∀ (b:Nat) (out:List UInt8),out.length≤2000000000→ah Tryz.prog 116 [.agg x.cells,.ptr b 0] [lq b out] (fun _ Γ'=>Γ'= [lq b (wV false x out)])
theorem Fy {p q:Prop} (k:q) (h:q→p:=by intro hq;first | exact aC.sP (some 75) rfl [] [11] aj mixed hq | exact aC.sP (some 88) rfl [] [12] aj mixed hq | exact aC.sP (some 102) rfl [] [8] aj mixed hq | exact aC.sP (some 112) rfl [] [10] aj mixed hq):p:=h k
theorem Lt (n:Nat): ∀ x:Vl,x.sz≤n→x.tx=true→L6 x:=by
 induction n with
 | zero=>intro x hz;cases x;rw[Vl.sz] at hz;omega
 | succ n ihn=>
  intro x hz ht b out hl;have ih: ∀ y:Vl,y.sz < x.sz→y.tx=true→L6 y:=fun y h=>ihn y (by omega);have hlen:=xM x ht;rw[Vl.jU] at ht;obtain ⟨hk,h2,hs,hy⟩:=ht;have ih': ∀ y∈x.l,L6 y:=fun y hm=>ih y (Vl.wg hm) (hy y hm);rw[nv];have hn:=BB x.n x.d;have hC:kT x out=kT x out:=rfl
  conv at hC=>rhs;unfold kT
  have hA1:out.length + (Aa x.n x.d).length≤maxLen:=by unfold maxLen;omega
  have hA2:out.length + x.s.length≤maxLen:=by unfold maxLen;omega
  have hA3:out.length + 1≤maxLen:=by unfold maxLen;omega
  have hA4:out.length + 1 + x.s.length≤maxLen:=by unfold maxLen;omega
  have hA5:out.length + (x.s.length + 1) + 1≤maxLen:=by unfold maxLen;omega
  have hA6:out.length + 2≤maxLen:=by unfold maxLen;omega
  have hbt:=JV x.n;refine ah.ai aj Tryz.func116 rfl rfl (n:=207) rfl rfl ?_
  conv=>whnf
  repeat' (first|refine aW ?_|((first|((apply zZ);(conv=>whnf);(repeat ((refine pC (Lm x.n x.d) wR ?_);conv=>whnf));exact pZ)|refine LR ?_|refine Fy ?_|intro _);conv=>whnf)|(refine zX (fun hc=>?_) (fun hc=>?_)<;>(try simp only[SY] at hc)<;>first|omega|(conv=>whnf)))
  ·rw[hC,if_pos (by omega)]
   exact an.gen (y:=.aU []) (Γ':= [lq b out]) (Wk.refl _) rfl
  ·rw[hC,if_neg (by omega),if_pos hc]
   exact an.gen (y:=.aU []) (Γ':= [lq b _]) (Wk.refl _) rfl
  ·rw[hC,if_neg (by omega),if_neg (by omega),if_pos hc]
   rcases hbt with h | h
   ·rw[h,if_pos rfl]
    conv=>whnf
    repeat' (first|refine aW ?_|(refine zX (fun hc=>?_) (fun hc=>?_)<;>(try simp only[SY] at hc)<;>omega))
    exact an.gen (y:=.aU []) (Γ':= [lq b _]) (Wk.refl _) rfl
   ·rw[h,if_neg (by decide)]
    conv=>whnf
    repeat' (first|refine aW ?_|(refine zX (fun hc=>?_) (fun hc=>?_)<;>(try simp only[SY] at hc)<;>omega))
    exact an.gen (y:=.aU []) (Γ':= [lq b _]) (Wk.refl _) rfl
  ·rw[hC,if_neg (by omega),if_neg (by omega),if_neg (by omega),if_pos hc]
   exact an.gen (y:=.aU []) (Γ':= [lq b _]) (Wk.refl _) rfl
  ·rw[hC,if_neg (by omega),if_neg (by omega),if_neg (by omega),if_neg (by omega),if_pos hc]
   exact an.gen (y:=.aU []) (Γ':= [lq b _]) (Wk.refl _) rfl
  ·rw[hC,if_neg (by omega),if_neg (by omega),if_neg (by omega),if_neg (by omega),if_neg (by omega),if_pos hc]
   exact an.gen (y:=.aU []) (Γ':= [lq b _]) (Wk.refl _) rfl
  ·rw[hC,if_neg (by omega),if_neg (by omega),if_neg (by omega),if_neg (by omega),if_neg (by omega),if_neg (by omega),if_pos hc]
   exact an.gen (y:=.aU []) (Γ':= [lq b _]) (Wk.refl _) rfl
  ·rw[hC,if_neg (by omega),if_neg (by omega),if_neg (by omega),if_neg (by omega),if_neg (by omega),if_neg (by omega),if_neg (by omega),if_pos hc]
   exact an.gen (y:=.aU []) (Γ':= [lq b _]) (Wk.refl _) rfl
  ·rw[hC,if_neg (by omega),if_neg (by omega),if_neg (by omega),if_neg (by omega),if_neg (by omega),if_neg (by omega),if_neg (by omega),if_neg (by omega),if_pos hc]
   exact an.gen (y:=.aU []) (Γ':= [lq b _]) (Wk.refl _) rfl
  ·rw[hC,if_neg (by omega),if_neg (by omega),if_neg (by omega),if_neg (by omega),if_neg (by omega),if_neg (by omega),if_neg (by omega),if_neg (by omega),if_neg (by omega),if_pos (by omega)]
   exact an.gen (y:=.aU []) (Γ':= [lq b _]) (Wk.refl _) rfl
  ·rw[hC,if_neg (by omega),if_neg (by omega),if_neg (by omega),if_neg (by omega),if_neg (by omega),if_neg (by omega),if_neg (by omega),if_neg (by omega),if_neg (by omega),if_pos (by omega)]
   exact an.gen (y:=.aU []) (Γ':= [lq b _]) (Wk.refl _) rfl
  ·rw[hC,if_neg (by omega),if_neg (by omega),if_neg (by omega),if_neg (by omega),if_neg (by omega),if_neg (by omega),if_neg (by omega),if_neg (by omega),if_neg (by omega),if_pos (by omega)]
   exact an.gen (y:=.aU []) (Γ':= [lq b _]) (Wk.refl _) rfl
  ·have hpc: ¬1000≤out.length:=by omega
   rw[hC,if_neg hpc,if_neg (by omega),if_neg (by omega),if_neg (by omega),if_neg (by omega),if_neg (by omega),if_neg (by omega),if_neg (by omega),if_neg (by omega),if_neg (by omega),if_pos hc];rename_i b1 _ _ _ _ _ _ _ _ _ _ _ _ _;have hl7:=wu x.l true (out++ [35,40]) fun y hm=>xM y (hy y hm)
   have hlb:(wL true x.l (out++ [35,40])).length≤1100000000:=by
    have e1:(out++ [35,40]).length=out.length + 2:=by simp
    rw[e1] at hl7;by_cases h2:out.length + 2 < 1000
    ·have:=hl7.2.1 h2
     unfold iF at this;rw[if_neg (by omega)] at this;omega
    ·rw[hl7.2.2 (by omega)];simp;omega
   obtain ⟨W,hW⟩: ∃ W,W=wL true x.l (out++ [35,40]):=⟨_,rfl⟩
   rw[←hW] at hlb ⊢;refine aI.over [29,30,31,32,33,34,35,36,37,38,39,40,41,42,43,44,45,46,47,48,49,50,51,52,53,54] (fun s:Nat×List UInt8=> [(4,.int .i64 s.1)]) (fun s=> [lq b s.2,.box b1 (aS x)]) (fun s=>s.1≤x.l.length∧s.2.length≤1100000000∧wL (decide (s.1=0)) (x.l.drop s.1) s.2=W) (fun s=>x.l.length - s.1) (0,out++ [35,40]) ⟨Nat.zero_le _,by simp;omega,hW.symm⟩ wA ?_;rintro ⟨i,o⟩ ⟨hi,ho,hw⟩;dsimp only at hi ho hw ⊢;have hA7:o.length + 1≤maxLen:=by unfold maxLen;omega
   have step: ∀ (h:i < x.l.length) (_:o.length < 1000) (o':List UInt8),o'=(if i=0 then o else o++ [32])→wL (decide (i + 1=0)) (x.l.drop (i + 1)) (wV false x.l[i] o')=W∧(wV false x.l[i] o').length≤1100000000:=fun h h1 o' e=>by
    rw[aq h,wL,if_neg (by omega)] at hw;simp only[decide_eq_true_eq, ←e] at hw;rw[show decide (i + 1=0)=false from rfl];refine ⟨hw,?_⟩;have:=(wu (x.l.drop (i + 1)) false (wV false x.l[i] o') fun y hm=>xM y (hy y (List.mem_of_mem_drop hm))).1;rw[hw] at this;omega
   conv=>whnf
   repeat' (first|refine aW ?_|((first|refine LR ?_|intro _);conv=>whnf)|(refine zX (fun hc=>?_) (fun hc=>?_)<;>(try simp only[SY] at hc)<;>(conv=>whnf)))
   ·have h1:i < x.l.length:=by omega
    obtain ⟨s1,s2⟩:=step h1 (by omega) (o++ [32]) (by rw[if_neg (by omega)]);refine au.go (ih' x.l[i] (List.getElem_mem _) b (o++ [32]) (by simp;omega)) (bU.refl _) ?_;rintro _ _ rfl
    conv=>whnf
    repeat' (first|refine aW ?_|(refine zX (fun hc=>?_) (fun hc=>?_)<;>(try simp only[SY] at hc)<;>omega))
    exact aJ (i + 1,wV false x.l[i] (o++ [32])) ⟨by show i + 1≤_;omega,s2,s1⟩ (by show x.l.length - (i + 1) < x.l.length - i;omega) wA
   ·have h1:i < x.l.length:=by omega
    obtain ⟨s1,s2⟩:=step h1 (by omega) o (by rw[if_pos (by omega)]);refine au.go (ih' x.l[i] (List.getElem_mem _) b o (by omega)) (bU.refl _) ?_;rintro _ _ rfl
    conv=>whnf
    repeat' (first|refine aW ?_|(refine zX (fun hc=>?_) (fun hc=>?_)<;>(try simp only[SY] at hc)<;>omega))
    exact aJ (i + 1,wV false x.l[i] o) ⟨by show i + 1≤_;omega,s2,s1⟩ (by show x.l.length - (i + 1) < x.l.length - i;omega) wA
   ·obtain rfl:o=W:=by
     rw[←hw];rcases hc with h | h
     ·rw[List.drop_of_length_le (by omega),wL]
     ·exact ((wu _ _ o fun y hm=>xM y (hy y (List.mem_of_mem_drop hm))).2.2 (by omega)).symm
    exact an.gen (y:=.aU []) (Γ':= [lq b _]) (Wk.refl _) rfl
  ·have h6:x.k=6:=by omega
   have hl2:=h2 h6;have hpc: ¬1000≤out.length:=by omega
   rw[hC,if_neg hpc,if_neg (by omega),if_neg (by omega),if_neg (by omega),if_neg (by omega),if_neg (by omega),if_neg (by omega),if_neg (by omega),if_neg (by omega),if_neg (by omega),if_neg (by omega)];rename_i b1 _ _ _ _ _ _ _ _ _ _ _ _ _;rw[DJ hl2];have hm0:x.l[0]∈x.l:=List.getElem_mem _;have hm1:x.l[1]∈x.l:=List.getElem_mem _;have hWl:=DH x.l (out++ [40]) fun y hm=>xM y (hy y hm);rw[DJ hl2] at hWl
   obtain ⟨W,hW⟩: ∃ W,W=wV true x.l[1] (wV false x.l[0] (out++ [40])):=⟨_,rfl⟩
   rw[←hW] at hWl⊢
   have hlb:W.length≤1100000000:=by
    have e1:(out++ [40]).length=out.length + 1:=by simp
    rw[e1] at hWl;by_cases h2:out.length + 1 < 1000
    ·have:=hWl.2.1 h2
     unfold iF at this;rw[if_neg (by omega)] at this;omega
    ·have:=hWl.2.2 (by omega)
     omega
   refine au.go (ih' x.l[0] hm0 b (out++ [40]) (by simp;omega)) (bU.refl _) ?_;rintro _ _ rfl
   conv=>whnf
   repeat' (first|refine aW ?_|((first|refine bY nC ?_|intro _);conv=>whnf)|(refine zX (fun hc=>?_) (fun hc=>?_)<;>(try simp only[SY] at hc)<;>omega))
   rename_i b5
   have mono: ∀ (r:Vl) (o:List UInt8),r.tx=true→wV true r o=W→o.length≤1100000000:=fun r o h1 h2=>by
    have:=(xM r h1 o).1.2;rw[h2] at this;omega
   refine aI.over [4,172,173,174,175,176,177,178,179,180,181,182,183,184,185,186,187,188,189,190,191,192,193,194,195,196,197,198,199,200] (fun s:Vl×List UInt8=> []) (fun s=> [lq b s.2,.box b5 (aS s.1),.box b1 (aS x)]) (fun s=>s.1.tx=true∧s.1.sz < x.sz∧wV true s.1 s.2=W) (fun s=>s.1.sz) (x.l[1],wV false x.l[0] (out++ [40])) ⟨hy _ hm1,Vl.wg hm1,hW.symm⟩ wA ?_;rintro ⟨r,o⟩ ⟨hr,hrs,hw⟩;dsimp only at hr hrs hw ⊢;have ho:=mono r o hr hw;have hr':=hr;rw[Vl.jU] at hr';have hr2:=hr'.2.1;have hA7:o.length + 1≤maxLen:=by unfold maxLen;omega
   have hA8:o.length + 3≤maxLen:=by unfold maxLen;omega
   rw[uj] at hw
   conv=>whnf
   repeat' (first|refine aW ?_|((refine LR ?_);conv=>whnf)|(refine zX (fun hc=>?_) (fun hc=>?_)<;>(try simp only[SY] at hc)<;>(conv=>whnf)))
   ·have h6':r.k=6:=by omega
    have hl2:=hr2 h6';have hm0:r.l[0]∈r.l:=List.getElem_mem _;have hm1:r.l[1]∈r.l:=List.getElem_mem _;have z0:=Vl.wg hm0;have z1:=Vl.wg hm1;rw[if_pos ⟨h6',by omega⟩,DJ hl2] at hw;refine au.go (ih r.l[0] (by omega) (hr'.2.2.2 _ hm0) b (o++ [32]) (by simp;omega)) (bU.refl _) ?_;rintro _ _ rfl
    conv=>whnf
    repeat' (first|refine aW ?_|((refine bY nC ?_);conv=>whnf)|(refine zX (fun hc=>?_) (fun hc=>?_)<;>(try simp only[SY] at hc)<;>omega))
    exact aJ (r.l[1],wV false r.l[0] (o++ [32])) ⟨hr'.2.2.2 _ hm1,by show r.l[1].sz < x.sz;omega,hw⟩ z1 wA
   ·rw[if_neg (by omega),if_neg (by omega), ←nv] at hw
    have hA9:(wV false r (o++ [32,46,32])).length + 1≤1100000000:=by
     have:=congrArg List.length hw;rw[List.length_append] at this;simp at this;omega
    refine au.go (ih r hrs hr b (o++ [32,46,32]) (by simp;omega)) (bU.refl _) ?_;rintro _ _ rfl
    conv=>whnf
    repeat' (first|refine aW ?_|((refine LR ?_);conv=>whnf)|(refine zX (fun hc=>?_) (fun hc=>?_)<;>(try simp only[SY] at hc)<;>omega))
    rw[hw];exact an.gen (y:=.aU []) (Γ':= [lq b W]) (Wk.refl _) rfl
   ·rw[if_neg (by omega),if_pos (by omega)] at hw
    rw[hw];exact an.gen (y:=.aU []) (Γ':= [lq b W]) (Wk.refl _) rfl
theorem uf (x:Vl) (ht:x.tx=true):ay Tryz.prog 88 [.agg x.cells] (.str (qD x)):=by
 have hw:=fun b=>Lt x.sz x (Nat.le_refl _) ht b [] (by simp);refine ah.ai aj Tryz.func88 rfl rfl (n:=11) rfl rfl ?_
 conv=>whnf
 repeat' (first|refine aW ?_|((intro _);conv=>whnf)|(refine zX (fun hc=>?_) (fun hc=>?_)<;>(try simp only[SY] at hc)<;>omega))
 rename_i b1 b3;refine au.go (hw b3) (bU.refl _) ?_;rintro _ _ rfl
 conv=>whnf
 repeat' (first|refine aW ?_|((intro _);conv=>whnf)|(refine zX (fun hc=>?_) (fun hc=>?_)<;>(try simp only[SY] at hc)<;>omega))
 refine an.pure (Wk.str ?_);unfold qD
 split
 ·rfl
 ·rw[List.take_of_length_le (by omega),List.take_of_length_le (by omega)]
def wz (n d m e:Int):Int×Int×Int:=if (bE n d && bE m e)=false then (0,0,3) else kj (n * e + m * d) (d * e)
def o5 (n d m e:Int):Int×Int×Int:=if (bE n d && bE m e)=false then (0,0,3) else wz n d (0 - m) e
def vC (n d m e:Int):Int×Int×Int:=if (bE n d && bE m e)=false then (0,0,3) else
 kj (n.tdiv (Nat.gcd n.natAbs e.natAbs:Nat) * m.tdiv (Nat.gcd m.natAbs d.natAbs:Nat)) (d.tdiv (Nat.gcd m.natAbs d.natAbs:Nat) * e.tdiv (Nat.gcd n.natAbs e.natAbs:Nat))
def oL (n d m e:Int):Int×Int×Int:=if (bE n d && bE m e)=false then (0,0,3) else
 if m=0 then (0,0,4) else if m < 0 then vC n d (0 - e) (0 - m) else vC n d e m
def Ib (n d m e:Int):Bool:=bE n d && (bE m e && decide (n * e < m * d))
theorem dH {n d:Int} (h:bE n d=true):1≤d∧d≤2147483647∧ -2147483647≤n∧n≤2147483647:=by
 unfold bE at h;simp only[Bool.and_eq_true,decide_eq_true_eq] at h;exact ⟨h.1,h.2.1,h.2.2.1,h.2.2.2.1⟩
theorem oR {a b:Int} (h1: -2147483647≤a) (h2:a≤2147483647) (h3: -2147483647≤b) (h4:b≤2147483647): -4611686014132420609≤a * b∧a * b≤4611686014132420609:=by
 have k:(a * b).natAbs≤2147483647 * 2147483647:=by
  rw[Int.natAbs_mul];exact Nat.mul_le_mul (by omega) (by omega)
 omega
theorem G4 (n d m e:Int):ay Tryz.prog 219 [.int .i64 n,.int .i64 d,.int .i64 m,.int .i64 e] (Cg (wz n d m e)):=by
 have h1:=fh n d;have h2:=fh m e;unfold wz
 cases hb:(bE n d && bE m e) with
 | false=>
  refine ah.ai aj Tryz.func219 rfl rfl (n:=35) rfl rfl ?_
  conv=>whnf
  repeat' (first|refine cW ?_|((first|(((apply zY;intro hg));(conv=>whnf);(repeat ((first|refine pC (h2) wR ?_|refine aG ?_);conv=>whnf));exact pZ)|refine pC (h1) wR ?_);conv=>whnf)|(refine zX (fun hc=>?_) (fun hc=>?_)<;>(try simp only[SY] at hc)<;>(conv=>whnf)))
  ·rw[if_pos rfl]
   exact an.pure (Wk.refl _)
  ·rw[hc.1,hc.2] at hb
   cases hb
 | true=>
  have hb':=hb;rw[Bool.and_eq_true] at hb';have b1:=dH hb'.1;have b2:=dH hb'.2;rw[hb'.1] at h1;rw[hb'.2] at h2;rw[if_neg (by simp)];have m1:=oR b1.2.2.1 b1.2.2.2 (b:=e) (by omega) (by omega);have m2:=oR b2.2.2.1 b2.2.2.2 (b:=d) (by omega) (by omega);have m3:=oR (a:=d) (b:=e) (by omega) (by omega) (by omega) (by omega);refine ah.ai aj Tryz.func219 rfl rfl (n:=35) rfl rfl ?_
  conv=>whnf
  repeat' (first|refine cW ?_|((first|(((apply zY;intro hg));(conv=>whnf);(repeat ((first|refine pC (h2) wR ?_|refine aG ?_);conv=>whnf));exact pZ)|refine pC (h1) wR ?_|refine pC (zx _ _ OA OA OA OA) wR ?_);conv=>whnf)|(refine zX (fun hc=>?_) (fun hc=>?_)<;>(try simp only[SY] at hc)<;>(conv=>whnf)))
  exact an.pure (Wk.refl _)
theorem Jo (n d m e:Int):ay Tryz.prog 220 [.int .i64 n,.int .i64 d,.int .i64 m,.int .i64 e] (Cg (o5 n d m e)):=by
 have h1:=fh n d;have h2:=fh m e;have h3:=G4 n d (-m) e;rw[show -m=0 - m by omega] at h3;unfold o5
 cases hb:(bE n d && bE m e) with
 | false=>
  refine ah.ai aj Tryz.func220 rfl rfl (n:=30) rfl rfl ?_
  conv=>whnf
  repeat' (first|refine cW ?_|((first|(((apply zY;intro hg));(conv=>whnf);(repeat ((first|refine pC (h2) wR ?_|refine aG ?_);conv=>whnf));exact pZ)|refine pC (h1) wR ?_);conv=>whnf)|(refine zX (fun hc=>?_) (fun hc=>?_)<;>(try simp only[SY] at hc)<;>(conv=>whnf)))
  ·rw[if_pos rfl]
   exact an.pure (Wk.refl _)
  ·rw[hc.1,hc.2] at hb
   cases hb
 | true=>
  have hb':=hb;rw[Bool.and_eq_true] at hb';have b1:=dH hb'.1;have b2:=dH hb'.2;rw[hb'.1] at h1;rw[hb'.2] at h2;rw[if_neg (by simp)];refine ah.ai aj Tryz.func220 rfl rfl (n:=30) rfl rfl ?_
  conv=>whnf
  repeat' (first|refine cW ?_|((first|(((apply zY;intro hg));(conv=>whnf);(repeat ((first|refine pC (h2) wR ?_|refine aG ?_);conv=>whnf));exact pZ)|refine pC (h1) wR ?_|refine pC (h3) wR ?_);conv=>whnf)|(refine zX (fun hc=>?_) (fun hc=>?_)<;>(try simp only[SY] at hc)<;>(conv=>whnf)))
  exact an.pure (Wk.refl _)
theorem Kl (n d m e:Int):ay Tryz.prog 205 [.int .i64 n,.int .i64 d,.int .i64 m,.int .i64 e] (.bool (Ib n d m e)):=by
 have h1:=fh n d;have h2:=fh m e;unfold Ib
 cases hn:bE n d with
 | false=>
  rw[hn] at h1;refine ah.ai aj Tryz.func205 rfl rfl (n:=26) rfl rfl ?_
  conv=>whnf
  repeat' (first|refine cW ?_|((first|(((apply zY;intro hg));(conv=>whnf);(repeat ((first|refine pC (h2) wR ?_|refine aG ?_);conv=>whnf));exact pZ)|refine pC (h1) wR ?_);conv=>whnf)|(refine zX (fun hc=>?_) (fun hc=>?_)<;>(try simp only[SY] at hc)<;>omega))
  refine eP.ways (fun hg=>by simp at hg) (fun hg=>?_)
  conv=>whnf
  skip
  exact an.pure (Wk.refl _)
 | true=>
  cases hm:bE m e with
  | false=>
   rw[hn] at h1;rw[hm] at h2;refine ah.ai aj Tryz.func205 rfl rfl (n:=26) rfl rfl ?_
   conv=>whnf
   repeat' (first|refine cW ?_|((first|(((apply zY;intro hg));(conv=>whnf);(repeat ((first|refine pC (h2) wR ?_|refine aG ?_);conv=>whnf));exact pZ)|refine pC (h1) wR ?_);conv=>whnf)|(refine zX (fun hc=>?_) (fun hc=>?_)<;>(try simp only[SY] at hc)<;>omega))
   refine eP.ways (fun hg=>by simp at hg) (fun hg=>?_)
   conv=>whnf
   skip
   exact an.pure (Wk.refl _)
  | true=>
   rw[hn] at h1;rw[hm] at h2;have b1:=dH hn;have b2:=dH hm;have m1:=oR b1.2.2.1 b1.2.2.2 (b:=e) (by omega) (by omega);have m2:=oR b2.2.2.1 b2.2.2.2 (b:=d) (by omega) (by omega);refine ah.ai aj Tryz.func205 rfl rfl (n:=26) rfl rfl ?_
   conv=>whnf
   repeat' (first|refine cW ?_|((first|(((apply zY;intro hg));(conv=>whnf);(repeat ((first|refine pC (h2) wR ?_|refine aG ?_);conv=>whnf));exact pZ)|refine pC (h1) wR ?_);conv=>whnf)|(refine zX (fun hc=>?_) (fun hc=>?_)<;>(try simp only[SY] at hc)<;>omega))
   exact an.pure (Wk.bool (by simp))
theorem Hy {p q:Prop} (k:q) (h:q→p:=by intro hq;first | exact aC.sP (some 35) rfl [] [] aj mixed hq):p:=h k
theorem De (n d m e:Int):ay Tryz.prog 221 [.int .i64 n,.int .i64 d,.int .i64 m,.int .i64 e] (Cg (vC n d m e)):=by
 have h1:=fh n d;have h2:=fh m e;unfold vC
 cases hb:(bE n d && bE m e) with
 | false=>
  refine ah.ai aj Tryz.func221 rfl rfl (n:=53) rfl rfl ?_
  conv=>whnf
  repeat' (first|refine cW ?_|((first|(((apply zY;intro hg));(conv=>whnf);(repeat ((first|refine pC (h2) wR ?_|refine aG ?_);conv=>whnf));exact pZ)|refine pC (h1) wR ?_);conv=>whnf)|(refine zX (fun hc=>?_) (fun hc=>?_)<;>(try simp only[SY] at hc)<;>(conv=>whnf)))
  ·rw[if_pos rfl]
   exact an.pure (Wk.refl _)
  ·rw[hc.1,hc.2] at hb
   cases hb
 | true=>
  have hb':=hb;rw[Bool.and_eq_true] at hb';have b1:=dH hb'.1;have b2:=dH hb'.2;rw[hb'.1] at h1;rw[hb'.2] at h2;rw[if_neg (by simp)];have hg1:0 < Nat.gcd n.natAbs e.natAbs:=Nat.gcd_pos_of_pos_right _ (by omega);have hg2:0 < Nat.gcd m.natAbs d.natAbs:=Nat.gcd_pos_of_pos_right _ (by omega);have hg3:Nat.gcd n.natAbs e.natAbs≤e.natAbs:=Nat.gcd_le_right _ (by omega);have hg4:Nat.gcd m.natAbs d.natAbs≤d.natAbs:=Nat.gcd_le_right _ (by omega);generalize hG:Nat.gcd n.natAbs e.natAbs=G at *;generalize hH:Nat.gcd m.natAbs d.natAbs=H at *
  have q: ∀ (a:Int) (g:Nat), -2147483647≤a→a≤2147483647→ -2147483647≤a.tdiv g∧a.tdiv g≤2147483647:=fun a g ha hb=>by
   have:(a.tdiv g).natAbs≤a.natAbs:=by rw[Int.natAbs_tdiv];exact Nat.div_le_self _ _
   omega
  have q1:=q n G b1.2.2.1 b1.2.2.2;have q2:=q m H b2.2.2.1 b2.2.2.2;have q3:=q d H (by omega) (by omega);have q4:=q e G (by omega) (by omega);have m1:=oR q1.1 q1.2 q2.1 q2.2;have m2:=oR q3.1 q3.2 q4.1 q4.2;have g1:=Ew n.natAbs e.natAbs (by omega) (by omega);have g2:=Ew m.natAbs d.natAbs (by omega) (by omega);rw[hG,show ((e.natAbs:Nat):Int)=e by omega] at g1;rw[hH,show ((d.natAbs:Nat):Int)=d by omega] at g2;refine ah.ai aj Tryz.func221 rfl rfl (n:=53) rfl rfl ?_
  conv=>whnf
  repeat' (first|refine cW ?_|((first|((first|(apply zY;intro hg)|apply zZ);(conv=>whnf);(repeat ((first|refine pC (h2) wR ?_|refine pC (zx _ _ OA OA OA OA) wR ?_|refine aG ?_);conv=>whnf));exact pZ)|refine pC (h1) wR ?_|refine pC (v7 _ OA OA) wR ?_|refine pC (g1) wR ?_|refine pC (g2) wR ?_|refine Hy ?_);conv=>whnf)|(refine zX (fun hc=>?_) (fun hc=>?_)<;>(try simp only[SY] at hc)<;>(conv=>whnf)))
  exact an.pure (Wk.refl _)
theorem Ht (n d m e:Int):ay Tryz.prog 222 [.int .i64 n,.int .i64 d,.int .i64 m,.int .i64 e] (Cg (oL n d m e)):=by
 have h1:=fh n d;have h2:=fh m e;have h3:=De n d (0 - e) (0 - m);have h4:=De n d e m;unfold oL
 cases hb:(bE n d && bE m e) with
 | false=>
  refine ah.ai aj Tryz.func222 rfl rfl (n:=43) rfl rfl ?_
  conv=>whnf
  repeat' (first|refine cW ?_|((first|(((apply zY;intro hg));(conv=>whnf);(repeat ((first|refine pC (h2) wR ?_|refine aG ?_);conv=>whnf));exact pZ)|refine pC (h1) wR ?_);conv=>whnf)|(refine zX (fun hc=>?_) (fun hc=>?_)<;>(try simp only[SY] at hc)<;>(conv=>whnf)))
  ·rw[if_pos rfl]
   exact an.pure (Wk.refl _)
  all_goals
   have hc1:bE n d=true∧bE m e=true:=by assumption
   rw[hc1.1,hc1.2] at hb;cases hb
 | true=>
  have hb':=hb;rw[Bool.and_eq_true] at hb';have b1:=dH hb'.1;have b2:=dH hb'.2;rw[hb'.1] at h1;rw[hb'.2] at h2;rw[if_neg (by simp)];refine ah.ai aj Tryz.func222 rfl rfl (n:=43) rfl rfl ?_
  conv=>whnf
  repeat' (first|refine cW ?_|((first|(((apply zY;intro hg));(conv=>whnf);(repeat ((first|refine pC (h2) wR ?_|refine aG ?_);conv=>whnf));exact pZ)|refine pC (h1) wR ?_|refine pC (h3) wR ?_|refine pC (h4) wR ?_);conv=>whnf)|(refine zX (fun hc=>?_) (fun hc=>?_)<;>(try simp only[SY] at hc)<;>(conv=>whnf)))
  ·rw[if_pos hc]
   exact an.pure (Wk.refl _)
  ·rename_i hm
   rw[if_neg hm,if_pos hc];exact an.pure (Wk.refl _)
  ·rename_i hm
   rw[if_neg hm,if_neg (by omega)];exact an.pure (Wk.refl _)
theorem FK (n:Int) (h:n < 0∨n > 30):aP n=Gy.none:=by rw[aP,if_neg (by omega)]
def uU (n:Int):Int×Int:=if n=0∨n=2∨n=20∨n=21 then (0, -1) else if n=1∨n=3 then (1, -1) else
 if n=4∨n=5∨n=6∨n=7∨n=17∨n=22∨n=30 then (2,2) else if n=25∨n=27 then (0,0) else (1,1)
def oS:List (List UInt8):=facts.map Gy.name
theorem HN {n:Int} (h0:0≤n) (h1:n≤30):aP n=⟨oS.getD n.toNat [],(uU n).1,(uU n).2,decide (n≤25),decide (n≤16) || n == 18 || n == 19 || decide (n≥22) && decide (n≤25)⟩:=by
 obtain ⟨k,rfl⟩: ∃ k:Nat,n=k:=⟨n.toNat,by omega⟩
 have: ∀ k:Fin 31,aP (k.val:Int)=⟨oS.getD (k.val:Int).toNat [],(uU (k.val:Int)).1,(uU (k.val:Int)).2,decide ((k.val:Int)≤25),decide ((k.val:Int)≤16) || (k.val:Int) == 18 || (k.val:Int) == 19 || decide ((k.val:Int)≥22) && decide ((k.val:Int)≤25)⟩:=by
  intro k
  match k with
  | ⟨0,_⟩ | ⟨1,_⟩ | ⟨2,_⟩ | ⟨3,_⟩ | ⟨4,_⟩ | ⟨5,_⟩ | ⟨6,_⟩ | ⟨7,_⟩ | ⟨8,_⟩ | ⟨9,_⟩ | ⟨10,_⟩ | ⟨11,_⟩ | ⟨12,_⟩ | ⟨13,_⟩ | ⟨14,_⟩ | ⟨15,_⟩ | ⟨16,_⟩ | ⟨17,_⟩ | ⟨18,_⟩ | ⟨19,_⟩ | ⟨20,_⟩ | ⟨21,_⟩ | ⟨22,_⟩ | ⟨23,_⟩ | ⟨24,_⟩ | ⟨25,_⟩ | ⟨26,_⟩ | ⟨27,_⟩ | ⟨28,_⟩ | ⟨29,_⟩ | ⟨30,_⟩=>rfl
  | ⟨n + 31,h⟩=>exact absurd h (by omega)
 exact this ⟨k,by omega⟩
theorem xA (n:Int):ay Tryz.prog 192 [.int .i64 n] (.aU [.agg (aP n).cells,.bool (decide (0≤n∧n < 31))]):=by
 have hn:oS.length=31:=rfl;refine ah.ai aj Tryz.func192 rfl rfl (n:=67) rfl rfl ?_
 conv=>whnf
 repeat' (first|refine cW ?_|((intro _);conv=>whnf)|(refine zX (fun hc=>?_) (fun hc=>?_)<;>(try simp only[SY] at hc)<;>(conv=>whnf)))
 ·rw[FK n hc,show decide (0≤n∧n < 31)=false from decide_eq_false (by omega)]
  exact an.pure (Wk.aU (.cons (Wk.refl _) (.cons (Wk.ff rfl) .nil)))
 ·show dQ _ (.sl 1 (oS.map PV.str) (some _)) _ _
  have hf:=HN (n:=n) (by omega) (by omega);have hQ:uU n=uU n:=rfl
  conv at hQ=>rhs;unfold uU
  have hg:oS.getD n.toNat []=oS[n.toNat]'(by omega):=by simp[List.getD,show n.toNat < oS.length by omega]
  have hd:decide (0≤n∧n < 31)=true:=decide_eq_true (by omega)
  conv=>whnf
  repeat' (first|refine cW ?_|((intro _);conv=>whnf)|(refine zX (fun hc=>?_) (fun hc=>?_)<;>(try simp only[SY] at hc)<;>first|omega|(conv=>whnf)))
  all_goals
   repeat (first|rw[if_neg (by omega)] at hQ|rw[if_pos (by omega)] at hQ)
   rw[hf,hQ,hd,hg];exact an.pure (Wk.aU (.cons (Wk.refl _) (.cons (Wk.tt rfl) .nil)))
def Cq (n:Int) (a b:Int×Int):Int×Int×Int:=if n=0 then wz a.1 a.2 b.1 b.2 else if n=1 then o5 a.1 a.2 b.1 b.2 else if n=2 then vC a.1 a.2 b.1 b.2 else oL a.1 a.2 b.1 b.2
abbrev gy (a:Int×Int):Datum:=.mk 0 a.1 a.2 [] []
def dI (n:Int):List Datum→Int×Int→Datum×Int
 | [],a=>(gy a,0)
 | x::l,a=>if (Cq n a (x.n,x.d)).2.2≠0 then (gy (0,0),(Cq n a (x.n,x.d)).2.2) else dI n l ((Cq n a (x.n,x.d)).1,(Cq n a (x.n,x.d)).2.1)
def fH (l:List Datum):Bool:=l.all fun x=>x.kind == 0
def fS (n:Int) (l:List Datum):Datum×Int:=
 if fH l=false then (gy (0,0),1) else
 if (n=1∨n=3)∧1 < l.length then dI n (l.drop 1) ((l.getD 0 jQ).n,(l.getD 0 jQ).d) else
 dI n l (if 2≤n then (1,1) else (0,1))
abbrev Gg (r:Datum×Int):PV:=.aU [.agg r.1.cells,.int .i64 r.2]
theorem nV {n d:Int}:ia [.int .i64 0,.int .i64 n,.int .i64 d,.str [],.nil] (jE (gy (n,d))):=.cons (Wk.refl _) (.cons (Wk.refl _) (.cons (Wk.refl _) (.cons (Wk.refl _) (.cons (Wk.lp rfl) .nil))))
theorem lR (n:Int):ay Tryz.prog 208 [.int .i64 n] (.agg (gy (n,1)).cells):=by
 refine ah.ai aj Tryz.func208 rfl rfl (n:=5) rfl rfl ?_
 conv=>whnf
 repeat' (first|refine aW ?_|((intro _);conv=>whnf)|(refine zX (fun hc=>?_) (fun hc=>?_)<;>(try simp only[SY] at hc)<;>omega))
 exact an.pure lX.wk
theorem kV {p q:Prop} (k:q) (h:q→p:=by intro hq;first | exact aC.sP (some 74) rfl [] [] aj mixed hq | exact aC.sP (some 95) rfl [] [] aj mixed hq | exact aC.sP (some 116) rfl [] [] aj mixed hq | exact aC.sP (some 53) rfl [] [] aj mixed hq):p:=h k
theorem Jp (n:Int) (hn:n=0∨n=1∨n=2∨n=3) (l:List Datum) (hl:l.length≤1000000000):ay Tryz.prog 202 [.int .i64 n,.sl 5 (l.map Datum.pv) none] (Gg (fS n l)):=by
 rcases hn with rfl | rfl | rfl | rfl
 ·have hF:fS 0 l=fS 0 l:=rfl
  conv at hF=>rhs;unfold fS
  refine ah.ai aj Tryz.func202 rfl rfl (n:=142) rfl rfl ?_
  conv=>whnf
  repeat' (first|((intro _);conv=>whnf)|(refine zX (fun hc=>?_) (fun hc=>?_)<;>(try simp only[SY] at hc)<;>omega))
  rename_i b4;refine aI.keep [5,6,12,13,14,15,16,17,18,19,20,21,22,23,24] (fun i:Nat=> [(6,.int .i64 i)]) (fun i=>i≤l.length∧fH (l.drop i)=fH l) (fun i=>l.length - i) 0 ⟨Nat.zero_le _,rfl⟩ wA ?_;rintro i ⟨hi,hk⟩
  conv=>whnf
  repeat' (first|refine aW ?_|((first|refine pC (lR _) wR ?_|intro _);conv=>whnf)|(refine zX (fun hc=>?_) (fun hc=>?_)<;>(try simp only[SY] at hc)<;>first|omega|(conv=>whnf)))
  ·rw[aq (show i < l.length by omega),fH,List.all_cons,beq_eq_false_iff_ne.2 hc,Bool.false_and] at hk
   rw[hF,if_pos hk.symm];exact an.pure wA
  ·rw[aq (show i < l.length by omega),fH,List.all_cons,beq_iff_eq.2 hc,Bool.true_and] at hk
   exact aJ (i + 1) ⟨by omega,hk⟩ (by show l.length - (i + 1) < l.length - i;omega) wA
  ·rw[List.drop_of_length_le (by omega)] at hk
   rw[if_neg (by rw[←hk];simp[fH]),if_neg (by omega),if_neg (by omega)] at hF;rename_i b7 _;refine aI.over [5,8,9,10,11,45,46,47,48,49,50,51,52,53,54,55,56,57,58,59,60,61,62,63,64,65,66,67,68,69,70,71,72,73,74,75,76,77,78,79,80,81,82,83,84,85,86,87,88,89,90,91,92,93,94,95,96,97,98,99,100,101,102,103,104,105,106,107,108,109,110,111,112,113,114,115,116,117,118,119,120,121,122,123,124,125,126,127,128,129,130,131,132,133,134,135,136,137,138,139,140] (fun z:Nat×Datum=> [(8,.int .i64 z.1)]) (fun z:Nat×Datum=> [.box b7 (jE z.2),.box b4 [.int .i64 0,.int .i64 0,.int .i64 0,.str [],.nil]]) (fun z=>z.1≤(l).length∧(z.2=gy (z.2.n,z.2.d)∨z.1 < (l).length)∧dI 0 ((l).drop z.1) (z.2.n,z.2.d)=fS 0 l) (fun z=>(l).length - z.1) (0,gy (0,1)) ⟨Nat.zero_le _,.inl rfl,hF.symm⟩ wA ?_;rintro ⟨j,a⟩ ⟨hj,ha,hS⟩;dsimp only at hj ha hS⊢
   conv=>whnf
   repeat' (first|refine aW ?_|((first|((apply zZ);(conv=>whnf);(repeat ((refine pC (G4 _ _ _ _) wR ?_);conv=>whnf));exact pZ)|refine kV ?_|intro _);conv=>whnf)|(refine zX (fun hc=>?_) (fun hc=>?_)<;>(try simp only[SY] at hc)<;>(conv=>whnf)))
   ·have h1:j < (l).length:=by omega
    have he:(Cq 0 (a.n,a.d) (((l)[j]'h1).n,((l)[j]'h1).d)).2.2≠0:=by exact hc
    rw[aq h1,dI,if_pos he] at hS;rw[←hS];exact an.pure (Wk.aU (.cons lX.wk (.cons (by exact Wk.refl _) .nil)))
   ·have h1:j < (l).length:=by omega
    have he: ¬(Cq 0 (a.n,a.d) (((l)[j]'h1).n,((l)[j]'h1).d)).2.2≠0:=by exact fun h=>h hc
    rw[aq h1,dI,if_neg he] at hS;refine gJ.gh (j + 1,gy ((wz a.n a.d ((l)[j]'h1).n ((l)[j]'h1).d).1,(wz a.n a.d ((l)[j]'h1).n ((l)[j]'h1).d).2.1)) ⟨by show j + 1≤_;omega,.inl rfl,hS⟩ (by show (l).length - (j + 1) < (l).length - j;omega) wA ?_;refine aA.trans (aA.box (b:=b7) (cs:= [.int .i64 0,.int .i64 (wz a.n a.d ((l)[j]'h1).n ((l)[j]'h1).d).1,.int .i64 (wz a.n a.d ((l)[j]'h1).n ((l)[j]'h1).d).2.1,.str [],.nil]) (cs':=jE (gy ((wz a.n a.d ((l)[j]'h1).n ((l)[j]'h1).d).1,(wz a.n a.d ((l)[j]'h1).n ((l)[j]'h1).d).2.1))) nV) ?_;exact aA.pick
   ·have hl2:(l).length≤j:=by omega
    rw[List.drop_of_length_le hl2,dI] at hS;have e:=congrArg (fun z:Datum=>PV.agg z.cells) (ha.resolve_right (by omega));rw[←hS];exact an.pure (Wk.aU (.cons (Wk.eq e) (.cons (Wk.refl _) .nil)))
 ·have hF:fS 1 l=fS 1 l:=rfl
  conv at hF=>rhs;unfold fS
  refine ah.ai aj Tryz.func202 rfl rfl (n:=142) rfl rfl ?_
  conv=>whnf
  repeat' (first|((intro _);conv=>whnf)|(refine zX (fun hc=>?_) (fun hc=>?_)<;>(try simp only[SY] at hc)<;>omega))
  rename_i b4;refine aI.keep [5,6,12,13,14,15,16,17,18,19,20,21,22,23,24] (fun i:Nat=> [(6,.int .i64 i)]) (fun i=>i≤l.length∧fH (l.drop i)=fH l) (fun i=>l.length - i) 0 ⟨Nat.zero_le _,rfl⟩ wA ?_;rintro i ⟨hi,hk⟩
  conv=>whnf
  repeat' (first|refine aW ?_|((first|refine pC (lR _) wR ?_|intro _);conv=>whnf)|(refine zX (fun hc=>?_) (fun hc=>?_)<;>(try simp only[SY] at hc)<;>first|omega|(conv=>whnf)))
  ·rw[aq (show i < l.length by omega),fH,List.all_cons,beq_eq_false_iff_ne.2 hc,Bool.false_and] at hk
   rw[hF,if_pos hk.symm];exact an.pure wA
  ·rw[aq (show i < l.length by omega),fH,List.all_cons,beq_iff_eq.2 hc,Bool.true_and] at hk
   exact aJ (i + 1) ⟨by omega,hk⟩ (by show l.length - (i + 1) < l.length - i;omega) wA
  ·rw[List.drop_of_length_le (by omega)] at hk
   rw[if_neg (by rw[←hk];simp[fH]),if_pos (by omega)] at hF;rename_i b7 _;have hg:l.getD 0 jQ=l[0]'(by omega):=mN (by omega);rw[hg] at hF;refine aI.over [5,8,9,10,11,45,46,47,48,49,50,51,52,53,54,55,56,57,58,59,60,61,62,63,64,65,66,67,68,69,70,71,72,73,74,75,76,77,78,79,80,81,82,83,84,85,86,87,88,89,90,91,92,93,94,95,96,97,98,99,100,101,102,103,104,105,106,107,108,109,110,111,112,113,114,115,116,117,118,119,120,121,122,123,124,125,126,127,128,129,130,131,132,133,134,135,136,137,138,139,140] (fun z:Nat×Datum=> [(8,.int .i64 z.1)]) (fun z:Nat×Datum=> [.box b7 (jE z.2),.box b4 [.int .i64 0,.int .i64 0,.int .i64 0,.str [],.nil]]) (fun z=>z.1≤(l.drop 1).length∧(z.2=gy (z.2.n,z.2.d)∨z.1 < (l.drop 1).length)∧dI 1 ((l.drop 1).drop z.1) (z.2.n,z.2.d)=fS 1 l) (fun z=>(l.drop 1).length - z.1) (0,l[0]'(by omega)) ⟨Nat.zero_le _,.inr (by show 0 < (l.drop 1).length;rw[List.length_drop];omega),hF.symm⟩ wA ?_;rintro ⟨j,a⟩ ⟨hj,ha,hS⟩;dsimp only at hj ha hS⊢
   conv=>whnf
   repeat' (first|refine aW ?_|((first|((apply zZ);(conv=>whnf);(repeat ((refine pC (Jo _ _ _ _) wR ?_);conv=>whnf));exact pZ)|refine kV ?_|intro _);conv=>whnf)|(refine zX (fun hc=>?_) (fun hc=>?_)<;>(try simp only[SY] at hc)<;>first|omega|(conv=>whnf)))
   ·have h1:j < (l.drop 1).length:=by omega
    have he:(Cq 1 (a.n,a.d) (((l.drop 1)[j]'h1).n,((l.drop 1)[j]'h1).d)).2.2≠0:=by exact hc
    rw[aq h1,dI,if_pos he] at hS;rw[←hS];exact an.pure (Wk.aU (.cons lX.wk (.cons (by exact Wk.refl _) .nil)))
   ·have h1:j < (l.drop 1).length:=by omega
    have he: ¬(Cq 1 (a.n,a.d) (((l.drop 1)[j]'h1).n,((l.drop 1)[j]'h1).d)).2.2≠0:=by exact fun h=>h hc
    rw[aq h1,dI,if_neg he] at hS;refine gJ.gh (j + 1,gy ((o5 a.n a.d ((l.drop 1)[j]'h1).n ((l.drop 1)[j]'h1).d).1,(o5 a.n a.d ((l.drop 1)[j]'h1).n ((l.drop 1)[j]'h1).d).2.1)) ⟨by show j + 1≤_;omega,.inl rfl,hS⟩ (by show (l.drop 1).length - (j + 1) < (l.drop 1).length - j;omega) wA ?_;refine aA.trans (aA.box (b:=b7) (cs:= [.int .i64 0,.int .i64 (o5 a.n a.d ((l.drop 1)[j]'h1).n ((l.drop 1)[j]'h1).d).1,.int .i64 (o5 a.n a.d ((l.drop 1)[j]'h1).n ((l.drop 1)[j]'h1).d).2.1,.str [],.nil]) (cs':=jE (gy ((o5 a.n a.d ((l.drop 1)[j]'h1).n ((l.drop 1)[j]'h1).d).1,(o5 a.n a.d ((l.drop 1)[j]'h1).n ((l.drop 1)[j]'h1).d).2.1))) nV) ?_;exact aA.pick
   ·have hl2:(l.drop 1).length≤j:=by omega
    rw[List.drop_of_length_le hl2,dI] at hS;have e:=congrArg (fun z:Datum=>PV.agg z.cells) (ha.resolve_right (by omega));rw[←hS];exact an.pure (Wk.aU (.cons (Wk.eq e) (.cons (Wk.refl _) .nil)))
  ·rw[List.drop_of_length_le (by omega)] at hk
   rw[if_neg (by rw[←hk];simp[fH]),if_neg (by omega),if_neg (by omega)] at hF;rename_i b7 _;refine aI.over [5,8,9,10,11,45,46,47,48,49,50,51,52,53,54,55,56,57,58,59,60,61,62,63,64,65,66,67,68,69,70,71,72,73,74,75,76,77,78,79,80,81,82,83,84,85,86,87,88,89,90,91,92,93,94,95,96,97,98,99,100,101,102,103,104,105,106,107,108,109,110,111,112,113,114,115,116,117,118,119,120,121,122,123,124,125,126,127,128,129,130,131,132,133,134,135,136,137,138,139,140] (fun z:Nat×Datum=> [(8,.int .i64 z.1)]) (fun z:Nat×Datum=> [.box b7 (jE z.2),.box b4 [.int .i64 0,.int .i64 0,.int .i64 0,.str [],.nil]]) (fun z=>z.1≤(l).length∧(z.2=gy (z.2.n,z.2.d)∨z.1 < (l).length)∧dI 1 ((l).drop z.1) (z.2.n,z.2.d)=fS 1 l) (fun z=>(l).length - z.1) (0,gy (0,1)) ⟨Nat.zero_le _,.inl rfl,hF.symm⟩ wA ?_;rintro ⟨j,a⟩ ⟨hj,ha,hS⟩;dsimp only at hj ha hS⊢
   conv=>whnf
   repeat' (first|refine aW ?_|((first|((apply zZ);(conv=>whnf);(repeat ((refine pC (Jo _ _ _ _) wR ?_);conv=>whnf));exact pZ)|refine kV ?_|intro _);conv=>whnf)|(refine zX (fun hc=>?_) (fun hc=>?_)<;>(try simp only[SY] at hc)<;>first|omega|(conv=>whnf)))
   ·have h1:j < (l).length:=by omega
    have he:(Cq 1 (a.n,a.d) (((l)[j]'h1).n,((l)[j]'h1).d)).2.2≠0:=by exact hc
    rw[aq h1,dI,if_pos he] at hS;rw[←hS];exact an.pure (Wk.aU (.cons lX.wk (.cons (by exact Wk.refl _) .nil)))
   ·have h1:j < (l).length:=by omega
    have he: ¬(Cq 1 (a.n,a.d) (((l)[j]'h1).n,((l)[j]'h1).d)).2.2≠0:=by exact fun h=>h hc
    rw[aq h1,dI,if_neg he] at hS;refine gJ.gh (j + 1,gy ((o5 a.n a.d ((l)[j]'h1).n ((l)[j]'h1).d).1,(o5 a.n a.d ((l)[j]'h1).n ((l)[j]'h1).d).2.1)) ⟨by show j + 1≤_;omega,.inl rfl,hS⟩ (by show (l).length - (j + 1) < (l).length - j;omega) wA ?_;refine aA.trans (aA.box (b:=b7) (cs:= [.int .i64 0,.int .i64 (o5 a.n a.d ((l)[j]'h1).n ((l)[j]'h1).d).1,.int .i64 (o5 a.n a.d ((l)[j]'h1).n ((l)[j]'h1).d).2.1,.str [],.nil]) (cs':=jE (gy ((o5 a.n a.d ((l)[j]'h1).n ((l)[j]'h1).d).1,(o5 a.n a.d ((l)[j]'h1).n ((l)[j]'h1).d).2.1))) nV) ?_;exact aA.pick
   ·have hl2:(l).length≤j:=by omega
    rw[List.drop_of_length_le hl2,dI] at hS;have e:=congrArg (fun z:Datum=>PV.agg z.cells) (ha.resolve_right (by omega));rw[←hS];exact an.pure (Wk.aU (.cons (Wk.eq e) (.cons (Wk.refl _) .nil)))
 ·have hF:fS 2 l=fS 2 l:=rfl
  conv at hF=>rhs;unfold fS
  refine ah.ai aj Tryz.func202 rfl rfl (n:=142) rfl rfl ?_
  conv=>whnf
  repeat' (first|((intro _);conv=>whnf)|(refine zX (fun hc=>?_) (fun hc=>?_)<;>(try simp only[SY] at hc)<;>omega))
  rename_i b4;refine aI.keep [5,6,12,13,14,15,16,17,18,19,20,21,22,23,24] (fun i:Nat=> [(6,.int .i64 i)]) (fun i=>i≤l.length∧fH (l.drop i)=fH l) (fun i=>l.length - i) 0 ⟨Nat.zero_le _,rfl⟩ wA ?_;rintro i ⟨hi,hk⟩
  conv=>whnf
  repeat' (first|refine aW ?_|((first|refine pC (lR _) wR ?_|intro _);conv=>whnf)|(refine zX (fun hc=>?_) (fun hc=>?_)<;>(try simp only[SY] at hc)<;>first|omega|(conv=>whnf)))
  ·rw[aq (show i < l.length by omega),fH,List.all_cons,beq_eq_false_iff_ne.2 hc,Bool.false_and] at hk
   rw[hF,if_pos hk.symm];exact an.pure wA
  ·rw[aq (show i < l.length by omega),fH,List.all_cons,beq_iff_eq.2 hc,Bool.true_and] at hk
   exact aJ (i + 1) ⟨by omega,hk⟩ (by show l.length - (i + 1) < l.length - i;omega) wA
  ·rw[List.drop_of_length_le (by omega)] at hk
   rw[if_neg (by rw[←hk];simp[fH]),if_neg (by omega),if_pos (by omega)] at hF;rename_i b7 _;refine aI.over [5,8,9,10,11,45,46,47,48,49,50,51,52,53,54,55,56,57,58,59,60,61,62,63,64,65,66,67,68,69,70,71,72,73,74,75,76,77,78,79,80,81,82,83,84,85,86,87,88,89,90,91,92,93,94,95,96,97,98,99,100,101,102,103,104,105,106,107,108,109,110,111,112,113,114,115,116,117,118,119,120,121,122,123,124,125,126,127,128,129,130,131,132,133,134,135,136,137,138,139,140] (fun z:Nat×Datum=> [(8,.int .i64 z.1)]) (fun z:Nat×Datum=> [.box b7 (jE z.2),.box b4 [.int .i64 0,.int .i64 0,.int .i64 0,.str [],.nil]]) (fun z=>z.1≤(l).length∧(z.2=gy (z.2.n,z.2.d)∨z.1 < (l).length)∧dI 2 ((l).drop z.1) (z.2.n,z.2.d)=fS 2 l) (fun z=>(l).length - z.1) (0,gy (1,1)) ⟨Nat.zero_le _,.inl rfl,hF.symm⟩ wA ?_;rintro ⟨j,a⟩ ⟨hj,ha,hS⟩;dsimp only at hj ha hS⊢
   conv=>whnf
   repeat' (first|refine aW ?_|((first|((apply zZ);(conv=>whnf);(repeat ((refine pC (De _ _ _ _) wR ?_);conv=>whnf));exact pZ)|refine kV ?_|intro _);conv=>whnf)|(refine zX (fun hc=>?_) (fun hc=>?_)<;>(try simp only[SY] at hc)<;>first|omega|(conv=>whnf)))
   ·have h1:j < (l).length:=by omega
    have he:(Cq 2 (a.n,a.d) (((l)[j]'h1).n,((l)[j]'h1).d)).2.2≠0:=by exact hc
    rw[aq h1,dI,if_pos he] at hS;rw[←hS];exact an.pure (Wk.aU (.cons lX.wk (.cons (by exact Wk.refl _) .nil)))
   ·have h1:j < (l).length:=by omega
    have he: ¬(Cq 2 (a.n,a.d) (((l)[j]'h1).n,((l)[j]'h1).d)).2.2≠0:=by exact fun h=>h hc
    rw[aq h1,dI,if_neg he] at hS;refine gJ.gh (j + 1,gy ((vC a.n a.d ((l)[j]'h1).n ((l)[j]'h1).d).1,(vC a.n a.d ((l)[j]'h1).n ((l)[j]'h1).d).2.1)) ⟨by show j + 1≤_;omega,.inl rfl,hS⟩ (by show (l).length - (j + 1) < (l).length - j;omega) wA ?_;refine aA.trans (aA.box (b:=b7) (cs:= [.int .i64 0,.int .i64 (vC a.n a.d ((l)[j]'h1).n ((l)[j]'h1).d).1,.int .i64 (vC a.n a.d ((l)[j]'h1).n ((l)[j]'h1).d).2.1,.str [],.nil]) (cs':=jE (gy ((vC a.n a.d ((l)[j]'h1).n ((l)[j]'h1).d).1,(vC a.n a.d ((l)[j]'h1).n ((l)[j]'h1).d).2.1))) nV) ?_;exact aA.pick
   ·have hl2:(l).length≤j:=by omega
    rw[List.drop_of_length_le hl2,dI] at hS;have e:=congrArg (fun z:Datum=>PV.agg z.cells) (ha.resolve_right (by omega));rw[←hS];exact an.pure (Wk.aU (.cons (Wk.eq e) (.cons (Wk.refl _) .nil)))
 ·have hF:fS 3 l=fS 3 l:=rfl
  conv at hF=>rhs;unfold fS
  refine ah.ai aj Tryz.func202 rfl rfl (n:=142) rfl rfl ?_
  conv=>whnf
  repeat' (first|((intro _);conv=>whnf)|(refine zX (fun hc=>?_) (fun hc=>?_)<;>(try simp only[SY] at hc)<;>omega))
  rename_i b4;refine aI.keep [5,6,12,13,14,15,16,17,18,19,20,21,22,23,24] (fun i:Nat=> [(6,.int .i64 i)]) (fun i=>i≤l.length∧fH (l.drop i)=fH l) (fun i=>l.length - i) 0 ⟨Nat.zero_le _,rfl⟩ wA ?_;rintro i ⟨hi,hk⟩
  conv=>whnf
  repeat' (first|refine aW ?_|((first|refine pC (lR _) wR ?_|intro _);conv=>whnf)|(refine zX (fun hc=>?_) (fun hc=>?_)<;>(try simp only[SY] at hc)<;>first|omega|(conv=>whnf)))
  ·rw[aq (show i < l.length by omega),fH,List.all_cons,beq_eq_false_iff_ne.2 hc,Bool.false_and] at hk
   rw[hF,if_pos hk.symm];exact an.pure wA
  ·rw[aq (show i < l.length by omega),fH,List.all_cons,beq_iff_eq.2 hc,Bool.true_and] at hk
   exact aJ (i + 1) ⟨by omega,hk⟩ (by show l.length - (i + 1) < l.length - i;omega) wA
  ·rw[List.drop_of_length_le (by omega)] at hk
   rw[if_neg (by rw[←hk];simp[fH]),if_pos (by omega)] at hF;rename_i b7 _;have hg:l.getD 0 jQ=l[0]'(by omega):=mN (by omega);rw[hg] at hF;refine aI.over [5,8,9,10,11,45,46,47,48,49,50,51,52,53,54,55,56,57,58,59,60,61,62,63,64,65,66,67,68,69,70,71,72,73,74,75,76,77,78,79,80,81,82,83,84,85,86,87,88,89,90,91,92,93,94,95,96,97,98,99,100,101,102,103,104,105,106,107,108,109,110,111,112,113,114,115,116,117,118,119,120,121,122,123,124,125,126,127,128,129,130,131,132,133,134,135,136,137,138,139,140] (fun z:Nat×Datum=> [(8,.int .i64 z.1)]) (fun z:Nat×Datum=> [.box b7 (jE z.2),.box b4 [.int .i64 0,.int .i64 0,.int .i64 0,.str [],.nil]]) (fun z=>z.1≤(l.drop 1).length∧(z.2=gy (z.2.n,z.2.d)∨z.1 < (l.drop 1).length)∧dI 3 ((l.drop 1).drop z.1) (z.2.n,z.2.d)=fS 3 l) (fun z=>(l.drop 1).length - z.1) (0,l[0]'(by omega)) ⟨Nat.zero_le _,.inr (by show 0 < (l.drop 1).length;rw[List.length_drop];omega),hF.symm⟩ wA ?_;rintro ⟨j,a⟩ ⟨hj,ha,hS⟩;dsimp only at hj ha hS⊢
   conv=>whnf
   repeat' (first|refine aW ?_|((first|((apply zZ);(conv=>whnf);(repeat ((refine pC (Ht _ _ _ _) wR ?_);conv=>whnf));exact pZ)|refine kV ?_|intro _);conv=>whnf)|(refine zX (fun hc=>?_) (fun hc=>?_)<;>(try simp only[SY] at hc)<;>first|omega|(conv=>whnf)))
   ·have h1:j < (l.drop 1).length:=by omega
    have he:(Cq 3 (a.n,a.d) (((l.drop 1)[j]'h1).n,((l.drop 1)[j]'h1).d)).2.2≠0:=by exact hc
    rw[aq h1,dI,if_pos he] at hS;rw[←hS];exact an.pure (Wk.aU (.cons lX.wk (.cons (by exact Wk.refl _) .nil)))
   ·have h1:j < (l.drop 1).length:=by omega
    have he: ¬(Cq 3 (a.n,a.d) (((l.drop 1)[j]'h1).n,((l.drop 1)[j]'h1).d)).2.2≠0:=by exact fun h=>h hc
    rw[aq h1,dI,if_neg he] at hS;refine gJ.gh (j + 1,gy ((oL a.n a.d ((l.drop 1)[j]'h1).n ((l.drop 1)[j]'h1).d).1,(oL a.n a.d ((l.drop 1)[j]'h1).n ((l.drop 1)[j]'h1).d).2.1)) ⟨by show j + 1≤_;omega,.inl rfl,hS⟩ (by show (l.drop 1).length - (j + 1) < (l.drop 1).length - j;omega) wA ?_;refine aA.trans (aA.box (b:=b7) (cs:= [.int .i64 0,.int .i64 (oL a.n a.d ((l.drop 1)[j]'h1).n ((l.drop 1)[j]'h1).d).1,.int .i64 (oL a.n a.d ((l.drop 1)[j]'h1).n ((l.drop 1)[j]'h1).d).2.1,.str [],.nil]) (cs':=jE (gy ((oL a.n a.d ((l.drop 1)[j]'h1).n ((l.drop 1)[j]'h1).d).1,(oL a.n a.d ((l.drop 1)[j]'h1).n ((l.drop 1)[j]'h1).d).2.1))) nV) ?_;exact aA.pick
   ·have hl2:(l.drop 1).length≤j:=by omega
    rw[List.drop_of_length_le hl2,dI] at hS;have e:=congrArg (fun z:Datum=>PV.agg z.cells) (ha.resolve_right (by omega));rw[←hS];exact an.pure (Wk.aU (.cons (Wk.eq e) (.cons (Wk.refl _) .nil)))
  ·rw[List.drop_of_length_le (by omega)] at hk
   rw[if_neg (by rw[←hk];simp[fH]),if_neg (by omega),if_pos (by omega)] at hF;rename_i b7 _;refine aI.over [5,8,9,10,11,45,46,47,48,49,50,51,52,53,54,55,56,57,58,59,60,61,62,63,64,65,66,67,68,69,70,71,72,73,74,75,76,77,78,79,80,81,82,83,84,85,86,87,88,89,90,91,92,93,94,95,96,97,98,99,100,101,102,103,104,105,106,107,108,109,110,111,112,113,114,115,116,117,118,119,120,121,122,123,124,125,126,127,128,129,130,131,132,133,134,135,136,137,138,139,140] (fun z:Nat×Datum=> [(8,.int .i64 z.1)]) (fun z:Nat×Datum=> [.box b7 (jE z.2),.box b4 [.int .i64 0,.int .i64 0,.int .i64 0,.str [],.nil]]) (fun z=>z.1≤(l).length∧(z.2=gy (z.2.n,z.2.d)∨z.1 < (l).length)∧dI 3 ((l).drop z.1) (z.2.n,z.2.d)=fS 3 l) (fun z=>(l).length - z.1) (0,gy (1,1)) ⟨Nat.zero_le _,.inl rfl,hF.symm⟩ wA ?_;rintro ⟨j,a⟩ ⟨hj,ha,hS⟩;dsimp only at hj ha hS⊢
   conv=>whnf
   repeat' (first|refine aW ?_|((first|((apply zZ);(conv=>whnf);(repeat ((refine pC (Ht _ _ _ _) wR ?_);conv=>whnf));exact pZ)|refine kV ?_|intro _);conv=>whnf)|(refine zX (fun hc=>?_) (fun hc=>?_)<;>(try simp only[SY] at hc)<;>first|omega|(conv=>whnf)))
   ·have h1:j < (l).length:=by omega
    have he:(Cq 3 (a.n,a.d) (((l)[j]'h1).n,((l)[j]'h1).d)).2.2≠0:=by exact hc
    rw[aq h1,dI,if_pos he] at hS;rw[←hS];exact an.pure (Wk.aU (.cons lX.wk (.cons (by exact Wk.refl _) .nil)))
   ·have h1:j < (l).length:=by omega
    have he: ¬(Cq 3 (a.n,a.d) (((l)[j]'h1).n,((l)[j]'h1).d)).2.2≠0:=by exact fun h=>h hc
    rw[aq h1,dI,if_neg he] at hS;refine gJ.gh (j + 1,gy ((oL a.n a.d ((l)[j]'h1).n ((l)[j]'h1).d).1,(oL a.n a.d ((l)[j]'h1).n ((l)[j]'h1).d).2.1)) ⟨by show j + 1≤_;omega,.inl rfl,hS⟩ (by show (l).length - (j + 1) < (l).length - j;omega) wA ?_;refine aA.trans (aA.box (b:=b7) (cs:= [.int .i64 0,.int .i64 (oL a.n a.d ((l)[j]'h1).n ((l)[j]'h1).d).1,.int .i64 (oL a.n a.d ((l)[j]'h1).n ((l)[j]'h1).d).2.1,.str [],.nil]) (cs':=jE (gy ((oL a.n a.d ((l)[j]'h1).n ((l)[j]'h1).d).1,(oL a.n a.d ((l)[j]'h1).n ((l)[j]'h1).d).2.1))) nV) ?_;exact aA.pick
   ·have hl2:(l).length≤j:=by omega
    rw[List.drop_of_length_le hl2,dI] at hS;have e:=congrArg (fun z:Datum=>PV.agg z.cells) (ha.resolve_right (by omega));rw[←hS];exact an.pure (Wk.aU (.cons (Wk.eq e) (.cons (Wk.refl _) .nil)))
mutual
def aa.G5:aa→aa→Bool
 | .mk op n v t,.mk op' n' v' t'=>op == op' && n == n' && v == v' && aa.mj t t'
def aa.mj:List aa→List aa→Bool
 | [], []=>true
 | x::xs,y::ys=>aa.G5 x y && aa.mj xs ys
 | _,_=>false
end
theorem aa.G6 (a b:aa):a.G5 b=(a.op == b.op && a.n == b.n && a.v == b.v && aa.mj a.t b.t):=by cases a;cases b;rw[aa.G5];rfl
mutual
def Datum.G5:Datum→Datum→Bool
 | .mk k n d s l,.mk k' n' d' s' l'=>k == k' && n == n' && d == d' && s == s' && Datum.mj l l'
def Datum.mj:List Datum→List Datum→Bool
 | [], []=>true
 | x::xs,y::ys=>Datum.G5 x y && Datum.mj xs ys
 | _,_=>false
end
theorem Datum.G6 (a b:Datum):a.G5 b=(a.kind == b.kind && a.n == b.n && a.d == b.d && a.s == b.s && Datum.mj a.l b.l):=by cases a;cases b;rw[Datum.G5];rfl
theorem Datum.AK: ∀ {l m:List Datum},Datum.mj l m=true→l.length=m.length
 | [], [],_=>rfl
 | x::l,y::m,h=>by rw[Datum.mj,Bool.and_eq_true] at h;rw[List.length_cons,List.length_cons,Datum.AK h.2]
 | [],_::_,h=>by simp[Datum.mj] at h
 | _::_, [],h=>by simp[Datum.mj] at h
theorem Ft {p q:Prop} (k:q) (h:q→p:=by intro hq;first | exact aC.sP (some 48) rfl [] [] aj mixed hq):p:=h k
theorem Hr (a:Datum): ∀ b:Datum,ay Tryz.prog 204 [.agg a.cells,.agg b.cells] (.bool (a.G5 b)):=by
 induction a using Datum.ind with
 | h a ih=>
  intro b;have he:=a.G6 b;refine ah.ai aj Tryz.func204 rfl rfl (n:=60) rfl rfl ?_
  conv=>whnf
  repeat' (first|refine LB ?_|((intro _);conv=>whnf)|(refine zX (fun hc=>?_) (fun hc=>?_)<;>(try simp only[SY] at hc)<;>(conv=>whnf)))
  ·exact an.pure (Wk.ff (by
    rw[he,Bool.eq_false_iff];intro h;simp only[Bool.and_eq_true,beq_iff_eq] at h;obtain ⟨⟨⟨⟨h1,h2⟩,h3⟩,h4⟩,h5⟩:=h;have h6:=Datum.AK h5
    simp only[h1,h2,h3,h4,h6,not_true_eq_false,or_self] at hc))
  have h0:=hc;have he2:a.G5 b=Datum.mj a.l b.l:=by rw[he,h0.1.1.1.1,h0.1.1.1.2,h0.1.1.2,h0.1.2];simp
  rw[he2];refine aI.keep [4,5,41,42,43,44,45,46,47,48,49,50,51,52,53,54,55,56,57,58,59] (fun i:Nat=> [(5,.int .i64 i)]) (fun i=>i≤a.l.length∧Datum.mj (a.l.drop i) (b.l.drop i)=Datum.mj a.l b.l) (fun i=>a.l.length - i) 0 ⟨Nat.zero_le _,rfl⟩ wA ?_;rintro j ⟨hj,hm⟩
  conv=>whnf
  repeat' (first|refine LB ?_|((first|((apply zZ);(conv=>whnf);(repeat ((refine pC (ih _ (List.getElem_mem _) _) wR ?_);conv=>whnf));exact pZ)|refine Ft ?_|intro _);conv=>whnf)|(refine zX (fun hc=>?_) (fun hc=>?_)<;>(try simp only[SY] at hc)<;>(conv=>whnf)))
  ·rw[aq (show j < a.l.length by omega),aq (show j < b.l.length by omega),Datum.mj,hc,Bool.false_and] at hm
   exact an.pure (Wk.ff hm.symm)
  ·rw[aq (show j < a.l.length by omega),aq (show j < b.l.length by omega),Datum.mj,hc,Bool.true_and] at hm
   exact aJ (j + 1) ⟨by omega,hm⟩ (by show a.l.length - (j + 1) < a.l.length - j;omega) wA
  ·rw[List.drop_of_length_le (by omega),List.drop_of_length_le (by omega),Datum.mj] at hm
   exact an.pure (Wk.tt hm.symm)
def Prog.same (p q:Prog):Bool:=Datum.mj p.consts q.consts && p.body.G5 q.body
set_option maxHeartbeats 8000000
instance:gu 4 4:=⟨rfl⟩
instance:gu 5 5:=⟨rfl⟩
instance:gu 6 6:=⟨rfl⟩
def Gw (b:Bool):Datum:=.mk 1 (if b=true then 1 else 0) 0 [] []
def Pc (n:Int):Int:= [4,6,0,2,1,3,7].getD (n - 9).toNat (-1)
def mP (n:Int) (l:List Datum):Datum×Int:=
 if n < 4 then fS n l else
 if n=4∨n=5 then (if ¬(l.getD 0 jQ).kind=0∨ ¬(l.getD 1 jQ).kind=0 then (gy (0,0),1) else if n=4 then (Gw ((l.getD 0 jQ).G5 (l.getD 1 jQ)),0) else (Gw (Ib (l.getD 0 jQ).n (l.getD 0 jQ).d (l.getD 1 jQ).n (l.getD 1 jQ).d),0)) else
 if n=8 then (Gw ((l.getD 0 jQ).kind == 1 && (l.getD 0 jQ).n == 0),0) else
 if n=25 then (.mk 5 0 0 [] [],0) else (Gw ((l.getD 0 jQ).kind == Pc n),0)
theorem r6 (b:Bool):ay Tryz.prog 203 [.bool b] (.agg (Gw b).cells):=by
 cases b
 all_goals
  refine ah.ai aj Tryz.func203 rfl rfl (n:=6) rfl rfl ?_
  conv=>whnf
  repeat' (first|refine aW ?_|((intro _);conv=>whnf)|(refine zX (fun hc=>?_) (fun hc=>?_)<;>(try simp only[SY] at hc)<;>(conv=>whnf)))
  exact an.pure lX.wk
theorem xq {p q:Prop} (k:q) (h:q→p:=by intro hq;first | exact aC.sP (some 40) rfl [] [8,9] aj mixed hq | exact aC.sP (some 48) rfl [] [18,19] aj mixed hq | exact aC.sP (some 68) rfl [] [8,9] aj mixed hq | exact aC.sP (some 78) rfl [] [] aj mixed hq | exact aC.sP (some 115) rfl [] [11,12] aj mixed hq | exact aC.sP (some 158) rfl [] [] aj mixed hq | exact aC.sP (some 183) rfl [] [10,11] aj mixed hq):p:=h k
theorem Fo (n:Int) (hn:n=0∨n=1∨n=2∨n=3) (l:List Datum) (hl:l.length≤1000000000):ay Tryz.prog 193 [.int .i64 n,.sl 5 (l.map Datum.pv) none] (Gg (mP n l)):=by
 have hs:=Jp n hn l hl;unfold mP;rw[if_pos (by omega)];rcases hn with rfl | rfl | rfl | rfl
 all_goals
  refine ah.ai aj Tryz.func193 rfl rfl (n:=223) rfl rfl ?_
  conv=>whnf
  repeat' (first|refine aW ?_|((first|refine pC (hs) wR ?_|intro _);conv=>whnf)|(refine zX (fun hc=>?_) (fun hc=>?_)<;>(try simp only[SY] at hc)<;>first|omega|(conv=>whnf)))
  exact an.pure (Wk.refl _)
theorem Fp (n:Int) (hn:n=4∨n=5) (l:List Datum) (hl:l.length=2):ay Tryz.prog 193 [.int .i64 n,.sl 5 (l.map Datum.pv) none] (Gg (mP n l)):=by
 unfold mP;rw[if_neg (by omega),if_pos hn,mN (show 0 < l.length by omega),mN (show 1 < l.length by omega)];rcases hn with rfl | rfl
 all_goals
  refine ah.ai aj Tryz.func193 rfl rfl (n:=223) rfl rfl ?_
  conv=>whnf
  repeat' (first|refine aW ?_|((first|((apply zZ);(conv=>whnf);(repeat ((first|refine pC (r6 _) wR ?_|refine pC (Kl _ _ _ _) wR ?_|refine pC (Hr _ _) wR ?_);conv=>whnf));exact pZ)|refine xq ?_|intro _);conv=>whnf)|(refine zX (fun hc=>?_) (fun hc=>?_)<;>(try simp only[SY] at hc)<;>first|omega|(conv=>whnf)))
  ·rw[if_pos (by omega)]
   exact an.pure (Wk.aU (.cons lX.wk (.cons (Wk.refl _) .nil)))
  ·rw[if_neg (by omega)]
   first | rw[if_pos rfl] | rw[if_neg (by decide)]
   exact an.pure (Wk.refl _)
theorem Fq (n:Int) (hn:n=8∨n=9∨n=10∨n=11∨n=12∨n=13∨n=14∨n=15) (l:List Datum) (hl:l.length=1):ay Tryz.prog 193 [.int .i64 n,.sl 5 (l.map Datum.pv) none] (Gg (mP n l)):=by
 unfold mP;rw[if_neg (by omega),if_neg (by omega),mN (show 0 < l.length by omega)];rcases hn with rfl | rfl | rfl | rfl | rfl | rfl | rfl | rfl
 all_goals
  refine ah.ai aj Tryz.func193 rfl rfl (n:=223) rfl rfl ?_
  conv=>whnf
  repeat' (first|refine aW ?_|((first|refine pC (r6 _) wR ?_|refine xq ?_|intro _);conv=>whnf)|(refine zX (fun hc=>?_) (fun hc=>?_)<;>(try simp only[SY] at hc)<;>first|omega|(conv=>whnf)))
  all_goals first
   | exact an.pure (Wk.refl _)
   | (first | rw[show (9:Int) - 9=0 from rfl] | rw[show (10:Int) - 9=1 from rfl] | rw[show (11:Int) - 9=2 from rfl] | rw[show (12:Int) - 9=3 from rfl] | rw[show (13:Int) - 9=4 from rfl] | rw[show (14:Int) - 9=5 from rfl] | rw[show (15:Int) - 9=6 from rfl])
  all_goals
   conv=>whnf
   repeat' (first|refine aW ?_|((((apply zZ);(conv=>whnf);(repeat ((refine pC (r6 _) wR ?_);conv=>whnf));exact pZ));conv=>whnf)|(refine zX (fun hc=>?_) (fun hc=>?_)<;>(try simp only[SY] at hc)<;>omega))
   exact an.pure (Wk.refl _)
theorem Fs:ay Tryz.prog 193 [.int .i64 25,.sl 5 (([]:List Datum).map Datum.pv) none] (Gg (mP 25 [])):=by
 refine ah.ai aj Tryz.func193 rfl rfl (n:=223) rfl rfl ?_
 conv=>whnf
 repeat' (first|refine aW ?_|((intro _);conv=>whnf)|(refine zX (fun hc=>?_) (fun hc=>?_)<;>(try simp only[SY] at hc)<;>first|omega|(conv=>whnf)))
 exact an.pure (Wk.aU (.cons lX.wk (.cons (Wk.refl _) .nil)))
def C0 (n:Int):Prop:=(0≤n∧n≤5)∨(8≤n∧n≤15)∨n=25
def gF (n:Int) (k:Nat):Bool:=decide (0≤n∧n < 31) && (decide ((aP n).least≤k) && (decide ((aP n).most < 0) || decide ((k:Int)≤(aP n).most)))
def iu (n:Int) (l:List Datum):Datum×Int:=if l.all (fun d=>d.cM 0)=false then (gy (0,0),0) else if gF n l.length=false then (gy (0,0),2) else mP n l
theorem yt (n:Int) (k:Nat) (hk:k≤1000000000):ay Tryz.prog 177 [.int .i64 n,.int .i64 k] (.bool (gF n k)):=by
 have hf:=xA n;refine ah.ai aj Tryz.func177 rfl rfl (n:=30) rfl rfl ?_
 conv=>whnf
 repeat' (first|refine aW ?_|((first|refine pC (hf) wR ?_|intro _);conv=>whnf)|(refine zX (fun hc=>?_) (fun hc=>?_)<;>(try simp only[SY] at hc)<;>omega))
 refine an.pure (Wk.bool ?_);unfold gF;rw[Bool.and_assoc]
theorem Jq {n:Int} {k:Nat} (h:gF n k=true):(n=4∨n=5→k=2)∧(8≤n∧n≤15→k=1)∧(n=25→k=0):=by
 unfold gF at h;simp only[Bool.and_eq_true,Bool.or_eq_true,decide_eq_true_eq] at h;obtain ⟨h0,h1,h2⟩:=h;have key: ∀ m:Nat,n=m→ ∀ a b:Int,aP m=aP m→(aP n).least=(aP m).least∧(aP n).most=(aP m).most:=fun m e _ _ _=>by rw[e];exact ⟨rfl,rfl⟩
 have f4:(aP 4).least=2∧(aP 4).most=2:=by decide
 have f5:(aP 5).least=2∧(aP 5).most=2:=by decide
 have f8:(aP 8).least=1∧(aP 8).most=1:=by decide
 have f9:(aP 9).least=1∧(aP 9).most=1:=by decide
 have f10:(aP 10).least=1∧(aP 10).most=1:=by decide
 have f11:(aP 11).least=1∧(aP 11).most=1:=by decide
 have f12:(aP 12).least=1∧(aP 12).most=1:=by decide
 have f13:(aP 13).least=1∧(aP 13).most=1:=by decide
 have f14:(aP 14).least=1∧(aP 14).most=1:=by decide
 have f15:(aP 15).least=1∧(aP 15).most=1:=by decide
 have f25:(aP 25).least=0∧(aP 25).most=0:=by decide
 refine ⟨fun hn=>?_,fun hn=>?_,fun hn=>?_⟩
 ·rcases hn with rfl | rfl<;>omega
 ·rcases (by omega:n=8∨n=9∨n=10∨n=11∨n=12∨n=13∨n=14∨n=15) with rfl | rfl | rfl | rfl | rfl | rfl | rfl | rfl<;>omega
 ·subst hn;omega
theorem Hu (n:Int) (hn:C0 n) (l:List Datum) (hl:l.length≤1000000000) (ht:gF n l.length=true):ay Tryz.prog 193 [.int .i64 n,.sl 5 (l.map Datum.pv) none] (Gg (mP n l)):=by
 obtain ⟨h1,h2,h3⟩:=Jq ht;rcases (by unfold C0 at hn;omega:(n=0∨n=1∨n=2∨n=3)∨(n=4∨n=5)∨(8≤n∧n≤15)∨n=25) with h | h | h | h
 ·exact Fo n h l hl
 ·exact Fp n h l (h1 h)
 ·exact Fq n (by omega) l (h2 h)
 ·subst h
  obtain rfl:=List.eq_nil_of_length_eq_zero (h3 rfl);exact Fs
theorem C1 {n:Int} (hn:C0 n):(aP n).LH=true∧0≤n∧n < 31:=by
 unfold C0 at hn;refine ⟨?_,by omega,by omega⟩;rcases (by omega:n=0∨n=1∨n=2∨n=3∨n=4∨n=5∨n=8∨n=9∨n=10∨n=11∨n=12∨n=13∨n=14∨n=15∨n=25) with rfl | rfl | rfl | rfl | rfl | rfl | rfl | rfl | rfl | rfl | rfl | rfl | rfl | rfl | rfl<;>decide
theorem GO (n:Int) (hn:C0 n) (l:List Datum) (hl:l.length≤1000000000):ay Tryz.prog 183 [.int .i64 n,.sl 5 (l.map Datum.pv) none] (.aU [.agg (iu n l).1.cells,.int .i64 (iu n l).2,.bool (l.all fun d=>d.cM 0)]):=by
 have hf:=xA n;obtain ⟨hfo,hn0,hn1⟩:=C1 hn;rw[show decide (0≤n∧n < 31)=true from decide_eq_true ⟨hn0,hn1⟩] at hf;have ht:=yt n l.length hl;have hF:iu n l=iu n l:=rfl
 conv at hF=>rhs;unfold iu
 generalize aP n=f at *;refine ah.ai aj Tryz.func183 rfl rfl (n:=52) rfl rfl ?_
 conv=>whnf
 repeat' (first|refine aW ?_|((first|refine pC (hf) wR ?_|intro _);conv=>whnf)|(refine zX (fun hc=>?_) (fun hc=>?_)<;>(try simp only[SY] at hc)<;>(conv=>whnf)))
 ·exact absurd hc (by rw[hfo];simp)
 refine aI.keep [5,6,9,25,26,27,28,29,30,31,32,33,34,35,36,37] (fun i:Nat=> [(9,.int .i64 i)]) (fun i=>i≤l.length∧(l.drop i).all (fun d=>d.cM 0)=l.all fun d=>d.cM 0) (fun i=>l.length - i) 0 ⟨Nat.zero_le _,rfl⟩ wA ?_;rintro i ⟨hi,hk⟩
 conv=>whnf
 repeat' (first|refine aW ?_|((first|refine pC (x8 _) wR ?_|refine pC (ht) wR ?_|intro _);conv=>whnf)|(refine zX (fun hc=>?_) (fun hc=>?_)<;>(try simp only[SY] at hc)<;>(conv=>whnf)))
 ·rw[aq (show i < l.length by omega),List.all_cons,hc,Bool.false_and] at hk
  rw[hF,if_pos hk.symm, ←hk];exact an.pure (Wk.aU (.cons lX.wk (.cons (Wk.refl _) (.cons (Wk.ff rfl) .nil))))
 ·rw[aq (show i < l.length by omega),List.all_cons,hc,Bool.true_and] at hk
  exact aJ (i + 1) ⟨by omega,hk⟩ (by show l.length - (i + 1) < l.length - i;omega) wA
 ·rw[List.drop_of_length_le (by omega),List.all_nil] at hk
  rw[hF,if_neg (by rw[←hk];simp),if_pos hc, ←hk];exact an.pure (Wk.aU (.cons lX.wk (.cons (Wk.refl _) (.cons (Wk.tt rfl) .nil))))
 ·rw[List.drop_of_length_le (by omega),List.all_nil] at hk
  rw[hF,if_neg (by rw[←hk];simp),if_neg (by rw[hc];simp), ←hk];refine pC (Hu n hn l hl hc) wR ?_
  conv=>whnf
  repeat' (first|refine aW ?_|((intro _);conv=>whnf)|(refine zX (fun hc=>?_) (fun hc=>?_)<;>(try simp only[SY] at hc)<;>omega))
  exact an.pure (Wk.aU (.cons (Wk.refl _) (.cons (Wk.refl _) (.cons (Wk.tt rfl) .nil))))
set_option maxHeartbeats 4000000
def NX (a b:Vl):Bool:=a.k == b.k && decide (a.k≤5) && a.k !=3 && a.n == b.n && a.d == b.d && a.s == b.s
theorem NW (a b:Vl):ay Tryz.prog 179 [.agg (aS a),.agg (aS b)] (.bool (NX a b)):=by
 refine ah.ai aj Tryz.func179 rfl rfl (n:=41) rfl rfl ?_
 conv=>whnf
 repeat' (first|refine aW ?_|((intro _);conv=>whnf)|(refine zX (fun hc=>?_) (fun hc=>?_)<;>(try simp only[SY] at hc)<;>omega))
 exact an.pure (Wk.refl _)
def w8 (b:Bool):Vl:=.mk 1 (if b=true then 1 else 0) 0 [] [] none none
theorem qB (b:Bool):ay Tryz.prog 178 [.bool b] (.agg (aS (w8 b))):=by
 cases b
 all_goals
  refine ah.ai aj Tryz.func178 rfl rfl (n:=6) rfl rfl ?_
  conv=>whnf
  repeat' (first|refine aW ?_|((intro _);conv=>whnf)|(refine zX (fun hc=>?_) (fun hc=>?_)<;>(try simp only[SY] at hc)<;>(conv=>whnf)))
  exact an.pure l9.wk
mutual
def ja:Vl→Vl→Int→Bool×Int
 | .mk k n d s l _ _,b,left=>if left - 1 < 0∨ ¬k=b.k∨7 < k∨ ¬n=b.n∨ ¬d=b.d∨ ¬s=b.s∨ ¬l.length=b.l.length then (false,left - 1) else ir l b.l (left - 1)
def ir:List Vl→List Vl→Int→Bool×Int
 | x::xs,y::ys,left=>if (ja x y left).1=false then (false,(ja x y left).2) else ir xs ys (ja x y left).2
 | _,_,left=>(true,left)
end
theorem tN (a b:Vl) (left:Int):ja a b left=if left - 1 < 0∨ ¬a.k=b.k∨7 < a.k∨ ¬a.n=b.n∨ ¬a.d=b.d∨ ¬a.s=b.s∨ ¬a.l.length=b.l.length then (false,left - 1) else ir a.l b.l (left - 1):=by cases a;rw[ja];rfl
theorem J0 (a:Vl): ∀ (b:Vl) (left:Int),0≤left→ -1≤(ja a b left).2∧(ja a b left).2≤left∧((ja a b left).1=true→0≤(ja a b left).2):=by
 induction a using Vl.ind with
 | h a ih=>
  intro b left h0;rw[tN]
  have key: ∀ (l:List Vl),(∀ x∈l, ∀ (b:Vl) (left:Int),0≤left→ -1≤(ja x b left).2∧(ja x b left).2≤left∧((ja x b left).1=true→0≤(ja x b left).2))→
    ∀ (m:List Vl) (left:Int),0≤left→ -1≤(ir l m left).2∧(ir l m left).2≤left∧((ir l m left).1=true→0≤(ir l m left).2):=by
   intro l
   induction l with
   | nil=>intro _ m left h;rw[ir];exact ⟨by show -1≤left;omega,Int.le_refl _,fun _=>h⟩;intro _ _ _ _ h;cases h
   | cons x xs ihl=>
    intro hx m left h
    cases m with
    | nil=>rw[ir];exact ⟨by show -1≤left;omega,Int.le_refl _,fun _=>h⟩;intro _ _ _ _ _ h;cases h
    | cons y ys=>
     have h1:=hx x (by simp) y left h;rw[ir];by_cases hb:(ja x y left).1=false
     ·rw[if_pos hb]
      exact ⟨h1.1,h1.2.1,fun h=>by cases h⟩
     ·rw[if_neg hb]
      have h2:=h1.2.2 (by simpa using hb);have h3:=ihl (fun z hz=>hx z (List.mem_cons_of_mem _ hz)) ys _ h2;exact ⟨h3.1,by omega,h3.2.2⟩
  split
  ·exact ⟨by show -1≤left - 1;omega,by show left - 1≤left;omega,fun h=>by cases h⟩
  ·rename_i hn
   have:=key a.l ih b.l (left - 1) (by omega);exact ⟨this.1,by omega,this.2.2⟩
theorem HB {p q:Prop} (k:q) (h:q→p:=by intro hq;first | exact aC.sP (some 67) rfl [] [11,12] aj mixed hq):p:=h k
theorem HG (a:Vl): ∀ (b:Vl) (p:Nat) (left:Int),0≤left→left≤1000→ah Tryz.prog 180 [.agg (aS a),.agg (aS b),.ptr p 0] [.box p [.int .i64 left]] (fun y Γ'=>y=.bool (ja a b left).1∧Γ'= [.box p [.int .i64 (ja a b left).2]]):=by
 induction a using Vl.ind with
 | h a ih=>
  intro b p left h0 h1;rw[tN];refine ah.ai aj Tryz.func180 rfl rfl (n:=80) rfl rfl ?_
  conv=>whnf
  repeat' (first|refine aW ?_|((intro _);conv=>whnf)|(refine zX (fun hc=>?_) (fun hc=>?_)<;>(try simp only[SY] at hc)<;>(conv=>whnf)))
  ·rw[if_pos (by
    rcases hc with (((((h | h) | h) | h) | h) | h) | h
    ·exact .inl h
    ·exact .inr (.inl h)
    ·exact .inr (.inr (.inl h))
    ·exact .inr (.inr (.inr (.inl h)))
    ·exact .inr (.inr (.inr (.inr (.inl h))))
    ·exact .inr (.inr (.inr (.inr (.inr (.inl h)))))
    ·exact .inr (.inr (.inr (.inr (.inr (.inr (by omega)))))))]
   exact an.gen (y:=.bool false) (Γ':= [.box p [.int .i64 (left - 1)]]) (Wk.ff rfl) ⟨rfl,rfl⟩
  ·rename_i b1 b2
   have hl:a.l.length=b.l.length:=by omega
   rw[if_neg (by
    obtain ⟨⟨⟨⟨⟨⟨g1,g2⟩,g3⟩,g4⟩,g5⟩,g6⟩,g7⟩:=hc;rintro (h | h | h | h | h | h | h)
    ·omega
    ·exact h g2
    ·omega
    ·exact h g4
    ·exact h g5
    ·exact h g6
    ·exact h hl)]
   obtain ⟨R,hR⟩: ∃ R,R=ir a.l b.l (left - 1):=⟨_,rfl⟩
   rw[←hR];refine aI.over [6,7,60,61,62,63,64,65,66,67,68,69,70,71,72,73,74,75,76,77,78,79] (fun x:Nat×Int=> [(7,.int .i64 x.1)]) (fun x:Nat×Int=> [.box p [.int .i64 x.2],.box b1 (aS a),.box b2 (aS b)]) (fun x=>x.1≤a.l.length∧0≤x.2∧x.2≤1000∧ir (a.l.drop x.1) (b.l.drop x.1) x.2=R) (fun x=>a.l.length - x.1) (0,left - 1) ⟨Nat.zero_le _,by show 0≤left - 1;omega,by show left - 1≤1000;omega,hR.symm⟩ wA ?_;rintro ⟨i,L⟩ ⟨hi,hL0,hL1,hE⟩;dsimp only at hi hL0 hL1 hE⊢
   conv=>whnf
   repeat' (first|refine aW ?_|((first|refine HB ?_|intro _);conv=>whnf)|(refine zX (fun hc=>?_) (fun hc=>?_)<;>(try simp only[SY] at hc)<;>(conv=>whnf)))
   ·have h1:i < a.l.length:=by omega
    have h2:i < b.l.length:=by omega
    have hbd:=J0 a.l[i] b.l[i] L hL0;rw[aq h1,aq h2,ir] at hE;refine au.go (ih a.l[i] (List.getElem_mem _) b.l[i] p L hL0 hL1) (bU.refl _) ?_;rintro _ _ ⟨rfl,rfl⟩
    conv=>whnf
    repeat' (first|refine aW ?_|(refine zX (fun hc=>?_) (fun hc=>?_)<;>(try simp only[SY] at hc)<;>(conv=>whnf)))
    ·rw[if_pos hc] at hE
     rw[←hE];exact an.gen (y:=.bool false) (Γ':= [.box p [.int .i64 (ja a.l[i] b.l[i] L).2]]) (Wk.ff rfl) ⟨rfl,rfl⟩
    ·rw[if_neg (by rw[hc];simp)] at hE
     exact aJ (i + 1,(ja a.l[i] b.l[i] L).2) ⟨by show i + 1≤_;omega,hbd.2.2 hc,by show (ja a.l[i] b.l[i] L).2≤1000;omega,hE⟩ (by show a.l.length - (i + 1) < a.l.length - i;omega) wA
   ·rw[List.drop_of_length_le (by omega),ir] at hE
    ·rw[←hE]
     exact an.gen (y:=.bool true) (Γ':= [.box p [.int .i64 L]]) (Wk.tt rfl) ⟨rfl,rfl⟩
    ·intro _ _ _ _ h
     cases h
mutual
def Vl.fW:Vl→List Vl×Vl
 | .mk k n d s l p c=>if k=6 then Vl.FT l else ([],.mk k n d s l p c)
def Vl.FT:List Vl→List Vl×Vl
 | [a,b]=>(a::b.fW.1,b.fW.2)
 | _=>([],bx)
end
theorem Vl.iN (x:Vl) (h: ¬x.k=6):x.fW=([],x):=by
 cases x with
 | mk k n d s l p c=>
  have h': ¬k=6:=h;rw[Vl.fW,if_neg h']
theorem Vl.lg (x:Vl) (h:x.k=6) (h2:x.l.length=2):x.fW=((x.l[0]'(by omega))::(x.l[1]'(by omega)).fW.1,(x.l[1]'(by omega)).fW.2):=by
 cases x with
 | mk k n d s l p c=>
  have h':k=6:=h;rw[Vl.fW,if_pos h']
  match l,h2 with
  | [a,b],_=>rw[Vl.FT];rfl
theorem HC {p q:Prop} (k:q) (h:q→p:=by intro hq;first | exact aC.sP (some 19) rfl [] [] aj mixed hq):p:=h k
theorem vn (x:Vl) (ht:x.tx=true) (hl:x.fW.1.length≤1000000000):ay Tryz.prog 160 [.agg (aS x)] (.aU [.sl 7 (x.fW.1.map Vl.pv) none,.bool (x.fW.2.k == 4)]):=by
 refine ah.ai aj Tryz.func160 rfl rfl (n:=23) rfl rfl ?_
 conv=>whnf
 repeat (((intro _);conv=>whnf))
 rename_i b1;refine aI.gh (aA.nil 7 140 _) ?_
 refine aI.over [4,5,6,7,8,9,10,11,12,13,14,15,16,17,18] (fun z:Vl×List Vl×Tok=> [(4,.sl 7 (z.2.1.map Vl.pv) (some z.2.2))]) (fun z:Vl×List Vl×Tok=> [.box b1 (aS z.1),.tok z.2.2])
  (fun z=>z.1.tx=true∧z.2.2.e=140∧z.2.1++z.1.fW.1=x.fW.1∧z.1.fW.2=x.fW.2) (fun z=>z.1.sz) (x, [],aT 7 140) ⟨ht,rfl,rfl,rfl⟩ wA ?_
 rintro ⟨D,m,t1⟩ ⟨hD,ht1,h1,h2⟩;dsimp only at hD ht1 h1 h2 ⊢;have hD':=hD;rw[Vl.jU] at hD';have hlen:=hD'.2.1;have hml:m.length≤1000000000:=by have:=congrArg List.length h1;rw[List.length_append] at this;omega
 conv=>whnf
 repeat' (first|refine aW ?_|((first|refine bY nC ?_|refine HC ?_|intro _);conv=>whnf)|(refine zX (fun hc=>?_) (fun hc=>?_)<;>(try simp only[SY] at hc)<;>(conv=>whnf)))
 ·rename_i t2 ht2
  have h3:=hlen hc;have e:=D.lg hc h3;have hm1:D.l[1]'(by omega)∈D.l:=List.getElem_mem _;rw[e] at h1 h2;exact aJ (D.l[1]'(by omega),m++ [D.l[0]'(by omega)],t2) ⟨hD'.2.2.2 _ hm1,ht2,by dsimp only;rw[List.append_assoc];exact h1,h2⟩ (Vl.wg hm1) wA
 ·have e:=D.iN hc
  rw[e] at h1 h2;rw[List.append_nil] at h1;have h2':D=x.fW.2:=h2;rw[←h2', ←h1];exact an.pure (Wk.aU (.cons (Wk.tok _ _ _) (.cons (Wk.refl _) .nil)))
abbrev BQ (r:Vl×Int):PV:=.aU [.agg (aS r.1),.int .i64 r.2]
abbrev Ot (n:Int):Vl:=.mk 0 n 1 [] [] none none
def vL (n:Int) (l:List Vl):Vl×Int:=
 let a:=l.getD 0 bx
 let b:=l.getD 1 bx
 if n=18∨n=19 then (if ¬a.k=6 then (bx,1) else (a.l.getD (n - 18).toNat bx,0)) else
 if n=22 then (if ¬a.k=7∨ ¬b.k=0 then (bx,1) else if ¬b.d=1∨b.n < 0∨(a.l.length:Int)≤b.n then (bx,3) else (a.l.getD b.n.toNat bx,0)) else
 if n=23 then (if ¬a.k=7 then (bx,1) else (Ot a.l.length,0)) else
 if a.fW.2.k=4 then (Ot a.fW.1.length,0) else (bx,1)
theorem u9 {l:List Vl} {i:Nat} (h:i < l.length):l.getD i bx=l[i]:=by rw[List.getD_eq_getElem?_getD,List.getElem?_eq_getElem h];rfl
theorem HD {p q:Prop} (k:q) (h:q→p:=by intro hq;first | exact aC.sP (some 41) rfl [] [] aj mixed hq | exact aC.sP (some 66) rfl [] [10,11] aj mixed hq):p:=h k
theorem Iz (n:Int) (l:List Vl) (hn:(n=18∧l.length=1)∨(n=19∧l.length=1)∨(n=22∧l.length=2)∨(n=23∧l.length=1)∨(n=24∧l.length=1)) (ht: ∀ x∈l,x.tx=true)
  (hi: ∀ x∈l,x.fW.1.length≤1000000000):ay Tryz.prog 181 [.int .i64 n,.sl 7 (l.map Vl.pv) none] (BQ (vL n l)):=by
 have h0:0 < l.length:=by omega
 have htx:=ht l[0] (List.getElem_mem _);have hit:=vn l[0] htx (hi _ (List.getElem_mem _));have htx':=htx;rw[Vl.jU] at htx';have h6:=htx'.2.1;unfold vL;dsimp only;rw[u9 h0]
 rcases hn with ⟨rfl,hl⟩ | ⟨rfl,hl⟩ | ⟨rfl,hl⟩ | ⟨rfl,hl⟩ | ⟨rfl,hl⟩
 ·rw[if_pos (by omega)]
  refine ah.ai aj Tryz.func181 rfl rfl (n:=103) rfl rfl ?_
  conv=>whnf
  repeat' (first|refine aW ?_|((first|refine bY nC ?_|intro _);conv=>whnf)|(refine zX (fun hc=>?_) (fun hc=>?_)<;>(try simp only[SY] at hc)<;>(conv=>whnf)))
  ·rw[if_pos hc]
   exact an.pure (Wk.aU (.cons l9.wk (.cons (Wk.refl _) .nil)))
  ·rw[if_neg (fun h=>h hc),u9 (by rw[h6 hc];decide)]
   exact an.pure (Wk.refl _)
 ·rw[if_pos (by omega)]
  refine ah.ai aj Tryz.func181 rfl rfl (n:=103) rfl rfl ?_
  conv=>whnf
  repeat' (first|refine aW ?_|((first|refine bY nC ?_|intro _);conv=>whnf)|(refine zX (fun hc=>?_) (fun hc=>?_)<;>(try simp only[SY] at hc)<;>first|omega|(conv=>whnf)))
  ·rw[if_pos hc]
   exact an.pure (Wk.aU (.cons l9.wk (.cons (Wk.refl _) .nil)))
  ·rw[if_neg (fun h=>h hc),u9 (by rw[h6 hc];decide)]
   exact an.pure (Wk.refl _)
 ·rw[if_neg (by omega),if_pos rfl,u9 (show 1 < l.length by omega)]
  refine ah.ai aj Tryz.func181 rfl rfl (n:=103) rfl rfl ?_
  conv=>whnf
  repeat' (first|refine aW ?_|((first|refine bY nC ?_|refine HD ?_|intro _);conv=>whnf)|(refine zX (fun hc=>?_) (fun hc=>?_)<;>(try simp only[SY] at hc)<;>first|omega|(conv=>whnf)))
  ·rw[if_pos hc]
   exact an.pure (Wk.aU (.cons l9.wk (.cons (Wk.refl _) .nil)))
  ·rename_i hd
   rw[if_neg (by omega),if_pos (by omega)];exact an.pure (Wk.aU (.cons l9.wk (.cons (Wk.refl _) .nil)))
  ·rename_i hd
   rw[if_neg (by omega),if_neg (by omega),u9 (by omega)];exact an.pure (Wk.refl _)
 ·rw[if_neg (by omega),if_neg (by omega),if_pos rfl]
  refine ah.ai aj Tryz.func181 rfl rfl (n:=103) rfl rfl ?_
  conv=>whnf
  repeat' (first|refine aW ?_|((intro _);conv=>whnf)|(refine zX (fun hc=>?_) (fun hc=>?_)<;>(try simp only[SY] at hc)<;>first|omega|(conv=>whnf)))
  ·rw[if_pos hc]
   exact an.pure (Wk.aU (.cons l9.wk (.cons (Wk.refl _) .nil)))
  ·rw[if_neg (fun h=>h hc)]
   exact an.pure (Wk.aU (.cons l9.wk (.cons (Wk.refl _) .nil)))
 ·rw[if_neg (by omega),if_neg (by omega),if_neg (by omega)]
  refine ah.ai aj Tryz.func181 rfl rfl (n:=103) rfl rfl ?_
  conv=>whnf
  repeat' (first|refine aW ?_|((first|refine pC (hit) wR ?_|intro _);conv=>whnf)|(refine zX (fun hc=>?_) (fun hc=>?_)<;>(try simp only[SY] at hc)<;>first|omega|(conv=>whnf)))
  ·rw[if_neg hc]
   exact an.pure (Wk.aU (.cons l9.wk (.cons (Wk.refl _) .nil)))
  ·rw[if_pos hc]
   exact an.pure (Wk.aU (.cons l9.wk (.cons (Wk.refl _) .nil)))
set_option maxHeartbeats 8000000
def jV (x:Vl):Datum:=if x.k≤5 then .mk x.k x.n x.d x.s [] else if x.k=6 then xN [jQ] else .mk 7 0 0 [] []
def gD (n:Int) (l:List Vl):Vl×Int×List UInt8:=
 let a:=l.getD 0 bx
 let b:=l.getD 1 bx
 if n=6 then (w8 (NX a b),0, []) else
 if n=7 then (if (ja a b 1000).2 < 0 then (bx,3, []) else (w8 (ja a b 1000).1,0, [])) else
 if n=16 then (w8 (decide (8≤a.k) && decide (a.k≤10)),0, []) else
 if n=17 then (.mk 6 0 0 [] l none none,0, []) else
 if n=20 then (mu l,0, []) else
 if n=21 then (.mk 7 0 0 [] l none none,0, []) else
 if n=26 then (fF 5,0,qD a) else
 if n=27 then (fF 5,0, [10]) else
 if n=18∨n=19∨n=22∨n=23∨n=24 then ((vL n l).1,(vL n l).2, []) else
 if n=15∧l.any (fun x=>decide (7 < x.k))=true then (w8 false,0, []) else
 (cN (iu n (l.map jV)).1,(iu n (l.map jV)).2, [])
abbrev Af (s:bJ) (w:List UInt8):bJ:=⟨s.fuel,s.out++w,s.alive,s.to,s.val,s.h⟩
def oq (n:Int) (l:List Vl):Prop:= ∀ (b:Nat) (K:KC) (tk:Tok) (s:bJ),s.out.length≤1000000000→
 ah Tryz.prog 161 [.int .i64 n,.sl 7 (l.map Vl.pv) none,.ptr b 3] [.box b (FX K tk s)] (fun y Γ'=>y=BQ ((gD n l).1,(gD n l).2.1)∧Γ'= [.box b (FX K tk (Af s (gD n l).2.2))])
theorem It (K:KC) (tk:Tok) (s:bJ):FX K tk (Af s [])=FX K tk s:=by
 show [_,_,_,PV.str (s.out++ []),_,_,_,_,_,_,_,_,_]=_;rw[List.append_nil]
theorem an.JD {x:PV} {r:Vl×Int×List UInt8} {b:Nat} {K:KC} {tk:Tok} {s:bJ} {Γ Γ1:List ak} (hr:r.2.2= []) (hw:Wk x (BQ (r.1,r.2.1))) [hp:cr Γ [.box b (FX K tk s)] Γ1]:
  an x Γ (fun y Γ'=>y=BQ (r.1,r.2.1)∧Γ'= [.box b (FX K tk (Af s r.2.2))]):=
 an.gen (y:=BQ (r.1,r.2.1)) (Γ':= [.box b (FX K tk s)]) hw ⟨rfl,by rw[hr,It]⟩
theorem hY.res {x:PV} {v:Vl} {c:Int} [h:dy Vl.pv x v]:Wk (.aU [x,.int .i64 c]) (BQ (v,c)):=Wk.aU (.cons l9.wk (.cons (Wk.refl _) .nil))
theorem rH {p q:Prop} (k:q) (h:q→p:=by intro hq;first | exact aC.sP (some 21) rfl [] [8,9] aj mixed hq | exact aC.sP (some 31) rfl [] [6,7] aj mixed hq | exact aC.sP (some 72) rfl [] [10] aj mixed hq | exact aC.sP (some 116) rfl [] [21] aj mixed hq):p:=h k
theorem M5 (l:List Vl) (hl:l.length=2):oq 6 l:=by
 intro b K tk s ho;unfold gD;dsimp only;rw[if_pos rfl,u9 (show 0 < l.length by omega),u9 (show 1 < l.length by omega)];refine ah.ai aj Tryz.func161 rfl rfl (n:=171) rfl rfl ?_
 conv=>whnf
 repeat' (first|refine aW ?_|((first|((apply zZ);(conv=>whnf);(repeat ((first|refine pC (NW _ _) wR ?_|refine pC (qB _) wR ?_);conv=>whnf));exact pZ)|refine rH ?_|intro _);conv=>whnf)|(refine zX (fun hc=>?_) (fun hc=>?_)<;>(try simp only[SY] at hc)<;>(conv=>whnf)))
 exact an.JD rfl hY.res
theorem M6 (l:List Vl) (hl:l.length=2):oq 7 l:=by
 intro b K tk s ho;unfold gD;dsimp only;rw[if_neg (by decide),if_pos rfl,u9 (show 0 < l.length by omega),u9 (show 1 < l.length by omega)];refine ah.ai aj Tryz.func161 rfl rfl (n:=171) rfl rfl ?_
 conv=>whnf
 repeat' (first|refine aW ?_|((first|refine rH ?_|intro _);conv=>whnf)|(refine zX (fun hc=>?_) (fun hc=>?_)<;>(try simp only[SY] at hc)<;>first|omega|(conv=>whnf)))
 rename_i b3;refine au.go (HG l[0] l[1] b3 1000 (by omega) (by omega)) (bU.refl _) ?_;rintro _ _ ⟨rfl,rfl⟩
 conv=>whnf
 repeat' (first|refine aW ?_|((refine pC (qB _) wR ?_);conv=>whnf)|(refine zX (fun hc=>?_) (fun hc=>?_)<;>(try simp only[SY] at hc)<;>(conv=>whnf)))
 ·rw[if_pos hc]
  exact an.JD rfl hY.res
 ·rw[if_neg (by omega)]
  exact an.JD rfl hY.res
theorem K8 (l:List Vl) (hl:l.length=1):oq 16 l:=by
 intro b K tk s ho;unfold gD;dsimp only;rw[if_neg (by decide),if_neg (by decide),if_pos rfl,u9 (show 0 < l.length by omega)];refine ah.ai aj Tryz.func161 rfl rfl (n:=171) rfl rfl ?_
 conv=>whnf
 repeat' (first|refine aW ?_|((first|refine pC (qB _) wR ?_|intro _);conv=>whnf)|(refine zX (fun hc=>?_) (fun hc=>?_)<;>(try simp only[SY] at hc)<;>first|omega|(conv=>whnf)))
 exact an.JD rfl hY.res
theorem Dz (n:Int) (hn:n=17∨n=20∨n=21) (l:List Vl):oq n l:=by
 intro b K tk s ho;unfold gD;dsimp only;have hl:=EI l;rcases hn with rfl | rfl | rfl
 ·rw[if_neg (by decide),if_neg (by decide),if_neg (by decide),if_pos rfl]
  refine ah.ai aj Tryz.func161 rfl rfl (n:=171) rfl rfl ?_
  conv=>whnf
  repeat' (first|refine aW ?_|((intro _);conv=>whnf)|(refine zX (fun hc=>?_) (fun hc=>?_)<;>(try simp only[SY] at hc)<;>first|omega|(conv=>whnf)))
  exact an.JD rfl hY.res
 ·rw[if_neg (by decide),if_neg (by decide),if_neg (by decide),if_neg (by decide),if_pos rfl]
  refine ah.ai aj Tryz.func161 rfl rfl (n:=171) rfl rfl ?_
  conv=>whnf
  repeat' (first|refine aW ?_|((first|refine bY nC ?_|refine pC (hl) wR ?_|intro _);conv=>whnf)|(refine zX (fun hc=>?_) (fun hc=>?_)<;>(try simp only[SY] at hc)<;>first|omega|(conv=>whnf)))
  exact an.JD rfl hY.res
 ·rw[if_neg (by decide),if_neg (by decide),if_neg (by decide),if_neg (by decide),if_neg (by decide),if_pos rfl]
  refine ah.ai aj Tryz.func161 rfl rfl (n:=171) rfl rfl ?_
  conv=>whnf
  repeat' (first|refine aW ?_|((intro _);conv=>whnf)|(refine zX (fun hc=>?_) (fun hc=>?_)<;>(try simp only[SY] at hc)<;>first|omega|(conv=>whnf)))
  exact an.JD rfl hY.res
theorem Ch (x:Vl):(qD x).length≤1000:=by unfold qD;rw[List.length_take];omega
theorem K9 (l:List Vl) (hl:l.length=1) (ht: ∀ x∈l,x.tx=true):oq 26 l:=by
 intro b K tk s ho;unfold gD;dsimp only;rw[if_neg (by decide),if_neg (by decide),if_neg (by decide),if_neg (by decide),if_neg (by decide),if_neg (by decide),if_pos rfl,u9 (show 0 < l.length by omega)];have htx:=uf l[0] (ht _ (List.getElem_mem _));have hln:=Ch l[0];have hA:s.out.length + (qD l[0]).length≤maxLen:=by unfold maxLen;omega
 refine ah.ai aj Tryz.func161 rfl rfl (n:=171) rfl rfl ?_
 conv=>whnf
 repeat' (first|refine aW ?_|((first|((apply zZ);(conv=>whnf);(repeat ((refine pC (htx) wR ?_);conv=>whnf));exact pZ)|refine rH ?_|intro _);conv=>whnf)|(refine zX (fun hc=>?_) (fun hc=>?_)<;>(try simp only[SY] at hc)<;>first|omega|(conv=>whnf)))
 exact an.gen (y:=BQ (fF 5,0)) (Γ':= [.box b (FX K tk (Af s (qD l[0])))]) hY.res ⟨rfl,rfl⟩
theorem La (l:List Vl):oq 27 l:=by
 intro b K tk s ho;unfold gD;dsimp only;rw[if_neg (by decide),if_neg (by decide),if_neg (by decide),if_neg (by decide),if_neg (by decide),if_neg (by decide),if_neg (by decide),if_pos rfl];have hA:s.out.length + 1≤maxLen:=by unfold maxLen;omega
 refine ah.ai aj Tryz.func161 rfl rfl (n:=171) rfl rfl ?_
 conv=>whnf
 repeat' (first|refine aW ?_|((first|refine LR ?_|intro _);conv=>whnf)|(refine zX (fun hc=>?_) (fun hc=>?_)<;>(try simp only[SY] at hc)<;>first|omega|(conv=>whnf)))
 exact an.gen (y:=BQ (fF 5,0)) (Γ':= [.box b (FX K tk (Af s [10]))]) hY.res ⟨rfl,rfl⟩
theorem vZ (n:Int) (l:List Vl) (hn:(n=18∧l.length=1)∨(n=19∧l.length=1)∨(n=22∧l.length=2)∨(n=23∧l.length=1)∨(n=24∧l.length=1)) (ht: ∀ x∈l,x.tx=true) (hi: ∀ x∈l,x.fW.1.length≤1000000000):oq n l:=by
 intro b K tk s ho;have hp:=Iz n l hn ht hi;unfold gD;dsimp only;rw[if_neg (by omega),if_neg (by omega),if_neg (by omega),if_neg (by omega),if_neg (by omega),if_neg (by omega),if_neg (by omega),if_neg (by omega),if_pos (by omega)];generalize vL n l=r at *
 rcases hn with ⟨rfl,hl⟩ | ⟨rfl,hl⟩ | ⟨rfl,hl⟩ | ⟨rfl,hl⟩ | ⟨rfl,hl⟩
 all_goals
  refine ah.ai aj Tryz.func161 rfl rfl (n:=171) rfl rfl ?_
  conv=>whnf
  repeat' (first|refine aW ?_|((first|refine bY nC ?_|refine pC (hp) wR ?_|intro _);conv=>whnf)|(refine zX (fun hc=>?_) (fun hc=>?_)<;>(try simp only[SY] at hc)<;>first|omega|(conv=>whnf)))
  exact an.JD rfl hY.res
theorem Ig {x:PV} {l:List Datum} [h:mh Datum.pv 5 x l]:ay Tryz.prog 182 [x] (.agg (xN l).cells):=
 ah.wk (args':= [.sl 5 (l.map Datum.pv) none]) (Ie l) (.cons h.wk .nil)
theorem B9 (n:Int): ∀ (l:List Datum) (a:Int×Int),(dI n l a).1.sz=1
 | [],_=>rfl
 | x::l,a=>by
  rw[dI]
  split
  ·rfl
  ·exact B9 n l _
theorem HQ (n:Int) (l:List Datum):(iu n l).1.sz=1:=by
 unfold iu
 split
 ·rfl
 split
 ·rfl
 unfold mP
 split
 ·unfold fS
  split
  ·rfl
  split<;>exact B9 ..
 split
 ·split
  ·rfl
  split<;>rfl
 split
 ·rfl
 split<;>rfl
theorem FA {p q:Prop} (k:q) (h:q→p:=by intro hq;first | exact aC.sP (some 21) rfl [] [8,9] aj mixed hq | exact aC.sP (some 31) rfl [] [] aj mixed hq | exact aC.sP (some 72) rfl [] [10] aj mixed hq | exact aC.sP (some 116) rfl [] [21] aj mixed hq):p:=h k
theorem M7 (n:Int) (hn:C0 n) (l:List Vl) (hl:l.length≤1000000000):oq n l:=by
 intro b K tk s ho;have hn':=hn;unfold C0 at hn'
 have hS:gD n l=if n=15∧l.any (fun x=>decide (7 < x.k))=true then (w8 false,0, []) else (cN (iu n (l.map jV)).1,(iu n (l.map jV)).2, []):=by
  unfold gD;dsimp only;rw[if_neg (by omega),if_neg (by omega),if_neg (by omega),if_neg (by omega),if_neg (by omega),if_neg (by omega),if_neg (by omega),if_neg (by omega),if_neg (by omega)]
 have hF:=GO n hn (l.map jV) (by simpa using hl);refine ah.ai aj Tryz.func161 rfl rfl (n:=171) rfl rfl ?_
 conv=>whnf
 repeat' (first|refine aW ?_|((intro _);conv=>whnf)|(refine zX (fun hc=>?_) (fun hc=>?_)<;>(try simp only[SY] at hc)<;>first|omega|(conv=>whnf)))
 rename_i b6 b92 _ _ _ _ _ _ _ _ _ _ _ _;refine aI.gh (aA.nil 5 54 _) ?_
 refine aI.over [7,11,12,13,103,104,105,106,107,108,109,110,111,112,113,114,115,116,117,118,119,120,121,122,123,124,125,126,127,128,129,130,131,132,133,134,135,136,137,138,139,140,141,142,143,144,145,146,147,148,149,150,151,152,153,154,155,156,157,158,159,160] (fun z:Nat×List Datum×Tok=> [(11,.sl 5 (z.2.1.map Datum.pv) (some z.2.2)),(12,.int .i64 z.1)]) (fun z:Nat×List Datum×Tok=> [.tok z.2.2,.box b6 [.int .i64 0,.int .i64 0,.int .i64 0,.str [],.nil,.np,.np],.box b (FX K tk s)])
  (fun z=>z.1≤l.length∧z.2.2.e=54∧z.2.1=(l.take z.1).map jV∧(n=15→(l.drop z.1).any (fun x=>decide (7 < x.k))=l.any fun x=>decide (7 < x.k))) (fun z=>l.length - z.1) (0, [],aT 5 54) ⟨Nat.zero_le _,rfl,rfl,fun _=>rfl⟩ wA ?_
 rintro ⟨i,m,t1⟩ ⟨hi,ht,hm,ha⟩;dsimp only at hi ht hm ha ⊢;have hml:m.length≤1000000000:=by rw[hm,List.length_map,List.length_take];omega
 have hnx: ∀ h:i < l.length,m++ [jV (l[i]'h)]=(l.take (i + 1)).map jV:=fun h=>by rw[hm,List.take_succ_eq_append_getElem h,List.map_append];rfl
 conv=>whnf
 repeat' (first|refine aW ?_|((first|refine pC (Ig) wR ?_|refine FA ?_|intro _);conv=>whnf)|(refine zX (fun hc=>?_) (fun hc=>?_)<;>(try simp only[SY] at hc)<;>(conv=>whnf)))
 ·have h1:i < l.length:=by omega
  rename_i t2 ht2;have e:jV l[i]=.mk l[i].k l[i].n l[i].d l[i].s []:=if_pos hc;have:=hnx h1;rw[e] at this;refine aJ (i + 1,m++ [.mk l[i].k l[i].n l[i].d l[i].s []],t2) ⟨by show i + 1≤_;omega,ht2,this,fun h15=>?_⟩ (by show l.length - (i + 1) < l.length - i;omega) wA;have:=ha h15;rw[aq h1,List.any_cons,decide_eq_false (by omega),Bool.false_or] at this;exact this
 ·have h1:i < l.length:=by omega
  rename_i t2 ht2;have e:jV l[i]=xN [.mk 4 0 0 [] []]:=by unfold jV;rw[if_neg (by omega),if_pos hc]
  have:=hnx h1;rw[e] at this;refine aJ (i + 1,m++ [xN [.mk 4 0 0 [] []]],t2) ⟨by show i + 1≤_;omega,ht2,this,fun h15=>?_⟩ (by show l.length - (i + 1) < l.length - i;omega) wA;have:=ha h15;rw[aq h1,List.any_cons,decide_eq_false (by omega),Bool.false_or] at this;exact this
 ·have h1:i < l.length:=by omega
  have:=ha hc.2;rw[aq h1,List.any_cons,decide_eq_true hc.1,Bool.true_or] at this;refine pC (qB false) (.cons (Wk.ff rfl) .nil) ?_
  conv=>whnf
  repeat' (first|refine aW ?_|(refine zX (fun hc=>?_) (fun hc=>?_)<;>(try simp only[SY] at hc)<;>omega))
  rw[hS,if_pos ⟨hc.2,this.symm⟩];exact an.JD (r:=(w8 false,0, [])) rfl hY.res
 ·have h1:i < l.length:=by omega
  have hk6: ¬l[i].k=6:=by assumption
  rename_i t2 ht2;have e:jV l[i]=.mk 7 0 0 [] []:=by unfold jV;rw[if_neg (by omega),if_neg hk6]
  have:=hnx h1;rw[e] at this;refine aJ (i + 1,m++ [.mk 7 0 0 [] []],t2) ⟨by show i + 1≤_;omega,ht2,this,fun h15=>?_⟩ (by show l.length - (i + 1) < l.length - i;omega) wA;have:=ha h15;rw[aq h1,List.any_cons,decide_eq_false (by omega),Bool.false_or] at this;exact this
 ·rw[List.take_of_length_le (by omega)] at hm
  subst hm;have hV:=E8 (iu n (l.map jV)).1 (by rw[HQ];decide)
  rw[hS,if_neg (by
   rintro ⟨h15,h⟩;have:=ha h15;rw[List.drop_of_length_le (by omega),List.any_nil] at this;rw[←this] at h
   cases h)]
  refine pC hF (.cons (Wk.refl _) (.cons (Wk.tok _ _ _) .nil)) ?_
  conv=>whnf
  repeat' (first|refine aW ?_|((first|refine bY nC ?_|refine pC (hV) wR ?_|intro _);conv=>whnf)|(refine zX (fun hc=>?_) (fun hc=>?_)<;>(try simp only[SY] at hc)<;>omega))
  exact an.JD (r:=(cN (iu n (l.map jV)).1,(iu n (l.map jV)).2, [])) rfl hY.res
set_option maxHeartbeats 4000000
instance (priority:=low) cr.PR (e:ak) (Γ D r:List ak) [h:cr Γ D r]:cr (e::Γ) D (e::r):=⟨(h.p.cons e).trans List.perm_middle.symm⟩
theorem e8.mem {agg:Bool} {n a o:Nat} {all:List PV} {Γ:List ak} {K:PV→Prop} (h:ak.box a all∈Γ) (h1:Nat.ble (o + n) all.length=true) (k:mw agg ((all.drop o).take n) K):e8 agg n (.ptr a o) Γ K:=
 ⟨_,⟨all,h,Nat.le_of_ble_eq_true h1,rfl⟩,k⟩
theorem au.th {P:Program} {f:FuncId} {args args':List PV} {Γ Γ1 Γ2:List ak} {Q K:PV→List ak→Prop} (h:ah P f args' Γ1 Q) (hw:bU args args') [hp:cr Γ Γ1 Γ2]
  (k: ∀ y Γ1',Q y Γ1'→ic Γ2 Γ1' fun Γ'=>K y Γ'):au P f args Γ K:=by
 refine ⟨.inl (((h.wk hw).frame hp.p).shift ?_)⟩;rintro y Γ' ⟨Γ1',rfl,hq⟩;have:=k y Γ1' hq;rw[eS] at this;exact ⟨y,Γ2++Γ1',Shift.wk (Wk.refl _) (Γ1:= []) (by rw[List.append_nil];exact List.perm_append_comm),this⟩
theorem JO {Γ:List ak} {K:List ak→Prop} (h:K Γ):ic Γ [] K:=by rw[eS,List.append_nil];exact h
abbrev bf (s:bJ):bJ:=⟨s.fuel - 1,s.out,s.alive,s.to,s.val,s.h⟩
def bM:bq→List Int→List Nat→bq
 | e,v::vs,a::az=>bM ((v,a)::e) vs az
 | e,_,_=>e
def eM:Hp→List Vl→List Nat→Hp
 | h,x::xs,a::az=>eM ((a,.cell x false)::h) xs az
 | h,_,_=>h
theorem kX: ∀ (e:bq) (vs:List Int) (az:List Nat) (v:Int) (a:Nat),vs.length=az.length→bM e (vs++ [v]) (az++ [a])=(v,a)::bM e vs az
 | _, [], [],_,_,_=>rfl
 | e,w::vs,c::az,v,a,h=>by
  rw[List.cons_append,List.cons_append,bM,kX _ vs az v a (by simpa using h),bM]
 | _, [],_::_,_,_,h=>by simp at h
 | _,_::_, [],_,_,h=>by simp at h
theorem vb: ∀ (e:Hp) (vs:List Vl) (az:List Nat) (v:Vl) (a:Nat),vs.length=az.length→eM e (vs++ [v]) (az++ [a])=(a,.cell v false)::eM e vs az
 | _, [], [],_,_,_=>rfl
 | e,w::vs,c::az,v,a,h=>by
  rw[List.cons_append,List.cons_append,eM,vb _ vs az v a (by simpa using h),eM]
 | _, [],_::_,_,_,h=>by simp at h
 | _,_::_, [],_,_,h=>by simp at h
abbrev aR (s:bJ) (h:Hp):bJ:=⟨s.fuel,s.out,s.alive,s.to,s.val,h⟩
theorem au.Pa {P:Program} {f:FuncId} {args args':List PV} {Γ Γ0 Γ1 Γ2:List ak} {Q K:PV→List ak→Prop} (hg:aA Γ Γ0) (h:ah P f args' Γ1 Q) (hw:bU args args') [hp:cr Γ0 Γ1 Γ2]
  (k: ∀ y Γ1',Q y Γ1'→ic Γ2 Γ1' fun Γ'=>K y Γ'):au P f args Γ K:=
 au.ghost hg (((h.wk hw).frame hp.p).shift fun y Γ' ⟨Γ1',e,hq⟩=>by
  have:=k y Γ1' hq;rw[eS] at this;rw[e]
  exact ⟨y,Γ2++Γ1',Shift.wk (Wk.refl _) (Γ1:= []) (by rw[List.append_nil];exact List.perm_append_comm),this⟩)
theorem aA.Kz (Γ:List ak):aA Γ (.row (aT 7 140) (([]:List Vl).map Vl.pv)::Γ):=aA.fG _ _ _
theorem aA.Kx (Γ:List ak):aA Γ (.row (aT 1 4) (([]:List Bool).map PV.bool)::Γ):=aA.fG _ _ _
theorem yg {α:Type}: ∀ (l:List α) (a c:α),(l++ [a]).set l.length c=l++ [c]
 | [],a,c=>rfl
 | x::l,a,c=>by
  show x::((l++ [a]).set l.length c)=_;rw[yg l a c];rfl
abbrev tq (fuel:Int):bJ:=⟨fuel, [], [],0,bx, []⟩
theorem mS (a:Nat) (o:Ob) (h:Hp):nP ((a,o)::h)=.box a (KB o)::nP h:=rfl
theorem an.OR {x:PV} {Γ Γ':List ak} {Q:PV→List ak→Prop} (hg:aA Γ Γ') (h:an x Γ' Q):an x Γ Q:=by
 obtain ⟨y,Γ2,h1,h2⟩:=h
 exact ⟨y,Γ2,Shift.trans (fun w0 F M w v hS hx=>by
  obtain ⟨F',g1,g2⟩:=hg w0 F M w hS
  exact ⟨F',g1,g2,ax.mono g1 x v hx⟩) h1,h2⟩
abbrev fo (o:List Vl):PV:=.sl 7 (o.map Vl.pv) none
theorem Pq (n:Int) (l:List Vl) (h0:n < 28) (ht:gF n l.length=true) (hl:l.length≤1000000000) (hx: ∀ x∈l,x.tx=true) (hi: ∀ x∈l,x.fW.1.length≤1000000000):oq n l:=by
 have hb:=ht;unfold gF at hb;simp only[Bool.and_eq_true,Bool.or_eq_true,decide_eq_true_eq] at hb;obtain ⟨⟨k0,k1⟩,k2,k3⟩:=hb;have f6:(aP 6).least=2∧(aP 6).most=2:=by decide
 have f7:(aP 7).least=2∧(aP 7).most=2:=by decide
 have f16:(aP 16).least=1∧(aP 16).most=1:=by decide
 have f18:(aP 18).least=1∧(aP 18).most=1:=by decide
 have f19:(aP 19).least=1∧(aP 19).most=1:=by decide
 have f22:(aP 22).least=2∧(aP 22).most=2:=by decide
 have f23:(aP 23).least=1∧(aP 23).most=1:=by decide
 have f24:(aP 24).least=1∧(aP 24).most=1:=by decide
 have f26:(aP 26).least=1∧(aP 26).most=1:=by decide
 rcases (by omega:n=6∨n=7∨n=16∨n=17∨n=18∨n=19∨n=20∨n=21∨n=22∨n=23∨n=24∨n=26∨n=27∨((0≤n∧n≤5)∨(8≤n∧n≤15)∨n=25)) with h | h | h | h | h | h | h | h | h | h | h | h | h | h
 ·subst h;exact M5 l (by omega)
 ·subst h;exact M6 l (by omega)
 ·subst h;exact K8 l (by omega)
 ·exact Dz n (by omega) l
 ·subst h;exact vZ _ l (by omega) hx hi
 ·subst h;exact vZ _ l (by omega) hx hi
 ·exact Dz n (by omega) l
 ·exact Dz n (by omega) l
 ·subst h;exact vZ _ l (by omega) hx hi
 ·subst h;exact vZ _ l (by omega) hx hi
 ·subst h;exact vZ _ l (by omega) hx hi
 ·subst h;exact K9 l (by omega) hx
 ·subst h;exact La l
 ·exact M7 n h l hl
def aL:Hp→Nat→Option (Vl×Bool)
 | [],_=>none
 | (b,.cell x r)::h,a=>if b=a then some (x,r) else aL h a
 | (_,.eH _)::h,a=>aL h a
def aY:Hp→Nat→Option qH
 | [],_=>none
 | (_,.cell _ _)::h,a=>aY h a
 | (b,.eH f)::h,a=>if b=a then some f else aY h a
def hput:Hp→Nat→Vl→Hp
 | [],_,_=> []
 | (b,.cell y r)::h,a,x=>if b=a then (b,.cell x r)::h else (b,.cell y r)::hput h a x
 | (b,.eH f)::h,a,x=>(b,.eH f)::hput h a x
def MQ (f:qH) (o:List Vl):qH:=⟨f.v,f.rest,f.body,f.env,f.code,o⟩
def dL:Hp→Nat→List Vl→Hp
 | [],_,_=> []
 | (b,.cell y r)::h,a,o=>(b,.cell y r)::dL h a o
 | (b,.eH f)::h,a,o=>if b=a then (b,.eH (MQ f o))::h else (b,.eH f)::dL h a o
theorem oN: ∀ {h:Hp} {a:Nat} {x:Vl} {r:Bool},aL h a=some (x,r)→ ∃ h1 h2,h=h1++(a,.cell x r)::h2∧ ∀ y,hput h a y=h1++(a,.cell y r)::h2
 | (b,.cell y q)::h,a,x,r,he=>by
  rw[aL] at he;by_cases hb:b=a
  ·rw[if_pos hb] at he
   subst hb;obtain ⟨rfl,rfl⟩:=Prod.mk.inj (Option.some.inj he);exact ⟨[],h,rfl,fun z=>by rw[hput,if_pos rfl];rfl⟩
  ·rw[if_neg hb] at he
   obtain ⟨h1,h2,e1,e2⟩:=oN he;exact ⟨(b,.cell y q)::h1,h2,by rw[e1];rfl,fun z=>by rw[hput,if_neg hb,e2];rfl⟩
 | (b,.eH f)::h,a,x,r,he=>by
  rw[aL] at he;obtain ⟨h1,h2,e1,e2⟩:=oN he;exact ⟨(b,.eH f)::h1,h2,by rw[e1];rfl,fun z=>by rw[hput,e2];rfl⟩
theorem oV: ∀ {h:Hp} {a:Nat} {f:qH},aY h a=some f→ ∃ h1 h2,h=h1++(a,.eH f)::h2∧ ∀ o,dL h a o=h1++(a,.eH (MQ f o))::h2
 | (b,.cell y q)::h,a,f,he=>by
  rw[aY] at he;obtain ⟨h1,h2,e1,e2⟩:=oV he;exact ⟨(b,.cell y q)::h1,h2,by rw[e1];rfl,fun z=>by rw[dL,e2];rfl⟩
 | (b,.eH g)::h,a,f,he=>by
  rw[aY] at he;by_cases hb:b=a
  ·rw[if_pos hb] at he
   subst hb;obtain rfl:=Option.some.inj he;exact ⟨[],h,rfl,fun z=>by rw[dL,if_pos rfl];rfl⟩
  ·rw[if_neg hb] at he
   obtain ⟨h1,h2,e1,e2⟩:=oV he;exact ⟨(b,.eH g)::h1,h2,by rw[e1];rfl,fun z=>by rw[dL,if_neg hb,e2];rfl⟩
def iW:Hp→Bool→List Nat→Hp
 | h,_, []=>h
 | h,r,a::az=>iW ((a,.cell (fF 12) r)::h) r az
abbrev cg (p:Nat):Vl:=.mk 8 0 0 [] [] (some p) none
def jg (cd:bZ) (n:Int) (o:List Vl):qH:=⟨cd.v,cd.rest,cd.body, [],n,o⟩
def e7:Hp→List (bZ×Int)→List Nat→List Nat→Hp
 | h,c::cs,a::az,p::pz=>e7 ((p,.eH (jg c.1 c.2 []))::(a,.cell (cg p) false)::h) cs az pz
 | h,_,_,_=>h
def iV (s:bJ) (e:bq) (v:Int) (x:Vl):bJ:=match fc e v with
 | none=>s
 | some a=>aR s (hput s.h a x)
def dU (s:bJ) (e:bq):List Int→List Vl→bJ
 | v::vs,x::xs=>dU (iV s e v x) e vs xs
 | _,_=>s
def jr (l:List Vl) (k:Nat) (rest:Bool):Option (List Vl):=
 if rest=true∧k≤l.length + 1 then some (l.take (k - 1)++ [mu (l.drop (k - 1))]) else
 if rest=false∧l.length=k then some l else none
inductive Jd where
 | ev (t:aa) (e:bq) (o:List Vl)
 | go (t:aa) (e:bq) (o:List Vl)
 | all (l:List aa) (e:bq) (o:List Vl)
 | rc (now:Bool) (v:List Int) (l:List aa) (e:bq) (o:List Vl)
 | cc (v:List Int) (l:List aa) (e:bq) (o:List Vl)
 | str (t:aa) (l:List Vl) (e:bq)
 | call (f:Vl) (l:List Vl)
 | qo (n:Int) (l:List Vl)
def oz (h:Hp):Prop:=(h.map fun c=>c.1).Nodup
abbrev uT (id:Nat):Vl:=.mk 10 id 0 [] [] none none
inductive Ev (K:KC):Jd→bJ→List Vl→Int→bJ→Prop
 | Ns {t e s o}:s.fuel≤0→Ev K (.ev t e o) s [bx] 8 s
 | ev {t e s v c s' o}:0 < s.fuel→oz s.h→Ev K (.go t e o) (bf s) [v] c s'→Ev K (.ev t e o) s [v] c s'
 | GB {t e s x o}:t.op=0→K.k[t.n.toNat]?=some x→Ev K (.go t e o) s [x] 0 s
 | ref {t e s a x r o}:t.op=1→fc e t.n=some a→aL s.h a=some (x,r)→ ¬(r=true∧x.k=12)→Ev K (.go t e o) s [x] 0 s
 | wY {t e s a x o}:t.op=1→fc e t.n=some a→aL s.h a=some (x,true)→x.k=12→Ev K (.go t e o) s [bx] 5 s
 | prf {t e s o}:t.op=11→Ev K (.go t e o) s [.mk 9 t.n 0 [] [] none none] 0 s
 | JF {t e s o}:t.op=13→Ev K (.go t e o) s [fF 12] 0 s
 | lam {t e s b o a}:t.op=4→t.t= [b]→oz ((a,.eH ⟨t.v,t.n == 1,b,e, -1, []⟩)::s.h)→Ev K (.go t e o) s [cg a] 0 (aR s ((a,.eH ⟨t.v,t.n == 1,b,e, -1, []⟩)::s.h))
 | GJ {t e s o a cd}:t.op=21→K.c[t.n.toNat]?=some cd→oz ((a,.eH (jg cd t.n []))::s.h)→Ev K (.go t e o) s [cg a] 0 (aR s ((a,.eH (jg cd t.n []))::s.h))
 | GF {t e s o x}:t.op=20→o[t.n.toNat]?=some x→Ev K (.go t e o) s [x] 0 s
 | wM {t e s o}:t.op=20→(o.length:Int)≤t.n→Ev K (.go t e o) s [bx] 3 s
 | HW {t e s a b d v c s1 o}:t.op=3→t.t= [a,b,d]→Ev K (.ev a e o) s [v] c s1→c≠0→Ev K (.go t e o) s [bx] c s1
 | HX {t e s a b d x s1 v c s' o}:t.op=3→t.t= [a,b,d]→Ev K (.ev a e o) s [x] 0 s1→x.k=1∧x.n=0→Ev K (.ev d e o) s1 [v] c s'→Ev K (.go t e o) s [v] c s'
 | HY {t e s a b d x s1 v c s' o}:t.op=3→t.t= [a,b,d]→Ev K (.ev a e o) s [x] 0 s1→ ¬(x.k=1∧x.n=0)→Ev K (.ev b e o) s1 [v] c s'→Ev K (.go t e o) s [v] c s'
 | JB {t e s l b vs c s1 o}:t.op=8→t.t=l++ [b]→l.length=t.v.length→Ev K (.all l e o) s vs c s1→c≠0→Ev K (.go t e o) s [bx] c s1
 | GH {t e s l b vs s1 az v c s' o}:t.op=8→t.t=l++ [b]→l.length=t.v.length→Ev K (.all l e o) s vs 0 s1→az.length=t.v.length→Ev K (.ev b (bM e t.v az) o) (aR s1 (eM s1.h vs az)) [v] c s'→Ev K (.go t e o) s [v] c s'
 | GG {t e s l b az vs c s1 o}:t.op=7∨t.op=9→t.t=l++ [b]→l.length=t.v.length→(∀ x∈l, ¬x.op=19)→az.length=t.v.length→Ev K (.rc (t.op == 9 || t.n == 1) t.v l (bM e t.v az) o) (aR s (iW s.h (t.op == 7) az)) vs c s1→c≠0→Ev K (.go t e o) s [bx] c s1
 | FM {t e s l b az vs s1 v c s' o}:t.op=7∨t.op=9→t.t=l++ [b]→l.length=t.v.length→(∀ x∈l, ¬x.op=19)→az.length=t.v.length→Ev K (.rc (t.op == 9 || t.n == 1) t.v l (bM e t.v az) o) (aR s (iW s.h (t.op == 7) az)) vs 0 s1→
   Ev K (.ev b (bM e t.v az) o) (if t.op=7∧t.n=0 then dU s1 (bM e t.v az) t.v vs else s1) [v] c s'→Ev K (.go t e o) s [v] c s'
 | GD {t e s l b az pz cs us c s1 o}:t.op=9→t.t=l++ [b]→l.length=t.v.length→0 < l.length→(∀ x∈l,x.op=19)→az.length=l.length→pz.length=l.length→(cs.length=l.length∧ ∀ i (h:i < l.length) (h':i < cs.length),K.c[l[i].n.toNat]?=some cs[i].1∧cs[i].2=l[i].n)→Ev K (.cc t.v l (bM e t.v az) o) (aR s (e7 s.h cs az pz)) us c s1→c≠0→Ev K (.go t e o) s [bx] c s1
 | GC {t e s l b az pz cs us s1 v c s' o}:t.op=9→t.t=l++ [b]→l.length=t.v.length→0 < l.length→(∀ x∈l,x.op=19)→az.length=l.length→pz.length=l.length→(cs.length=l.length∧ ∀ i (h:i < l.length) (h':i < cs.length),K.c[l[i].n.toNat]?=some cs[i].1∧cs[i].2=l[i].n)→Ev K (.cc t.v l (bM e t.v az) o) (aR s (e7 s.h cs az pz)) us 0 s1→Ev K (.ev b (bM e t.v az) o) s1 [v] c s'→Ev K (.go t e o) s [v] c s'
 | Jj {t e s vs c s1 o}:t.op=2∨t.op=5∨t.op=6∨t.op=10∨t.op=12∨(14≤t.op∧t.op≤19)∨t.op=22→Ev K (.all t.t e o) s vs c s1→c≠0→Ev K (.go t e o) s [bx] c s1
 | st {t e s vs s1 v c s' o}:t.op=2∨t.op=5∨t.op=6∨t.op=10∨t.op=12∨(14≤t.op∧t.op≤19)∨t.op=22→Ev K (.all t.t e o) s vs 0 s1→Ev K (.str t vs e) s1 [v] c s'→Ev K (.go t e o) s [v] c s'
 | G7 {e s o}:Ev K (.all [] e o) s [] 0 s
 | yR {t l e s v c s1 o}:Ev K (.ev t e o) s [v] c s1→c≠0→Ev K (.all (t::l) e o) s [] c s1
 | wB {t l e s x s1 xs s2 o}:Ev K (.ev t e o) s [x] 0 s1→Ev K (.all l e o) s1 xs 0 s2→Ev K (.all (t::l) e o) s (x::xs) 0 s2
 | yS {t l e s x s1 xs c s2 o}:Ev K (.ev t e o) s [x] 0 s1→Ev K (.all l e o) s1 xs c s2→c≠0→Ev K (.all (t::l) e o) s [] c s2
 | Pk {now e s o}:Ev K (.rc now [] [] e o) s [] 0 s
 | Pj {now v vs t l e s y c s1 o}:Ev K (.ev t e o) s [y] c s1→c≠0→Ev K (.rc now (v::vs) (t::l) e o) s [] c s1
 | NB {now v vs t l e s x s1 xs s2 o}:Ev K (.ev t e o) s [x] 0 s1→Ev K (.rc now vs l e o) (if now=true then iV s1 e v x else s1) xs 0 s2→Ev K (.rc now (v::vs) (t::l) e o) s (x::xs) 0 s2
 | Oz {now v vs t l e s x s1 xs c s2 o}:Ev K (.ev t e o) s [x] 0 s1→Ev K (.rc now vs l e o) (if now=true then iV s1 e v x else s1) xs c s2→c≠0→Ev K (.rc now (v::vs) (t::l) e o) s [] c s2
 | O2 {e s o}:Ev K (.cc [] [] e o) s [] 0 s
 | NR {v vs t l e s us c s1 o}:Ev K (.all t.t e o) s us c s1→c≠0→Ev K (.cc (v::vs) (t::l) e o) s [] c s1
 | Mk {v vs t l e s us s1 a x r q f xs c s2 o}:Ev K (.all t.t e o) s us 0 s1→fc e v=some a→aL s1.h a=some (x,r)→x.p=some q→aY s1.h q=some f→Ev K (.cc vs l e o) (aR s1 (dL s1.h q us)) xs c s2→Ev K (.cc (v::vs) (t::l) e o) s xs c s2
 | seq {t e s l x}:t.op=6→Ev K (.str t (l++ [x]) e) s [x] 0 s
 | JE {t e s x a y r}:t.op=2∨t.op=14→fc e t.n=some a→aL s.h a=some (y,r)→ ¬((r=true∨t.op=14)∧y.k=12)→Ev K (.str t [x] e) s [fF 5] 0 (aR s (hput s.h a x))
 | NC {t e s x a y r}:t.op=2∨t.op=14→fc e t.n=some a→aL s.h a=some (y,r)→(r=true∨t.op=14)→y.k=12→Ev K (.str t [x] e) s [bx] 5 s
 | xk {t e s x}:t.op=12→ ¬x.k=12→Ev K (.str t [x] e) s [x] 0 s
 | AQ {t e s x}:t.op=12→x.k=12→Ev K (.str t [x] e) s [bx] 5 s
 | box {t e s x a}:t.op=15→oz ((a,.cell x false)::s.h)→Ev K (.str t [x] e) s [.mk 11 0 0 [] [] none (some a)] 0 (aR s ((a,.cell x false)::s.h))
 | bad {t e s x l}:16≤t.op∧t.op≤18→ ¬x.k=11→Ev K (.str t (x::l) e) s [bx] 1 s
 | get {t e s x a y r}:t.op=16→x.k=11→x.c=some a→aL s.h a=some (y,r)→Ev K (.str t [x] e) s [y] 0 s
 | put {t e s x z a y r}:t.op=17∨t.op=18→x.k=11→x.c=some a→aL s.h a=some (y,r)→ ¬(t.op=18∧y.k=12)→Ev K (.str t [x,z] e) s [fF 5] 0 (aR s (hput s.h a z))
 | eF {t e s x z a y r}:t.op=18→x.k=11→x.c=some a→aL s.h a=some (y,r)→y.k=12→Ev K (.str t [x,z] e) s [bx] 5 s
 | cH {t e s l a cd}:t.op=19→K.c[t.n.toNat]?=some cd→oz ((a,.eH (jg cd t.n l))::s.h)→Ev K (.str t l e) s [cg a] 0 (aR s ((a,.eH (jg cd t.n l))::s.h))
 | Nr {t e s f l q pr v c s'}:t.op=22→f.k=8→f.p=some q→aY s.h q=some pr→pr.code=t.n→Ev K (.call f l) s [v] c s'→Ev K (.str t (f::l) e) s [v] c s'
 | Ff {t e s f l}:t.op=22→(f.k=8→ ∃ q pr,f.p=some q∧aY s.h q=some pr∧ ¬pr.code=t.n)→Ev K (.str t (f::l) e) s [bx] 1 s
 | app {t e s f l v c s'}:t.op=5→Ev K (.call f l) s [v] c s'→Ev K (.str t (f::l) e) s [v] c s'
 | MT {t e s l v c s'}:t.op=10→Ev K (.qo t.n l) s [v] c s'→Ev K (.str t l e) s [v] c s'
 | wH {f l s v c s'}:f.k=9→Ev K (.qo f.n l) s [v] c s'→Ev K (.call f l) s [v] c s'
 | wG {f l s}:f.k=10→ ¬l.length=1→Ev K (.call f l) s [bx] 2 s
 | wD {f x s}:f.k=10→s.alive[f.n.toNat]?=some false→Ev K (.call f [x]) s [bx] 6 s
 | wE {f x s}:f.k=10→s.alive[f.n.toNat]?=some true→Ev K (.call f [x]) s [bx] 100 ⟨s.fuel,s.out,s.alive,f.n,x,s.h⟩
 | wF {f l s q cl}:f.k=8→f.p=some q→aY s.h q=some cl→jr l cl.v.length cl.rest=none→Ev K (.call f l) s [bx] 2 s
 | GA {f l s q cl xs az v c s'}:f.k=8→f.p=some q→aY s.h q=some cl→jr l cl.v.length cl.rest=some xs→az.length=cl.v.length→Ev K (.ev cl.body (bM cl.env cl.v az) cl.over) (aR s (eM s.h xs az)) [v] c s'→Ev K (.call f l) s [v] c s'
 | wC {f l s}: ¬f.k=8→ ¬f.k=9→ ¬f.k=10→Ev K (.call f l) s [bx] 1 s
 | pN {n l s}:gF n l.length=false→Ev K (.qo n l) s [bx] 2 s
 | pR {x s}:Ev K (.qo 28 [x]) s [bx] 7 ⟨s.fuel,s.out,s.alive,s.to,x,s.h⟩
 | pE {f s v c s'}:Ev K (.call f [uT s.alive.length]) ⟨s.fuel,s.out,s.alive++ [true],s.to,s.val,s.h⟩ [v] c s'→ ¬(c=100∧s'.to=s.alive.length)→Ev K (.qo 29 [f]) s [v] c ⟨s'.fuel,s'.out,s'.alive.set s.alive.length false,s'.to,s'.val,s'.h⟩
 | pJ {f s v s'}:Ev K (.call f [uT s.alive.length]) ⟨s.fuel,s.out,s.alive++ [true],s.to,s.val,s.h⟩ [v] 100 s'→s'.to=s.alive.length→Ev K (.qo 29 [f]) s [s'.val] 0 ⟨s'.fuel,s'.out,s'.alive.set s.alive.length false,s'.to,s'.val,s'.h⟩
 | pL {f x s}: ¬x.fW.2.k=4→Ev K (.qo 30 [f,x]) s [bx] 1 s
 | pA {f x s v c s'}:x.fW.2.k=4→Ev K (.call f x.fW.1) s [v] c s'→Ev K (.qo 30 [f,x]) s [v] c s'
 | pS {n l s}:n < 28→gF n l.length=true→Ev K (.qo n l) s [(gD n l).1] (gD n l).2.1 (Af s (gD n l).2.2)
theorem iM {h:Hp} {a:Nat} {x:Vl} {r:Bool} (hg:aL h a=some (x,r)): ∃ put,ee (nP h) a (qQ x r) put∧ ∀ y,put (qQ y r)=nP (hput h a y):=by
 obtain ⟨h1,h2,e1,e2⟩:=oN hg;refine ⟨fun cs'=>nP h1++.box a cs'::nP h2,⟨nP h1,nP h2,by rw[e1,nP,List.map_append];rfl,fun _=>rfl⟩,fun y=>?_⟩;rw[e2];simp only[nP,List.map_append,List.map_cons,KB]
theorem qn {h:Hp} {a:Nat} {f:qH} (hg:aY h a=some f): ∃ put,ee (nP h) a (wW f) put∧ ∀ o,put (wW (MQ f o))=nP (dL h a o):=by
 obtain ⟨h1,h2,e1,e2⟩:=oV hg;refine ⟨fun cs'=>nP h1++.box a cs'::nP h2,⟨nP h1,nP h2,by rw[e1,nP,List.map_append];rfl,fun _=>rfl⟩,fun y=>?_⟩;rw[e2];simp only[nP,List.map_append,List.map_cons,KB]
theorem Qa {p q:Prop} {r:Bool} (hu:r=true∨p) (hk:q) (hc:r=false∧ ¬p∨ ¬q):False:=by
 rcases hc with ⟨h3,h4⟩ | h3
 ·rcases hu with h1 | h1
  ·rw[h1] at h3
   cases h3
  ·exact h4 h1
 ·exact h3 hk
section
variable (b:Nat) (K:KC) (tk:Tok) (s:bJ) (t:aa) (e:bq)
theorem uS {p q:Prop} (k:q) (h:q→p:=by intro hq;first | exact aC.sP (some 109) rfl [] [9] aj mixed hq | exact aC.sP (some 139) rfl [] [] aj mixed hq):p:=h k
theorem Nc (ho:t.op=6) (l:List Vl) (hl:0 < l.length) (hm:l.length≤1000000000):
  ah Tryz.prog 115 [.ptr b 0,.agg t.cells,.sl 7 (l.map Vl.pv) none,bF e] (bw b K tk s) (fun y Γ'=>y=.aU [.agg (aS (l[l.length - 1]'(by omega))),.int .i64 0]∧Γ'=bw b K tk s):=by
 refine ah.ai aj Tryz.func115 rfl rfl (n:=173) rfl rfl ?_
 conv=>whnf
 repeat' (first|refine aW ?_|((first|refine bY nC ?_|intro _);conv=>whnf)|(refine zX (fun hc=>?_) (fun hc=>?_)<;>(try simp only[SY] at hc)<;>first|omega|(conv=>whnf)))
 exact an.gen (y:=.aU [.agg (aS (l[l.length - 1]'(by omega))),.int .i64 0]) (Γ':=bw b K tk s) (Wk.refl _) ⟨rfl,rfl⟩
theorem Lf (ho:t.op=12) (l:List Vl) (hl:l.length=1) (hx: ¬l[0].k=12):
  ah Tryz.prog 115 [.ptr b 0,.agg t.cells,.sl 7 (l.map Vl.pv) none,bF e] (bw b K tk s) (fun y Γ'=>y=.aU [.agg (aS (l[0]'(by omega))),.int .i64 0]∧Γ'=bw b K tk s):=by
 refine ah.ai aj Tryz.func115 rfl rfl (n:=173) rfl rfl ?_
 conv=>whnf
 repeat' (first|refine aW ?_|((first|refine bY nC ?_|intro _);conv=>whnf)|(refine zX (fun hc=>?_) (fun hc=>?_)<;>(try simp only[SY] at hc)<;>first|omega|(conv=>whnf)))
 exact an.gen (y:=.aU [.agg (aS (l[0]'(by omega))),.int .i64 0]) (Γ':=bw b K tk s) (Wk.refl _) ⟨rfl,rfl⟩
theorem Jk (ho:t.op=12) (l:List Vl) (hl:l.length=1) (hx:l[0].k=12):
  ah Tryz.prog 115 [.ptr b 0,.agg t.cells,.sl 7 (l.map Vl.pv) none,bF e] (bw b K tk s) (fun y Γ'=>y=.aU [.agg (aS bx),.int .i64 5]∧Γ'=bw b K tk s):=by
 refine ah.ai aj Tryz.func115 rfl rfl (n:=173) rfl rfl ?_
 conv=>whnf
 repeat' (first|refine aW ?_|((intro _);conv=>whnf)|(refine zX (fun hc=>?_) (fun hc=>?_)<;>(try simp only[SY] at hc)<;>first|omega|(conv=>whnf)))
 exact an.gen (y:=.aU [.agg (aS bx),.int .i64 5]) (Γ':=bw b K tk s) hY.res ⟨rfl,rfl⟩
theorem Nk (ho:t.op=2∨t.op=14) (l:List Vl) (hl:l.length=1) (y:Vl) (a:Nat) (r:Bool) (hf:fc e t.n=some a) (hg:aL s.h a=some (y,r)) (hu: ¬((r=true∨t.op=14)∧y.k=12)):
  ah Tryz.prog 115 [.ptr b 0,.agg t.cells,.sl 7 (l.map Vl.pv) none,bF e] (bw b K tk s) (fun y Γ'=>y=.aU [.agg (aS (fF 5)),.int .i64 0]∧Γ'=bw b K tk (aR s (hput s.h a (l[0]'(by omega))))):=by
 have hp:=lS e t.n a hf;obtain ⟨put,hpb,hpu⟩:=iM hg;refine ah.ai aj Tryz.func115 rfl rfl (n:=173) rfl rfl ?_
 conv=>whnf
 repeat' (first|refine aW ?_|((first|refine bY nC ?_|refine pC (hp) wR ?_|intro _);conv=>whnf)|(refine zX (fun hc=>?_) (fun hc=>?_)<;>(try simp only[SY] at hc)<;>first|omega|(conv=>whnf)))
 all_goals first
  | exact absurd hc hu
  | (rw[hpu l[0]];exact an.gen (y:=.aU [.agg (aS (fF 5)),.int .i64 0]) (Γ':=bw b K tk (aR s (hput s.h a (l[0]'(by omega))))) hY.res ⟨rfl,rfl⟩)
theorem Li (ho:t.op=2∨t.op=14) (l:List Vl) (hl:l.length=1) (y:Vl) (a:Nat) (r:Bool) (hf:fc e t.n=some a) (hg:aL s.h a=some (y,r)) (hu:r=true∨t.op=14) (hk:y.k=12):
  ah Tryz.prog 115 [.ptr b 0,.agg t.cells,.sl 7 (l.map Vl.pv) none,bF e] (bw b K tk s) (fun y Γ'=>y=.aU [.agg (aS bx),.int .i64 5]∧Γ'=bw b K tk s):=by
 have hp:=lS e t.n a hf;obtain ⟨put,hpb,hpu⟩:=iM hg;refine ah.ai aj Tryz.func115 rfl rfl (n:=173) rfl rfl ?_
 conv=>whnf
 repeat' (first|refine aW ?_|((first|refine bY nC ?_|refine pC (hp) wR ?_|intro _);conv=>whnf)|(refine zX (fun hc=>?_) (fun hc=>?_)<;>(try simp only[SY] at hc)<;>first|omega|(conv=>whnf)))
 all_goals first
  | exact (Qa hu hk hc).elim
  | exact an.gen (y:=.aU [.agg (aS bx),.int .i64 5]) (Γ':=bw b K tk s) hY.res ⟨rfl,rfl⟩
theorem Jl (ho:16≤t.op∧t.op≤18) (l:List Vl) (hl:0 < l.length) (hk: ¬l[0].k=11):
  ah Tryz.prog 115 [.ptr b 0,.agg t.cells,.sl 7 (l.map Vl.pv) none,bF e] (bw b K tk s) (fun y Γ'=>y=.aU [.agg (aS bx),.int .i64 1]∧Γ'=bw b K tk s):=by
 refine ah.ai aj Tryz.func115 rfl rfl (n:=173) rfl rfl ?_
 conv=>whnf
 repeat' (first|refine aW ?_|((intro _);conv=>whnf)|(refine zX (fun hc=>?_) (fun hc=>?_)<;>(try simp only[SY] at hc)<;>first|omega|(conv=>whnf)))
 all_goals exact an.gen (y:=.aU [.agg (aS bx),.int .i64 1]) (Γ':=bw b K tk s) hY.res ⟨rfl,rfl⟩
theorem Ng (ho:t.op=16) (l:List Vl) (hl:l.length=1) (hk:l[0].k=11) (y:Vl) (a:Nat) (r:Bool) (hf:l[0].c=some a) (hg:aL s.h a=some (y,r)):
  ah Tryz.prog 115 [.ptr b 0,.agg t.cells,.sl 7 (l.map Vl.pv) none,bF e] (bw b K tk s) (fun z Γ'=>z=.aU [.agg (aS y),.int .i64 0]∧Γ'=bw b K tk s):=by
 obtain ⟨put,hpb,hpu⟩:=iM hg;refine ah.ai aj Tryz.func115 rfl rfl (n:=173) rfl rfl ?_
 conv=>whnf
 repeat' (first|refine aW ?_|((intro _);conv=>whnf)|(refine zX (fun hc=>?_) (fun hc=>?_)<;>(try simp only[SY] at hc)<;>first|omega|(conv=>whnf)))
 rw[hf]
 conv=>whnf
 repeat' (first|refine aW ?_|((refine bY nC ?_);conv=>whnf)|(refine zX (fun hc=>?_) (fun hc=>?_)<;>(try simp only[SY] at hc)<;>omega))
 all_goals exact an.gen (y:=.aU [.agg (aS y),.int .i64 0]) (Γ':=bw b K tk s) hY.res ⟨rfl,rfl⟩
theorem Nj (ho:t.op=17∨t.op=18) (l:List Vl) (hl:l.length=2) (hk:l[0].k=11) (y:Vl) (a:Nat) (r:Bool) (hf:l[0].c=some a) (hg:aL s.h a=some (y,r)) (hu: ¬(t.op=18∧y.k=12)):
  ah Tryz.prog 115 [.ptr b 0,.agg t.cells,.sl 7 (l.map Vl.pv) none,bF e] (bw b K tk s) (fun y Γ'=>y=.aU [.agg (aS (fF 5)),.int .i64 0]∧Γ'=bw b K tk (aR s (hput s.h a (l[1]'(by omega))))):=by
 obtain ⟨put,hpb,hpu⟩:=iM hg;refine ah.ai aj Tryz.func115 rfl rfl (n:=173) rfl rfl ?_
 conv=>whnf
 repeat' (first|refine aW ?_|((intro _);conv=>whnf)|(refine zX (fun hc=>?_) (fun hc=>?_)<;>(try simp only[SY] at hc)<;>first|omega|(conv=>whnf)))
 all_goals
  rw[hf]
  conv=>whnf
  repeat' (first|refine aW ?_|((refine uS ?_);conv=>whnf)|(refine zX (fun hc=>?_) (fun hc=>?_)<;>(try simp only[SY] at hc)<;>first|omega|(conv=>whnf)))
 all_goals try
  rw[hf]
  conv=>whnf
  repeat' (first|refine aW ?_|((refine bY nC ?_);conv=>whnf)|(refine zX (fun hc=>?_) (fun hc=>?_)<;>(try simp only[SY] at hc)<;>omega))
 all_goals first
  | exact absurd hc hu
  | (rw[hpu l[1]];exact an.gen (y:=.aU [.agg (aS (fF 5)),.int .i64 0]) (Γ':=bw b K tk (aR s (hput s.h a (l[1]'(by omega))))) hY.res ⟨rfl,rfl⟩)
theorem Nl (ho:t.op=15) (l:List Vl) (hl:l.length=1):
  ah Tryz.prog 115 [.ptr b 0,.agg t.cells,.sl 7 (l.map Vl.pv) none,bF e] (bw b K tk s) (fun y Γ'=> ∃ a,y=.aU [.agg (aS (.mk 11 0 0 [] [] none (some a))),.int .i64 0]∧Γ'=bw b K tk (aR s ((a,.cell (l[0]'(by omega)) false)::s.h))):=by
 refine ah.ai aj Tryz.func115 rfl rfl (n:=173) rfl rfl ?_
 conv=>whnf
 repeat' (first|refine aW ?_|((intro _);conv=>whnf)|(refine zX (fun hc=>?_) (fun hc=>?_)<;>(try simp only[SY] at hc)<;>first|omega|(conv=>whnf)))
 all_goals
  rename_i b1;refine an.OR (aA.box (b:=b1) (cs:= [.int .i64 l[0].k,.int .i64 l[0].n,.int .i64 l[0].d,.str l[0].s,.sl 7 (l[0].l.map Vl.pv) none,mc l[0].p,kF l[0].c,.bfalse]) (cs':=qQ l[0] false) wA) ?_;exact an.gen (y:=.aU [.agg (aS (.mk 11 0 0 [] [] none (some b1))),.int .i64 0]) (Γ':=bw b K tk (aR s ((b1,.cell l[0] false)::s.h))) (hp:=by dsimp only[bw,aR];rw[mS];dsimp only[KB];infer_instance) hY.res ⟨b1,rfl,rfl⟩
theorem rG (n:Int) (cd:bZ) (hn:0≤n∧n < K.c.length) (hcd:K.c[n.toNat]?=some cd) (o:List Vl):
  ah Tryz.prog 112 [.ptr b 0,.int .i64 n,.sl 7 (o.map Vl.pv) none] (bw b K tk s) (fun y Γ'=> ∃ a,y=.agg (aS (cg a))∧Γ'=bw b K tk (aR s ((a,.eH (jg cd n o))::s.h))):=by
 have hcl:K.c[n.toNat]'(by omega)=cd:=by rw[List.getElem?_eq_getElem (by omega)] at hcd;exact Option.some.inj hcd
 refine ah.ai aj Tryz.func112 rfl rfl (n:=26) rfl rfl ?_
 conv=>whnf
 repeat' (first|refine aW ?_|((intro _);conv=>whnf)|(refine zX (fun hc=>?_) (fun hc=>?_)<;>(try simp only[SY] at hc)<;>omega))
 rename_i b1;rw[hcl];refine an.OR (aA.box (b:=b1) (cs:= [.sl 1 (cd.v.map (PV.int .i64)) none,.bool cd.rest,.int .i64 cd.body.op,.int .i64 cd.body.n,.sl 1 (cd.body.v.map (PV.int .i64)) none,.sl 4 (cd.body.t.map aa.pv) none,.np,.int .i64 n,.sl 7 (o.map Vl.pv) none]) (cs':=wW (jg cd n o)) (ia.refl _)) ?_;exact an.gen (y:=.agg (aS (cg b1))) (Γ':=bw b K tk (aR s ((b1,.eH (jg cd n o))::s.h))) (hp:=by dsimp only[bw,aR];rw[mS];dsimp only[KB];infer_instance) (l9.wk (t:=cg b1)) ⟨b1,rfl,rfl⟩
theorem Nf (ho:t.op=19) (l:List Vl) (cd:bZ) (hn:0≤t.n∧t.n < K.c.length) (hcd:K.c[t.n.toNat]?=some cd):
  ah Tryz.prog 115 [.ptr b 0,.agg t.cells,.sl 7 (l.map Vl.pv) none,bF e] (bw b K tk s) (fun y Γ'=> ∃ a,y=.aU [.agg (aS (cg a)),.int .i64 0]∧Γ'=bw b K tk (aR s ((a,.eH (jg cd t.n l))::s.h))):=by
 have hcl:=rG b K tk s t.n cd hn hcd l;refine ah.ai aj Tryz.func115 rfl rfl (n:=173) rfl rfl ?_
 conv=>whnf
 repeat' (first|refine aW ?_|((intro _);conv=>whnf)|(refine zX (fun hc=>?_) (fun hc=>?_)<;>(try simp only[SY] at hc)<;>first|omega|(conv=>whnf)))
 refine au.th hcl (bU.refl _) ?_;rintro _ _ ⟨a,rfl,rfl⟩
 conv=>whnf
 repeat' (first|refine aW ?_|(refine zX (fun hc=>?_) (fun hc=>?_)<;>(try simp only[SY] at hc)<;>omega))
 all_goals exact an.gen (y:=.aU [.agg (aS (cg a)),.int .i64 0]) (Γ':=bw b K tk (aR s ((a,.eH (jg cd t.n l))::s.h))) (Wk.refl _) ⟨a,rfl,rfl⟩
theorem Lg (ho:t.op=22) (l:List Vl) (hl:0 < l.length) (hk:l[0].k=8→ ∃ q pr,l[0].p=some q∧aY s.h q=some pr∧ ¬pr.code=t.n):
  ah Tryz.prog 115 [.ptr b 0,.agg t.cells,.sl 7 (l.map Vl.pv) none,bF e] (bw b K tk s) (fun y Γ'=>y=.aU [.agg (aS bx),.int .i64 1]∧Γ'=bw b K tk s):=by
 by_cases h8:l[0].k=8
 ·obtain ⟨q,pr,h1,h2,h3⟩:=hk h8
  obtain ⟨put,hpb,hpu⟩:=qn h2;refine ah.ai aj Tryz.func115 rfl rfl (n:=173) rfl rfl ?_
  conv=>whnf
  repeat' (first|refine aW ?_|((first|refine uS ?_|intro _);conv=>whnf)|(refine zX (fun hc=>?_) (fun hc=>?_)<;>(try simp only[SY] at hc)<;>first|omega|(conv=>whnf)))
  rw[h1]
  conv=>whnf
  repeat' (first|refine aW ?_|(refine zX (fun hc=>?_) (fun hc=>?_)<;>(try simp only[SY] at hc)<;>first|omega|(conv=>whnf)))
  all_goals exact an.gen (y:=.aU [.agg (aS bx),.int .i64 1]) (Γ':=bw b K tk s) hY.res ⟨rfl,rfl⟩
 ·have hoff: ∀ (x:PV) {E:PV→Prop} {A B:Prop} {L:PV→Prop},L (.opt (!l[0].k !=8) x)→eP (!l[0].k !=8) E A B L:=fun x _ _ _ _ k=>eP.lazy (x:=x) (fun h=>absurd h (by simp[h8])) k
  refine ah.ai aj Tryz.func115 rfl rfl (n:=173) rfl rfl ?_
  conv=>whnf
  repeat' (first|refine aW ?_|((first|refine uS ?_|intro _);conv=>whnf)|(refine zX (fun hc=>?_) (fun hc=>?_)<;>(try simp only[SY] at hc)<;>first|omega|(conv=>whnf)))
  refine hoff .any ?_
  conv=>whnf
  repeat' ((refine zX (fun hc=>?_) (fun hc=>?_)<;>(try simp only[SY] at hc)<;>omega))
  refine hoff .any ?_
  conv=>whnf
  repeat' ((refine zX (fun hc=>?_) (fun hc=>?_)<;>(try simp only[SY] at hc)<;>omega))
  refine hoff .any ?_
  conv=>whnf
  repeat' (first|refine aW ?_|(refine zX (fun hc=>?_) (fun hc=>?_)<;>(try simp only[SY] at hc)<;>omega))
  refine hoff (.bool false) ?_
  conv=>whnf
  repeat' (first|refine aW ?_|(refine zX (fun hc=>?_) (fun hc=>?_)<;>(try simp only[SY] at hc)<;>first|omega|(conv=>whnf)))
  all_goals try exact an.gen (y:=.aU [.agg (aS bx),.int .i64 1]) (Γ':=bw b K tk s) hY.res ⟨rfl,rfl⟩
end
def br (b:Nat) (K:KC) (R:Vl→Int→bJ→Tok→Prop) (y:PV) (Γ':List ak):Prop:= ∃ x c s' tk',y=.aU [.agg (aS x),.int .i64 c]∧Γ'=bw b K tk' s'∧R x c s' tk'
section
variable (b:Nat) (K:KC) (tk:Tok) (s:bJ) (R:Vl→Int→bJ→Tok→Prop)
theorem FB {p q:Prop} (k:q) (h:q→p:=by intro hq;first | exact aC.sP (some 109) rfl [] [9] aj mixed hq | exact aC.sP (some 139) rfl [] [] aj mixed hq):p:=h k
theorem Nd (t:aa) (ho:t.op=5) (e:bq) (l:List Vl) (hl:0 < l.length)
  (hca:ah Tryz.prog 140 [.ptr b 0,.agg (aS (l[0]'hl)),.sl 7 ((l.drop 1).map Vl.pv) none] (bw b K tk s) (br b K R)):
  ah Tryz.prog 115 [.ptr b 0,.agg t.cells,.sl 7 (l.map Vl.pv) none,bF e] (bw b K tk s) (br b K R):=by
 refine ah.ai aj Tryz.func115 rfl rfl (n:=173) rfl rfl ?_
 conv=>whnf
 repeat' (first|refine aW ?_|((intro _);conv=>whnf)|(refine zX (fun hc=>?_) (fun hc=>?_)<;>(try simp only[SY] at hc)<;>first|omega|(conv=>whnf)))
 rename_i b5 b8 b10 _ _ _ _ _ _ _ _ _;refine aC.tree aj mixed [0,0,2,6,0,16,63,127,127,511,1023] [0,1,2,3,4,5] [6,7,8,9,10] (.box b8 [.int .i64 0,.int .i64 0,.int .i64 0,.str [],.nil,.np,.np]::.box b10 [.int .i64 5,.int .i64 0,.int .i64 0,.str [],.nil,.np,.np]::.box b5 [.int .i64 t.op,.int .i64 t.n,.sl 1 (t.v.map (PV.int .i64)) none,.sl 4 (t.t.map aa.pv) none]::bw b K tk s) ?_
 conv=>whnf
 conv=>whnf
 repeat' (first|((first|((apply zZ);exact tB)|(refine And.intro ?_ ?_));conv=>whnf)|(refine zX (fun hc=>?_) (fun hc=>?_)<;>(try simp only[SY] at hc)<;>omega))
 all_goals try exact trivial
 refine au.th hca (bU.refl _) ?_;rintro _ _ ⟨x,c,s',tk',rfl,rfl,hq⟩
 conv=>whnf
 repeat' (first|((first|refine aM ?_|(refine And.intro ?_ ?_)|refine bY nC ?_|refine JO ?_|refine aF ?_);conv=>whnf)|(refine zX (fun hc=>?_) (fun hc=>?_)<;>(try simp only[SY] at hc)<;>omega))
 all_goals try exact trivial
 all_goals exact an.gen (y:=.aU [.agg (aS x),.int .i64 c]) (Γ':=bw b K tk' s') (Wk.refl _) ⟨x,c,s',tk',rfl,rfl,hq⟩
theorem Nh (t:aa) (ho:t.op=22) (e:bq) (l:List Vl) (hl:0 < l.length) (h8:l[0].k=8) (q:Nat) (pr:qH) (h1:l[0].p=some q) (h2:aY s.h q=some pr) (h3:pr.code=t.n)
  (hca:ah Tryz.prog 140 [.ptr b 0,.agg (aS (l[0]'hl)),.sl 7 ((l.drop 1).map Vl.pv) none] (bw b K tk s) (br b K R)):
  ah Tryz.prog 115 [.ptr b 0,.agg t.cells,.sl 7 (l.map Vl.pv) none,bF e] (bw b K tk s) (br b K R):=by
 obtain ⟨put,hpb,hpu⟩:=qn h2;refine ah.ai aj Tryz.func115 rfl rfl (n:=173) rfl rfl ?_
 conv=>whnf
 repeat' (first|refine aW ?_|((first|refine FB ?_|intro _);conv=>whnf)|(refine zX (fun hc=>?_) (fun hc=>?_)<;>(try simp only[SY] at hc)<;>first|omega|(conv=>whnf)))
 rw[h1]
 conv=>whnf
 repeat' (first|refine aW ?_|(refine zX (fun hc=>?_) (fun hc=>?_)<;>(try simp only[SY] at hc)<;>first|omega|(conv=>whnf)))
 rename_i b5 b8 b10 _ _ _ _ _ _ _ _ _ _ _;refine aC.tree aj mixed [0,0,2,6,0,16,63,127,127,511,1023] [0,1,2,3,4,5] [6,7,8,9,10] (.box b8 [.int .i64 0,.int .i64 0,.int .i64 0,.str [],.nil,.np,.np]::.box b10 [.int .i64 5,.int .i64 0,.int .i64 0,.str [],.nil,.np,.np]::.box b5 [.int .i64 t.op,.int .i64 t.n,.sl 1 (t.v.map (PV.int .i64)) none,.sl 4 (t.t.map aa.pv) none]::bw b K tk s) ?_
 conv=>whnf
 conv=>whnf
 repeat' (first|((first|((apply zZ);exact tB)|(refine And.intro ?_ ?_));conv=>whnf)|(refine zX (fun hc=>?_) (fun hc=>?_)<;>(try simp only[SY] at hc)<;>omega))
 all_goals try exact trivial
 refine au.th hca (bU.refl _) ?_;rintro _ _ ⟨x,c,s',tk',rfl,rfl,hq⟩
 conv=>whnf
 repeat' (first|((first|refine aM ?_|(refine And.intro ?_ ?_)|refine bY nC ?_|refine JO ?_|refine aF ?_);conv=>whnf)|(refine zX (fun hc=>?_) (fun hc=>?_)<;>(try simp only[SY] at hc)<;>omega))
 all_goals try exact trivial
 all_goals exact an.gen (y:=.aU [.agg (aS x),.int .i64 c]) (Γ':=bw b K tk' s') (Wk.refl _) ⟨x,c,s',tk',rfl,rfl,hq⟩
theorem Ni (t:aa) (ho:t.op=10) (e:bq) (l:List Vl)
  (hca:ah Tryz.prog 141 [.ptr b 0,.int .i64 t.n,.sl 7 (l.map Vl.pv) none] (bw b K tk s) (br b K R)):
  ah Tryz.prog 115 [.ptr b 0,.agg t.cells,.sl 7 (l.map Vl.pv) none,bF e] (bw b K tk s) (br b K R):=by
 refine ah.ai aj Tryz.func115 rfl rfl (n:=173) rfl rfl ?_
 conv=>whnf
 repeat' (first|refine aW ?_|((intro _);conv=>whnf)|(refine zX (fun hc=>?_) (fun hc=>?_)<;>(try simp only[SY] at hc)<;>first|omega|(conv=>whnf)))
 refine au.th hca (bU.refl _) ?_;rintro _ _ ⟨x,c,s',tk',rfl,rfl,hq⟩
 conv=>whnf
 repeat' (first|refine aW ?_|((refine bY nC ?_);conv=>whnf)|(refine zX (fun hc=>?_) (fun hc=>?_)<;>(try simp only[SY] at hc)<;>omega))
 all_goals try exact trivial
 all_goals exact an.gen (y:=.aU [.agg (aS x),.int .i64 c]) (Γ':=bw b K tk' s') (Wk.refl _) ⟨x,c,s',tk',rfl,rfl,hq⟩
theorem xu {p q:Prop} (k:q) (h:q→p:=by intro hq;first | exact aC.sP (some 31) rfl [] [] aj mixed hq | exact aC.sP (some 84) rfl [] [12,13] aj mixed hq):p:=h k
theorem Mj (f:Vl) (hk:f.k=9) (l:List Vl)
  (hca:ah Tryz.prog 141 [.ptr b 0,.int .i64 f.n,.sl 7 (l.map Vl.pv) none] (bw b K tk s) (br b K R)):
  ah Tryz.prog 140 [.ptr b 0,.agg (aS f),.sl 7 (l.map Vl.pv) none] (bw b K tk s) (br b K R):=by
 refine ah.ai aj Tryz.func140 rfl rfl (n:=111) rfl rfl ?_
 conv=>whnf
 repeat' (first|refine aW ?_|((intro _);conv=>whnf)|(refine zX (fun hc=>?_) (fun hc=>?_)<;>(try simp only[SY] at hc)<;>first|omega|(conv=>whnf)))
 refine au.th hca (bU.refl _) ?_;rintro _ _ ⟨x,c,s',tk',rfl,rfl,hq⟩
 conv=>whnf
 repeat' (first|refine aW ?_|((refine bY nC ?_);conv=>whnf)|(refine zX (fun hc=>?_) (fun hc=>?_)<;>(try simp only[SY] at hc)<;>omega))
 all_goals try exact trivial
 all_goals exact an.gen (y:=.aU [.agg (aS x),.int .i64 c]) (Γ':=bw b K tk' s') (Wk.refl _) ⟨x,c,s',tk',rfl,rfl,hq⟩
theorem Mi (f:Vl) (hk:f.k=10) (l:List Vl) (hl: ¬l.length=1):
  ah Tryz.prog 140 [.ptr b 0,.agg (aS f),.sl 7 (l.map Vl.pv) none] (bw b K tk s) (fun y Γ'=>y=.aU [.agg (aS bx),.int .i64 2]∧Γ'=bw b K tk s):=by
 refine ah.ai aj Tryz.func140 rfl rfl (n:=111) rfl rfl ?_
 conv=>whnf
 repeat' (first|refine aW ?_|((intro _);conv=>whnf)|(refine zX (fun hc=>?_) (fun hc=>?_)<;>(try simp only[SY] at hc)<;>first|omega|(conv=>whnf)))
 all_goals exact an.gen (y:=.aU [.agg (aS bx),.int .i64 2]) (Γ':=bw b K tk s) hY.res ⟨rfl,rfl⟩
theorem Mg (f:Vl) (hk:f.k=10) (l:List Vl) (hl:l.length=1) (hn:0≤f.n∧f.n < s.alive.length) (ht:tk.s=1):
  ah Tryz.prog 140 [.ptr b 0,.agg (aS f),.sl 7 (l.map Vl.pv) none] (bw b K tk s) (fun y Γ'=>(s.alive[f.n.toNat]'(by omega)=false∧y=.aU [.agg (aS bx),.int .i64 6]∧Γ'=bw b K tk s)∨(s.alive[f.n.toNat]'(by omega)=true∧y=.aU [.agg (aS bx),.int .i64 100]∧Γ'=bw b K tk ⟨s.fuel,s.out,s.alive,f.n,l[0],s.h⟩)):=by
 refine ah.ai aj Tryz.func140 rfl rfl (n:=111) rfl rfl ?_
 conv=>whnf
 repeat' (first|refine aW ?_|((first|refine bY nC ?_|refine xu ?_|intro _);conv=>whnf)|(refine zX (fun hc=>?_) (fun hc=>?_)<;>(try simp only[SY] at hc)<;>first|omega|(conv=>whnf)))
 ·exact an.gen (y:=.aU [.agg (aS bx),.int .i64 6]) (Γ':=bw b K tk s) hY.res (Or.inl ⟨by simpa using hc,rfl,rfl⟩)
 ·exact an.gen (y:=.aU [.agg (aS bx),.int .i64 100]) (Γ':=bw b K tk ⟨s.fuel,s.out,s.alive,f.n,l[0],s.h⟩) hY.res (Or.inr ⟨by simpa using hc,rfl,rfl⟩)
theorem Mf (f:Vl) (hk: ¬f.k=8∧ ¬f.k=9∧ ¬f.k=10) (l:List Vl):
  ah Tryz.prog 140 [.ptr b 0,.agg (aS f),.sl 7 (l.map Vl.pv) none] (bw b K tk s) (fun y Γ'=>y=.aU [.agg (aS bx),.int .i64 1]∧Γ'=bw b K tk s):=by
 refine ah.ai aj Tryz.func140 rfl rfl (n:=111) rfl rfl ?_
 conv=>whnf
 repeat' (first|refine aW ?_|((intro _);conv=>whnf)|(refine zX (fun hc=>?_) (fun hc=>?_)<;>(try simp only[SY] at hc)<;>first|omega|(conv=>whnf)))
 all_goals exact an.gen (y:=.aU [.agg (aS bx),.int .i64 1]) (Γ':=bw b K tk s) hY.res ⟨rfl,rfl⟩
theorem FC {p q:Prop} (k:q) (h:q→p:=by intro hq;first | exact aC.sT (some 16) rfl [0,5] [10,11,12,13,14] aj mixed hq):p:=h k
theorem yj (l:List Vl) (k:Nat) (hk:k≤1000000000) (r:Bool) (h1:r=true→1≤k) (hl:l.length≤1000000000):ay Tryz.prog 157 [.sl 7 (l.map Vl.pv) none,.int .i64 k,.bool r] (.aU [.sl 7 (((jr l k r).getD l).map Vl.pv) none,.bool (jr l k r).isSome]):=by
 rcases r with _ | _
 ·have e:jr l k false=if l.length=k then some l else none:=by unfold jr;rw[if_neg (by simp)];simp
  refine ah.ai aj Tryz.func157 rfl rfl (n:=38) rfl rfl ?_
  conv=>whnf
  repeat' (first|refine aW ?_|(refine zX (fun hc=>?_) (fun hc=>?_)<;>(try simp only[SY] at hc)<;>(conv=>whnf)))
  refine an.pure (Wk.aU (.cons ?_ (.cons (Wk.bool ?_) .nil)))
  ·rw[e]
   split<;>exact Wk.refl _
  ·rw[e,Bool.eq_iff_iff]
   split<;>simp<;>omega
 ·have hk1:=h1 rfl
  have e:jr l k true=if k≤l.length + 1 then some (l.take (k - 1)++ [mu (l.drop (k - 1))]) else none:=by
   unfold jr;simp
  have hls:=EI (l.drop (k - 1));refine ah.ai aj Tryz.func157 rfl rfl (n:=38) rfl rfl ?_
  conv=>whnf
  repeat' (first|refine aW ?_|((first|refine pC (hls) wR ?_|refine FC ?_|intro _);conv=>whnf)|(refine zX (fun hc=>?_) (fun hc=>?_)<;>(try simp only[SY] at hc)<;>(conv=>whnf)))
  ·rw[e,if_pos (by omega)]
   exact an.pure (Wk.aU (.cons (Wk.tok _ _ _) (.cons (Wk.tt rfl) .nil)))
  ·rw[e,if_neg (by omega)]
   exact an.pure (Wk.aU (.cons (Wk.refl _) (.cons (Wk.bool (by simp)) .nil)))
theorem Ji {l xs:List Vl} {k:Nat} {r:Bool} (h1:r=true→1≤k) (h:jr l k r=some xs):xs.length=k:=by
 unfold jr at h
 split at h
 ·rename_i hc
  have:=h1 hc.1;rw[←Option.some.inj h];simp;omega
 ·split at h
  ·rename_i hc
   rw[←Option.some.inj h,hc.2]
  ·cases h
theorem va {q:Nat} {c:List PV}: ∀ (l:List Vl) (az:List Nat) (h:Hp),(∃ put,ee (nP h) q c put)→ ∃ put,ee (nP (eM h l az)) q c put
 | [],_,h,hp=>by simpa only[eM] using hp
 | _::_, [],h,hp=>by simpa only[eM] using hp
 | x::l,a::az,h,hp=>by
  obtain ⟨put,⟨h1,h2,e1,e2⟩⟩:=hp;rw[eM];refine va l az _ ⟨fun cs'=>.box a (qQ x false)::put cs',⟨.box a (qQ x false)::h1,h2,?_,fun _=>?_⟩⟩
  ·rw[mS,e1]
   rfl
  ·rw[e2]
   rfl
theorem Mh (f:Vl) (hk:f.k=8) (q:Nat) (cl:qH) (hp:f.p=some q) (hg:aY s.h q=some cl) (l:List Vl) (hl:l.length≤1000000000) (hz:cl.v.length≤1000000000) (hr:cl.rest=true→1≤cl.v.length) (hx:jr l cl.v.length cl.rest=none):
  ah Tryz.prog 140 [.ptr b 0,.agg (aS f),.sl 7 (l.map Vl.pv) none] (bw b K tk s) (fun y Γ'=>y=.aU [.agg (aS bx),.int .i64 2]∧Γ'=bw b K tk s):=by
 have hsp:=yj l cl.v.length hz cl.rest hr hl;rw[hx] at hsp;simp only[Option.getD_none,Option.isSome_none] at hsp;obtain ⟨put,hpb,hpu⟩:=qn hg;refine ah.ai aj Tryz.func140 rfl rfl (n:=111) rfl rfl ?_
 conv=>whnf
 repeat' (first|refine aW ?_|((intro _);conv=>whnf)|(refine zX (fun hc=>?_) (fun hc=>?_)<;>(try simp only[SY] at hc)<;>first|omega|(conv=>whnf)))
 rw[hp]
 conv=>whnf
 repeat' (first|refine aW ?_|((first|refine pC (hsp) wR ?_|intro _);conv=>whnf)|(refine zX (fun hc=>?_) (fun hc=>?_)<;>(try simp only[SY] at hc)<;>(conv=>whnf)))
 all_goals exact an.gen (y:=.aU [.agg (aS bx),.int .i64 2]) (Γ':=bw b K tk s) hY.res ⟨rfl,rfl⟩
theorem NQ (x:Vl) (hk:x.k=8) (q:Nat) (cl:qH) (hp:x.p=some q) (hg:aY s.h q=some cl) (l0 l:List Vl) (hl0:l0.length≤1000000000) (hz:cl.v.length≤1000000000) (hr:cl.rest=true→1≤cl.v.length) (hx:jr l0 cl.v.length cl.rest=some l)
  (hev: ∀ az:List Nat,az.length=cl.v.length→ah Tryz.prog 87 [.ptr b 0,.agg cl.body.cells,bF (bM cl.env cl.v az),.sl 7 (cl.over.map Vl.pv) none] (bw b K tk (aR s (eM s.h l az))) (br b K R)):
  ah Tryz.prog 140 [.ptr b 0,.agg (aS x),.sl 7 (l0.map Vl.pv) none] (bw b K tk s) (br b K R):=by
 have hlen:=Ji hr hx;have hsp:=yj l0 cl.v.length hz cl.rest hr hl0;rw[hx] at hsp;simp only[Option.getD_some,Option.isSome_some] at hsp;obtain ⟨put,hpb,hpu⟩:=qn hg;refine ah.ai aj Tryz.func140 rfl rfl (n:=111) rfl rfl ?_
 conv=>whnf
 repeat' (first|refine aW ?_|((intro _);conv=>whnf)|(refine zX (fun hc=>?_) (fun hc=>?_)<;>(try simp only[SY] at hc)<;>first|omega|(conv=>whnf)))
 rw[hp]
 conv=>whnf
 repeat' (first|refine aW ?_|((first|refine pC (hsp) wR ?_|intro _);conv=>whnf)|(refine zX (fun hc=>?_) (fun hc=>?_)<;>(try simp only[SY] at hc)<;>(conv=>whnf)))
 rename_i b4 b6 _ _ _ _
 have hL: ∀ i (az:List Nat) (a:Nat) (_:az.length=i) (h:i < l.length),nP (eM s.h (l.take (i + 1)) (az++ [a]))=.box a (qQ (l[i]'h) false)::nP (eM s.h (l.take i) az):=fun i az a h1 h=>by
  rw[List.take_succ_eq_append_getElem h,vb _ _ _ _ _ (by rw[List.length_take];omega)];rfl
 have e0:bw b K tk s=bw b K tk (aR s (eM s.h (l.take 0) [])):=rfl;rw[e0]
 refine aI.over [12,13,79,80,81,82,83,84,85,86,87,88,89,90,91,92,93,94,95,96] (fun x:Nat×List Nat=> [(12,bF (bM cl.env (cl.v.take x.1) x.2)),(13,.int .i64 x.1)]) (fun x:Nat×List Nat=>.box b6 [.int .i64 0,.int .i64 0,.int .i64 0,.str [],.nil,.np,.np]::bw b K tk (aR s (eM s.h (l.take x.1) x.2)))
  (fun x=>x.1≤l.length∧x.2.length=x.1) (fun x=>l.length - x.1) (0, []) ⟨Nat.zero_le _,rfl⟩ wA ?_
 rintro ⟨i,az⟩ ⟨hi,ha⟩;dsimp only at hi ha ⊢;obtain ⟨put2,(hp2:ee (nP (aR s (eM s.h (l.take i) az)).h) q (wW cl) put2)⟩:=va (l.take i) az s.h ⟨put,hpb⟩
 conv=>whnf
 repeat' (first|refine aW ?_|((refine xu ?_);conv=>whnf)|(refine zX (fun hc=>?_) (fun hc=>?_)<;>(try simp only[SY] at hc)<;>(conv=>whnf)))
 ·have h1:i < l.length:=by omega
  refine au.go (Γ1:= []) (yV _ _ l[i] false) (.cons (Wk.refl _) (.cons (Wk.refl _) (.cons (Wk.refl _) (.cons (Wk.ff rfl) .nil)))) ?_;rintro _ _ ⟨a,rfl,rfl⟩
  conv=>whnf
  repeat' (first|refine aW ?_|(refine zX (fun hc=>?_) (fun hc=>?_)<;>(try simp only[SY] at hc)<;>omega))
  have e1:=hL i az a ha h1;have e2:(cl.v.take (i + 1))=cl.v.take i++ [cl.v[i]'(by omega)]:=List.take_succ_eq_append_getElem (by omega);refine aJ (i + 1,az++ [a]) ⟨by show i + 1≤_;omega,by show (az++ [a]).length=i + 1;simp;omega⟩ (by show l.length - (i + 1) < l.length - i;omega) (by dsimp only;rw[e2,kX _ _ _ _ _ (by rw[List.length_take];omega)];exact wA) (hp:=by dsimp only[bw,aR];rw[e1];infer_instance)
 ·obtain rfl:i=l.length:=by omega
  rw[List.take_length,List.take_of_length_le (by omega:cl.v.length≤l.length)];obtain ⟨put3,(hp3:ee (nP (aR s (eM s.h l az)).h) q (wW cl) put3)⟩:=va l az s.h ⟨put,hpb⟩;refine aC.tree aj mixed [0,0,2,6,14,0,0,64,192,448,1023,2047,2047,8191,16383] [0,1,2,3,5,6,7,8] [4,9,10,11,12,13,14] (.box b6 [.int .i64 0,.int .i64 0,.int .i64 0,.str [],.nil,.np,.np]::bw b K tk (aR s (eM s.h l az))) ?_
  conv=>whnf
  conv=>whnf
  repeat' (first|((first|((apply zZ);exact tB)|refine aM ?_|(refine And.intro ?_ ?_));conv=>whnf)|(refine zX (fun hc=>?_) (fun hc=>?_)<;>(try simp only[SY] at hc)<;>omega))
  all_goals try exact trivial
  all_goals
   refine au.th (hev az (by omega)) (bU.refl _) ?_;rintro _ _ ⟨y,c,s',tk',rfl,rfl,hq⟩
   conv=>whnf
   repeat' (first|((first|refine aM ?_|(refine And.intro ?_ ?_)|refine bY nC ?_|refine JO ?_|refine aF ?_);conv=>whnf)|(refine zX (fun hc=>?_) (fun hc=>?_)<;>(try simp only[SY] at hc)<;>omega))
  all_goals try exact trivial
  all_goals
   rename_i y c s' tk' hq;exact an.gen (y:=.aU [.agg (aS y),.int .i64 c]) (Γ':=bw b K tk' s') (Wk.refl _) ⟨y,c,s',tk',rfl,rfl,hq⟩
end
instance:dy PV.bool .bB true:=⟨Wk.tt rfl,.cons (Wk.tt rfl) .nil⟩
instance:dy PV.bool .bfalse false:=⟨Wk.ff rfl,.cons (Wk.ff rfl) .nil⟩
abbrev K4 (s:bJ) (i:Nat):bJ:=⟨s.fuel,s.out,s.alive.set i false,s.to,s.val,s.h⟩
abbrev Oo (s:bJ):bJ:=⟨s.fuel,s.out,s.alive++ [true],s.to,s.val,s.h⟩
theorem au.P5 {P:Program} {f:FuncId} {args args':List PV} {Γ Γ1 Γ2:List ak} {Q K:PV→List ak→Prop} (h:ah P f args' Γ1 Q) (hw:bU args args') [hp:cr Γ Γ1 Γ2]
  (k: ∀ y Γ1',Q y Γ1'→ic Γ1' Γ2 fun Γ'=>K y Γ'):au P f args Γ K:=by
 refine ⟨.inl (((h.wk hw).frame hp.p).shift ?_)⟩;rintro y Γ' ⟨Γ1',rfl,hq⟩;have:=k y Γ1' hq;rw[eS] at this;exact ⟨y,Γ1'++Γ2,Shift.wk (Wk.refl _) (Γ1:= []) (by rw[List.append_nil]),this⟩
section
variable (b:Nat) (K:KC) (tk:Tok) (s:bJ) (R:Vl→Int→bJ→Tok→Prop)
theorem HI (f:Vl) (he:tk.e=4) (hs:tk.s=1) (ha:s.alive.length≤1000000000) (R1:Vl→Int→bJ→Tok→Prop)
  (hR: ∀ x c s' tk',R1 x c s' tk'→s.alive.length < s'.alive.length∧tk'.s=1∧(c=100∧s'.to=s.alive.length→R s'.val 0 (K4 s' s.alive.length) tk')∧(¬(c=100∧s'.to=s.alive.length)→R x c (K4 s' s.alive.length) tk'))
  (hca: ∀ tk1:Tok,tk1.e=4→tk1.s=1→ah Tryz.prog 140 [.ptr b 0,.agg (aS f),.sl 7 ([uT s.alive.length].map Vl.pv) none] (bw b K tk1 (Oo s)) (br b K R1)):
  ah Tryz.prog 159 [.ptr b 0,.agg (aS f)] (bw b K tk s) (br b K R):=by
 refine ah.ai aj Tryz.func159 rfl rfl (n:=54) rfl rfl ?_
 conv=>whnf
 repeat' (first|refine aW ?_|((first|refine l6.map fun _=>?_|intro _);conv=>whnf)|(refine zX (fun hc=>?_) (fun hc=>?_)<;>(try simp only[SY] at hc)<;>omega))
 refine au.th (hca _ (by assumption) (by assumption)) (.cons (Wk.refl _) (.cons (Wk.refl _) (.cons (mh.wk (f:=Vl.pv) (l:= [uT s.alive.length])) .nil))) ?_;rintro _ _ ⟨x,c,s',tk',rfl,rfl,hq⟩;obtain ⟨q1,q2,q3,q4⟩:=hR _ _ _ _ hq
 conv=>whnf
 repeat' (first|refine aW ?_|((first|refine bY nC ?_|intro _);conv=>whnf)|(refine zX (fun hc=>?_) (fun hc=>?_)<;>(try simp only[SY] at hc)<;>(conv=>whnf)))
 ·have hc':c=100∧s'.to=s.alive.length:=by omega
  exact an.gen (y:=.aU [.agg (aS s'.val),.int .i64 0]) (Γ':=bw b K tk' (K4 s' s.alive.length)) (Wk.refl _) ⟨_,_,_,_,rfl,rfl,q3 hc'⟩
 ·have hc': ¬(c=100∧s'.to=s.alive.length):=by omega
  exact an.gen (y:=.aU [.agg (aS x),.int .i64 c]) (Γ':=bw b K tk' (K4 s' s.alive.length)) (Wk.refl _) ⟨_,_,_,_,rfl,rfl,q4 hc'⟩
theorem jy (n:Int) (k:Nat) (hk:k≤1000000000):ay Tryz.prog 158 [.int .i64 n,.int .i64 k] (.bool (gF n k)):=by
 have h:=yt n k hk;refine ah.ai aj Tryz.func158 rfl rfl (n:=8) rfl rfl ?_
 conv=>whnf
 repeat' (first|((refine pC (h) wR ?_);conv=>whnf)|(refine zX (fun hc=>?_) (fun hc=>?_)<;>(try simp only[SY] at hc)<;>omega))
 exact an.pure (Wk.refl _)
theorem KN (n:Int) (l:List Vl) (hl:l.length≤1000000000) (ht:gF n l.length=false):
  ah Tryz.prog 141 [.ptr b 0,.int .i64 n,.sl 7 (l.map Vl.pv) none] (bw b K tk s) (fun y Γ'=>y=.aU [.agg (aS bx),.int .i64 2]∧Γ'=bw b K tk s):=by
 have h:=jy n l.length hl;rw[ht] at h;refine ah.ai aj Tryz.func141 rfl rfl (n:=63) rfl rfl ?_
 conv=>whnf
 repeat' (first|refine aW ?_|((first|refine pC (h) wR ?_|intro _);conv=>whnf)|(refine zX (fun hc=>?_) (fun hc=>?_)<;>(try simp only[SY] at hc)<;>(conv=>whnf)))
 all_goals exact an.gen (y:=.aU [.agg (aS bx),.int .i64 2]) (Γ':=bw b K tk s) hY.res ⟨rfl,rfl⟩
theorem KO (l:List Vl) (hl:l.length=1):
  ah Tryz.prog 141 [.ptr b 0,.int .i64 28,.sl 7 (l.map Vl.pv) none] (bw b K tk s) (fun y Γ'=>y=.aU [.agg (aS bx),.int .i64 7]∧Γ'=bw b K tk ⟨s.fuel,s.out,s.alive,s.to,l[0],s.h⟩):=by
 have h:=jy 28 l.length (by omega);rw[hl,show gF 28 1=true by decide, ←hl] at h;refine ah.ai aj Tryz.func141 rfl rfl (n:=63) rfl rfl ?_
 conv=>whnf
 repeat' (first|refine aW ?_|((first|refine bY nC ?_|refine pC (h) wR ?_|intro _);conv=>whnf)|(refine zX (fun hc=>?_) (fun hc=>?_)<;>(try simp only[SY] at hc)<;>(conv=>whnf)))
 all_goals exact an.gen (y:=.aU [.agg (aS bx),.int .i64 7]) (Γ':=bw b K tk ⟨s.fuel,s.out,s.alive,s.to,l[0],s.h⟩) hY.res ⟨rfl,rfl⟩
theorem KL (l:List Vl) (hl:l.length=1)
  (hca:ah Tryz.prog 159 [.ptr b 0,.agg (aS l[0])] (bw b K tk s) (br b K R)):
  ah Tryz.prog 141 [.ptr b 0,.int .i64 29,.sl 7 (l.map Vl.pv) none] (bw b K tk s) (br b K R):=by
 have h:=jy 29 l.length (by omega);rw[hl,show gF 29 1=true by decide, ←hl] at h;refine ah.ai aj Tryz.func141 rfl rfl (n:=63) rfl rfl ?_
 conv=>whnf
 repeat' (first|refine aW ?_|((first|refine pC (h) wR ?_|intro _);conv=>whnf)|(refine zX (fun hc=>?_) (fun hc=>?_)<;>(try simp only[SY] at hc)<;>first|omega|(conv=>whnf)))
 refine au.th hca (bU.refl _) ?_;rintro _ _ ⟨x,c,s',tk',rfl,rfl,hq⟩
 conv=>whnf
 repeat' (first|refine aW ?_|((refine bY nC ?_);conv=>whnf)|(refine zX (fun hc=>?_) (fun hc=>?_)<;>(try simp only[SY] at hc)<;>omega))
 all_goals exact an.gen (y:=.aU [.agg (aS x),.int .i64 c]) (Γ':=bw b K tk' s') (Wk.refl _) ⟨x,c,s',tk',rfl,rfl,hq⟩
theorem KM (l:List Vl) (hl:l.length=2) (htx:l[1].tx=true) (hi:l[1].fW.1.length≤1000000000) (hk: ¬l[1].fW.2.k=4):
  ah Tryz.prog 141 [.ptr b 0,.int .i64 30,.sl 7 (l.map Vl.pv) none] (bw b K tk s) (fun y Γ'=>y=.aU [.agg (aS bx),.int .i64 1]∧Γ'=bw b K tk s):=by
 have h:=jy 30 l.length (by omega);rw[hl,show gF 30 2=true by decide, ←hl] at h;have hit:=vn l[1] htx hi;rw[show (l[1].fW.2.k == 4)=false by simpa using hk] at hit;refine ah.ai aj Tryz.func141 rfl rfl (n:=63) rfl rfl ?_
 conv=>whnf
 repeat' (first|refine aW ?_|((first|refine pC (h) wR ?_|refine pC (hit) wR ?_|intro _);conv=>whnf)|(refine zX (fun hc=>?_) (fun hc=>?_)<;>(try simp only[SY] at hc)<;>first|omega|(conv=>whnf)))
 all_goals exact an.gen (y:=.aU [.agg (aS bx),.int .i64 1]) (Γ':=bw b K tk s) hY.res ⟨rfl,rfl⟩
theorem KK (l:List Vl) (hl:l.length=2) (htx:l[1].tx=true) (hi:l[1].fW.1.length≤1000000000) (hk:l[1].fW.2.k=4)
  (hca:ah Tryz.prog 140 [.ptr b 0,.agg (aS l[0]),.sl 7 (l[1].fW.1.map Vl.pv) none] (bw b K tk s) (br b K R)):
  ah Tryz.prog 141 [.ptr b 0,.int .i64 30,.sl 7 (l.map Vl.pv) none] (bw b K tk s) (br b K R):=by
 have h:=jy 30 l.length (by omega);rw[hl,show gF 30 2=true by decide, ←hl] at h;have hit:=vn l[1] htx hi;rw[show (l[1].fW.2.k == 4)=true by simpa using hk] at hit;refine ah.ai aj Tryz.func141 rfl rfl (n:=63) rfl rfl ?_
 conv=>whnf
 repeat' (first|refine aW ?_|((first|refine pC (h) wR ?_|refine pC (hit) wR ?_|intro _);conv=>whnf)|(refine zX (fun hc=>?_) (fun hc=>?_)<;>(try simp only[SY] at hc)<;>first|omega|(conv=>whnf)))
 refine au.th hca (bU.refl _) ?_;rintro _ _ ⟨x,c,s',tk',rfl,rfl,hq⟩
 conv=>whnf
 repeat' (first|refine aW ?_|((refine bY nC ?_);conv=>whnf)|(refine zX (fun hc=>?_) (fun hc=>?_)<;>(try simp only[SY] at hc)<;>omega))
 all_goals exact an.gen (y:=.aU [.agg (aS x),.int .i64 c]) (Γ':=bw b K tk' s') (Wk.refl _) ⟨x,c,s',tk',rfl,rfl,hq⟩
theorem KP (n:Int) (hn:n < 28) (l:List Vl) (hl:l.length≤1000000000) (ht:gF n l.length=true) (ho:s.out.length≤1000000000) (hS:oq n l):
  ah Tryz.prog 141 [.ptr b 0,.int .i64 n,.sl 7 (l.map Vl.pv) none] (bw b K tk s) (fun y Γ'=>y=.aU [.agg (aS (gD n l).1),.int .i64 (gD n l).2.1]∧Γ'=bw b K tk (Af s (gD n l).2.2)):=by
 have h:=jy n l.length hl;rw[ht] at h;have hs:=hS b K tk s ho;refine ah.ai aj Tryz.func141 rfl rfl (n:=63) rfl rfl ?_
 conv=>whnf
 repeat' (first|refine aW ?_|((first|refine pC (h) wR ?_|intro _);conv=>whnf)|(refine zX (fun hc=>?_) (fun hc=>?_)<;>(try simp only[SY] at hc)<;>first|omega|(conv=>whnf)))
 refine au.P5 hs (bU.refl _) ?_;rintro _ _ ⟨rfl,rfl⟩
 conv=>whnf
 repeat' (first|refine aW ?_|((refine bY nC ?_);conv=>whnf)|(refine zX (fun hc=>?_) (fun hc=>?_)<;>(try simp only[SY] at hc)<;>omega))
 all_goals exact an.gen (y:=.aU [.agg (aS (gD n l).1),.int .i64 (gD n l).2.1]) (Γ':=bw b K tk (Af s (gD n l).2.2)) (Wk.refl _) ⟨rfl,rfl⟩
end
def uk (b:Nat) (K:KC) (R:List Vl→Int→bJ→Tok→Prop) (y:PV) (Γ':List ak):Prop:= ∃ x c s' tk',y=.aU [.sl 7 (x.map Vl.pv) none,.int .i64 c]∧Γ'=bw b K tk' s'∧R x c s' tk'
section
variable (b:Nat) (K:KC) (o:List Vl)
theorem L9 (e:bq) (l:List aa) (hl:l.length≤1000000000) (P:Nat→List Vl→bJ→Tok→Prop) (R:List Vl→Int→bJ→Tok→Prop) (s:bJ) (tk:Tok) (h0:P 0 [] s tk)
  (H: ∀ i m s tk,P i m s tk→ ∀ h:i < l.length,ah Tryz.prog 87 [.ptr b 0,.agg l[i].cells,bF e,fo o] (bw b K tk s) (br b K fun x c s' tk'=>(c=0→P (i + 1) (m++ [x]) s' tk')∧(¬c=0→R [] c s' tk')))
  (hE: ∀ m s tk,P l.length m s tk→R m 0 s tk):
  ah Tryz.prog 114 [.ptr b 0,.sl 4 (l.map aa.pv) none,bF e,fo o] (bw b K tk s) (uk b K R):=by
 refine ah.ai aj Tryz.func114 rfl rfl (n:=39) rfl rfl ?_
 conv=>whnf
 skip
 refine aI.gh (aA.nil 7 140 _) ?_
 refine aI.over [8,9,10,11,12,13,14,15,16,17,18,19,20,21,22,23,24,25,26,27,28,29,30,31,32,33,34,35,36,37] (fun x:Nat×List Vl×Tok×bJ×Tok=> [(10,.sl 7 (x.2.1.map Vl.pv) (some x.2.2.1)),(11,.int .i64 x.1)]) (fun x:Nat×List Vl×Tok×bJ×Tok=>.tok x.2.2.1::bw b K x.2.2.2.2 x.2.2.2.1)
  (fun x=>x.1≤l.length∧x.2.2.1.e=140∧x.2.1.length=x.1∧P x.1 x.2.1 x.2.2.2.1 x.2.2.2.2) (fun x=>l.length - x.1) (0, [],aT 7 140,s,tk) ⟨Nat.zero_le _,rfl,rfl,h0⟩ wA ?_
 rintro ⟨i,m,t1,s1,tk1⟩ ⟨hi,ht,hm,hP⟩;dsimp only at hi ht hm hP ⊢;have hml:m.length≤1000000000:=by omega
 conv=>whnf
 repeat' (first|refine aW ?_|((intro _);conv=>whnf)|(refine zX (fun hc=>?_) (fun hc=>?_)<;>(try simp only[SY] at hc)<;>(conv=>whnf)))
 ·have h1:i < l.length:=by omega
  refine au.th (H i m s1 tk1 hP h1) (bU.refl _) ?_;rintro _ _ ⟨x,c,s',tk',rfl,rfl,hq,hr⟩
  conv=>whnf
  repeat' (first|refine aW ?_|((first|refine bY nC ?_|intro _);conv=>whnf)|(refine zX (fun hc=>?_) (fun hc=>?_)<;>(try simp only[SY] at hc)<;>(conv=>whnf)))
  ·exact an.gen (y:=.aU [.sl 7 (([]:List Vl).map Vl.pv) none,.int .i64 c]) (Γ':=bw b K tk' s') (Wk.aU (.cons (Wk.lp rfl) (.cons (Wk.refl _) .nil))) ⟨[],c,s',tk',rfl,rfl,hr hc⟩
  ·rename_i t2 ht2
   exact aJ (i + 1,m++ [x],t2,s',tk') ⟨by show i + 1≤_;omega,ht2,by show (m++ [x]).length=i + 1;simp;omega,hq hc⟩ (by show l.length - (i + 1) < l.length - i;omega) wA
 ·obtain rfl:i=l.length:=by omega
  exact an.gen (y:=.aU [.sl 7 (m.map Vl.pv) none,.int .i64 0]) (Γ':=bw b K tk1 s1) (Wk.aU (.cons (Wk.tok _ _ _) (.cons (Wk.refl _) .nil))) ⟨m,0,s1,tk1,rfl,rfl,hE m s1 tk1 hP⟩
variable (tk:Tok) (s:bJ) (t:aa) (e:bq) (R:Vl→Int→bJ→Tok→Prop)
theorem rI {p q:Prop} (k:q) (h:q→p:=by intro hq;first | exact aC.sP (some 32) rfl [] [8,9] aj mixed hq | exact aC.sP (some 73) rfl [] [11,12,13,14] aj mixed hq):p:=h k
theorem HK (h0:s.fuel≤0):
  ah Tryz.prog 87 [.ptr b 0,.agg t.cells,bF e,fo o] (bw b K tk s) (fun y Γ'=>y=.aU [.agg (aS bx),.int .i64 8]∧Γ'=bw b K tk s):=by
 refine ah.ai aj Tryz.func87 rfl rfl (n:=181) rfl rfl ?_
 conv=>whnf
 repeat' (first|refine aW ?_|((intro _);conv=>whnf)|(refine zX (fun hc=>?_) (fun hc=>?_)<;>(try simp only[SY] at hc)<;>first|omega|(conv=>whnf)))
 all_goals exact an.gen (y:=.aU [.agg (aS bx),.int .i64 8]) (Γ':=bw b K tk s) hY.res ⟨rfl,rfl⟩
theorem N2 (h0:0 < s.fuel∧s.fuel≤1000000) (ho:t.op=13):
  ah Tryz.prog 87 [.ptr b 0,.agg t.cells,bF e,fo o] (bw b K tk s) (fun y Γ'=>y=.aU [.agg (aS (fF 12)),.int .i64 0]∧Γ'=bw b K tk (bf s)):=by
 refine ah.ai aj Tryz.func87 rfl rfl (n:=181) rfl rfl ?_
 conv=>whnf
 repeat' (first|refine aW ?_|((intro _);conv=>whnf)|(refine zX (fun hc=>?_) (fun hc=>?_)<;>(try simp only[SY] at hc)<;>first|omega|(conv=>whnf)))
 all_goals exact an.gen (y:=.aU [.agg (aS (fF 12)),.int .i64 0]) (Γ':=bw b K tk (bf s)) hY.res ⟨rfl,rfl⟩
theorem NZ (h0:0 < s.fuel∧s.fuel≤1000000) (ho:t.op=11):
  ah Tryz.prog 87 [.ptr b 0,.agg t.cells,bF e,fo o] (bw b K tk s) (fun y Γ'=>y=.aU [.agg (aS (.mk 9 t.n 0 [] [] none none)),.int .i64 0]∧Γ'=bw b K tk (bf s)):=by
 refine ah.ai aj Tryz.func87 rfl rfl (n:=181) rfl rfl ?_
 conv=>whnf
 repeat' (first|refine aW ?_|((intro _);conv=>whnf)|(refine zX (fun hc=>?_) (fun hc=>?_)<;>(try simp only[SY] at hc)<;>first|omega|(conv=>whnf)))
 all_goals exact an.gen (y:=.aU [.agg (aS (.mk 9 t.n 0 [] [] none none)),.int .i64 0]) (Γ':=bw b K tk (bf s)) hY.res ⟨rfl,rfl⟩
theorem N0 (h0:0 < s.fuel∧s.fuel≤1000000) (ho:t.op=1) (a:Nat) (hf:fc e t.n=some a) (x:Vl) (r:Bool) (hg:aL s.h a=some (x,r)) (hu: ¬(r=true∧x.k=12)):
  ah Tryz.prog 87 [.ptr b 0,.agg t.cells,bF e,fo o] (bw b K tk s) (fun y Γ'=>y=.aU [.agg (aS x),.int .i64 0]∧Γ'=bw b K tk (bf s)):=by
 have hp:=lS e t.n a hf;obtain ⟨put,hpb,hpu⟩:=iM hg;refine ah.ai aj Tryz.func87 rfl rfl (n:=181) rfl rfl ?_
 conv=>whnf
 repeat' (first|refine aW ?_|((first|refine bY nC ?_|refine pC (hp) wR ?_|intro _);conv=>whnf)|(refine zX (fun hc=>?_) (fun hc=>?_)<;>(try simp only[SY] at hc)<;>first|omega|(conv=>whnf)))
 all_goals first
  | exact absurd hc hu
  | exact an.gen (y:=.aU [.agg (aS x),.int .i64 0]) (Γ':=bw b K tk (bf s)) (Wk.refl _) ⟨rfl,rfl⟩
theorem Ms (h0:0 < s.fuel∧s.fuel≤1000000) (ho:t.op=1) (a:Nat) (hf:fc e t.n=some a) (x:Vl) (hg:aL s.h a=some (x,true)) (hu:x.k=12):
  ah Tryz.prog 87 [.ptr b 0,.agg t.cells,bF e,fo o] (bw b K tk s) (fun y Γ'=>y=.aU [.agg (aS bx),.int .i64 5]∧Γ'=bw b K tk (bf s)):=by
 have hp:=lS e t.n a hf;obtain ⟨put,hpb,hpu⟩:=iM hg;refine ah.ai aj Tryz.func87 rfl rfl (n:=181) rfl rfl ?_
 conv=>whnf
 repeat' (first|refine aW ?_|((first|refine pC (hp) wR ?_|intro _);conv=>whnf)|(refine zX (fun hc=>?_) (fun hc=>?_)<;>(try simp only[SY] at hc)<;>first|omega|(conv=>whnf)))
 all_goals exact an.gen (y:=.aU [.agg (aS bx),.int .i64 5]) (Γ':=bw b K tk (bf s)) hY.res ⟨rfl,rfl⟩
theorem NY (h0:0 < s.fuel∧s.fuel≤1000000) (ho:t.op=3) (hl:t.t.length=3)
  (hE:ah Tryz.prog 87 [.ptr b 0,.agg t.t[0].cells,bF e,fo o] (bw b K tk (bf s)) (br b K fun x c s' tk'=>(¬c=0→R bx c s' tk')∧
   (c=0→x.k=1∧x.n=0→ah Tryz.prog 87 [.ptr b 0,.agg t.t[2].cells,bF e,fo o] (bw b K tk' s') (br b K R))∧
   (c=0→ ¬(x.k=1∧x.n=0)→ah Tryz.prog 87 [.ptr b 0,.agg t.t[1].cells,bF e,fo o] (bw b K tk' s') (br b K R)))):
  ah Tryz.prog 87 [.ptr b 0,.agg t.cells,bF e,fo o] (bw b K tk s) (br b K R):=by
 refine ah.ai aj Tryz.func87 rfl rfl (n:=181) rfl rfl ?_
 conv=>whnf
 repeat' (first|refine aW ?_|((intro _);conv=>whnf)|(refine zX (fun hc=>?_) (fun hc=>?_)<;>(try simp only[SY] at hc)<;>first|omega|(conv=>whnf)))
 refine au.th hE (bU.refl _) ?_;rintro _ _ ⟨x,c,s',tk',rfl,rfl,h1,h2,h3⟩
 conv=>whnf
 repeat' (first|refine aW ?_|((first|refine bY nC ?_|intro _);conv=>whnf)|(refine zX (fun hc=>?_) (fun hc=>?_)<;>(try simp only[SY] at hc)<;>(conv=>whnf)))
 ·exact an.gen (y:=.aU [.agg (aS bx),.int .i64 c]) (Γ':=bw b K tk' s') hY.res ⟨bx,c,s',tk',rfl,rfl,h1 hc⟩
 ·refine au.th (h2 (by omega) (by omega)) (bU.refl _) ?_
  rintro _ _ ⟨x',c',s'',tk'',rfl,rfl,hq⟩
  conv=>whnf
  repeat' (first|refine aW ?_|((refine bY nC ?_);conv=>whnf)|(refine zX (fun hc=>?_) (fun hc=>?_)<;>(try simp only[SY] at hc)<;>omega))
  all_goals exact an.gen (y:=.aU [.agg (aS x'),.int .i64 c']) (Γ':=bw b K tk'' s'') (Wk.refl _) ⟨x',c',s'',tk'',rfl,rfl,hq⟩
 ·refine au.th (h3 (by omega) (by omega)) (bU.refl _) ?_
  rintro _ _ ⟨x',c',s'',tk'',rfl,rfl,hq⟩
  conv=>whnf
  repeat' (first|refine aW ?_|((refine bY nC ?_);conv=>whnf)|(refine zX (fun hc=>?_) (fun hc=>?_)<;>(try simp only[SY] at hc)<;>omega))
  all_goals exact an.gen (y:=.aU [.agg (aS x'),.int .i64 c']) (Γ':=bw b K tk'' s'') (Wk.refl _) ⟨x',c',s'',tk'',rfl,rfl,hq⟩
theorem N1 (h0:0 < s.fuel∧s.fuel≤1000000) (ho:t.op=2∨t.op=5∨t.op=6∨t.op=10∨t.op=12∨(14≤t.op∧t.op≤19)∨t.op=22)
  (hE:ah Tryz.prog 114 [.ptr b 0,.sl 4 (t.t.map aa.pv) none,bF e,fo o] (bw b K tk (bf s)) (uk b K fun l c s' tk'=>(¬c=0→R bx c s' tk')∧
   (c=0→ah Tryz.prog 115 [.ptr b 0,.agg t.cells,.sl 7 (l.map Vl.pv) none,bF e] (bw b K tk' s') (br b K R)))):
  ah Tryz.prog 87 [.ptr b 0,.agg t.cells,bF e,fo o] (bw b K tk s) (br b K R):=by
 refine ah.ai aj Tryz.func87 rfl rfl (n:=181) rfl rfl ?_
 conv=>whnf
 repeat' (first|refine aW ?_|((intro _);conv=>whnf)|(refine zX (fun hc=>?_) (fun hc=>?_)<;>(try simp only[SY] at hc)<;>first|omega|(conv=>whnf)))
 refine au.th hE (bU.refl _) ?_;rintro _ _ ⟨x,c,s',tk',rfl,rfl,h1,h2⟩
 conv=>whnf
 repeat' (first|refine aW ?_|(refine zX (fun hc=>?_) (fun hc=>?_)<;>(try simp only[SY] at hc)<;>(conv=>whnf)))
 ·exact an.gen (y:=.aU [.agg (aS bx),.int .i64 c]) (Γ':=bw b K tk' s') hY.res ⟨bx,c,s',tk',rfl,rfl,h1 hc⟩
 ·refine au.th (h2 hc) (bU.refl _) ?_
  rintro _ _ ⟨x',c',s'',tk'',rfl,rfl,hq⟩
  conv=>whnf
  repeat' (first|refine aW ?_|((refine bY nC ?_);conv=>whnf)|(refine zX (fun hc=>?_) (fun hc=>?_)<;>(try simp only[SY] at hc)<;>omega))
  all_goals exact an.gen (y:=.aU [.agg (aS x'),.int .i64 c']) (Γ':=bw b K tk'' s'') (Wk.refl _) ⟨x',c',s'',tk'',rfl,rfl,hq⟩
theorem HJ (h0:0 < s.fuel∧s.fuel≤1000000) (ho:7≤t.op∧t.op≤9)
  (hE:ah Tryz.prog 113 [.ptr b 0,.agg t.cells,bF e,fo o] (bw b K tk (bf s)) (br b K R)):
  ah Tryz.prog 87 [.ptr b 0,.agg t.cells,bF e,fo o] (bw b K tk s) (br b K R):=by
 refine ah.ai aj Tryz.func87 rfl rfl (n:=181) rfl rfl ?_
 conv=>whnf
 repeat' (first|refine aW ?_|((intro _);conv=>whnf)|(refine zX (fun hc=>?_) (fun hc=>?_)<;>(try simp only[SY] at hc)<;>first|omega|(conv=>whnf)))
 all_goals
  refine au.th hE (bU.refl _) ?_;rintro _ _ ⟨x',c',s'',tk'',rfl,rfl,hq⟩
  conv=>whnf
  repeat' (first|refine aW ?_|((refine bY nC ?_);conv=>whnf)|(refine zX (fun hc=>?_) (fun hc=>?_)<;>(try simp only[SY] at hc)<;>omega))
  all_goals exact an.gen (y:=.aU [.agg (aS x'),.int .i64 c']) (Γ':=bw b K tk'' s'') (Wk.refl _) ⟨x',c',s'',tk'',rfl,rfl,hq⟩
theorem FJ (h0:0 < s.fuel∧s.fuel≤1000000) (ho:t.op=0) (hn:0≤t.n∧t.n < K.k.length):
  ah Tryz.prog 87 [.ptr b 0,.agg t.cells,bF e,fo o] (bw b K tk s) (fun y Γ'=>y=.aU [.agg (aS (K.k[t.n.toNat]'(by omega))),.int .i64 0]∧Γ'=bw b K tk (bf s)):=by
 refine ah.ai aj Tryz.func87 rfl rfl (n:=181) rfl rfl ?_
 conv=>whnf
 repeat' (first|refine aW ?_|((first|refine bY nC ?_|refine rI ?_|intro _);conv=>whnf)|(refine zX (fun hc=>?_) (fun hc=>?_)<;>(try simp only[SY] at hc)<;>first|omega|(conv=>whnf)))
 exact an.gen (y:=.aU [.agg (aS (K.k[t.n.toNat]'(by omega))),.int .i64 0]) (Γ':=bw b K tk (bf s)) (Wk.refl _) ⟨rfl,rfl⟩
theorem J2 (h0:0 < s.fuel∧s.fuel≤1000000) (ho:t.op=20) (hn:0≤t.n∧t.n < o.length):
  ah Tryz.prog 87 [.ptr b 0,.agg t.cells,bF e,fo o] (bw b K tk s) (fun y Γ'=>y=.aU [.agg (aS (o[t.n.toNat]'(by omega))),.int .i64 0]∧Γ'=bw b K tk (bf s)):=by
 refine ah.ai aj Tryz.func87 rfl rfl (n:=181) rfl rfl ?_
 conv=>whnf
 repeat' (first|refine aW ?_|((first|refine bY nC ?_|intro _);conv=>whnf)|(refine zX (fun hc=>?_) (fun hc=>?_)<;>(try simp only[SY] at hc)<;>first|omega|(conv=>whnf)))
 exact an.gen (y:=.aU [.agg (aS (o[t.n.toNat]'(by omega))),.int .i64 0]) (Γ':=bw b K tk (bf s)) (Wk.refl _) ⟨rfl,rfl⟩
theorem HL (h0:0 < s.fuel∧s.fuel≤1000000) (ho:t.op=20) (hn:(o.length:Int)≤t.n) (hz:o.length≤1000000000):
  ah Tryz.prog 87 [.ptr b 0,.agg t.cells,bF e,fo o] (bw b K tk s) (fun y Γ'=>y=.aU [.agg (aS bx),.int .i64 3]∧Γ'=bw b K tk (bf s)):=by
 refine ah.ai aj Tryz.func87 rfl rfl (n:=181) rfl rfl ?_
 conv=>whnf
 repeat' (first|refine aW ?_|((intro _);conv=>whnf)|(refine zX (fun hc=>?_) (fun hc=>?_)<;>(try simp only[SY] at hc)<;>first|omega|(conv=>whnf)))
 all_goals exact an.gen (y:=.aU [.agg (aS bx),.int .i64 3]) (Γ':=bw b K tk (bf s)) hY.res ⟨rfl,rfl⟩
theorem J3 (h0:0 < s.fuel∧s.fuel≤1000000) (ho:t.op=4) (hl:t.t.length=1):
  ah Tryz.prog 87 [.ptr b 0,.agg t.cells,bF e,fo o] (bw b K tk s) (fun y Γ'=> ∃ a,y=.aU [.agg (aS (cg a)),.int .i64 0]∧Γ'=bw b K tk (aR (bf s) ((a,.eH ⟨t.v,t.n == 1,t.t[0],e, -1, []⟩)::s.h))):=by
 rcases e with _ | ⟨⟨w,c⟩,e⟩
 ·refine ah.ai aj Tryz.func87 rfl rfl (n:=181) rfl rfl ?_
  conv=>whnf
  repeat' (first|refine aW ?_|((first|refine rI ?_|intro _);conv=>whnf)|(refine zX (fun hc=>?_) (fun hc=>?_)<;>(try simp only[SY] at hc)<;>first|omega|(conv=>whnf)))
  rename_i b1;refine an.OR (aA.box (b:=b1) (cs:= [.sl 1 (t.v.map (PV.int .i64)) none,.bool (t.n == 1),.int .i64 t.t[0].op,.int .i64 t.t[0].n,.sl 1 (t.t[0].v.map (PV.int .i64)) none,.sl 4 (t.t[0].t.map aa.pv) none,bF [],.int .i64 (-1),.nil]) (cs':=wW ⟨t.v,t.n == 1,t.t[0], [], -1, []⟩) wA) ?_;exact an.gen (y:=.aU [.agg (aS (cg b1)),.int .i64 0]) (Γ':=bw b K tk (aR (bf s) ((b1,.eH ⟨t.v,t.n == 1,t.t[0], [], -1, []⟩)::s.h))) (hp:=by dsimp only[bw,aR];rw[mS];dsimp only[KB];infer_instance) hY.res ⟨b1,rfl,rfl⟩
 ·refine ah.ai aj Tryz.func87 rfl rfl (n:=181) rfl rfl ?_
  conv=>whnf
  repeat' (first|refine aW ?_|((first|refine rI ?_|intro _);conv=>whnf)|(refine zX (fun hc=>?_) (fun hc=>?_)<;>(try simp only[SY] at hc)<;>first|omega|(conv=>whnf)))
  rename_i b1;refine an.OR (aA.box (b:=b1) (cs:= [.sl 1 (t.v.map (PV.int .i64)) none,.bool (t.n == 1),.int .i64 t.t[0].op,.int .i64 t.t[0].n,.sl 1 (t.t[0].v.map (PV.int .i64)) none,.sl 4 (t.t[0].t.map aa.pv) none,bF ((w,c)::e),.int .i64 (-1),.nil]) (cs':=wW ⟨t.v,t.n == 1,t.t[0],((w,c)::e), -1, []⟩) wA) ?_;exact an.gen (y:=.aU [.agg (aS (cg b1)),.int .i64 0]) (Γ':=bw b K tk (aR (bf s) ((b1,.eH ⟨t.v,t.n == 1,t.t[0],((w,c)::e), -1, []⟩)::s.h))) (hp:=by dsimp only[bw,aR];rw[mS];dsimp only[KB];infer_instance) hY.res ⟨b1,rfl,rfl⟩
theorem J4 (h0:0 < s.fuel∧s.fuel≤1000000) (ho:t.op=21) (cd:bZ) (hn:0≤t.n∧t.n < K.c.length) (hcd:K.c[t.n.toNat]?=some cd):
  ah Tryz.prog 87 [.ptr b 0,.agg t.cells,bF e,fo o] (bw b K tk s) (fun y Γ'=> ∃ a,y=.aU [.agg (aS (cg a)),.int .i64 0]∧Γ'=bw b K tk (aR (bf s) ((a,.eH (jg cd t.n []))::s.h))):=by
 have hcl:=rG b K tk (bf s) t.n cd hn hcd [];refine ah.ai aj Tryz.func87 rfl rfl (n:=181) rfl rfl ?_
 conv=>whnf
 repeat' (first|refine aW ?_|((intro _);conv=>whnf)|(refine zX (fun hc=>?_) (fun hc=>?_)<;>(try simp only[SY] at hc)<;>first|omega|(conv=>whnf)))
 refine au.th hcl (.cons (Wk.refl _) (.cons (Wk.refl _) (.cons (Wk.lp rfl) .nil))) ?_;rintro _ _ ⟨a,rfl,rfl⟩
 conv=>whnf
 repeat' (first|refine aW ?_|(refine zX (fun hc=>?_) (fun hc=>?_)<;>(try simp only[SY] at hc)<;>omega))
 all_goals exact an.gen (y:=.aU [.agg (aS (cg a)),.int .i64 0]) (Γ':=bw b K tk (aR (bf s) ((a,.eH (jg cd t.n []))::s.h))) (Wk.refl _) ⟨a,rfl,rfl⟩
end
section
variable (b:Nat) (K:KC) (o:List Vl) (tk:Tok) (s:bJ) (t:aa) (e:bq) (R:Vl→Int→bJ→Tok→Prop)
theorem FD {p q:Prop} (k:q) (h:q→p:=by intro hq;first | exact aC.sP (some 48) rfl [] [10,11] aj mixed hq | exact aC.sP (some 79) rfl [] [10,11] aj mixed hq | exact aC.sP (some 192) rfl [] [10] aj mixed hq | exact aC.sP (some 217) rfl [] [13] aj mixed hq):p:=h k
theorem JS (ho:t.op=8) (hl:t.t.length=t.v.length + 1) (hz:t.v.length≤1000000000)
  (hA:ah Tryz.prog 114 [.ptr b 0,.sl 4 ((t.t.take t.v.length).map aa.pv) none,bF e,fo o] (bw b K tk s) (uk b K fun l c s' tk'=>(¬c=0→R bx c s' tk')∧
   (c=0→l.length=t.v.length∧ ∀ az:List Nat,az.length=t.v.length→ah Tryz.prog 87 [.ptr b 0,.agg (t.t[t.v.length]'(by omega)).cells,bF (bM e t.v az),fo o] (bw b K tk' (aR s' (eM s'.h l az))) (br b K R)))):
  ah Tryz.prog 113 [.ptr b 0,.agg t.cells,bF e,fo o] (bw b K tk s) (br b K R):=by
 refine ah.ai aj Tryz.func113 rfl rfl (n:=241) rfl rfl ?_
 conv=>whnf
 repeat' (first|refine aW ?_|((intro _);conv=>whnf)|(refine zX (fun hc=>?_) (fun hc=>?_)<;>(try simp only[SY] at hc)<;>first|omega|(conv=>whnf)))
 refine au.th hA (bU.refl _) ?_;rintro _ _ ⟨l,c,s',tk',rfl,rfl,h1,h2⟩
 conv=>whnf
 skip
 rename_i b1 b2 _;by_cases hc0:c=0
 ·subst hc0
  obtain ⟨hlen,hev⟩:=h2 rfl
  have hL: ∀ i (az:List Nat) (a:Nat) (_:az.length=i) (h:i < l.length),nP (eM s'.h (l.take (i + 1)) (az++ [a]))=.box a (qQ (l[i]'h) false)::nP (eM s'.h (l.take i) az):=fun i az a h1 h=>by
   rw[List.take_succ_eq_append_getElem h,vb _ _ _ _ _ (by rw[List.length_take];omega)];rfl
  have e0:bw b K tk' s'=bw b K tk' (aR s' (eM s'.h (l.take 0) [])):=rfl;rw[e0]
  refine aI.over [2,13,39,40,41,42,43,44,45,46,47,48,49,50,51,52,53,54,55,56,57,58] (fun x:Nat×List Nat=> [(2,bF (bM e (t.v.take x.1) x.2)),(13,.int .i64 x.1)]) (fun x:Nat×List Nat=>.box b2 [.int .i64 0,.int .i64 0,.int .i64 0,.str [],.nil,.np,.np]::.box b1 [.int .i64 t.op,.int .i64 t.n,.sl 1 (t.v.map (PV.int .i64)) none,.sl 4 (t.t.map aa.pv) none]::bw b K tk' (aR s' (eM s'.h (l.take x.1) x.2)))
   (fun x=>x.1≤l.length∧x.2.length=x.1) (fun x=>l.length - x.1) (0, []) ⟨Nat.zero_le _,rfl⟩ wA ?_
  rintro ⟨i,az⟩ ⟨hi,ha⟩;dsimp only at hi ha⊢
  conv=>whnf
  repeat' (first|refine aW ?_|((refine FD ?_);conv=>whnf)|(refine zX (fun hc=>?_) (fun hc=>?_)<;>(try simp only[SY] at hc)<;>(conv=>whnf)))
  ·have h1:i < l.length:=by omega
   refine au.go (Γ1:= []) (yV _ _ l[i] false) (.cons (Wk.refl _) (.cons (Wk.refl _) (.cons (Wk.refl _) (.cons (Wk.ff rfl) .nil)))) ?_;rintro _ _ ⟨a,rfl,rfl⟩
   conv=>whnf
   repeat' (first|refine aW ?_|(refine zX (fun hc=>?_) (fun hc=>?_)<;>(try simp only[SY] at hc)<;>omega))
   have e1:=hL i az a ha h1;have e2:(t.v.take (i + 1))=t.v.take i++ [t.v[i]'(by omega)]:=List.take_succ_eq_append_getElem (by omega);refine aJ (i + 1,az++ [a]) ⟨by show i + 1≤_;omega,by show (az++ [a]).length=i + 1;simp;omega⟩ (by show l.length - (i + 1) < l.length - i;omega) (by dsimp only;rw[e2,kX _ _ _ _ _ (by rw[List.length_take];omega)];exact wA) (hp:=by dsimp only[bw,aR];rw[e1];infer_instance)
  ·have hil:i=t.v.length:=by omega
   subst hil;have hev':=hev az ha;rw[List.take_length,List.take_of_length_le (by omega:l.length≤t.v.length)]
   conv=>whnf
   skip
   refine au.th hev' (bU.refl _) ?_;rintro _ _ ⟨x',c',s'',tk'',rfl,rfl,hq⟩
   conv=>whnf
   repeat' (first|refine aW ?_|((refine bY nC ?_);conv=>whnf)|(refine zX (fun hc=>?_) (fun hc=>?_)<;>(try simp only[SY] at hc)<;>omega))
   all_goals exact an.gen (y:=.aU [.agg (aS x'),.int .i64 c']) (Γ':=bw b K tk'' s'') (Wk.refl _) ⟨x',c',s'',tk'',rfl,rfl,hq⟩
 ·refine aI.over [2,13,39,40,41,42,43,44,45,46,47,48,49,50,51,52,53,54,55,56,57,58] (fun _:Unit=> [(2,bF e),(13,.int .i64 0)]) (fun _:Unit=>.box b2 [.int .i64 0,.int .i64 0,.int .i64 0,.str [],.nil,.np,.np]::.box b1 [.int .i64 t.op,.int .i64 t.n,.sl 1 (t.v.map (PV.int .i64)) none,.sl 4 (t.t.map aa.pv) none]::bw b K tk' s') (fun _=>True) (fun _=>0) () trivial wA ?_
  rintro ⟨⟩ _;dsimp only
  conv=>whnf
  repeat' (first|refine aW ?_|(refine zX (fun hc=>?_) (fun hc=>?_)<;>(try simp only[SY] at hc)<;>first|omega|(conv=>whnf)))
  all_goals exact an.gen (y:=.aU [.agg (aS bx),.int .i64 c]) (Γ':=bw b K tk' s') hY.res ⟨bx,c,s',tk',rfl,rfl,h1 hc0⟩
end
theorem Bk: ∀ (h:Hp) (r:Bool) (az:List Nat) (a:Nat),iW h r (az++ [a])=(a,.cell (fF 12) r)::iW h r az
 | _,_, [],_=>rfl
 | h,r,b::az,a=>by rw[List.cons_append,iW,Bk _ r az a,iW]
def IB (h:Hp) (e:bq) (vs:List Int):Prop:= ∀ v∈vs, ∃ a,fc e v=some a∧ ∃ y r,aL h a=some (y,r)
theorem nO (b:Nat) (z:Vl): ∀ {h:Hp} {a:Nat} {y:Vl} {r:Bool},aL h a=some (y,r)→ ∃ y',aL (hput h b z) a=some (y',r)
 | (c,.cell w q)::h,a,y,r,hg=>by
  rw[aL] at hg;rw[hput];by_cases hcb:c=b
  ·rw[if_pos hcb,aL]
   by_cases hca:c=a
   ·rw[if_pos hca] at hg⊢
    obtain ⟨rfl,rfl⟩:=Prod.mk.inj (Option.some.inj hg);exact ⟨z,rfl⟩
   ·rw[if_neg hca] at hg⊢
    exact ⟨y,hg⟩
  ·rw[if_neg hcb,aL]
   by_cases hca:c=a
   ·rw[if_pos hca] at hg⊢
    exact ⟨y,hg⟩
   ·rw[if_neg hca] at hg⊢
    exact nO b z hg
 | (c,.eH f)::h,a,y,r,hg=>by
  rw[aL] at hg;rw[hput,aL];exact nO b z hg
theorem IB.put {h:Hp} {e:bq} {vs:List Int} (b:Nat) (z:Vl) (hk:IB h e vs):IB (hput h b z) e vs:=fun v hv=>by
 obtain ⟨a,hf,y,r,hg⟩:=hk v hv;obtain ⟨y',hg'⟩:=nO b z hg;exact ⟨a,hf,y',r,hg'⟩
section
variable (b:Nat) (K:KC) (o:List Vl) (tk:Tok) (s:bJ) (t:aa) (e:bq) (R:Vl→Int→bJ→Tok→Prop)
theorem rJ {p q:Prop} (k:q) (h:q→p:=by intro hq;first | exact aC.sP (some 48) rfl [] [10,11] aj mixed hq | exact aC.sP (some 79) rfl [] [10,11] aj mixed hq | exact aC.sP (some 192) rfl [] [10] aj mixed hq | exact aC.sP (some 217) rfl [] [13] aj mixed hq):p:=h k
theorem JT (ho:t.op=7∨t.op=9) (hl:t.t.length=t.v.length + 1) (hz:t.v.length≤1000000000) (h19: ∀ x∈t.t, ¬x.op=19)
  (P:List Nat→Nat→List Vl→bJ→Tok→Prop) (hP: ∀ az:List Nat,az.length=t.v.length→P az 0 [] (aR s (iW s.h (t.op == 7) az)) tk)
  (H: ∀ az i m s tk,P az i m s tk→ ∀ h:i < t.v.length,ah Tryz.prog 87 [.ptr b 0,.agg (t.t[i]'(by omega)).cells,bF (bM e t.v az),fo o] (bw b K tk s) (br b K fun x c s' tk'=>(¬c=0→R bx c s' tk')∧
   (c=0→(t.op=9∨t.n=1→ ∃ a y r,fc (bM e t.v az) (t.v[i]'h)=some a∧aL s'.h a=some (y,r))∧P az (i + 1) (m++ [x]) (if t.op=9∨t.n=1 then iV s' (bM e t.v az) (t.v[i]'h) x else s') tk')))
  (HE: ∀ az m s tk,P az t.v.length m s tk→m.length=t.v.length→(t.op=7∧t.n=0→IB s.h (bM e t.v az) t.v)∧
   ah Tryz.prog 87 [.ptr b 0,.agg (t.t[t.v.length]'(by omega)).cells,bF (bM e t.v az),fo o] (bw b K tk (if t.op=7∧t.n=0 then dU s (bM e t.v az) t.v m else s)) (br b K R)):
  ah Tryz.prog 113 [.ptr b 0,.agg t.cells,bF e,fo o] (bw b K tk s) (br b K R):=by
 refine ah.ai aj Tryz.func113 rfl rfl (n:=241) rfl rfl ?_
 conv=>whnf
 repeat' (first|refine aW ?_|((intro _);conv=>whnf)|(refine zX (fun hc=>?_) (fun hc=>?_)<;>(try simp only[SY] at hc)<;>first|omega|(conv=>whnf)))
 rename_i b1 b2 _;have hL: ∀ (az:List Nat) (a:Nat),nP (iW s.h (t.op == 7) (az++ [a]))=.box a (qQ (fF 12) (t.op == 7))::nP (iW s.h (t.op == 7) az):=fun az a=>by rw[Bk];rfl
 have e0:bw b K tk s=bw b K tk (aR s (iW s.h (t.op == 7) [])):=rfl;rw[e0]
 refine aI.over [2,14,74,75,76,77,78,79,80,81,82,83,84,85,86,87,88,89,90,91,92,93,94,95,96,97,98,99,100,101,102,103,104,105,106,107,108,109,110,111,112,113,114,115] (fun x:Nat×List Nat=> [(2,bF (bM e (t.v.take x.1) x.2)),(14,.int .i64 x.1)]) (fun x:Nat×List Nat=>.box b2 [.int .i64 0,.int .i64 0,.int .i64 0,.str [],.nil,.np,.np]::.box b1 [.int .i64 t.op,.int .i64 t.n,.sl 1 (t.v.map (PV.int .i64)) none,.sl 4 (t.t.map aa.pv) none]::bw b K tk (aR s (iW s.h (t.op == 7) x.2)))
  (fun x=>x.1≤t.v.length∧x.2.length=x.1) (fun x=>t.v.length - x.1) (0, []) ⟨Nat.zero_le _,rfl⟩ wA ?_
 rintro ⟨i,az⟩ ⟨hi,ha⟩;dsimp only at hi ha⊢
 conv=>whnf
 repeat' (first|refine aW ?_|((refine rJ ?_);conv=>whnf)|(refine zX (fun hc=>?_) (fun hc=>?_)<;>(try simp only[SY] at hc)<;>(conv=>whnf)))
 ·have h1:i < t.v.length:=by omega
  have h19i: ¬(t.t[i]'(by omega)).op=19:=h19 _ (List.getElem_mem _);refine au.go (Γ1:= []) (yV _ _ (fF 12) (t.op == 7)) (.cons (Wk.refl _) (.cons (Wk.refl _) (.cons (Wk.agg zw) (.cons (Wk.refl _) .nil)))) ?_;rintro _ _ ⟨a,rfl,rfl⟩
  conv=>whnf
  repeat' (first|refine aW ?_|(refine zX (fun hc=>?_) (fun hc=>?_)<;>(try simp only[SY] at hc)<;>first|omega|(conv=>whnf)))
  all_goals try (exfalso;omega)
  have e1:=hL az a;have e2:(t.v.take (i + 1))=t.v.take i++ [t.v[i]'(by omega)]:=List.take_succ_eq_append_getElem (by omega);refine aJ (i + 1,az++ [a]) ⟨by show i + 1≤_;omega,by show (az++ [a]).length=i + 1;simp;omega⟩ (by show t.v.length - (i + 1) < t.v.length - i;omega) (by dsimp only;rw[e2,kX _ _ _ _ _ (by rw[List.length_take];omega)];exact wA) (hp:=by dsimp only[bw,aR];rw[e1];infer_instance)
 ·have hil:i=t.v.length:=by omega
  subst hil;have hP0:=hP az ha;rw[List.take_length]
  conv=>whnf
  skip
  refine aI.gh (aA.nil 7 140 _) ?_
  refine aI.over [9,15,16,17,18,19,20,116,117,118,119,120,121,122,123,124,125,126,127,128,129,130,131,132,133,134,135,136,137,138,139,140,141,142,143,144,145,146,147,148,149,150,151,152,153,154,155,156,157,158,159,160,161,162,163,164,165,166,167,168,169,170,171,172,173,174,175,176,177,178,179,180,181,182,183,184,185,186,187,188,189,190,191,192,193,194,195,196,197,198,199,200,201] (fun x:Nat×List Vl×Tok×bJ×Tok=> [(15,.sl 7 (x.2.1.map Vl.pv) (some x.2.2.1)),(16,.int .i64 x.1)]) (fun x:Nat×List Vl×Tok×bJ×Tok=>.tok x.2.2.1::.box b2 [.int .i64 0,.int .i64 0,.int .i64 0,.str [],.nil,.np,.np]::.box b1 [.int .i64 t.op,.int .i64 t.n,.sl 1 (t.v.map (PV.int .i64)) none,.sl 4 (t.t.map aa.pv) none]::bw b K x.2.2.2.2 x.2.2.2.1)
   (fun x=>x.1≤t.v.length∧x.2.2.1.e=140∧x.2.1.length=x.1∧P az x.1 x.2.1 x.2.2.2.1 x.2.2.2.2) (fun x=>t.v.length - x.1) (0, [],aT 7 140,aR s (iW s.h (t.op == 7) az),tk) ⟨Nat.zero_le _,rfl,rfl,hP0⟩ wA ?_
  rintro ⟨i,m,t1,s1,tk1⟩ ⟨hi,ht,hm,hPi⟩;dsimp only at hi ht hm hPi ⊢;have hml:m.length≤1000000000:=by omega
  conv=>whnf
  repeat' (first|refine aW ?_|(refine zX (fun hc=>?_) (fun hc=>?_)<;>(try simp only[SY] at hc)<;>(conv=>whnf)))
  ·exact absurd hc.2 (h19 _ (List.getElem_mem _))
  ·have h1:i < t.v.length:=by omega
   refine au.th (H az i m s1 tk1 hPi h1) (bU.refl _) ?_;rintro _ _ ⟨x,c,s',tk',rfl,rfl,hq,hr⟩;by_cases hc0:c=0
   ·subst hc0
    obtain ⟨hn,hP'⟩:=hr rfl;by_cases hnow:t.op=9∨t.n=1
    ·obtain ⟨a,y,r,hf,hg⟩:=hn hnow
     rw[if_pos hnow] at hP';unfold iV at hP';rw[hf] at hP';have hp:=lS _ _ _ hf;obtain ⟨put,hpb,hpu⟩:=iM hg
     conv=>whnf
     repeat' (first|refine aW ?_|((first|((apply zZ);(conv=>whnf);(repeat ((refine pC (hp) wR ?_);conv=>whnf));exact pZ)|refine bY nC ?_|refine rJ ?_|intro _);conv=>whnf)|(refine zX (fun hc=>?_) (fun hc=>?_)<;>(try simp only[SY] at hc)<;>first|omega|(conv=>whnf)))
     all_goals try (exfalso;omega)
     rw[hpu x];rename_i t2 ht2;exact aJ (i + 1,m++ [x],t2,aR s' (hput s'.h a x),tk') ⟨by show i + 1≤_;omega,ht2,by show (m++ [x]).length=i + 1;simp;omega,hP'⟩ (by show t.v.length - (i + 1) < t.v.length - i;omega) wA
    ·rw[if_neg hnow] at hP'
     conv=>whnf
     repeat' (first|refine aW ?_|((first|refine bY nC ?_|intro _);conv=>whnf)|(refine zX (fun hc=>?_) (fun hc=>?_)<;>(try simp only[SY] at hc)<;>first|omega|(conv=>whnf)))
     all_goals try (exfalso;omega)
     rename_i t2 ht2;exact aJ (i + 1,m++ [x],t2,s',tk') ⟨by show i + 1≤_;omega,ht2,by show (m++ [x]).length=i + 1;simp;omega,hP'⟩ (by show t.v.length - (i + 1) < t.v.length - i;omega) wA
   ·conv=>whnf
    repeat' (first|refine aW ?_|((first|refine bY nC ?_|intro _);conv=>whnf)|(refine zX (fun hc=>?_) (fun hc=>?_)<;>(try simp only[SY] at hc)<;>first|omega|(conv=>whnf)))
    exact an.gen (y:=.aU [.agg (aS bx),.int .i64 c]) (Γ':=bw b K tk' s') hY.res ⟨bx,c,s',tk',rfl,rfl,hq hc0⟩
  ·have hi2:i=t.v.length:=by omega
   subst hi2;obtain ⟨hpl,hev⟩:=HE az m s1 tk1 hPi hm;by_cases hsto:t.op=7∧t.n=0
   ·rw[if_pos hsto] at hev
    refine aI.over [21,202,203,204,205,206,207,208,209,210,211,212,213,214,215,216,217,218,219,220,221,222,223,224,225,226,227,228,229] (fun x:Nat×bJ=> [(21,.int .i64 x.1)]) (fun x:Nat×bJ=>.tok t1::.box b2 [.int .i64 0,.int .i64 0,.int .i64 0,.str [],.nil,.np,.np]::.box b1 [.int .i64 t.op,.int .i64 t.n,.sl 1 (t.v.map (PV.int .i64)) none,.sl 4 (t.t.map aa.pv) none]::bw b K tk1 x.2)
     (fun x=>x.1≤t.v.length∧dU x.2 (bM e t.v az) (t.v.drop x.1) (m.drop x.1)=dU s1 (bM e t.v az) t.v m∧IB x.2.h (bM e t.v az) t.v) (fun x=>t.v.length - x.1) (0,s1) ⟨Nat.zero_le _,rfl,hpl hsto⟩ wA ?_
    rintro ⟨j,s2⟩ ⟨hj,hst,hok⟩;dsimp only at hj hst hok ⊢;by_cases hjl:j < t.v.length
    ·obtain ⟨a,hf,y,r,hg⟩:=hok (t.v[j]'hjl) (List.getElem_mem _)
     have hp:=lS _ _ _ hf;obtain ⟨put,hpb,hpu⟩:=iM hg
     conv=>whnf
     repeat' (first|refine aW ?_|((first|((apply zZ);(conv=>whnf);(repeat ((refine pC (hp) wR ?_);conv=>whnf));exact pZ)|refine bY nC ?_|refine rJ ?_);conv=>whnf)|(refine zX (fun hc=>?_) (fun hc=>?_)<;>(try simp only[SY] at hc)<;>first|omega|(conv=>whnf)))
     all_goals try (exfalso;omega)
     have hjm:j < m.length:=by omega
     rw[aq hjl,aq hjm,dU] at hst;unfold iV at hst;rw[hf] at hst;rw[hpu m[j]];exact aJ (j + 1,aR s2 (hput s2.h a m[j])) ⟨by show j + 1≤_;omega,hst,hok.put a _⟩ (by show t.v.length - (j + 1) < t.v.length - j;omega) wA
    ·rw[List.drop_of_length_le (by omega),List.drop_of_length_le (by omega)] at hst
     rw[←show s2=dU s1 (bM e t.v az) t.v m from hst] at hev
     conv=>whnf
     repeat' (first|refine aW ?_|(refine zX (fun hc=>?_) (fun hc=>?_)<;>(try simp only[SY] at hc)<;>first|omega|(conv=>whnf)))
     all_goals try (exfalso;omega)
     refine au.th hev (bU.refl _) ?_;rintro _ _ ⟨x',c',s'',tk'',rfl,rfl,hq⟩
     conv=>whnf
     repeat' (first|refine aW ?_|((refine bY nC ?_);conv=>whnf)|(refine zX (fun hc=>?_) (fun hc=>?_)<;>(try simp only[SY] at hc)<;>omega))
     all_goals exact an.gen (y:=.aU [.agg (aS x'),.int .i64 c']) (Γ':=bw b K tk'' s'') (Wk.refl _) ⟨x',c',s'',tk'',rfl,rfl,hq⟩
   ·rw[if_neg hsto] at hev
    refine aI.over [21,202,203,204,205,206,207,208,209,210,211,212,213,214,215,216,217,218,219,220,221,222,223,224,225,226,227,228,229] (fun _:Unit=> [(21,.int .i64 0)]) (fun _:Unit=>.tok t1::.box b2 [.int .i64 0,.int .i64 0,.int .i64 0,.str [],.nil,.np,.np]::.box b1 [.int .i64 t.op,.int .i64 t.n,.sl 1 (t.v.map (PV.int .i64)) none,.sl 4 (t.t.map aa.pv) none]::bw b K tk1 s1) (fun _=>True) (fun _=>0) () trivial wA ?_;rintro ⟨⟩ _
    conv=>whnf
    repeat' (first|refine aW ?_|(refine zX (fun hc=>?_) (fun hc=>?_)<;>(try simp only[SY] at hc)<;>first|omega|(conv=>whnf)))
    all_goals try (exfalso;omega)
    refine au.th hev (bU.refl _) ?_;rintro _ _ ⟨x',c',s'',tk'',rfl,rfl,hq⟩
    conv=>whnf
    repeat' (first|refine aW ?_|((refine bY nC ?_);conv=>whnf)|(refine zX (fun hc=>?_) (fun hc=>?_)<;>(try simp only[SY] at hc)<;>omega))
    all_goals exact an.gen (y:=.aU [.agg (aS x'),.int .i64 c']) (Γ':=bw b K tk'' s'') (Wk.refl _) ⟨x',c',s'',tk'',rfl,rfl,hq⟩
end
def dV (p:Prog) (level:Int):Prop:=
 (0≤level∧level≤2)∧(∀ d∈p.consts,d.cM 0=true)∧p.body.lC level p.consts.length 0 false [] 0∧p.body.cnt≤20000∧iR p.body.vars []
theorem pG (p:Prog) (level:Int):yZ p level=0↔dV p level:=by
 unfold yZ dV;have h:=(p.body.qR level p.consts.length 0 false [] 0 0 []).jS;by_cases hl:(decide (level < 0) || decide (level > 2))=true
 ·rw[if_pos hl]
  simp at hl;constructor
  ·intro h;cases h
  ·rintro ⟨h,_⟩;omega
 ·rw[if_neg hl]
  simp at hl
  split
  ·rename_i hr
   simp only[Bool.and_eq_true,List.all_eq_true,h] at hr;exact ⟨fun _=>⟨by omega,hr.1,hr.2.1,by omega,hr.2.2.2⟩,fun _=>rfl⟩
  ·rename_i hr
   simp only[Bool.and_eq_true,List.all_eq_true,h] at hr;exact ⟨fun h=>(by cases h),fun ⟨_,h1,h2,h3,h4⟩=>absurd ⟨h1,h2,by omega,h4⟩ hr⟩
mutual
def aa.JA:aa→Int
 | .mk op n _ t=>aa.FN t (if op=0 then n else -1)
def aa.FN:List aa→Int→Int
 | [],m=>m
 | x::xs,m=>aa.FN xs (max m (aa.JA x))
end
theorem aa.MA (t:aa):t.JA=aa.FN t.t (if t.op=0 then t.n else -1):=by cases t;rw[aa.JA];rfl
theorem aa.Ey (c:Int): ∀ (l:List aa) (m:Int),aa.FN l m < c↔m < c∧ ∀ x∈l,x.JA < c
 | [],m=>by simp[aa.FN]
 | x::l,m=>by
  rw[aa.FN,aa.Ey c l];simp only[List.forall_mem_cons];constructor
  ·rintro ⟨h1,h2⟩;exact ⟨by omega,by omega,h2⟩
  ·rintro ⟨h1,h2,h3⟩;exact ⟨by omega,h3⟩
theorem wT (c1 c2 codes:Int) (free:Bool) (t:aa) (scope:List Int) (h:t.op≠0):bW c1 codes free t scope=bW c2 codes free t scope:=by
 unfold bW;rw[if_neg h,if_neg h]
theorem aa.Di (level codes:Int) (free:Bool) (c1 c2:Int) (h2:0≤c2) (t:aa): ∀ (scope:List Int) (deep:Int),t.lC level c1 codes free scope deep→(t.lC level c2 codes free scope deep↔t.JA < c2):=by
 induction t using aa.ind with
 | h t ih=>
  intro scope deep h
  have key: ∀ (op:Int) (sc inner:List Int) (deep:Int) (l:List aa),(∀ y∈l, ∀ (scope:List Int) (deep:Int),y.lC level c1 codes free scope deep→(y.lC level c2 codes free scope deep↔y.JA < c2))→
    aa.eW level c1 codes free op sc inner l deep→(aa.eW level c2 codes free op sc inner l deep↔ ∀ x∈l,x.JA < c2):=by
   intro op sc inner deep l
   induction l with
   | nil=>intro _ _;simp[aa.eW]
   | cons x l ihl=>
    intro hy hk;rw[aa.eW] at hk;rw[aa.eW,List.forall_mem_cons,hy x (by simp) _ _ hk.2.1,ihl (fun y hh=>hy y (by simp[hh])) hk.2.2];simp only[hk.1,not_false_eq_true,true_and]
  rw[aa.dP] at h;rw[aa.dP,aa.MA,aa.Ey,key _ _ _ _ _ ih h.2];obtain ⟨⟨g1,g2,g3,g4⟩,_⟩:=h
  have hn:bW c2 codes free t scope=true↔(if t.op=0 then t.n else -1) < c2:=by
   by_cases h0:t.op=0
   ·rw[if_pos h0]
    unfold bW at g4 ⊢;rw[if_pos h0] at g4 ⊢;simp at g4 ⊢;omega
   ·rw[if_neg h0,wT c2 c1 codes free t scope h0]
    simp only[g4,true_iff];omega
  rw[hn];simp only[g1,g2,g3,true_and]
theorem dV.consts {p:Prog} {level:Int} (h:dV p level) (cs:List Datum) (hc: ∀ d∈cs,d.cM 0=true):dV ⟨cs,p.body⟩ level↔p.body.JA < cs.length:=by
 obtain ⟨h1,h2,h3,h4,h5⟩:=h;unfold dV;simp only[h1,true_and,h4,h5,and_true];rw[aa.Di level 0 false p.consts.length cs.length (by omega) p.body [] 0 h3];simp[h1.1,h1.2];exact fun _=>hc
theorem dV.JA {p:Prog} {level:Int} (h:dV p level):p.body.JA < p.consts.length:=(h.consts p.consts h.2.1).1 h
end Go.Cb


