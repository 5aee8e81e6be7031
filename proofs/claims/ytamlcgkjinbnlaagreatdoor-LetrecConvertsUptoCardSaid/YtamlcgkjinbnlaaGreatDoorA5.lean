/-
 Plain law: the program's check of a term and the document's answer alike.
 Plain law: the program's data and the document's are right alike.
 Contracts: the program's check of programs.
 Plain law: the program's check of programs and the document's answer alike.
 Plain law: what a check says of a program, and how it leans on the number of constants.
 Contracts: package slices: Grow, Concat, Index, Contains, of numbers.
 Contracts: all terms of a term, one by one.
 Contracts: how many terms.
 Contracts: what is sorted already: one number.
 Contracts: what is named and not bound: one variable.
 Plain laws: what a term names, binds; how deep it lies.
 Plain law: a core datum's term: its variables in order; more names bound, fewer lost.
 Plain law: how great what a core datum comes to is.
 Plain law: what a core datum's parts are.
 Contracts: has a name a mark?
 Contracts: the document's expander at a few forms alone: names, calls, lambda, letrec*, bodies of one datum.
 Contracts: the document's maker of terms: names, lists.
 Drawn regions with two effects that no order binds to one another: both orders are walked.
 Drawn regions with a read that no order binds to two effects: it is walked at each place.
 Drawn regions whose effects may come in several orders: a tree of what may come next.
 Contracts: the document's maker of terms: binding.
 Contracts: the document's maker of terms: lists, recursive bindings.
 Contracts: the document's maker of terms: recursive bindings.
 Contracts: primitives' facts, of the document.
 Contracts: primitives' facts and numbers, of the document.
 Contracts: the document's maker of terms: terms.
-/
import Derived.Test.YtamlcgkjinbnlaaGreatDoorA4
set_option linter.unusedSimpArgs false
set_option linter.unusedVariables false
namespace Go.Cb
open Go.Proofs
set_option maxRecDepth 100000
set_option maxHeartbeats 4000000
def iX (l bound:List Int):Prop:=(∀ x∈l,0≤x∧x≤1000000∧x∉bound)∧l.Nodup
theorem iX.perm {l m b:List Int} (h:l.Perm m):iX l b↔iX m b:=by
 unfold iX;rw[h.nodup_iff];simp only[h.mem_iff]
theorem iX.append {l m b c:List Int} (h: ∀ x,x∈c↔x∈b∨x∈l):iX (l++m) b↔iX l b∧iX m c:=by
 unfold iX;simp only[List.mem_append,List.nodup_append,h];constructor
 ·rintro ⟨h1,h2,h3,h4⟩
  exact ⟨⟨fun x hx=>h1 x (.inl hx),h2⟩,fun x hx=>⟨(h1 x (.inr hx)).1,(h1 x (.inr hx)).2.1,by rintro (h | h);exact (h1 x (.inr hx)).2.2 h;exact h4 x h x hx rfl⟩,h3⟩
 ·rintro ⟨⟨h1,h2⟩,h3,h4⟩
  refine ⟨?_,h2,h4,?_⟩
  ·rintro x (hx | hx)
   ·exact h1 x hx
   ·exact ⟨(h3 x hx).1,(h3 x hx).2.1,fun h=>(h3 x hx).2.2 (.inl h)⟩
  ·rintro x hx y hy rfl
   exact (h3 x hy).2.2 (.inr hx)
def Sp (r:Option (Int×List Int)) (c:Prop) (n:Int) (V:List Int) (size:Int) (bound:List Int):Prop:=
 (r=none∧ ¬(c∧size + n≤20000∧iX V bound))∨(∃ b,r=some (size + n,b)∧(c∧size + n≤20000∧iX V bound)∧ ∀ x,x∈b↔x∈bound∨x∈V)
theorem Sp.wW {r c n V size bound} (h:Sp r c n V size bound):r.isSome=true↔(c∧size + n≤20000∧iX V bound):=by
 rcases h with ⟨rfl,h⟩ | ⟨b,rfl,h,_⟩
 ·simpa using h
 ·simpa using h
theorem Sp.iff {r c c' n V size bound} (h:Sp r c n V size bound) (hc:c↔c'):Sp r c' n V size bound:=by
 unfold Sp at h ⊢; rwa [hc] at h
theorem Sp.perm {r c n V W size bound} (h:Sp r c n V size bound) (hp:V.Perm W):Sp r c n W size bound:=by
 unfold Sp at h ⊢; simpa only[iX.perm hp,hp.mem_iff] using h
theorem Sp.nil {size:Int} {bound:List Int} (h:size≤20000):Sp (some (size,bound)) True 0 [] size bound:=
 .inr ⟨bound,by simp,⟨trivial,by omega,by simp[iX]⟩,by simp⟩
theorem Sp.test {r c n V size bound} {p:Prop} [Decidable p] (h: ¬p→Sp r c n V size bound):Sp (if p then none else r) (¬p∧c) n V size bound:=by
 by_cases hp:p
 ·rw[if_pos hp];exact .inl ⟨rfl,fun h=>h.1.1 hp⟩
 ·rw[if_neg hp];exact (h hp).iff (by simp[hp])
theorem Sp.seq {r1:Option (Int×List Int)} {f:Int→List Int→Option (Int×List Int)} {c1 c2:Prop} {n1 n2:Int} {V1 V2:List Int} {size:Int} {bound:List Int} (h1:Sp r1 c1 n1 V1 size bound) (hn:0≤n2)
  (h2: ∀ b,size + n1≤20000→Sp (f (size + n1) b) c2 n2 V2 (size + n1) b):Sp (match (generalizing:=false) r1 with | none=>none | some (s,b)=>f s b) (c1∧c2) (n1 + n2) (V1++V2) size bound:=by
 rcases h1 with ⟨rfl,h⟩ | ⟨b,rfl,⟨k1,k2,k3⟩,hb⟩
 ·exact .inl ⟨rfl,fun ⟨⟨g1,g2⟩,g3,g4⟩=>h ⟨g1,by omega,((iX.append (c:=bound++V1) (by simp)).1 g4).1⟩⟩
 ·rcases h2 b k2 with ⟨e,h⟩ | ⟨b',e,⟨g1,g2,g3⟩,hb'⟩
  ·exact .inl ⟨e,fun ⟨⟨g1,g2⟩,g3,g4⟩=>h ⟨g2,by omega,((iX.append hb).1 g4).2⟩⟩
  ·exact .inr ⟨b',by rw[←Int.add_assoc];exact e,⟨⟨k1,g1⟩,by omega,(iX.append hb).2 ⟨k3,g3⟩⟩,fun x=>by rw[hb',hb,List.mem_append,or_assoc]⟩
theorem o4: ∀ (l bound:List Int),(bw l bound).1=true↔iX l bound
 | [],bound=>by simp[bw,iX]
 | v::l,bound=>by
  rw[bw]
  split
  ·rename_i hv
   rw[o4 l,show v::l= [v]++l from rfl,iX.append (l:= [v]) (c:=bound++ [v]) (by simp)];simp[K6] at hv;simp[iX];intro _ _;exact ⟨by omega,by omega,hv.2⟩
  ·rename_i hv
   simp only[Bool.false_eq_true,false_iff];rintro ⟨h,_⟩;have:=h v (by simp);apply hv;simp[K6];exact ⟨by omega,this.2.2⟩
theorem xK: ∀ (l bound:List Int),(bw l bound).1=true→(bw l bound).2=bound++l
 | [],bound,_=>by simp[bw]
 | v::l,bound,h=>by
  rw[bw] at h⊢
  split at h
  ·rename_i hv
   rw[if_pos hv,xK l _ h];simp
  ·cases h
theorem Sp.bind {v bound:List Int} {size:Int} {r:Option (Int×List Int)} {c:Prop} {n:Int} {V:List Int} (h:(bw v bound).1=true→Sp r c n V size (bound++v)):Sp (if (bw v bound).1=true then r else none) c n (v++V) size bound:=by
 have ha:iX (v++V) bound↔iX v bound∧iX V (bound++v):=iX.append (by simp);by_cases hb:(bw v bound).1=true
 ·have hd:=(o4 _ _).1 hb
  rw[if_pos hb]
  rcases h hb with ⟨rfl,hh⟩ | ⟨b,rfl,⟨k1,k2,k3⟩,hm⟩
  ·exact .inl ⟨rfl,fun ⟨g1,g2,g3⟩=>hh ⟨g1,g2,(ha.1 g3).2⟩⟩
  ·exact .inr ⟨b,rfl,⟨k1,k2,ha.2 ⟨hd,k3⟩⟩,fun x=>by rw[hm,List.mem_append,List.mem_append,or_assoc]⟩
 ·rw[if_neg hb]
  exact .inl ⟨rfl,fun ⟨_,_,g3⟩=>hb ((o4 _ _).2 (ha.1 g3).1)⟩
theorem Sp.tick {r c n V size bound} (hn:0≤n) (h:size + 1≤20000→Sp r c n V (size + 1) bound):Sp (if size + 1 > 20000 then none else r) c (1 + n) V size bound:=by
 split
 ·exact .inl ⟨rfl,fun ⟨_,h,_⟩=>by omega⟩
 ·rcases h (by omega) with ⟨rfl,hh⟩ | ⟨b,rfl,k,hm⟩
  ·exact .inl ⟨rfl,fun ⟨g1,g2,g3⟩=>hh ⟨g1,by omega,g3⟩⟩
  ·exact .inr ⟨b,by rw[←Int.add_assoc],⟨k.1,by omega,k.2.2⟩,hm⟩
mutual
def aa.cnt:aa→Int
 | .mk _ _ _ t=>1 + aa.c6 t
def aa.c6:List aa→Int
 | []=>0
 | x::xs=>aa.cnt x + aa.c6 xs
end
mutual
def aa.vars:aa→List Int
 | .mk _ _ v t=>v++aa.iw t
def aa.iw:List aa→List Int
 | []=> []
 | x::xs=>aa.vars x++aa.iw xs
end
theorem aa.kU (t:aa):t.cnt=1 + aa.c6 t.t:=by cases t;rfl
theorem aa.va (t:aa):t.vars=t.v++aa.iw t.t:=by cases t;rfl
theorem aa.qS (t:aa):1≤t.cnt:=by
 induction t using aa.ind with
 | h t ih=>
  rw[aa.kU]
  have: ∀ l:List aa,(∀ x∈l,1≤x.cnt)→0≤aa.c6 l:=by
   intro l
   induction l with
   | nil=>intro _;rw[aa.c6];omega
   | cons y l ih=>intro h;rw[aa.c6];have:=h y (by simp);have:=ih fun x hx=>h x (by simp[hx]);omega
  have:=this t.t ih;omega
theorem aa.eO: ∀ l:List aa,0≤aa.c6 l
 | []=>by rw[aa.c6];omega
 | x::l=>by rw[aa.c6];have:=x.qS;have:=aa.eO l;omega
mutual
def aa.xm (level consts codes:Int) (free:Bool):aa→List Int→Int→Prop
 | .mk op n v t,scope,deep=>(deep≤400∧ek op level=true∧dF (.mk op n v t)=true∧cB consts codes free (.mk op n v t) scope=true)∧aa.jd level consts codes free op scope (scope++v) t (deep + 1)
def aa.jd (level consts codes:Int) (free:Bool) (op:Int) (scope inner:List Int):List aa→Int→Prop
 | [],_=>True
 | x::xs,deep=>(¬(op=9∧xs≠ []∧x.op≠qw level))∧aa.xm level consts codes free x (if xs= []∨op=7∨op=9 then inner else scope) deep∧aa.jd level consts codes free op scope inner xs deep
end
theorem aa.nO (level consts codes:Int) (free:Bool) (t:aa) (scope:List Int) (deep:Int):t.xm level consts codes free scope deep↔
  (deep≤400∧ek t.op level=true∧dF t=true∧cB consts codes free t scope=true)∧aa.jd level consts codes free t.op scope (scope++t.v) t.t (deep + 1):=by cases t;rw[aa.xm];rfl
theorem aa.IU (level consts codes:Int) (free:Bool) (t:aa): ∀ (scope:List Int) (deep size:Int) (bound:List Int),Sp (t.C6 level consts codes free scope deep size bound) (t.xm level consts codes free scope deep) t.cnt t.vars size bound:=by
 induction t using aa.ind with
 | h t ih=>
  intro scope deep size bound
  have key: ∀ l:List aa,(∀ y∈l, ∀ (scope:List Int) (deep size:Int) (bound:List Int),Sp (y.C6 level consts codes free scope deep size bound) (y.xm level consts codes free scope deep) y.cnt y.vars size bound)→
    ∀ (deep size:Int) (bound:List Int),size≤20000→Sp (aa.oC level consts codes free t.op scope (scope++t.v) l deep size bound) (aa.jd level consts codes free t.op scope (scope++t.v) l deep) (aa.c6 l) (aa.iw l) size bound:=by
   intro l
   induction l with
   | nil=>intro _ deep size bound h;rw[aa.oC,aa.jd,aa.c6,aa.iw];exact Sp.nil h
   | cons x l ihl=>
    intro hy deep size bound h;rw[aa.oC,aa.jd,aa.c6,aa.iw];exact Sp.test fun _=>Sp.seq (hy x (by simp) _ _ _ _) (aa.eO l) fun b hb=>ihl (fun y hh=>hy y (by simp[hh])) _ _ _ hb
  rw[aa.Dq,aa.kU,aa.va,aa.nO]
  have h1:(if (decide (deep > 400) || decide (size + 1 > 20000) || !ek t.op level || !dF t || !cB consts codes free t scope)=true then none else
    if (bw t.v bound).1=true then aa.oC level consts codes free t.op scope (scope++t.v) t.t (deep + 1) (size + 1) (bw t.v bound).2 else none)=
    (if ¬(deep≤400∧ek t.op level=true∧dF t=true∧cB consts codes free t scope=true) then none else if size + 1 > 20000 then none else
    if (bw t.v bound).1=true then aa.oC level consts codes free t.op scope (scope++t.v) t.t (deep + 1) (size + 1) (bound++t.v) else none):=by
   by_cases a:deep≤400∧ek t.op level=true∧dF t=true∧cB consts codes free t scope=true
   ·rw[if_neg (c:= ¬ _) (by simpa using a)]
    by_cases b:size + 1 > 20000
    ·rw[if_pos b,if_pos (by simp[b])]
    ·rw[if_neg b,if_neg (by simp[a];omega)]
     split
     ·rename_i hb;rw[xK _ _ hb]
     ·rfl
   ·rw[if_pos (c:= ¬ _) a,if_pos]
    simp only[Bool.or_eq_true,decide_eq_true_eq,Bool.not_eq_true'];apply Classical.byContradiction;intro h;apply a;simp only[not_or,Bool.not_eq_false] at h;exact ⟨by omega,h.1.1.2,h.1.2,h.2⟩
  rw[h1];refine (Sp.test fun _=>Sp.tick (aa.eO _) fun hs=>Sp.bind fun _=>key t.t ih _ _ _ hs).iff ?_;rw[Classical.not_not]
theorem Ee (consts codes:Int) (free:Bool) (t:aa) (scope:List Int):kJ consts codes free t scope=cB consts codes free t scope:=by
 unfold kJ cB
 split;rfl
 split;rfl
 split
 ·rw[Bool.eq_iff_iff];simp;omega
 ·rfl
theorem KI (level:Int) (h0:0≤level) (h3:level≤3) (t:aa):
  ((cQ t.op).2=true∧(cQ t.op).1.fm≤level∧level≤(cQ t.op).1.to∧nj (cQ t.op).1 t=true)↔(ek t.op level=true∧dF t=true):=by
 have hc:t.op < 0∨t.op > 22∨t.op=0∨t.op=1∨t.op=2∨t.op=3∨t.op=4∨t.op=5∨t.op=6∨t.op=7∨t.op=8∨t.op=9∨t.op=10∨t.op=11∨t.op=12∨t.op=13∨t.op=14∨t.op=15∨t.op=16∨t.op=17∨t.op=18∨t.op=19∨t.op=20∨t.op=21∨t.op=22:=by omega
 rcases hc with h | h | h | h | h | h | h | h | h | h | h | h | h | h | h | h | h | h | h | h | h | h | h | h | h
 ·have e:cQ t.op=(⟨0,0,0,false,false⟩,false):=by unfold cQ;repeat rw[if_neg (by omega)]
  have e2:ek t.op level=false:=by unfold ek;repeat rw[if_neg (by omega)]
  simp[e,e2]
 ·have e:cQ t.op=(⟨0,0,0,false,false⟩,false):=by unfold cQ;repeat rw[if_neg (by omega)]
  have e2:ek t.op level=false:=by unfold ek;repeat rw[if_neg (by omega)]
  simp[e,e2]
 all_goals
  simp[cQ,ek,dF,nj,zo,h]
  try (first | omega | (simp only[←List.length_eq_zero_iff];omega))
def aa.Mn (level consts codes:Int) (free:Bool) (inner:List Int):List aa→Int→Prop
 | [],_=>True
 | x::xs,deep=>aa.xm level consts codes free x inner deep∧aa.Mn level consts codes free inner xs deep
theorem aa.JX {level consts codes:Int} {free:Bool} {op:Int} (hop:op=7∨op=9) (scope inner:List Int) (deep:Int): ∀ l:List aa,aa.jd level consts codes free op scope inner l deep↔(¬((op == 9 && !jq level l.dropLast)=true)∧aa.Mn level consts codes free inner l deep)
 | []=>by simp[aa.jd,aa.Mn,jq]
 | [x]=>by
  rw[aa.jd,aa.Mn,if_pos (.inl rfl)];simp[aa.jd,aa.Mn,jq]
 | x::y::l=>by
  rw[aa.jd,aa.Mn,if_pos (.inr hop),aa.JX hop scope inner deep (y::l)]
  have e:(op == 9 && !jq level (x::y::l).dropLast)=true↔(op=9∧x.op≠qw level)∨(op == 9 && !jq level (y::l).dropLast)=true:=by
   rw[show (x::y::l).dropLast=x::(y::l).dropLast from rfl];simp only[jq,qw,Bool.and_eq_true,beq_iff_eq,List.any_cons,Bool.not_not,Bool.or_eq_true,bne_iff_ne];constructor
   ·rintro ⟨h1,h2 | h2⟩
    ·exact .inl ⟨h1,h2⟩
    ·exact .inr ⟨h1,h2⟩
   ·rintro (⟨h1,h2⟩ | ⟨h1,h2⟩)
    ·exact ⟨h1,.inl h2⟩
    ·exact ⟨h1,.inr h2⟩
  rw[e];constructor
  ·rintro ⟨h1,h2,h3,h4⟩
   exact ⟨fun h=>h.elim (fun h=>h1 ⟨h.1,by simp,h.2⟩) h3,h2,h4⟩
  ·rintro ⟨h1,h2,h4⟩
   exact ⟨fun h=>h1 (.inl ⟨h.1,h.2.2⟩),h2,fun h=>h1 (.inr h),h4⟩
theorem aa.NF (level consts codes:Int) (free:Bool) (h0:0≤level) (h3:level≤3) (t:aa): ∀ (scope:List Int) (deep size:Int) (bound:List Int),Sp (t.tQ level consts codes free scope deep size bound) (t.xm level consts codes free scope deep) t.cnt t.vars size bound:=by
 induction t using aa.ind with
 | h t ih=>
  intro scope deep size bound
  have keyG: ∀ l:List aa,(∀ y∈l, ∀ (scope:List Int) (deep size:Int) (bound:List Int),Sp (y.tQ level consts codes free scope deep size bound) (y.xm level consts codes free scope deep) y.cnt y.vars size bound)→
    ∀ (inner:List Int) (deep size:Int) (bound:List Int),size≤20000→Sp (aa.kT level consts codes free inner l deep size bound) (aa.Mn level consts codes free inner l deep) (aa.c6 l) (aa.iw l) size bound:=by
   intro l
   induction l with
   | nil=>intro _ inner deep size bound h;rw[aa.kT,aa.Mn,aa.c6,aa.iw];exact Sp.nil h
   | cons x l ihl=>
    intro hy inner deep size bound h;rw[aa.kT,aa.Mn,aa.c6,aa.iw];exact Sp.seq (hy x (by simp) _ _ _ _) (aa.eO l) fun b hb=>ihl (fun y hh=>hy y (by simp[hh])) _ _ _ _ hb
  have keyI:t.op≠7→t.op≠9→ ∀ l:List aa,(∀ y∈l, ∀ (scope:List Int) (deep size:Int) (bound:List Int),Sp (y.tQ level consts codes free scope deep size bound) (y.xm level consts codes free scope deep) y.cnt y.vars size bound)→
    ∀ (deep size:Int) (bound:List Int),size≤20000→Sp (aa.qQ level consts codes free scope t.v l deep size bound) (aa.jd level consts codes free t.op scope (scope++t.v) l deep) (aa.c6 l) (t.v++aa.iw l) size bound:=by
   intro h7 h9 l
   induction l with
   | nil=>intro _ deep size bound h;rw[aa.qQ,aa.jd,aa.c6,aa.iw];exact Sp.bind fun _=>Sp.nil h
   | cons x l ihl=>
    intro hy deep size bound h;rw[aa.qQ,aa.jd,aa.c6,aa.iw]
    cases l with
    | nil=>
     rw[if_pos (show ([]:List aa).isEmpty=true from rfl),if_pos (show ([]:List aa)= []∨t.op=7∨t.op=9 from .inl rfl),aa.c6,aa.iw,List.append_nil,Int.add_zero];exact (Sp.bind fun _=>hy x (by simp) _ _ _ _).iff (by simp[h9,aa.jd])
    | cons y l=>
     rw[if_neg (show ¬((y::l).isEmpty=true) by simp),if_neg (show ¬((y::l)= []∨t.op=7∨t.op=9) by simp[h7,h9])];refine ((Sp.seq (hy x (by simp) _ _ _ _) (aa.eO (y::l)) fun b hb=>ihl (fun y hh=>hy y (by simp[hh])) _ _ _ hb).iff (by simp[h9])).perm ?_;rw[←List.append_assoc, ←List.append_assoc];exact List.perm_append_comm.append_right _
  rw[aa.Dr,aa.kU,aa.va,aa.nO];have hsh:=KI level h0 h3 t
  have hloc:(deep≤400∧ek t.op level=true∧dF t=true∧cB consts codes free t scope=true)↔(deep≤400∧((cQ t.op).2=true∧(cQ t.op).1.fm≤level∧level≤(cQ t.op).1.to∧nj (cQ t.op).1 t=true)∧kJ consts codes free t scope=true):=by
   rw[hsh,Ee,and_assoc]
  have hb: ∀ r:Option (Int×List Int),(if zn level consts codes free t scope deep (size + 1)=true then none else r)=
    (if ¬(deep≤400∧ek t.op level=true∧dF t=true∧cB consts codes free t scope=true) then none else if size + 1 > 20000 then none else r):=by
   intro r;by_cases a:deep≤400∧ek t.op level=true∧dF t=true∧cB consts codes free t scope=true
   ·rw[if_neg (c:= ¬ _) (by simpa using a)]
    have a':=hloc.1 a;by_cases b:size + 1 > 20000
    ·rw[if_pos b,if_pos (by simp[zn,b])]
    ·rw[if_neg b,if_neg (by simp[zn,a'];omega)]
   ·rw[if_pos (c:= ¬ _) a,if_pos]
    simp only[zn,Bool.or_eq_true,decide_eq_true_eq,Bool.not_eq_true'];apply Classical.byContradiction;intro h;apply a;rw[hloc];simp only[not_or,Bool.not_eq_false] at h;exact ⟨by omega,⟨h.1.1.1.1.1.1,by omega,by omega,h.1.2⟩,h.2⟩
  rw[hb];by_cases hg:fk t.op=true
  ·have hop:t.op=7∨t.op=9:=by simpa[fk] using hg
   rw[if_pos hg];refine (Sp.test fun _=>Sp.tick (aa.eO _) fun hs=>Sp.test fun _=>Sp.bind fun _=>keyG t.t ih _ _ _ _ hs).iff ?_;rw[Classical.not_not,aa.JX hop]
  ·have hop:t.op≠7∧t.op≠9:=by simpa[fk] using hg
   rw[if_neg hg];refine (Sp.test fun _=>Sp.tick (aa.eO _) fun hs=>keyI hop.1 hop.2 t.t ih _ _ _ hs).iff ?_;rw[Classical.not_not]
theorem Pr (level consts codes:Int) (free:Bool) (h0:0≤level) (h3:level≤3) (t:aa) (scope:List Int) (deep size:Int) (bound:List Int):
  (t.tQ level consts codes free scope deep size bound).isSome=(t.C6 level consts codes free scope deep size bound).isSome:=by
 rw[Bool.eq_iff_iff,(t.NF level consts codes free h0 h3 scope deep size bound).wW,(t.IU level consts codes free scope deep size bound).wW]
theorem vC {a:List UInt8} (r:List UInt8) (h:a.all ei=true):iB (a++r)=a.length + iB r:=by
 induction a with
 | nil=>simp
 | cons c a ih=>
  simp only[List.all_cons,Bool.and_eq_true] at h;rw[List.cons_append,iB,if_pos h.1,ih h.2,List.length_cons];omega
theorem vD {a:List UInt8} (r:List UInt8) (h:a.all ei=false): ∃ c,a[iB (a++r)]?=some c∧ei c=false∧iB (a++r) < a.length:=by
 induction a with
 | nil=>simp at h
 | cons c a ih=>
  rw[List.cons_append,iB];by_cases hc:ei c=true
  ·rw[List.all_cons,hc,Bool.true_and] at h
   obtain ⟨x,h1,h2,h3⟩:=ih h;rw[if_pos hc];exact ⟨x,by simpa using h1,h2,by simp;exact h3⟩
  ·rw[if_neg hc]
   exact ⟨c,by simp,by simpa using hc,by simp⟩
theorem jH (a:List UInt8):iC a=true↔((bT a).2≠0∧(bT a).2=a.length):=by
 unfold iC bT;cases h:a.all ei
 ·obtain ⟨c,h1,h2,h3⟩:=vD [] h
  rw[List.append_nil] at h3;simp only[Bool.and_false,Bool.false_eq_true,false_iff]
  split
  ·simp
  ·rintro ⟨_,h⟩;simp only at h;omega
 ·have hd:=vC [] h
  rw[List.append_nil] at hd;simp only[iB] at hd;simp only[Bool.and_true,Bool.and_eq_true,decide_eq_true_eq]
  split
  ·simp;omega
  ·simp;omega
theorem yy {a:List UInt8} (h:iC a=true):jm a=(bT a).1:=by
 have h2:=(jH a).1 h;unfold jm;rw[if_pos h];unfold bT at h2⊢
 split at h2
 ·simp at h2
 ·rename_i hd
  rw[if_neg hd];simp only at h2;rw[h2.2,List.take_length]
theorem Gs (u:List UInt8):(Go.Lib.indexByte u 47 < 0∧uG u 47=u∧(47:UInt8)∉u)∨(∃ a b,u=a++47::b∧0≤Go.Lib.indexByte u 47∧uG u 47=a∧z8 u 47=b∧(47:UInt8)∉a):=by
 induction u with
 | nil=>left;simp[Go.Lib.indexByte,uG]
 | cons c u ih=>
  by_cases h:c=47
  ·subst h
   right;have e:Go.Lib.indexByte (47::u) 47=0:=by simp[Go.Lib.indexByte]
   exact ⟨[],u,rfl,by omega,by simp[uG,e],by simp[z8,e],by simp⟩
  ·have h1:(c == 47)=false:=by simp[h]
   rcases ih with ⟨h2,h3,h4⟩ | ⟨a,b,rfl,h2,h3,h4,h5⟩
   ·have e:Go.Lib.indexByte (c::u) 47= -1:=by have:=Go.Lib.indexByte_ge u 47;rw[Go.Lib.indexByte,h1];simp;omega
    exact .inl ⟨by omega,by simp[uG,e],by simp;exact ⟨fun e=>h e.symm,h4⟩⟩
   ·have e:Go.Lib.indexByte (c::(a++47::b)) 47=Go.Lib.indexByte (a++47::b) 47 + 1:=by rw[Go.Lib.indexByte,h1];simp;omega
    refine .inr ⟨c::a,b,rfl,by omega,?_,?_,by simp;exact ⟨fun e=>h e.symm,h5⟩⟩
    ·unfold uG at h3⊢
     rw[if_pos h2] at h3;rw[if_pos (by omega),e,show (Go.Lib.indexByte (a++47::b) 47 + 1).toNat=(Go.Lib.indexByte (a++47::b) 47).toNat + 1 by omega,List.take_succ_cons,h3]
    ·unfold z8 at h4⊢
     rw[if_pos h2] at h4;rw[if_pos (by omega),e,show (Go.Lib.indexByte (a++47::b) 47 + 1).toNat=(Go.Lib.indexByte (a++47::b) 47).toNat + 1 by omega,List.drop_succ_cons,h4]
theorem LZ:ei 47=false:=by decide
theorem J5 (s:List UInt8):wE s=jo s:=by
 have hu:(if mF s=true then s.drop 1 else s)=iF s:=rfl;unfold wE;simp only[hu];rw[yK];generalize iF s=u
 rcases Gs u with ⟨hi,ha,hn⟩ | ⟨a,b,rfl,hi,ha,hb,hn⟩
 ·rw[ha,if_neg (show ¬(0≤Go.Lib.indexByte u 47) by omega)]
  have h49:iC [49]=true:=by decide
  have h49v:jm [49]=1:=by decide
  rw[h49,h49v,Bool.and_true];cases hall:u.all ei
  ·obtain ⟨c,h1,h2,h3⟩:=vD [] hall
   rw[List.append_nil] at h1 h3;have hnb:iC u=false:=by unfold iC;rw[hall];simp
   rw[hnb];simp only[Bool.false_eq_true,if_false];unfold bT
   split
   ·rfl
   ·rename_i h10
    simp only
    split
    ·rfl
    ·have:jW u (iB u)=none:=by
      unfold jW;rw[if_pos h3,if_neg];rintro ⟨h,_⟩;rw[h1] at h;cases h;exact hn (List.mem_of_getElem? h1)
     rw[this]
  ·have hd:=vC [] hall
   rw[List.append_nil] at hd;simp only[iB,Nat.add_zero] at hd;by_cases hnb:iC u=true
   ·have hp:=(jH u).1 hnb
    rw[hnb,if_pos rfl,if_neg hp.1,yy hnb];have:jW u (bT u).2=some 1:=by unfold jW;rw[if_neg (by omega)]
    rw[this]
   ·have:(bT u).2=0:=by
     have:=mt (jH u).2 hnb;unfold bT at this⊢
     split at this
     ·rename_i h;rw[if_pos h]
     ·rename_i h;rw[if_neg h];simp only at this ⊢; omega
    rw[if_neg hnb,if_pos this]
 ·rw[ha,hb,if_pos hi]
  have h47:iB (47::b)=0:=by rw[iB,LZ];rfl
  cases hall:a.all ei
  ·obtain ⟨c,h1,h2,h3⟩:=vD (47::b) hall
   have hnb:iC a=false:=by unfold iC;rw[hall];simp
   rw[hnb];simp only[Bool.false_and,Bool.false_eq_true,if_false];unfold bT
   split
   ·rfl
   ·simp only
    split
    ·rfl
    ·have:jW (a++47::b) (iB (a++47::b))=none:=by
      unfold jW;rw[if_pos (by simp;omega),if_neg];rintro ⟨h,_⟩;rw[List.getElem?_append_left h3,h1] at h;cases h;exact hn (List.mem_of_getElem? h1)
     rw[this]
  ·have hd:=vC (47::b) hall
   rw[h47,Nat.add_zero] at hd;by_cases hnb:iC a=true
   ·have hp:=(jH a).1 hnb
    have hl:1≤a.length∧a.length≤10:=by
     unfold iC at hnb;simp only[Bool.and_eq_true,decide_eq_true_eq] at hnb;exact ⟨hnb.1,hnb.2.1⟩
    have hpu:bT (a++47::b)=(jm a,a.length):=by
     unfold bT jm;rw[hd,if_neg (by omega),if_pos hnb,List.take_left]
    rw[hpu];simp only;rw[if_neg (show ¬(a.length=0) by omega),hnb,Bool.true_and]
    have hlo:jW (a++47::b) a.length=if iC b=true then some (jm b) else none:=by
     unfold jW;rw[if_pos (by simp)];have e1:(a++47::b)[a.length]?=some 47:=by simp
     have e2:(a++47::b).drop (a.length + 1)=b:=by rw[List.drop_append];simp
     rw[e1,e2];by_cases hb':iC b=true
     ·have:=(jH b).1 hb'
      rw[if_pos hb',yy hb',if_pos ⟨rfl,this.1,by simp;omega⟩]
     ·rw[if_neg hb',if_neg]
      rintro ⟨_,g1,g2⟩;exact hb' ((jH b).2 ⟨g1,by simp at g2;omega⟩)
    rw[hlo];by_cases hb':iC b=true
    ·rw[if_pos hb',if_pos hb']
    ·rw[if_neg hb',if_neg hb']
   ·have:(bT (a++47::b)).2=0:=by
     unfold bT;rw[hd]
     split
     ·rfl
     ·simp only
      unfold iC at hnb;rw[hall] at hnb;simp only[Bool.and_true,Bool.and_eq_true,decide_eq_true_eq] at hnb;omega
    rw[if_pos this,show iC a=false by simpa using hnb];rfl
theorem Cr:dm.contains=nL:=by
 funext c;simp only[nL,Bs,sU,dm,List.contains_cons,List.contains_nil,Bool.or_false];rw[Bool.eq_iff_iff];simp only[Bool.or_eq_true,beq_iff_eq,Bool.and_eq_true,decide_eq_true_eq, ←UInt8.toNat_inj];simp;omega
theorem Mh (s:List UInt8):sV s=oT s:=by
 unfold sV oT;rw[J5,Cr]
 have ht:((kN nL s).dropWhile nL == [])=s.all nL:=by
  rw[Bool.eq_iff_iff,beq_iff_eq,xg]
 rw[ht];by_cases hs:s= []
 ·subst hs;simp
 ·have hl:=List.length_pos_iff.2 hs
  cases s.all nL<;>cases (jo s).2.2<;>rw[Bool.eq_iff_iff]<;>simp[hs]<;>omega
theorem JR {s:List UInt8} (h:oT s=true):s.any mN=false:=by
 simp only[oT,Bool.and_eq_true] at h;rw[List.any_eq_false];intro c hc;have hm:=List.all_eq_true.1 h.2.2.1 c hc;rw[←Cr] at hm;simp only[dm,List.contains_cons,List.contains_nil,Bool.or_false,Bool.or_eq_true,beq_iff_eq, ←UInt8.toNat_inj] at hm;simp only[mN,Bool.or_eq_true,decide_eq_true_eq];simp at hm ⊢;omega
theorem LB (d:Datum) (deep:Int):gU d deep=gT d deep:=by
 obtain ⟨k,n,e,s,l⟩:=d;have hn:=Mh s;have hs:= @JR s;have hz:s= []→s.any mN=false:=fun h=>by rw[h];rfl
 unfold gU gT;simp only[Datum.kind,Datum.n,Datum.d,Datum.s,Datum.l,m9];generalize s.any mN=B at *;have hc:k < 0∨k > 7∨k=0∨k=1∨k=2∨k=3∨k=4∨k=5∨k=6∨k=7:=by omega
 rcases hc with h | h | h | h | h | h | h | h | h | h
 ·simp[h,show ¬k=0 by omega,show ¬k=1 by omega,show ¬k=2 by omega,show ¬k=3 by omega,show ¬k=4 by omega,show ¬k=5 by omega,show ¬k=6 by omega,show ¬k=7 by omega]
 ·simp[h,show ¬k=0 by omega,show ¬k=1 by omega,show ¬k=2 by omega,show ¬k=3 by omega,show ¬k=4 by omega,show ¬k=5 by omega,show ¬k=6 by omega,show ¬k=7 by omega]
 all_goals
  subst h;rw[Bool.eq_iff_iff];simp
  grind
theorem Kp (d:Datum): ∀ deep:Int,d.fQ deep=d.bS deep:=by
 induction d using Datum.ind with
 | h d ih=>
  intro deep;rw[Datum.yQ,Datum.lS,LB];congr 1
  have: ∀ l:List Datum,(∀ y∈l, ∀ deep:Int,y.fQ deep=y.bS deep)→ ∀ deep,Datum.kM l deep=Datum.eH l deep:=by
   intro l
   induction l with
   | nil=>intro _ deep;rw[Datum.kM,Datum.eH]
   | cons x l ihl=>intro hy deep;rw[Datum.kM,Datum.eH,hy x (by simp),ihl fun y h=>hy y (by simp[h])]
  exact this d.l ih _
theorem xo (d:Datum):af Tryz.prog 73 [.agg d.cells] [] (fun y Γ'=>y=.bool (!d.fQ 0)∧Γ'= []):=by
 refine af.ah ai Tryz.func73 rfl rfl (n:=6) rfl rfl ?_
 conv=>whnf
 repeat' (first|refine dw ?_|((first|refine pC (Ko d) wR ?_|intro _);conv=>whnf)|(refine zX (fun hc=>?_) (fun hc=>?_)<;>(try simp only[SY] at hc)<;>omega))
 exact ak.gen (Wk.refl _) ⟨rfl,rfl⟩
theorem z7 (l:List Datum):aA Tryz.prog 47 [.sl 5 (l.map Datum.pv) none] (.bool (l.all fun d=>d.fQ 0)):=by
 refine af.ah ai Tryz.func47 rfl rfl (n:=6) rfl rfl ?_
 conv=>whnf
 skip
 refine av.go (kC 73 [] [] (fun d=>!d.fQ 0) l (fun d _=>xo d)) (aX.refl _) ?_;rintro _ _ ⟨rfl,rfl⟩
 conv=>whnf
 skip
 exact ak.pure (Wk.bool (by rw[List.not_any_eq_all_not];simp))
theorem CS:(fun (_:Value)=>(none:Option PV))=aT []:=by
 funext v;unfold aT;split<;>simp
def jj (p:Prog) (level:Int):Int:=
 if (decide (level < 0) || decide (level≥3))=true then 1 else
 if (p.consts.all (fun d=>d.fQ 0) && (p.body.tQ level p.consts.length 0 false [] 0 0 []).isSome)=true then 0 else 5
theorem Bx (p:Prog) (level:Int) (hb:p.body.aQ≤1000000000) (hl:p.consts.length≤1000000000):aA Tryz.prog 28 [.agg p.cells,.int .i64 level] (.int .i64 (jj p level)):=by
 have hs:jj p level=jj p level:=rfl
 conv at hs=>rhs;unfold jj
 refine af.ah ai Tryz.func28 rfl rfl (n:=31) rfl rfl ?_
 conv=>whnf
 repeat' (first|refine dw ?_|((first|refine pC (z7 _) wR ?_|intro _);conv=>whnf)|(refine zX (fun hc=>?_) (fun hc=>?_)<;>(try simp only[SY] at hc)<;>(conv=>whnf)))
 ·rw[hs,if_pos (by simp only[SS];exact hc)]
  exact ak.pure (Wk.refl _)
 ·refine e6.ways (fun hg=>?_) (fun hg=>?_)
  ·conv=>whnf
   conv=>whnf
   repeat (first|refine mj ?_|((intro _);conv=>whnf))
   rename_i b1 r1 b2 r2;have hall:(p.consts.all fun d=>d.fQ 0)=true:=by simpa using hg
   have hcall:=Kq b2 r1 r2 level p.consts.length 0 false p.body [] 0 0 [] [] [] (by omega) (by omega) (by omega) (by omega) (by simp) hb;rw[←CS] at hcall;refine av.OY (au.box (b:=b2) (cs:= [.int .i64 level,.int .i64 p.consts.length,.int .i64 0,.bfalse,.int .i64 0,.mp r1]) (cs':=vv level p.consts.length 0 0 false r1) wA) hcall (aX.refl _) ?_;rintro _ _ ⟨rfl,sz,mb,ms,pb,ps,rfl,hs2⟩
   conv=>whnf
   repeat' ((refine zX (fun hc=>?_) (fun hc=>?_)<;>(try simp only[SY] at hc)<;>(conv=>whnf)))
   ·rw[hs,if_neg (by simp only[SS];omega),if_neg (by rw[hc,hall];simp)]
    exact ak.pure (Wk.refl _)
   ·rw[hs,if_neg (by simp only[SS];omega),if_pos (by rw[hc,hall];rfl)]
    exact ak.pure (Wk.refl _)
  ·conv=>whnf
   rw[hs,if_neg (by simp only[SS];omega),if_neg (by simp only[Bool.not_not] at hg;rw[hg];simp)];exact ak.pure (Wk.refl _)
theorem vp (p:Prog) (level:Int):jj p level=ji p level:=by
 unfold jj ji;have hr:(fun d:Datum=>d.fQ 0)=fun d=>d.bS 0:=by funext d;exact Kp d 0
 by_cases h:(decide (level < 0) || decide (level > 2))=true
 ·rw[if_pos h,if_pos (by simp at h ⊢; omega)]
 ·rw[if_neg h,if_neg (by simp at h ⊢; omega),hr,Pr _ _ _ _ (by simp at h;omega) (by simp at h;omega)]
def gQ (p:Prog) (level:Int):Prop:=
 (0≤level∧level≤2)∧(∀ d∈p.consts,d.bS 0=true)∧p.body.xm level p.consts.length 0 false [] 0∧p.body.cnt≤20000∧iX p.body.vars []
theorem qO (p:Prog) (level:Int):ji p level=0↔gQ p level:=by
 unfold ji gQ;have h:=(p.body.IU level p.consts.length 0 false [] 0 0 []).wW;by_cases hl:(decide (level < 0) || decide (level > 2))=true
 ·rw[if_pos hl]
  simp at hl;constructor
  ·intro h;cases h
  ·rintro ⟨h,_⟩;omega
 ·rw[if_neg hl]
  simp at hl
  split
  ·rename_i hr
   simp only[Bool.and_eq_true,List.all_eq_true,h] at hr;exact ⟨fun _=>⟨by omega,hr.1,hr.2.1,by omega,hr.2.2.2⟩,fun _=>rfl⟩
  ·rename_i hr
   simp only[Bool.and_eq_true,List.all_eq_true,h] at hr;exact ⟨fun h=>(by cases h),fun ⟨_,h1,h2,h3,h4⟩=>absurd ⟨h1,h2,by omega,h4⟩ hr⟩
mutual
def aa.Lf:aa→Int
 | .mk op n _ t=>aa.G7 t (if op=0 then n else -1)
def aa.G7:List aa→Int→Int
 | [],m=>m
 | x::xs,m=>aa.G7 xs (max m (aa.Lf x))
end
theorem aa.NW (t:aa):t.Lf=aa.G7 t.t (if t.op=0 then t.n else -1):=by cases t;rw[aa.Lf];rfl
theorem aa.Fc (c:Int): ∀ (l:List aa) (m:Int),aa.G7 l m < c↔m < c∧ ∀ x∈l,x.Lf < c
 | [],m=>by simp[aa.G7]
 | x::l,m=>by
  rw[aa.G7,aa.Fc c l];simp only[List.forall_mem_cons];constructor
  ·rintro ⟨h1,h2⟩;exact ⟨by omega,by omega,h2⟩
  ·rintro ⟨h1,h2,h3⟩;exact ⟨by omega,h3⟩
theorem xy (c1 c2 codes:Int) (free:Bool) (t:aa) (scope:List Int) (h:t.op≠0):cB c1 codes free t scope=cB c2 codes free t scope:=by
 unfold cB;rw[if_neg h,if_neg h]
theorem aa.Eg (level codes:Int) (free:Bool) (c1 c2:Int) (h2:0≤c2) (t:aa): ∀ (scope:List Int) (deep:Int),t.xm level c1 codes free scope deep→(t.xm level c2 codes free scope deep↔t.Lf < c2):=by
 induction t using aa.ind with
 | h t ih=>
  intro scope deep h
  have key: ∀ (op:Int) (sc inner:List Int) (deep:Int) (l:List aa),(∀ y∈l, ∀ (scope:List Int) (deep:Int),y.xm level c1 codes free scope deep→(y.xm level c2 codes free scope deep↔y.Lf < c2))→
    aa.jd level c1 codes free op sc inner l deep→(aa.jd level c2 codes free op sc inner l deep↔ ∀ x∈l,x.Lf < c2):=by
   intro op sc inner deep l
   induction l with
   | nil=>intro _ _;simp[aa.jd]
   | cons x l ihl=>
    intro hy hk;rw[aa.jd] at hk;rw[aa.jd,List.forall_mem_cons,hy x (by simp) _ _ hk.2.1,ihl (fun y hh=>hy y (by simp[hh])) hk.2.2];simp only[hk.1,not_false_eq_true,true_and]
  rw[aa.nO] at h;rw[aa.nO,aa.NW,aa.Fc,key _ _ _ _ _ ih h.2];obtain ⟨⟨g1,g2,g3,g4⟩,_⟩:=h
  have hn:cB c2 codes free t scope=true↔(if t.op=0 then t.n else -1) < c2:=by
   by_cases h0:t.op=0
   ·rw[if_pos h0]
    unfold cB at g4 ⊢;rw[if_pos h0] at g4 ⊢;simp at g4 ⊢;omega
   ·rw[if_neg h0,xy c2 c1 codes free t scope h0]
    simp only[g4,true_iff];omega
  rw[hn];simp only[g1,g2,g3,true_and]
theorem gQ.consts {p:Prog} {level:Int} (h:gQ p level) (cs:List Datum) (hc: ∀ d∈cs,d.bS 0=true):gQ ⟨cs,p.body⟩ level↔p.body.Lf < cs.length:=by
 obtain ⟨h1,h2,h3,h4,h5⟩:=h;unfold gQ;simp only[h1,true_and,h4,h5,and_true];rw[aa.Eg level 0 false p.consts.length cs.length (by omega) p.body [] 0 h3];simp[h1.1,h1.2];exact fun _=>hc
theorem gQ.Lf {p:Prog} {level:Int} (h:gQ p level):p.body.Lf < p.consts.length:=(h.consts p.consts h.2.1).1 h
theorem DX (n:Int) (h0:0≤n) (h1:n≤1000000000):af Tryz.prog 138 [.nil,.int .i64 n] [] (fun y Γ'=>(∃ t:Tok,t.e=3∧t.s=1∧y=.ms t∧Γ'= [.row t []])∨(y=.nil∧Γ'= [])):=by
 refine af.ah ai Tryz.func138 rfl rfl (n:=27) rfl rfl ?_
 conv=>whnf
 repeat' (first|refine dw ?_|(refine zX (fun hc=>?_) (fun hc=>?_)<;>(try simp only[SY] at hc)<;>first|omega|(conv=>whnf)))
 ·refine iE.of ⟨by simp[ec],by simp[ec]⟩ ?_
  conv=>whnf
  skip
  refine De.mk ⟨by omega,by omega,by show _ * 8≤_;omega,rfl,fun t he hs=>?_⟩
  conv=>whnf
  skip
  refine qB.hi hs (by omega) (by simp;omega) (fun t2 he2 hs2=>?_)
  conv=>whnf
  skip
  show ak _ [.row t2 []] _;exact ak.gen (Wk.refl _) (.inl ⟨t2,he2.trans he,hs2.trans hs,rfl,rfl⟩)
 ·exact ak.gen (Wk.refl _) (.inr ⟨rfl,rfl⟩)
theorem Shift.cm (s:Nat) (e:TypeId) (Γ:List aj):Shift .nil Γ (.ms (ay s e)) (.row (ay s e) []::Γ):=fun w0 F M w v hS hx=>
 let ⟨F',h1,h2⟩:=au.cm s e Γ w0 F M w hS
 ⟨F',h1,h2,Wk.cm s e F' v (aE.mono h1 _ _ hx)⟩
theorem Shift.refl (x:PV) (Γ:List aj):Shift x Γ x Γ:=fun _ F _ _ _ hS hx=>⟨F,Fz.le_refl F,hS,hx⟩
theorem G8 (n:Int) (h0:0≤n) (h1:n≤1000000000):af Tryz.prog 138 [.nil,.int .i64 n] [] (fun y Γ'=> ∃ t:Tok,t.e=3∧t.s=1∧y=.ms t∧Γ'= [.row t (([]:List Int).map (PV.int .i64))]):=
 (DX n h0 h1).shift fun y Γ' h=>by
  rcases h with ⟨t,h1,h2,rfl,rfl⟩ | ⟨rfl,rfl⟩
  ·exact ⟨_,_,Shift.refl _ _,t,h1,h2,rfl,rfl⟩
  ·exact ⟨_,_,Shift.cm 1 3 _,_,rfl,rfl,rfl,rfl⟩
def xp:List Int→Int→Nat→Int
 | [],_,_=> -1
 | x::l,v,i=>if v=x then (i:Int) else xp l v (i + 1)
theorem B7: ∀ (l:List Int) (v:Int) (i:Nat),decide (xp l v i≥0)=l.contains v
 | [],_,_=>by simp[xp]
 | x::l,v,i=>by
  rw[xp,List.contains_cons];by_cases h:v=x
  ·rw[if_pos h];simp[h]
  ·rw[if_neg h,B7 l v (i + 1)];simp[h]
theorem DY (l:List Int) (v:Int):aA Tryz.prog 190 [.sl 1 (l.map (PV.int .i64)) none,.int .i64 v] (.int .i64 (xp l v 0)):=by
 refine af.ah ai Tryz.func190 rfl rfl (n:=19) rfl rfl ?_
 conv=>whnf
 repeat (first|refine mj ?_|((intro _);conv=>whnf))
 refine aq.keep [4,5,8,9,10,11,12,13,14,15,16,17,18] (fun i:Nat=> [(8,.int .i64 i)]) (fun i=>i≤l.length∧xp (l.drop i) v i=xp l v 0) (fun i=>l.length - i) 0 ⟨by omega,rfl⟩ wA ?_;rintro i ⟨h1,h2⟩
 conv=>whnf
 repeat' (first|refine dw ?_|(refine zX (fun hc=>?_) (fun hc=>?_)<;>(try simp only[SY] at hc)<;>(conv=>whnf)))
 ·rw[aI (show i < l.length by omega),xp,if_pos hc] at h2
  exact ak.pure (Wk.int h2)
 ·rw[aI (show i < l.length by omega),xp,if_neg hc] at h2
  exact an (i + 1) ⟨by omega,h2⟩ (by show l.length - (i + 1) < l.length - i;omega) wA
 ·rw[List.drop_of_length_le (by omega),xp] at h2
  exact ak.pure (Wk.int h2)
theorem fT (l:List Int) (v:Int):aA Tryz.prog 142 [.sl 1 (l.map (PV.int .i64)) none,.int .i64 v] (.bool (l.contains v)):=by
 refine af.ah ai Tryz.func142 rfl rfl (n:=9) rfl rfl ?_
 conv=>whnf
 repeat' (first|((refine pC (DY l v) wR ?_);conv=>whnf)|(refine zX (fun hc=>?_) (fun hc=>?_)<;>(try simp only[SY] at hc)<;>omega))
 exact ak.pure (Wk.bool (B7 l v 0))
abbrev cW (l:List Int):PV:=.sl 1 (l.map (PV.int .i64)) none
instance:cz cW (fun l=> [cW l]):=⟨fun _=>rfl⟩
def eL (ls:List (List Int)):Nat:=(ls.map List.length).sum
theorem ur (a b:List (List Int)):eL (a++b)=eL a + eL b:=by simp[eL]
theorem MK (ls:List (List Int)) (k:Nat):eL (ls.take k)≤eL ls:=by
 have:=ur (ls.take k) (ls.drop k);rw[List.take_append_drop] at this;omega
theorem y5 (ls:List (List Int)) {k:Nat} (hk:k < ls.length):eL (ls.take (k + 1))=eL (ls.take k) + (ls[k]).length:=by
 rw[List.take_succ_eq_append_getElem hk,ur];simp[eL]
theorem AY (ls:List (List Int)):ls.flatten.length=eL ls:=by simp[eL,List.length_flatten]
theorem zz (ls:List (List Int)) (h:eL ls≤1000000000) (hl:ls.length≤1000000000):af Tryz.prog 86 [.sl 1 (ls.map cW) none] [] (fun y Γ'=> ∃ t:Tok,t.e=3∧t.s=1∧y=.ms t∧Γ'= [.row t (ls.flatten.map (PV.int .i64))]):=by
 refine af.ah ai Tryz.func86 rfl rfl (n:=36) rfl rfl ?_
 conv=>whnf
 repeat (first|refine mj ?_|((intro _);conv=>whnf))
 refine aq.keep [3,5,11,12,13,14,15,16,17,18,19,20,21,22] (fun x:Nat×Int=> [(11,.int .i64 x.1),(3,.int .i64 x.2)]) (fun x=>x.1≤ls.length∧x.2=eL (ls.take x.1)) (fun x=>ls.length - x.1) (0,0) ⟨by omega,rfl⟩ wA ?_;rintro ⟨i,n⟩ ⟨h1,h2⟩;dsimp only at h1 h2 ⊢;have hle:=MK ls
 conv=>whnf
 repeat' (first|refine dw ?_|((intro _);conv=>whnf)|(refine zX (fun hc=>?_) (fun hc=>?_)<;>(try simp only[SY] at hc)<;>(conv=>whnf)))
 ·have hlt:i < ls.length:=by omega
  have g1:=hle (i + 1);have g2:=y5 ls hlt
  conv=>whnf
  repeat' (first|refine dw ?_|(refine zX (fun hc=>?_) (fun hc=>?_)<;>(try simp only[SY] at hc)<;>first|omega|(conv=>whnf)))
  exact an (i + 1,n + ls[i].length) ⟨by omega,by show n + _=((eL (ls.take (i + 1)):Nat):Int);omega⟩ (by show ls.length - (i + 1) < ls.length - i;omega) wA
 ·refine av.go (G8 n (by omega) (by have:=hle i;omega)) (aX.refl _) ?_
  rintro _ _ ⟨t,ht,hs,rfl,rfl⟩
  conv=>whnf
  repeat' (first|refine dw ?_|((intro _);conv=>whnf)|(refine zX (fun hc=>?_) (fun hc=>?_)<;>(try simp only[SY] at hc)<;>omega))
  refine aq.over [6,8,27,28,29,30,31,32,33,34] (fun x:Nat×Tok×List Int=> [(27,.int .i64 x.1),(6,.ms x.2.1)]) (fun x:Nat×Tok×List Int=> [.row x.2.1 (x.2.2.map (PV.int .i64))]) (fun x=>x.1≤ls.length∧x.2.1.e=3∧x.2.1.s=1∧x.2.2=(ls.take x.1).flatten) (fun x=>ls.length - x.1) (0,t, []) ⟨by omega,ht,hs,rfl⟩ wA ?_;rintro ⟨k,t2,l⟩ ⟨k1,k2,k3,k4⟩;dsimp only at k1 k2 k3 k4⊢
  conv=>whnf
  repeat' (first|refine dw ?_|(refine zX (fun hc=>?_) (fun hc=>?_)<;>(try simp only[SY] at hc)<;>(conv=>whnf)))
  ·have hlt:k < ls.length:=by omega
   have g1:=hle (k + 1);have g2:=y5 ls hlt;have g3:=AY (ls.take k);rw[←k4] at g3;refine aZ.FY (f:=PV.int .i64) (l:=l) (m:=ls[k]) k2 k3 (Wk.refl _) (by omega) (by show _ * 8≤_;omega) (fun t3 e3 s3=>?_)
   conv=>whnf
   repeat (refine mj ?_)
   exact an (k + 1,t3,l++ls[k]) ⟨by omega,e3,s3,by show l++ls[k]=(ls.take (k + 1)).flatten;rw[k4,List.take_succ_eq_append_getElem hlt,List.flatten_append,List.flatten_singleton]⟩ (by show ls.length - (k + 1) < ls.length - k;omega) wA
  ·have hk:ls.take k=ls:=List.take_of_length_le (by omega)
   rw[hk] at k4;rw[k4];exact ak.gen (Wk.refl _) ⟨t2,k2,k3,rfl,rfl⟩
theorem BC (ls:List (List Int)) (h:eL ls≤1000000000) (hl:ls.length≤1000000000):aA Tryz.prog 86 [.sl 1 (ls.map cW) none] (cW ls.flatten):=
 aA.Ef ((zz ls h hl).shift fun y Γ' hq=>by
  obtain ⟨t,h1,h2,rfl,rfl⟩:=hq
  exact ⟨cW ls.flatten,_,Shift.bK (iA.ms' h2),rfl⟩)
mutual
def aa.met:aa→List Int→Int→List (aa×List Int)
 | .mk op n v t,sc,deep=>(.mk op n v t,sc)::if deep≥1000 then [] else aa.fZ op sc (sc++v) t (deep + 1)
def aa.fZ (op:Int) (sc inner:List Int):List aa→Int→List (aa×List Int)
 | [],_=> []
 | x::xs,deep=>aa.met x (if fk op=true∨xs= [] then inner else sc) deep++aa.fZ op sc inner xs deep
end
theorem aa.wv (t:aa) (sc:List Int) (deep:Int):t.met sc deep=(t,sc)::if deep≥1000 then [] else aa.fZ t.op sc (sc++t.v) t.t (deep + 1):=by
 cases t;rw[aa.met];rfl
abbrev Hx (x:aa×List Int):PV:=.agg [.int .i64 x.1.op,.int .i64 x.1.n,.sl 1 (x.1.v.map (PV.int .i64)) none,.sl 4 (x.1.t.map aa.pv) none,cW x.2]
def uA (xs:List (List PV)) (i:Nat) (l:List (aa×List Int)):Prop:= ∀ j (h:j < l.length),xs[i + j]?=some [Hx l[j]]
theorem uA.left {xs:List (List PV)} {i:Nat} {l m:List (aa×List Int)} (h:uA xs i (l++m)):uA xs i l:=fun j hj=>by
 have:=h j (by rw[List.length_append];omega);rwa [List.getElem_append_left hj] at this
theorem uA.right {xs:List (List PV)} {i:Nat} {l m:List (aa×List Int)} (h:uA xs i (l++m)):uA xs (i + l.length) m:=fun j hj=>by
 have:=h (l.length + j) (by rw[List.length_append];omega);rw[List.getElem_append_right (by omega)] at this;simpa[Nat.add_assoc] using this
theorem uA.head {xs:List (List PV)} {i:Nat} {x:aa×List Int} {m:List (aa×List Int)} (h:uA xs i (x::m)):uA xs (i + 1) m:=uA.right (l:= [x]) h
theorem OP (l yb wb:Nat) (xs:List (List PV)) (J:Nat→List aj→Prop) (X:List aj→Prop)
  (hy: ∀ k ys Γ,xs[k]?=some ys→J k Γ→eZ Tryz.prog l ys Γ fun y Γ'=>(y=.aY∧J (k + 1) Γ')∨(y=.bfalse∧X Γ')) (t:aa):
  ∀ (sc:List Int) (deep:Int) (i:Nat) (Γ:List aj),0≤deep→deep≤1000→sc.length + t.aQ≤1000000000→uA xs i (t.met sc deep)→J i Γ→
   af Tryz.prog 85 [.agg t.cells,cW sc,.int .i64 deep,.ptr yb 0,.ptr wb 0] (.box yb [.fn (.yield l) []]::.box wb [.fn (.func 85) [.ptr yb 0,.ptr wb 0]]::Γ)
    (fun y Γ'=> ∃ Γ1,Γ'=.box yb [.fn (.yield l) []]::.box wb [.fn (.func 85) [.ptr yb 0,.ptr wb 0]]::Γ1∧((y=.aY∧J (i + (t.met sc deep).length) Γ1)∨(y=.bfalse∧X Γ1))):=by
 induction t using aa.ind with
 | h t ih=>
  intro sc deep i Γ hd0 hd1 hsc hfr hJ;have hbe:=t.bu;have hlv:=aa.aU t.t;rw[aa.wv] at hfr ⊢;have hsum:eL [sc,t.v]≤1000000000:=by simp[eL];omega
  have h0:=hfr 0 (by simp);refine af.ah ai Tryz.func85 rfl rfl (n:=54) rfl rfl ?_
  conv=>whnf
  repeat' (first|refine dw ?_|((intro _);conv=>whnf)|(refine zX (fun hc=>?_) (fun hc=>?_)<;>(try simp only[SY] at hc)<;>omega))
  rename_i b5;refine kQ.LX [.box b5 [.int .i64 t.op,.int .i64 t.n,.sl 1 (t.v.map (PV.int .i64)) none,.sl 4 (t.t.map aa.pv) none],.box yb [.fn (.yield l) []],.box wb [.fn (.func 85) [.ptr yb 0,.ptr wb 0]]] (hy (i + 0) _ Γ h0 hJ) (aX.refl _) (List.Perm.refl _) ?_;rintro _ Γ1 (⟨rfl,hJ1⟩ | ⟨rfl,hX⟩)
  ·conv=>whnf
   repeat' (first|refine dw ?_|((intro _);conv=>whnf)|(refine zX (fun hc=>?_) (fun hc=>?_)<;>(try simp only[SY] at hc)<;>(conv=>whnf)))
   ·exact ak.gen (y:=.aY) (Γ':=.box yb [.fn (.yield l) []]::.box wb [.fn (.func 85) [.ptr yb 0,.ptr wb 0]]::Γ1) (hp:=⟨(List.perm_append_singleton _ _).symm⟩) (Wk.refl _) ⟨Γ1,rfl,.inl ⟨rfl,by rw[if_pos hc];exact hJ1⟩⟩
   ·rw[if_neg (by omega)] at hfr⊢
    rename_i tk htk;refine av.pure (BC [sc,t.v] hsum (by simp)) (aX.cons (Wk.tok _ _ _) aX.nil) ?_;rw[show [sc,t.v].flatten=sc++t.v by simp]
    conv=>whnf
    repeat' (first|refine dw ?_|((intro _);conv=>whnf)|(refine zX (fun hc=>?_) (fun hc=>?_)<;>(try simp only[SY] at hc)<;>omega))
    have hfr1:=hfr.head
    refine aq.over [8,10,11,12,29,30,31,32,33,34,35,36,37,38,39,40,41,42,43,44,45,46,47,48,49,50,51,52,53] (fun x:Nat×Nat×List aj=> [(29,.int .i64 x.1)])
     (fun x:Nat×Nat×List aj=>.tok tk::.box b5 [.int .i64 t.op,.int .i64 t.n,.sl 1 (t.v.map (PV.int .i64)) none,.sl 4 (t.t.map aa.pv) none]::.box yb [.fn (.yield l) []]::.box wb [.fn (.func 85) [.ptr yb 0,.ptr wb 0]]::x.2.2)
     (fun x=>x.1≤t.t.length∧J x.2.1 x.2.2∧uA xs x.2.1 (aa.fZ t.op sc (sc++t.v) (t.t.drop x.1) (deep + 1))∧x.2.1 + (aa.fZ t.op sc (sc++t.v) (t.t.drop x.1) (deep + 1)).length=i + 1 + (aa.fZ t.op sc (sc++t.v) t.t (deep + 1)).length)
     (fun x=>t.t.length - x.1) (0,i + 1,Γ1) ⟨by omega,hJ1,hfr1,rfl⟩ wA ?_
    rintro ⟨k,p,Γ2⟩ ⟨k1,k2,k3,k4⟩;dsimp only at k1 k2 k3 k4⊢
    conv=>whnf
    repeat' (first|refine dw ?_|((first|refine pC (uT t) wR ?_|intro _);conv=>whnf)|(refine zX (fun hc=>?_) (fun hc=>?_)<;>(try simp only[SY] at hc)<;>(conv=>whnf)))
    rotate_right
    ·rw[List.drop_of_length_le (by omega),aa.fZ] at k4
     exact ak.gen (y:=.aY) (Γ':=.box yb [.fn (.yield l) []]::.box wb [.fn (.func 85) [.ptr yb 0,.ptr wb 0]]::Γ2) (hp:=⟨List.perm_append_comm (l₁:= [_,_])⟩) (Wk.refl _) ⟨Γ2,rfl,.inl ⟨rfl,by
      rw[List.length_cons,show i + ((aa.fZ t.op sc (sc++t.v) t.t (deep + 1)).length + 1)=p by simp only[List.length_nil] at k4;omega];exact k2⟩⟩
    all_goals
     rename_i b11;have hlt:k < t.t.length:=by omega
     have hbm:=aa.bz (List.getElem_mem hlt);have hdr:t.t.drop (k + 1)= []↔k + 1=t.t.length:=by rw[List.drop_eq_nil_iff];omega
     rw[aI hlt,aa.fZ] at k3 k4
    ·rw[if_pos (show fk t.op=true∨t.t.drop (k + 1)= [] by rw[hdr];exact hc.imp id fun h=>by omega)] at k3 k4
     have k3l:=k3.left;have k3r:=k3.right;rw[List.length_append] at k4
     refine av.LX [.box b11 [.int .i64 t.t[k].op,.int .i64 t.t[k].n,.sl 1 (t.t[k].v.map (PV.int .i64)) none,.sl 4 (t.t[k].t.map aa.pv) none],.tok tk,.box b5 [.int .i64 t.op,.int .i64 t.n,.sl 1 (t.v.map (PV.int .i64)) none,.sl 4 (t.t.map aa.pv) none]]
      (ih t.t[k] (List.getElem_mem _) (sc++t.v) (deep + 1) p Γ2 (by omega) (by omega) (by first | omega | (simp;omega)) k3l k2) (aX.refl _) (List.Perm.refl _) ?_
     rintro _ _ ⟨Γ3,rfl,⟨rfl,g1⟩ | ⟨rfl,g1⟩⟩
     ·conv=>whnf
      repeat' (first|refine dw ?_|(refine zX (fun hc=>?_) (fun hc=>?_)<;>(try simp only[SY] at hc)<;>omega))
      exact an (k + 1,p + (t.t[k].met (sc++t.v) (deep + 1)).length,Γ3) (hp:=⟨(List.perm_append_singleton _ _).symm⟩) ⟨by omega,g1,k3r,by dsimp only;omega⟩ (by show t.t.length - (k + 1) < t.t.length - k;omega) wA
     ·conv=>whnf
      skip
      exact ak.gen (y:=.bfalse) (Γ':=.box yb [.fn (.yield l) []]::.box wb [.fn (.func 85) [.ptr yb 0,.ptr wb 0]]::Γ3) (hp:=⟨List.perm_append_comm (l₁:= [_,_,_])⟩) (Wk.refl _) ⟨Γ3,rfl,.inr ⟨rfl,g1⟩⟩
    ·rw[if_neg (show ¬(fk t.op=true∨t.t.drop (k + 1)= []) by rw[hdr];rintro (h | h);rw[hc.1] at h;cases h;exact hc.2 (by omega))] at k3 k4
     have k3l:=k3.left;have k3r:=k3.right;rw[List.length_append] at k4
     refine av.LX [.box b11 [.int .i64 t.t[k].op,.int .i64 t.t[k].n,.sl 1 (t.t[k].v.map (PV.int .i64)) none,.sl 4 (t.t[k].t.map aa.pv) none],.tok tk,.box b5 [.int .i64 t.op,.int .i64 t.n,.sl 1 (t.v.map (PV.int .i64)) none,.sl 4 (t.t.map aa.pv) none]]
      (ih t.t[k] (List.getElem_mem _) (sc) (deep + 1) p Γ2 (by omega) (by omega) (by first | omega | (simp;omega)) k3l k2) (aX.refl _) (List.Perm.refl _) ?_
     rintro _ _ ⟨Γ3,rfl,⟨rfl,g1⟩ | ⟨rfl,g1⟩⟩
     ·conv=>whnf
      repeat' (first|refine dw ?_|(refine zX (fun hc=>?_) (fun hc=>?_)<;>(try simp only[SY] at hc)<;>omega))
      exact an (k + 1,p + (t.t[k].met (sc) (deep + 1)).length,Γ3) (hp:=⟨(List.perm_append_singleton _ _).symm⟩) ⟨by omega,g1,k3r,by dsimp only;omega⟩ (by show t.t.length - (k + 1) < t.t.length - k;omega) wA
     ·conv=>whnf
      skip
      exact ak.gen (y:=.bfalse) (Γ':=.box yb [.fn (.yield l) []]::.box wb [.fn (.func 85) [.ptr yb 0,.ptr wb 0]]::Γ3) (hp:=⟨List.perm_append_comm (l₁:= [_,_,_])⟩) (Wk.refl _) ⟨Γ3,rfl,.inr ⟨rfl,g1⟩⟩
  ·conv=>whnf
   skip
   exact ak.gen (y:=.bfalse) (Γ':=.box yb [.fn (.yield l) []]::.box wb [.fn (.func 85) [.ptr yb 0,.ptr wb 0]]::Γ1) (hp:=⟨(List.perm_append_singleton _ _).symm⟩) (Wk.refl _) ⟨Γ1,rfl,.inr ⟨rfl,hX⟩⟩
def aa.all (t:aa):List (aa×List Int):=t.met [] 0
theorem IG (b:Nat) (t:aa) (hb:t.aQ≤1000000000):EM Tryz.prog 84 [.ptr b 0] [.box b t.cells] (t.all.map fun m=> [Hx m]):=by
 intro l J X hy Γ hJ;refine af.ghost (au.drop (Γ':=.box b t.cells::Γ) (Γ1:= []) (by rw[List.append_nil];exact List.perm_append_singleton _ _)) ?_;refine af.ah ai Tryz.func84 rfl rfl (n:=8) rfl rfl ?_
 conv=>whnf
 repeat' (first|refine dw ?_|((intro _);conv=>whnf)|(refine zX (fun hc=>?_) (fun hc=>?_)<;>(try simp only[SY] at hc)<;>omega))
 rename_i yb wb;refine av.LX [.box b t.cells] (OP l yb wb _ J X hy t [] 0 0 Γ (by omega) (by omega) (by simp;omega) (fun j hj=>by rw[Nat.zero_add,List.getElem?_map];show Option.map _ (t.met [] 0)[j]?=_;rw[List.getElem?_eq_getElem hj];rfl) hJ) (aX.cons (Wk.refl _) (aX.cons (Wk.eu rfl) (aX.refl _))) ((List.Perm.swap _ _ _).trans (((List.Perm.swap _ _ _).cons _).trans (List.Perm.swap _ _ _))) ?_;rintro _ _ ⟨Γ1,rfl,h1⟩
 conv=>whnf
 skip
 refine ak.gen (Γ':=Γ1) (hp:=⟨List.perm_append_comm (l₁:= [_,_,_])⟩) (Wk.refl _) ?_;rw[List.length_map]
 rcases h1 with ⟨_,h⟩ | ⟨_,h⟩
 ·exact .inl (by rw[Nat.zero_add] at h;exact h)
 ·exact .inr h
theorem M0 (t:aa):af Tryz.prog 49 [.agg t.cells] [] (fun y Γ'=> ∃ b,y=.fn (.func 84) [.ptr b 0]∧Γ'= [.box b t.cells]):=by
 refine af.ah ai Tryz.func49 rfl rfl (n:=4) rfl rfl ?_
 conv=>whnf
 repeat' (first|((intro _);conv=>whnf)|(refine zX (fun hc=>?_) (fun hc=>?_)<;>(try simp only[SY] at hc)<;>omega))
 rename_i b;exact ak.gen (y:=.fn (.func 84) [.ptr b 0]) (Γ':= [.box b t.cells]) (hp:=bC.self _) (Wk.refl _) ⟨b,rfl,rfl⟩
theorem aa.FA (t:aa): ∀ (sc:List Int) (deep:Int),(t.met sc deep).length≤t.aQ:=by
 induction t using aa.ind with
 | h t ih=>
  intro sc deep;rw[aa.wv,t.bu,List.length_cons]
  split
  ·simp;omega
  ·have: ∀ (l:List aa),(∀ y∈l, ∀ (sc:List Int) (deep:Int),(y.met sc deep).length≤y.aQ)→ ∀ sc inner deep,(aa.fZ t.op sc inner l deep).length≤aa.aD l:=by
    intro l
    induction l with
    | nil=>intro _ _ _ _;simp[aa.fZ]
    | cons x l ihl=>
     intro hy sc inner deep;rw[aa.fZ,aa.aD,List.length_append];have:=hy x (by simp) (if fk t.op=true∨l= [] then inner else sc) deep;have:=ihl (fun y h=>hy y (by simp[h])) sc inner deep;omega
   have:=this t.t ih sc (sc++t.v) (deep + 1);omega
def iN (op:Int):Bool:=op == 1 || op == 2 || op == 14
theorem Mi (t:aa):aA Tryz.prog 189 [.agg t.cells] (.bool (iN t.op)):=by
 refine af.ah ai Tryz.func189 rfl rfl (n:=16) rfl rfl ?_
 conv=>whnf
 repeat' (first|refine dw ?_|((intro _);conv=>whnf)|(refine zX (fun hc=>?_) (fun hc=>?_)<;>(try simp only[SY] at hc)<;>omega))
 exact ak.pure (Wk.refl _)
def bg (l:List (aa×List Int)):List Int:=(l.filter fun m=>iN m.1.op && !m.2.contains m.1.n).map fun m=>m.1.n
mutual
def aa.dep:aa→Int
 | .mk _ _ _ t=>aa.deps t 0
def aa.deps:List aa→Int→Int
 | [],d=>d
 | x::xs,d=>aa.deps xs (max d (1 + aa.dep x))
end
theorem aa.vA (t:aa):t.dep=aa.deps t.t 0:=by cases t;rfl
theorem aa.qU (c:Int): ∀ (l:List aa) (d:Int),aa.deps l d≤c↔d≤c∧ ∀ x∈l,1 + x.dep≤c
 | [],d=>by simp[aa.deps]
 | x::l,d=>by
  rw[aa.deps,aa.qU c l];simp only[List.forall_mem_cons];constructor
  ·rintro ⟨h1,h2⟩;exact ⟨by omega,by omega,h2⟩
  ·rintro ⟨h1,h2,h3⟩;exact ⟨by omega,h3⟩
theorem aa.uQ: ∀ (l:List aa) (d:Int),d≤aa.deps l d
 | [],d=>by simp[aa.deps]
 | x::l,d=>by rw[aa.deps];have:=aa.uQ l (max d (1 + x.dep));omega
theorem aa.LU (t:aa): ∀ n:Int,0≤t.sk n→t.sk n=n - t.cnt:=by
 induction t using aa.ind with
 | h t ih=>
  intro n h
  have: ∀ (l:List aa),(∀ x∈l, ∀ n:Int,0≤x.sk n→x.sk n=n - x.cnt)→ ∀ n:Int,0≤aa.fh l n→aa.fh l n=n - aa.c6 l:=by
   intro l
   induction l with
   | nil=>intro _ n _;simp[aa.fh,aa.c6]
   | cons y l ihl=>
    intro hy n hn;rw[aa.fh] at hn ⊢;rw[aa.c6]
    split at hn
    ·rename_i h0
     rw[if_pos h0];have h1:=ihl (fun z hz=>hy z (by simp[hz])) _ hn;have h2:0≤y.sk n:=by have:=aa.eO l;omega
     rw[h1,hy y (by simp) n h2];omega
    ·omega
  rw[aa.sC] at h ⊢;rw[this t.t ih _ h,aa.kU];omega
theorem aa.Fy (t:aa): ∀ (sc:List Int) (deep:Int),deep + t.dep < 1000→(t.met sc deep).length=t.cnt∧(t.met sc deep).flatMap (fun m=>m.1.v)=t.vars:=by
 induction t using aa.ind with
 | h t ih=>
  intro sc deep h;rw[aa.vA] at h;have hd:=(aa.qU (999 - deep) t.t 0).1 (by omega)
  have key: ∀ (op:Int) (l:List aa),(∀ y∈l, ∀ (sc:List Int) (deep:Int),deep + y.dep < 1000→(y.met sc deep).length=y.cnt∧(y.met sc deep).flatMap (fun m=>m.1.v)=y.vars)→
    ∀ (sc inner:List Int) (deep:Int),(∀ x∈l,deep + x.dep < 1000)→(aa.fZ op sc inner l deep).length=aa.c6 l∧(aa.fZ op sc inner l deep).flatMap (fun m=>m.1.v)=aa.iw l:=by
   intro op l
   induction l with
   | nil=>intro _ _ _ _ _;simp[aa.fZ,aa.c6,aa.iw]
   | cons x l ihl=>
    intro hy sc inner deep hx;have h1:=hy x (by simp) (if fk op=true∨l= [] then inner else sc) deep (hx x (by simp));have h2:=ihl (fun y hh=>hy y (by simp[hh])) sc inner deep fun y hh=>hx y (by simp[hh]);rw[aa.fZ,aa.c6,aa.iw,List.flatMap_append,h1.2,h2.2,List.length_append];exact ⟨by have:=h1.1;have:=h2.1;omega,rfl⟩
  have h1:=key t.op t.t ih sc (sc++t.v) (deep + 1) fun x hx=>by have:=hd.2 x hx;omega
  have hlt: ¬ deep≥1000:=by have:=aa.uQ t.t 0;omega
  rw[aa.wv,if_neg hlt,aa.kU,aa.va,List.flatMap_cons,List.length_cons,h1.2];exact ⟨by have:=h1.1;omega,rfl⟩
theorem aa.Cw {level c codes:Int} {free:Bool} (t:aa): ∀ {scope:List Int} {deep:Int},t.xm level c codes free scope deep→deep + t.dep≤400:=by
 induction t using aa.ind with
 | h t ih=>
  intro scope deep h;rw[aa.nO] at h
  have key: ∀ (op:Int) (sc inner:List Int) (deep:Int) (l:List aa),(∀ y∈l, ∀ {scope:List Int} {deep:Int},y.xm level c codes free scope deep→deep + y.dep≤400)→aa.jd level c codes free op sc inner l deep→ ∀ x∈l,deep + x.dep≤400:=by
   intro op sc inner deep l
   induction l with
   | nil=>intro _ _;simp
   | cons x l ihl=>
    intro hy hk y hm;rw[aa.jd] at hk;rcases List.mem_cons.1 hm with rfl | hm
    ·exact hy y (by simp) hk.2.1
    ·exact ihl (fun z hz=>hy z (by simp[hz])) hk.2.2 y hm
  have h1:=key _ _ _ _ _ ih h.2;have:=(aa.qU (400 - deep) t.t 0).2 ⟨by have:=h.1.1;omega,fun x hx=>by have:=h1 x hx;omega⟩;rw[aa.vA];omega
theorem aa.Bz (t:aa):t.cnt≤t.aQ:=by
 induction t using aa.ind with
 | h t ih=>
  have: ∀ l:List aa,(∀ x∈l,x.cnt≤x.aQ)→aa.c6 l≤aa.aD l:=by
   intro l
   induction l with
   | nil=>intro _;simp[aa.c6,aa.aD]
   | cons y l ihl=>intro h;rw[aa.c6,aa.aD];have:=h y (by simp);have:=ihl fun x hx=>h x (by simp[hx]);omega
  have:=this t.t ih;rw[aa.kU,aa.bu];omega
theorem xL {d:Datum} {b:List (Datum×Datum)} (hp:d.pr=true) (h:dJ d=some b) {x:Datum×Datum} (hx:x∈b):x.2.sz < d.sz∧x.2.pr=true:=by
 obtain ⟨h1,h2⟩:=jF hp h;have h3:=Datum.eX (List.mem_map_of_mem (f:=Prod.snd) hx);exact ⟨by omega,(h2 x hx).2⟩
theorem Gc (n:Int) (j k:Nat):uJ n (j + k)=uJ n j++uJ (n + j) k:=by
 unfold uJ;rw[List.range_add,List.map_append,List.map_map];congr 1;apply List.map_congr_left;intro i _;simp only[Function.comp_apply];omega
theorem oA (n:Int) (k:Nat):(uJ n k).length=k:=by simp[uJ]
def sq (s:l8) (vs:List Int) (s':l8):Prop:= ∃ k:Nat,vs=uJ s.vars k∧s'.vars=s.vars + k
theorem sq.trans {s s1 s2:l8} {u v:List Int} (h1:sq s u s1) (h2:sq s1 v s2):sq s (u++v) s2:=by
 obtain ⟨j,rfl,e1⟩:=h1;obtain ⟨k,rfl,e2⟩:=h2;exact ⟨j + k,by rw[Gc,e1],by omega⟩
theorem sq.nil (s s':l8) (h:s'.vars=s.vars):sq s [] s':=⟨0,rfl,by omega⟩
def Dom (e1 e2:Env):Prop:= ∀ x,(nq e1 x).isSome=true→(nq e2 x).isSome=true
theorem Dom.cons {e1 e2:Env} (h:Dom e1 e2) (x:List UInt8) (n m:Int):Dom ((x,n)::e1) ((x,m)::e2):=fun y hy=>by
 rw[nq] at hy⊢
 split
 ·rfl
 ·rename_i hne
  rw[if_neg hne] at hy;exact h y hy
theorem Dom.nil (e:Env):Dom [] e:=fun x h=>by cases h
def o0 (k:Nat) (s:l8):Prop:=0≤s.vars∧s.vars + k≤1000000000000∧s.cs.length + k≤1000000000
def iZ (k:Nat) (s s':l8):Prop:=s.vars≤s'.vars∧s'.vars≤s.vars + k∧s'.cs.length≤s.cs.length + k
theorem iZ.refl (k:Nat) (s:l8):iZ k s s:=⟨Int.le_refl _,by omega,by omega⟩
theorem iZ.trans {j k:Nat} {s s1 s2:l8} (h1:iZ j s s1) (h2:iZ k s1 s2):iZ (j + k) s s2:=by unfold iZ at *; omega
theorem iZ.mono {j k:Nat} {s s1:l8} (h:iZ j s s1) (hk:j≤k):iZ k s s1:=by unfold iZ at *; omega
theorem o0.step {j k:Nat} {s s1:l8} (h:o0 (j + k) s) (h1:iZ j s s1):o0 k s1:=by unfold o0 iZ at *; omega
theorem o0.mono {j k:Nat} {s:l8} (h:o0 j s) (hk:k≤j):o0 k s:=by unfold o0 at *; omega
theorem iZ.more {n k:Nat} {s s':l8} {c:List Datum} {l:Bool} (h:iZ k ⟨s.cs,s.vars + n,l⟩ s') (hc:c=s.cs):iZ (n + k) s s':=by
 obtain ⟨h1,h2,h3⟩:=h;dsimp only at h1 h2 h3;exact ⟨by omega,by omega,by omega⟩
def O9 (tm:Datum→Env→l8→Nt) (x:Datum):Prop:= ∀ e s,iZ x.sz s (tm x e s).2∧(tm x e s).1.aQ≤x.sz
theorem EU {tm:Datum→Env→l8→Nt}: ∀ (l:List Datum),(∀ x∈l,O9 tm x)→ ∀ (e:Env) (s:l8),iZ (Datum.eM l) s (dX tm l e s).2∧aa.aD (dX tm l e s).1≤Datum.eM l
 | [],_,_,s=>⟨iZ.refl _ s,by simp[dX,aa.aD]⟩
 | x::l,h,e,s=>by
  have h1:=h x (by simp) e s;have h2:=EU l (fun y hy=>h y (List.mem_cons_of_mem _ hy)) e (tm x e s).2;rw[dX,Datum.eM,aa.aD];exact ⟨h1.1.trans h2.1,by omega⟩
theorem Ah {d:Datum} (hp:d.pr=true):(eP d).length≤d.sz:=by
 have h:=(Datum.Au d.sz d (Nat.le_refl _) hp).1;have h2:=d.ax.2.dM;rw[eP,List.length_append]
 split<;>simp<;>omega
theorem tE {l:List Datum} (h:1 < l.length):Datum.eM l=(l.getD 0 aK).sz + (l.getD 1 aK).sz + Datum.eM (l.drop 2):=by
 match l,h with
 | x::y::l,_=>simp[Datum.eM];omega
theorem IC (nf:Int): ∀ (n:Nat) (d:Datum),d.pr=true→O9 (TF nf n) d
 | 0,d,_,e,s=>⟨iZ.refl _ s,d.dM⟩
 | n + 1,d,hp,e,s=>by
  have hs:=Datum.mz hp;have hpl: ∀ x∈d.ax.1,x.pr=true:=fun x hx=>(Datum.kX hp hx).2;have key: ∀ l:List Datum,(∀ x∈l,x.pr=true)→ ∀ e s,iZ (Datum.eM l) s (dX (TF nf n) l e s).2∧aa.aD (dX (TF nf n) l e s).1≤Datum.eM l:=fun l h=>EU l fun x hx=>IC nf n x (h x hx);have hpos:=d.dM;have hb0: ∀ (op k:Int) (l:List aa),(aa.mk op k [] l).aQ=1 + aa.aD l:=fun op k l=>by rw[aa.aQ];simp
  have kd: ∀ k, ∀ e s,iZ (Datum.eM (d.ax.1.drop k)) s (dX (TF nf n) (d.ax.1.drop k) e s).2∧aa.aD (dX (TF nf n) (d.ax.1.drop k) e s).1≤Datum.eM (d.ax.1.drop k):=fun k=>key _ fun x hx=>hpl x (List.mem_of_mem_drop hx);have hz1:=Datum.n5 d.ax.1 1;have hz2:=Datum.n5 d.ax.1 2;rw[TF];dsimp only
  split
  ·split
   ·exact ⟨iZ.refl _ s,by rw[hb0];simp[aa.aD];omega⟩
   ·split
    ·exact ⟨iZ.refl _ s,by rw[hb0];simp[aa.aD];omega⟩
    ·exact ⟨⟨Int.le_refl _,by dsimp only;omega,by simp⟩,by rw[hb0];simp[aa.aD];omega⟩
  split
  ·split
   ·exact ⟨⟨Int.le_refl _,by dsimp only;omega,by simp;omega⟩,by rw[hb0];simp[aa.aD];omega⟩
   split
   ·have h:=kd 1 e s
    exact ⟨h.1.mono (by omega),by rw[hb0];omega⟩
   split
   ·have h:=kd 1 e s
    exact ⟨h.1.mono (by omega),by rw[hb0];omega⟩
   split
   ·rcases Nat.lt_or_ge 1 d.ax.1.length with hl | hl
    ·have hf:=Ah (hpl _ (gW hl))
     have hsz:=tE hl;have h:=kd 2 (gV e s.vars ((eP (d.ax.1.getD 1 aK)).map Datum.s)) ⟨s.cs,s.vars + (eP (d.ax.1.getD 1 aK)).length,s.lost⟩;have hp0:=(d.ax.1.getD 0 aK).dM;refine ⟨(h.1.more rfl).mono (by omega),?_⟩;dsimp only;rw[aa.aQ,oA];omega
    ·have e1:d.ax.1.getD 1 aK=aK:=by simp[List.getD,hl]
     have e2:d.ax.1.drop 2= []:=List.drop_of_length_le (by omega);have hf:eP aK= []:=rfl;rw[e1,e2,hf];refine ⟨⟨?_,?_,?_⟩,?_⟩<;>simp[dX,aa.aQ,aa.aD,uJ]<;>omega
   split
   ·rcases Nat.lt_or_ge 1 d.ax.1.length with hl | hl
    ·have hp1:=hpl _ (gW hl)
     have hsz:=tE hl;have hp0:=(d.ax.1.getD 0 aK).dM
     have hp2:(d.ax.1.getD 2 aK).pr=true∧(d.ax.1.getD 2 aK).sz≤Datum.eM (d.ax.1.drop 2) + 1:=by
      rcases Nat.lt_or_ge 2 d.ax.1.length with h2 | h2
      ·refine ⟨hpl _ (gW h2),?_⟩
       have:d.ax.1.getD 2 aK∈d.ax.1.drop 2:=by
        rw[aO h2,List.mem_drop_iff_getElem];exact ⟨0,by omega,rfl⟩
       have:=Datum.eX this;omega
      ·have:d.ax.1.getD 2 aK=aK:=by simp[List.getD,h2]
       rw[this];exact ⟨rfl,by show 1≤_;omega⟩
     have hB:Datum.eM (((dJ (d.ax.1.getD 1 aK)).getD []).map Prod.snd) + ((dJ (d.ax.1.getD 1 aK)).getD []).length≤(d.ax.1.getD 1 aK).sz∧ ∀ x∈((dJ (d.ax.1.getD 1 aK)).getD []).map Prod.snd,x.pr=true:=by
      cases hb:dJ (d.ax.1.getD 1 aK) with
      | none=>simp[Datum.eM]
      | some b=>
       obtain ⟨h1,h2⟩:=jF hp1 hb;refine ⟨by simp only[Option.getD_some];omega,fun x hx=>?_⟩;obtain ⟨p,hp',rfl⟩:=List.mem_map.1 hx;exact (h2 p hp').2
     generalize (dJ (d.ax.1.getD 1 aK)).getD []=B at *
     have h:=key (B.map Prod.snd++ [d.ax.1.getD 2 aK]) (fun x hx=>by
      rcases List.mem_append.1 hx with hx | hx
      ·exact hB.2 x hx
      ·rw[List.mem_singleton] at hx;subst hx;exact hp2.1) (gV e s.vars (B.map fun p=>p.1.s)) ⟨s.cs,s.vars + B.length,s.lost⟩
     rw[Datum.mP,Datum.eM,Datum.eM] at h;refine ⟨(h.1.more rfl).mono (by omega),?_⟩;dsimp only;rw[aa.aQ,oA];omega
    ·have e1:d.ax.1.getD 1 aK=aK:=by simp[List.getD,hl]
     have e2:d.ax.1.getD 2 aK=aK:=by simp[List.getD,show d.ax.1.length≤2 by omega]
     have hd3:3≤d.sz:=by
      have:0 < d.ax.1.length:=by
       rcases Nat.eq_zero_or_pos d.ax.1.length with h0 | h0
       ·rename_i hh _ _ _ _ _
        have:=List.eq_nil_of_length_eq_zero h0;rw[this] at hh;exact absurd hh.1 (by decide)
       ·exact h0
      have:=Datum.mQ d.ax.1;omega
     have h:=key [aK] (fun x hx=>by rw[List.mem_singleton] at hx;subst hx;rfl) e ⟨s.cs,s.vars + ((0:Nat):Int),s.lost⟩;rw[e1,e2];have hb:(dJ aK).getD []= []:=rfl;rw[hb];have hz:Datum.eM [aK]=1:=rfl;rw[hz] at h;refine ⟨(iZ.more h.1 rfl).mono (by omega),?_⟩;show (aa.mk 7 _ (uJ s.vars 0) (dX (TF nf n) [aK] e ⟨s.cs,s.vars + ((0:Nat):Int),s.lost⟩).1).aQ≤_;rw[aa.aQ,oA];omega
   split
   ·split
    ·have h:=kd 2 e s
     exact ⟨h.1.mono (by omega),by rw[hb0];omega⟩
    ·have h:=kd 2 e ⟨s.cs,s.vars,true⟩
     exact ⟨h.1.mono (by omega),by rw[hb0];omega⟩
   ·have h:=key _ hpl e s
    exact ⟨h.1.mono (by omega),by rw[hb0];omega⟩
  ·have h:=key _ hpl e s
   exact ⟨h.1.mono (by omega),by rw[hb0];omega⟩
theorem I1 {n:Nat} {d:Datum} (h:cy (n + 1) d=true) (hk: ¬d.kind=2):ej d=true∧0 < d.ax.1.length:=by
 rw[cy,if_neg hk] at h;dsimp only at h
 split at h
 ·cases h
 ·rename_i h1
  refine ⟨by simpa using fun h2=>h1 (.inl h2),?_⟩;rcases Nat.eq_zero_or_pos d.ax.1.length with h0 | h0
  ·exact absurd (.inr (List.eq_nil_of_length_eq_zero h0)) h1
  ·exact h0
theorem gG {n:Nat} {d:Datum} (h:cy (n + 1) d=true) (hk: ¬d.kind=2): ∃ r:Bool,r=true∧r=(let l:=d.ax.1
  let h:=l.getD 0 aK
  if h.kind=2∧sN h.s=true then
   if h.s=eV then l.length == 2 else
   if h.s=sO then l.length == 4 && (l.drop 1).all (cy n) else
   if h.s=dx then l.length == 3 && hU (l.getD 1 aK) && (l.drop 2).all (cy n) else
   if h.s=nB then l.length == 3 && EK (l.getD 1 aK) && (l.drop 2).all (cy n) else
   if h.s=iU then decide (2≤l.length) && (l.drop 1).all (cy n) else
   if h.s=ia∨h.s=cx then
    if l.length≠3 then false else match dJ (l.getD 1 aK) with
     | none=>false
     | some b=>jr (b.map Prod.fst) [] && (b.map Prod.snd++ [l.getD 2 aK]).all (cy n)
   else false
  else l.all (cy n)):=by
 refine ⟨_,h,?_⟩;rw[cy,if_neg hk];dsimp only
 split
 ·rename_i h1
  have:=I1 h hk;rcases h1 with h1 | h1
  ·rw[h1] at this;cases this.1
  ·rw[h1] at this;simp at this
 ·rfl
section
variable {n:Nat} {d:Datum} (h:cy (n + 1) d=true) (hk: ¬d.kind=2) (hh:(d.ax.1.getD 0 aK).kind=2∧sN (d.ax.1.getD 0 aK).s=true)
include h hk
include hh in
theorem DA (hs:(d.ax.1.getD 0 aK).s=eV):d.ax.1.length=2:=by
 obtain ⟨r,hr,e⟩:=gG h hk;rw[hr] at e;dsimp only at e;rw[if_pos hh,if_pos hs] at e;simpa using e.symm
include hh in
theorem LI (hs:(d.ax.1.getD 0 aK).s=sO):d.ax.1.length=4∧ ∀ x∈d.ax.1.drop 1,cy n x=true:=by
 obtain ⟨r,hr,e⟩:=gG h hk;have hq: ¬(d.ax.1.getD 0 aK).s=eV:=by rw[hs];decide
 rw[hr] at e;dsimp only at e;rw[if_pos hh,if_neg hq,if_pos hs] at e;have e:=e.symm;rw[Bool.and_eq_true,List.all_eq_true] at e;exact ⟨by simpa using e.1,e.2⟩
include hh in
theorem BE (hs:(d.ax.1.getD 0 aK).s=dx):d.ax.1.length=3∧hU (d.ax.1.getD 1 aK)=true∧ ∀ x∈d.ax.1.drop 2,cy n x=true:=by
 obtain ⟨r,hr,e⟩:=gG h hk;have hq: ¬(d.ax.1.getD 0 aK).s=eV:=by rw[hs];decide
 have q1: ¬(d.ax.1.getD 0 aK).s=sO:=by rw[hs];decide
 rw[hr] at e;dsimp only at e;rw[if_pos hh,if_neg hq,if_neg q1,if_pos hs] at e;have e:=e.symm;rw[Bool.and_eq_true,List.all_eq_true,Bool.and_eq_true] at e;exact ⟨by simpa using e.1.1,e.1.2,e.2⟩
include hh in
theorem I2 (hs:(d.ax.1.getD 0 aK).s=nB):d.ax.1.length=3∧EK (d.ax.1.getD 1 aK)=true∧ ∀ x∈d.ax.1.drop 2,cy n x=true:=by
 obtain ⟨r,hr,e⟩:=gG h hk;have hq: ¬(d.ax.1.getD 0 aK).s=eV:=by rw[hs];decide
 have q1: ¬(d.ax.1.getD 0 aK).s=sO:=by rw[hs];decide
 have q2: ¬(d.ax.1.getD 0 aK).s=dx:=by rw[hs];decide
 rw[hr] at e;dsimp only at e;rw[if_pos hh,if_neg hq,if_neg q1,if_neg q2,if_pos hs] at e;have e:=e.symm;rw[Bool.and_eq_true,List.all_eq_true,Bool.and_eq_true] at e;exact ⟨by simpa using e.1.1,e.1.2,e.2⟩
include hh in
theorem Dz (hs:(d.ax.1.getD 0 aK).s=iU):2≤d.ax.1.length∧ ∀ x∈d.ax.1.drop 1,cy n x=true:=by
 obtain ⟨r,hr,e⟩:=gG h hk;have hq: ¬(d.ax.1.getD 0 aK).s=eV:=by rw[hs];decide
 have q1: ¬(d.ax.1.getD 0 aK).s=sO:=by rw[hs];decide
 have q2: ¬(d.ax.1.getD 0 aK).s=dx:=by rw[hs];decide
 have q3: ¬(d.ax.1.getD 0 aK).s=nB:=by rw[hs];decide
 rw[hr] at e;dsimp only at e;rw[if_pos hh,if_neg hq,if_neg q1,if_neg q2,if_neg q3,if_pos hs] at e;have e:=e.symm;rw[Bool.and_eq_true,List.all_eq_true] at e;exact ⟨by simpa using e.1,e.2⟩
include hh in
theorem BF (hs:(d.ax.1.getD 0 aK).s=ia∨(d.ax.1.getD 0 aK).s=cx):d.ax.1.length=3∧ ∃ B,dJ (d.ax.1.getD 1 aK)=some B∧jr (B.map Prod.fst) []=true∧ ∀ x∈B.map Prod.snd++ [d.ax.1.getD 2 aK],cy n x=true:=by
 obtain ⟨r,hr,e⟩:=gG h hk;have hq: ¬(d.ax.1.getD 0 aK).s=eV:=by rcases hs with hs | hs<;>rw[hs]<;>decide
 have q1: ¬(d.ax.1.getD 0 aK).s=sO:=by rcases hs with hs | hs<;>rw[hs]<;>decide
 have q2: ¬(d.ax.1.getD 0 aK).s=dx:=by rcases hs with hs | hs<;>rw[hs]<;>decide
 have q3: ¬(d.ax.1.getD 0 aK).s=nB:=by rcases hs with hs | hs<;>rw[hs]<;>decide
 have q4: ¬(d.ax.1.getD 0 aK).s=iU:=by rcases hs with hs | hs<;>rw[hs]<;>decide
 rw[hr] at e;dsimp only at e;rw[if_pos hh,if_neg hq,if_neg q1,if_neg q2,if_neg q3,if_neg q4,if_pos hs] at e;have e:=e.symm
 split at e
 ·cases e
 ·rename_i h3
  refine ⟨by simpa using h3,?_⟩
  cases hB:dJ (d.ax.1.getD 1 aK) with
  | none=>rw[hB] at e;cases e
  | some B=>
   rw[hB] at e;dsimp only at e;rw[Bool.and_eq_true,List.all_eq_true] at e;exact ⟨B,rfl,e.1,e.2⟩
include hh in
theorem Gr (h1: ¬(d.ax.1.getD 0 aK).s=eV) (h2: ¬(d.ax.1.getD 0 aK).s=sO) (h3: ¬(d.ax.1.getD 0 aK).s=dx) (h4: ¬(d.ax.1.getD 0 aK).s=nB) (h5: ¬(d.ax.1.getD 0 aK).s=iU) (h6: ¬(d.ax.1.getD 0 aK).s=ia) (h7: ¬(d.ax.1.getD 0 aK).s=cx):False:=by
 obtain ⟨r,hr,e⟩:=gG h hk;rw[hr] at e;dsimp only at e;rw[if_pos hh,if_neg h1,if_neg h2,if_neg h3,if_neg h4,if_neg h5,if_neg (not_or.2 ⟨h6,h7⟩)] at e;cases e
theorem I0 (hn: ¬((d.ax.1.getD 0 aK).kind=2∧sN (d.ax.1.getD 0 aK).s=true)): ∀ x∈d.ax.1,cy n x=true:=by
 obtain ⟨r,hr,e⟩:=gG h hk;rw[hr] at e;dsimp only at e;rw[if_neg hn] at e;exact List.all_eq_true.1 e.symm
end
theorem tj: ∀ (d:Datum) (deep:Int),d.bS deep=true→d.pr=true:=by
 intro d
 induction d using Datum.ind with
 | h d ih=>
  intro deep h;rw[Datum.lS,Bool.and_eq_true] at h
  have key: ∀ l:List Datum,(∀ y∈l, ∀ deep:Int,y.bS deep=true→y.pr=true)→ ∀ deep,Datum.eH l deep=true→Datum.Ni l=true:=by
   intro l
   induction l with
   | nil=>intro _ _ _;rfl
   | cons x l ihl=>
    intro hy deep h;rw[Datum.eH,Bool.and_eq_true] at h;rw[Datum.Ni,hy x (by simp) deep h.1,ihl (fun y hm=>hy y (List.mem_cons_of_mem _ hm)) deep h.2];rfl
  rw[Datum.J9,key d.l ih _ h.2,Bool.and_true];have h1:=h.1;unfold gT at h1;simp only[Bool.not_eq_true',Bool.or_eq_false_iff] at h1;have h2:=h1.2.1;by_cases h6:d.kind=6
  ·simp[h6] at h2
   simp[h6];omega
  ·simp[h6]
theorem uo: ∀ {l:List Datum} {k:Int},Datum.eH l k=true→ ∀ x∈l,x.bS k=true
 | [],_,_,x,hx=>by cases hx
 | y::l,k,h,x,hx=>by
  rw[Datum.eH,Bool.and_eq_true] at h;rcases List.mem_cons.1 hx with rfl | hx
  ·exact h.1
  ·exact uo h.2 x hx
theorem CL {d:Datum} {k:Int} (h:d.bS k=true) (hk:d.kind=2):d.s.length≤40:=by
 rw[Datum.lS,Bool.and_eq_true] at h;have h1:=h.1;unfold gT at h1;simp only[Bool.not_eq_true',Bool.or_eq_false_iff] at h1;have h2:=h1.1.1.2.1;rw[hk] at h2;simp[oT] at h2;exact h2.2.1
theorem D9 (d:Datum):(∃ k:Int,d.bS k=true)→aA Tryz.prog 59 [.agg d.cells] (.bool d.OZ):=by
 induction d using Datum.ind with
 | h d ih=>
  rintro ⟨kk,hr⟩;have hnm:=fun hk=>CL hr hk
  have hch: ∀ x∈d.l, ∃ k:Int,x.bS k=true:=fun x hx=>by
   rw[Datum.lS,Bool.and_eq_true] at hr;exact ⟨kk + 1,uo hr.2 x hx⟩
  rw[Datum.N7];refine af.ah ai Tryz.func59 rfl rfl (n:=35) rfl rfl ?_
  conv=>whnf
  repeat (((intro _);conv=>whnf))
  rename_i b1;refine aq.keep [2,3,5,6,7,8,9,10,11,12,13,14,15,16,17,18,19,20,21] (fun i:Nat=> [(3,.int .i64 i)]) (fun i=>i≤d.s.length∧(d.kind=2→(d.s.drop i).contains 37=d.s.contains 37)) (fun i=>d.s.length - i) 0 ⟨by omega,fun _=>rfl⟩ wA ?_;rintro i ⟨hi,he⟩
  conv=>whnf
  repeat' (first|refine aS ?_|(refine zX (fun hc=>?_) (fun hc=>?_)<;>(try simp only[SY] at hc)<;>(conv=>whnf)))
  ·have hk:=(‹d.kind=2∧(i:Int) < d.s.length›).1
   have hlt:i < d.s.length:=by omega
   have hb:d.s.getD i 0=37:=by
    have h37:((37:UInt8).toNat:Int)=37:=rfl;exact UInt8.toNat_inj.1 (by omega)
   have hcn:d.s.contains 37=true:=by
    rw[←he hk,dP hlt,List.contains_cons,hb];rfl
   rw[hk,hcn];exact ak.pure (Wk.tt rfl)
  ·have hk:=(‹d.kind=2∧(i:Int) < d.s.length›).1
   have hlt:i < d.s.length:=by omega
   have hb: ¬d.s.getD i 0=37:=fun h=>by rw[h] at hc;exact hc rfl
   have hnm2:=hnm hk
   conv=>whnf
   skip
   refine an (i + 1) ⟨by omega,fun _=>?_⟩ (by show d.s.length - (i + 1) < d.s.length - i;omega) wA;rw[←he hk]
   conv=>rhs;rw[dP hlt,List.contains_cons]
   rw[show ((37:UInt8) == d.s.getD i 0)=false from beq_eq_false_iff_ne.2 (fun h=>hb h.symm),Bool.false_or]
  ·have hne:(d.kind == 2 && d.s.contains 37)=false:=by
    rcases hc with h | h
    ·rw[show (d.kind == 2)=false from beq_eq_false_iff_ne.2 h];rfl
    ·by_cases hk:d.kind=2
     ·rw[←he hk,List.drop_of_length_le (by omega)];simp
     ·rw[show (d.kind == 2)=false from beq_eq_false_iff_ne.2 hk];rfl
   rw[hne,Bool.false_or];refine aq.keep [2,4,22,23,24,25,26,27,28,29,30,31,32,33,34] (fun j:Nat=> [(4,.int .i64 j)]) (fun j=>j≤d.l.length∧Datum.Cu (d.l.drop j)=Datum.Cu d.l) (fun j=>d.l.length - j) 0 ⟨by omega,rfl⟩ wA ?_;rintro j ⟨hj,he2⟩
   conv=>whnf
   repeat' (first|refine aS ?_|((first|refine pC (ih _ (List.getElem_mem _) (hch _ (List.getElem_mem _))) wR ?_|intro _);conv=>whnf)|(refine zX (fun hc=>?_) (fun hc=>?_)<;>(try simp only[SY] at hc)<;>(conv=>whnf)))
   ·have hlt:j < d.l.length:=by omega
    rw[aI hlt,Datum.Cu,hc,Bool.true_or] at he2;exact ak.pure (Wk.tt he2.symm)
   ·have hlt:j < d.l.length:=by omega
    rw[aI hlt,Datum.Cu,hc,Bool.false_or] at he2;exact an (j + 1) ⟨by omega,he2⟩ (by show d.l.length - (j + 1) < d.l.length - j;omega) wA
   ·rw[List.drop_of_length_le (by omega),Datum.Cu] at he2
    exact ak.pure (Wk.ff he2.symm)
def AI (l:List (Datum×Datum)):Datum:=ic (l.map fun p=>ic [p.1,p.2])
def Bl (ex:Datum→Option Datum):List Datum→Option (List Datum)
 | []=>some []
 | x::l=>match ex x,Bl ex l with
  | some y,some m=>some (y::m)
  | _,_=>none
def uF (ex:Datum→Option Datum) (l:List Datum):Option Datum:=
 if l.length=1∧ ¬(ej (l.getD 0 aK)=true∧PD ((l.getD 0 aK).ax.1.getD 0 aK) wg=true) then ex (l.getD 0 aK) else none
def N1 (ex:Datum→Option Datum) (f:Datum) (b:List Datum):Option Datum:=if hU f=true then (uF ex b).map fun y=>ic [xB dx,f,y] else none
def On (ex:Datum→Option Datum) (key:List UInt8) (d:Datum) (b:List Datum):Option Datum:=match dJ d with
 | none=>none
 | some L=>if jr (L.map Prod.fst) []=true then match Bl ex (L.map Prod.snd),uF ex b with
  | some vs,some y=>some (ic [xB key,AI ((L.map Prod.fst).zip vs),y])
  | _,_=>none else none
def NS (ex:Datum→Option Datum) (key:List UInt8) (l:List Datum):Option Datum:=
 if l.length=2∧key=dx then N1 ex (l.getD 0 aK) (l.drop 1) else
 if l.length=2∧key=cx then On ex key (l.getD 0 aK) (l.drop 1) else none
def qZ:Nat→Datum→Option Datum
 | 0,_=>none
 | n + 1,d=>
  if d.kind=2 then (if sN d.s=true then none else some d) else
  if d.kind=6∧ej d=true then
   (if (d.ax.1.getD 0 aK).kind=2∧sN (d.ax.1.getD 0 aK).s=true then NS (qZ n) (d.ax.1.getD 0 aK).s (d.ax.1.drop 1)
   else (Bl (qZ n) d.ax.1).map ic)
  else none
section
variable (b:Nat) (s:Pb)
abbrev OS (x y:Datum):Prop:=af Tryz.prog 112 [.ptr b 0,.agg x.cells] [qj b s] (fun z Γ'=>z=.agg y.cells∧Γ'= [qj b s])
theorem IF (ex:Datum→Option Datum) (l m:List Datum) (hm:Bl ex l=some m) (hl:l.length≤1000000000) (hx: ∀ x∈l, ∀ y,ex x=some y→OS b s x y):
  m.length=l.length∧af Tryz.prog 165 [.ptr b 0,.sl 5 (l.map Datum.pv) none] [qj b s] (fun y Γ'=>y=.sl 5 (m.map Datum.pv) none∧Γ'= [qj b s]):=by
 have hgo: ∀ (l m:List Datum),Bl ex l=some m→m.length=l.length∧ ∀ (i:Nat) (h:i < l.length) (h':i < m.length),ex l[i]=some m[i]:=by
  intro l
  induction l with
  | nil=>intro m h;rw[Bl] at h;obtain rfl:=Option.some.inj h;exact ⟨rfl,fun i h=>by cases h⟩
  | cons x l ih=>
   intro m h;rw[Bl] at h
   split at h
   ·rename_i y r h1 h2
    obtain rfl:=Option.some.inj h;obtain ⟨e,k⟩:=ih r h2;refine ⟨by rw[List.length_cons,List.length_cons,e],fun i hi hi'=>?_⟩
    cases i with
    | zero=>exact h1
    | succ i=>exact k i (by simpa using hi) (by simpa using hi')
   ·cases h
 obtain ⟨hml,hat⟩:=hgo l m hm;refine ⟨hml,?_⟩;refine af.ah ai Tryz.func165 rfl rfl (n:=23) rfl rfl ?_
 conv=>whnf
 skip
 refine aq.gh (au.nil 5 55 _) ?_
 refine aq.over [5,6,7,8,9,10,11,12,13,14,15,16,17,18,19,20,21] (fun x:Nat×Tok=> [(5,.sl 5 ((m.take x.1).map Datum.pv) (some x.2)),(6,.int .i64 x.1)]) (fun x:Nat×Tok=> [.tok x.2,qj b s])
  (fun x=>x.1≤l.length∧x.2.e=55) (fun x=>l.length - x.1) (0,ay 5 55) ⟨Nat.zero_le _,rfl⟩ wA ?_
 rintro ⟨i,tk⟩ ⟨hi,htk⟩;dsimp only at hi htk ⊢;have hml2:(m.take i).length=i:=by rw[List.length_take];omega
 conv=>whnf
 repeat' (first|refine aS ?_|((intro _);conv=>whnf)|(refine zX (fun hc=>?_) (fun hc=>?_)<;>(try simp only[SY] at hc)<;>(conv=>whnf)))
 ·have hlt:i < l.length:=by omega
  refine av.go (hx _ (List.getElem_mem hlt) _ (hat i hlt (by omega))) (aX.refl _) ?_;rintro _ _ ⟨rfl,rfl⟩
  conv=>whnf
  repeat' (first|refine aS ?_|((intro _);conv=>whnf)|(refine zX (fun hc=>?_) (fun hc=>?_)<;>(try simp only[SY] at hc)<;>omega))
  rename_i t2 ht2;have e:m.take i++ [m[i]'(by omega)]=m.take (i + 1):=(List.take_succ_eq_append_getElem (by omega)).symm;rw[e];exact an (i + 1,t2) ⟨by show i + 1≤_;omega,ht2⟩ (by show l.length - (i + 1) < l.length - i;omega) wA
 ·rw[List.take_of_length_le (by omega)]
  exact ak.gen (y:=.sl 5 (m.map Datum.pv) none) (Γ':= [qj b s]) (Wk.tok _ _ _) ⟨rfl,rfl⟩
theorem IM (hs:s.bad=false) (ex:Datum→Option Datum) (l:List Datum) (y:Datum) (hp: ∀ x∈l,x.pr=true) (hsz:Datum.eM l≤1000000000) (hy:uF ex l=some y) (hx: ∀ x∈l, ∀ y,ex x=some y→OS b s x y):
  af Tryz.prog 60 [.ptr b 0,.sl 5 (l.map Datum.pv) none] [qj b s] (fun z Γ'=>z=.agg y.cells∧Γ'= [qj b s]):=by
 unfold uF at hy
 split at hy
 ·rename_i hn
  obtain ⟨hl,hn⟩:=hn;have h0:0 < l.length:=by omega
  rw[aO h0] at hy hn;have hc1:=hx _ (List.getElem_mem h0) y hy;have hI:=lK (l[0]'h0) (hp _ (List.getElem_mem h0)) (by have:=Datum.eX (List.getElem_mem h0);omega)
  have hno: ¬(((ej (l[0]'h0)=true∧ ¬((l[0]'h0).ax.1.length:Int)=0)∧((l[0]'h0).ax.1.getD 0 (xD.d:Datum)).kind=2)∧((l[0]'h0).ax.1.getD 0 (xD.d:Datum)).s= [100,101,102,105,110,101]):=fun h=>by
   have hl0:0 < (l[0]'h0).ax.1.length:=by omega
   have e:(l[0]'h0).ax.1.getD 0 (xD.d:Datum)=(l[0]'h0).ax.1.getD 0 aK:=by simp[List.getD,hl0]
   rw[e] at h;exact hn ⟨h.1.1.1,by unfold PD;rw[h.1.2,h.2];rfl⟩
  have hdc:=fD [] (by simp);have hd0:jr [] []=true:=rfl;rw[hd0] at hdc;refine af.ah ai Tryz.func60 rfl rfl (n:=155) rfl rfl ?_
  conv=>whnf
  repeat' (first|((intro _);conv=>whnf)|(refine zX (fun hc=>?_) (fun hc=>?_)<;>(try simp only[SY] at hc)<;>omega))
  rename_i b4;refine aq.gh (au.trans (au.nil 5 55 _) (au.nil 5 55 _)) ?_
  refine aq.PS 0 [5,6,7,8,9,11,12,13,14,15,16,17,18,19,20,21,22,23,24,25,26,27,28,29,30,31,32,33,34,35,36,37,38,39,40,41,42,43,44,45,46,47,48,49,50,51,52,53,54,55,56,57,58,59,60,61,62,63,64,65,66,67,68,69,70,71,72,73,74,75,76,77,78,79,80,81,82,83,84,85,86,87,88,89,90,91,92,93,94,95,96,97,98,99,100,101,102,103,104,105,106,107,108,109,110,111,112,113,114,115,116] (fun k:Nat=> [(5,.sl 5 (([]:List Datum).map Datum.pv) (some (ay 5 55))),(6,.sl 5 (([]:List Datum).map Datum.pv) (some (ay 5 55))),(7,.int .i64 k)])
   (fun _=> [.tok (ay 5 55),.tok (ay 5 55),CJ b4,qj b s]) (fun k=>k=0) (fun _=>0) 0
   (fun k:Nat=> [(5,.sl 5 (([]:List Datum).map Datum.pv) (some (ay 5 55))),(6,.sl 5 (([]:List Datum).map Datum.pv) (some (ay 5 55))),(7,.int .i64 k)])
   (fun _=> [.tok (ay 5 55),.tok (ay 5 55),CJ b4,qj b s]) (fun k=>k=0) rfl wA ?_ ?_
  ·rintro k rfl
   conv=>whnf
   repeat' (first|refine aS ?_|((first|refine pC (hI) wR ?_|intro _);conv=>whnf)|(refine zX (fun hc=>?_) (fun hc=>?_)<;>(try simp only[SY] at hc)<;>(conv=>whnf)))
   all_goals try (exfalso;exact hno (by assumption))
   all_goals first | (exfalso;omega) | exact Mb 0 rfl wA
  ·rintro k rfl
   conv=>whnf
   repeat' (first|refine aS ?_|(refine zX (fun hc=>?_) (fun hc=>?_)<;>(try simp only[SY] at hc)<;>omega))
   refine pC hdc (.cons (Wk.tok _ _ _) .nil) ?_
   conv=>whnf
   repeat' (first|refine aS ?_|((intro _);conv=>whnf)|(refine zX (fun hc=>?_) (fun hc=>?_)<;>(try simp only[SY] at hc)<;>first|omega|(conv=>whnf)))
   all_goals first | (exfalso;omega) | skip
   refine av.go hc1 (aX.refl _) ?_;rintro _ _ ⟨rfl,rfl⟩
   conv=>whnf
   repeat' (first|refine aS ?_|(refine zX (fun hc=>?_) (fun hc=>?_)<;>(try simp only[SY] at hc)<;>first|omega|(conv=>whnf)))
   exact ak.gen (y:=.agg y.cells) (Γ':= [qj b s]) (Wk.refl _) ⟨rfl,rfl⟩
 ·cases hy
theorem N2 (ex:Datum→Option Datum) (f:Datum) (l:List Datum) (y:Datum) (hf:f.pr=true) (hfs:f.sz≤1000000000) (hy:N1 ex f l=some y)
  (hb: ∀ y,uF ex l=some y→af Tryz.prog 60 [.ptr b 0,.sl 5 (l.map Datum.pv) none] [qj b s] (fun z Γ'=>z=.agg y.cells∧Γ'= [qj b s])):
  af Tryz.prog 204 [.ptr b 0,.agg f.cells,.sl 5 (l.map Datum.pv) none] [qj b s] (fun z Γ'=>z=.agg y.cells∧Γ'= [qj b s]):=by
 unfold N1 at hy
 split at hy
 ·rename_i hfm
  have h1:=ua f hf hfs;rw[hfm] at h1
  cases hB:uF ex l with
  | none=>rw[hB] at hy;cases hy
  | some z=>
   rw[hB] at hy;obtain rfl:=Option.some.inj hy;have hc1:=hb z hB;refine af.ah ai Tryz.func204 rfl rfl (n:=19) rfl rfl ?_
   conv=>whnf
   repeat' (first|refine aS ?_|((first|refine pC (h1) wR ?_|intro _);conv=>whnf)|(refine zX (fun hc=>?_) (fun hc=>?_)<;>(try simp only[SY] at hc)<;>(conv=>whnf)))
   refine aC.sE [qj b s] [4] [5,6,7] ai mixed ?_
   conv=>whnf
   repeat (first|refine qF ?_|((((apply zZ);(conv=>whnf);(repeat ((refine pC (F9 _) wR ?_);conv=>whnf));exact pZ));conv=>whnf))
   refine av.go hc1 (aX.refl _) ?_;rintro _ _ ⟨rfl,rfl⟩
   conv=>whnf
   repeat' (first|refine aS ?_|((first|refine pC (nH) wR ?_|intro _);conv=>whnf)|(refine zX (fun hc=>?_) (fun hc=>?_)<;>(try simp only[SY] at hc)<;>omega))
   exact ak.gen (y:=.agg (ic [xB dx,f,z]).cells) (Γ':= [qj b s]) (Wk.refl _) (And.intro rfl rfl)
 ·cases hy
theorem GC {p q:Prop} (k:q) (h:q→p:=by intro hq;first | exact aC.sP (some 13) rfl [] [12,13] ai mixed hq):p:=h k
theorem J3 (ns vs:List Datum) (hl:ns.length≤1000000000) (he:ns.length=vs.length):aA Tryz.prog 115 [.sl 5 (ns.map Datum.pv) none,.sl 5 (vs.map Datum.pv) none] (.agg (AI (ns.zip vs)).cells):=by
 refine af.ah ai Tryz.func115 rfl rfl (n:=28) rfl rfl ?_
 conv=>whnf
 repeat' (first|((intro _);conv=>whnf)|(refine zX (fun hc=>?_) (fun hc=>?_)<;>(try simp only[SY] at hc)<;>omega))
 rename_i b2;refine aq.gh (au.nil 5 55 _) ?_
 refine aq.over [5,6,7,8,9,10,11,12,13,14,15,16,17,18,19,20,21,22,23,24,25] (fun x:Nat×List Datum×Tok=> [(5,.sl 5 (x.2.1.map Datum.pv) (some x.2.2)),(6,.int .i64 x.1)]) (fun x:Nat×List Datum×Tok=> [CJ b2,.tok x.2.2])
  (fun x=>x.1≤ns.length∧x.2.2.e=55∧x.2.1=((ns.zip vs).take x.1).map fun p=>ic [p.1,p.2]) (fun x=>ns.length - x.1) (0, [],ay 5 55) ⟨Nat.zero_le _,rfl,rfl⟩ wA ?_
 rintro ⟨i,m,tk⟩ ⟨hi,htk,hm⟩;dsimp only at hi htk hm ⊢;have hzl:(ns.zip vs).length=ns.length:=by rw[List.length_zip];omega
 have hml:m.length=i:=by rw[hm];simp;omega
 conv=>whnf
 repeat' (first|refine aS ?_|((first|((apply zZ);(conv=>whnf);(repeat ((refine pC (nH) wR ?_);conv=>whnf));exact pZ)|refine pC (nH) wR ?_|refine GC ?_|intro _);conv=>whnf)|(refine zX (fun hc=>?_) (fun hc=>?_)<;>(try simp only[SY] at hc)<;>(conv=>whnf)))
 ·rename_i tx tb htb
  have hlt:i < ns.length:=by omega
  refine an (i + 1,m++ [ic [ns[i],vs[i]'(by omega)]],tb) ⟨by show i + 1≤_;omega,htb,?_⟩ (by show ns.length - (i + 1) < ns.length - i;omega) wA;refine Eq.trans (congrArg (fun z=>z++_) hm) ?_;rw[List.take_succ_eq_append_getElem (by omega),List.map_append];simp
 ·rw[List.take_of_length_le (by omega)] at hm
  rw[show AI (ns.zip vs)=ic m by rw[hm];rfl];exact ak.pure (Wk.refl _)
theorem Oo (ex:Datum→Option Datum) (key:List UInt8) (d:Datum) (l:List Datum) (y:Datum) (hp:d.pr=true) (hds:d.sz≤1000000000) (hy:On ex key d l=some y) (hx: ∀ x:Datum,x.pr=true→x.sz≤d.sz→ ∀ y,ex x=some y→OS b s x y)
  (hb: ∀ y,uF ex l=some y→af Tryz.prog 60 [.ptr b 0,.sl 5 (l.map Datum.pv) none] [qj b s] (fun z Γ'=>z=.agg y.cells∧Γ'= [qj b s])):
  af Tryz.prog 205 [.ptr b 0,.str key,.agg d.cells,.sl 5 (l.map Datum.pv) none] [qj b s] (fun z Γ'=>z=.agg y.cells∧Γ'= [qj b s]):=by
 unfold On at hy
 cases hB:dJ d with
 | none=>rw[hB] at hy;cases hy
 | some L=>
  rw[hB] at hy;dsimp only at hy;obtain ⟨hz,hpp⟩:=jF hp hB;have hl1:(L.map Prod.fst).length≤1000000000:=by rw[List.length_map];omega
  have hl2:(L.map Prod.snd).length≤1000000000:=by rw[List.length_map];omega
  have hbn:=mm d hp hds;rw[hB] at hbn
  split at hy
  ·rename_i hd
   split at hy
   ·rename_i vs z hA hZ
    obtain rfl:=Option.some.inj hy;have hdc:=fD (L.map Prod.fst) hl1;rw[hd] at hdc
    obtain ⟨hal,hac⟩:=IF b s ex (L.map Prod.snd) vs hA hl2 fun x hx'=>by
     have h3:=Datum.eX hx';obtain ⟨p,hp',rfl⟩:=List.mem_map.1 hx';exact hx _ (hpp p hp').2 (by omega)
    have hbc:=hb z hZ;refine af.ah ai Tryz.func205 rfl rfl (n:=41) rfl rfl ?_
    conv=>whnf
    repeat' (first|refine aS ?_|((intro _);conv=>whnf)|(refine zX (fun hc=>?_) (fun hc=>?_)<;>(try simp only[SY] at hc)<;>omega))
    refine av.go (Γ1:= []) hbn (aX.refl _) ?_;rintro _ _ ⟨tk,htk,rfl,rfl⟩
    conv=>whnf
    repeat' (first|refine aS ?_|(((((apply zY;intro hg));(conv=>whnf);(repeat ((first|refine pC (hdc) wR ?_|refine aH ?_);conv=>whnf));exact pZ));conv=>whnf)|(refine zX (fun hc=>?_) (fun hc=>?_)<;>(try simp only[SY] at hc)<;>(conv=>whnf)))
    refine av.go hac (.cons (Wk.refl _) (.cons (Wk.tok _ _ _) .nil)) ?_;rintro _ _ ⟨rfl,rfl⟩
    conv=>whnf
    repeat' (first|((first|refine pC (F9 _) wR ?_|refine pC (J3 (L.map Prod.fst) vs hl1 (by rw[hal,List.length_map,List.length_map])) wR ?_);conv=>whnf)|(refine zX (fun hc=>?_) (fun hc=>?_)<;>(try simp only[SY] at hc)<;>omega))
    refine av.go hbc (aX.refl _) ?_;rintro _ _ ⟨rfl,rfl⟩
    conv=>whnf
    repeat' (first|refine aS ?_|((first|refine pC (nH) wR ?_|intro _);conv=>whnf)|(refine zX (fun hc=>?_) (fun hc=>?_)<;>(try simp only[SY] at hc)<;>omega))
    exact ak.gen (y:=.agg (ic [xB key,AI ((L.map Prod.fst).zip vs),z]).cells) (Γ':= [qj b s]) (Wk.refl _) (And.intro rfl rfl)
   ·cases hy
  ·cases hy
theorem xV {p q:Prop} (k:q) (h:q→p:=by intro hq;first | exact aC.sP (some 63) rfl [] [6,7] ai mixed hq | exact aC.sP (some 101) rfl [] [7,8] ai mixed hq | exact aC.sP (some 143) rfl [] [6,7] ai mixed hq):p:=h k
theorem NT (ex:Datum→Option Datum) (key:List UInt8) (l:List Datum) (y:Datum) (hp: ∀ x∈l,x.pr=true) (hsz:Datum.eM l≤1000000000) (hy:NS ex key l=some y) (hx: ∀ x:Datum,x.pr=true→x.sz≤Datum.eM l→ ∀ y,ex x=some y→OS b s x y)
  (hb: ∀ y,uF ex (l.drop 1)=some y→af Tryz.prog 60 [.ptr b 0,.sl 5 ((l.drop 1).map Datum.pv) none] [qj b s] (fun z Γ'=>z=.agg y.cells∧Γ'= [qj b s])):
  af Tryz.prog 164 [.ptr b 0,.str key,.sl 5 (l.map Datum.pv) none] [qj b s] (fun z Γ'=>z=.agg y.cells∧Γ'= [qj b s]):=by
 unfold NS at hy
 split at hy
 ·rename_i hk
  obtain ⟨hl,hk⟩:=hk;replace hk:key= [108,97,109,98,100,97]:=hk;have h0:0 < l.length:=by omega
  rw[aO h0] at hy;have hs0:=Datum.eX (List.getElem_mem h0);have hcl:=N2 b s ex (l[0]'h0) (l.drop 1) y (hp _ (List.getElem_mem h0)) (by omega) hy hb;have hkn: ∀ B,key=B→B= [108,97,109,98,100,97]:=fun B h=>h.symm.trans hk;refine af.ah ai Tryz.func164 rfl rfl (n:=159) rfl rfl ?_
  conv=>whnf
  repeat' (first|refine aS ?_|((first|refine xV ?_|intro _);conv=>whnf)|(refine zX (fun hc=>?_) (fun hc=>?_)<;>(try simp only[SY] at hc)<;>first|omega|(conv=>whnf)))
  all_goals first | exact absurd (hkn _ (by assumption)) (by decide) | (exfalso;omega) | exact absurd hk (by assumption) | skip
  refine av.go hcl (aX.refl _) ?_;rintro _ _ ⟨rfl,rfl⟩
  conv=>whnf
  repeat' (first|refine aS ?_|(refine zX (fun hc=>?_) (fun hc=>?_)<;>(try simp only[SY] at hc)<;>omega))
  exact ak.gen (y:=.agg y.cells) (Γ':= [qj b s]) (Wk.refl _) (And.intro rfl rfl)
 ·split at hy
  ·rename_i hk
   obtain ⟨hl,hk⟩:=hk;replace hk:key= [108,101,116,114,101,99,42]:=hk;have h0:0 < l.length:=by omega
   rw[aO h0] at hy;have hs0:=Datum.eX (List.getElem_mem h0);have hcl:=Oo b s ex key (l[0]'h0) (l.drop 1) y (hp _ (List.getElem_mem h0)) (by omega) hy (fun x h1 h2=>hx x h1 (by omega)) hb;have hkn: ∀ B,key=B→B= [108,101,116,114,101,99,42]:=fun B h=>h.symm.trans hk;refine af.ah ai Tryz.func164 rfl rfl (n:=159) rfl rfl ?_
   conv=>whnf
   repeat' (first|refine aS ?_|((first|refine xV ?_|intro _);conv=>whnf)|(refine zX (fun hc=>?_) (fun hc=>?_)<;>(try simp only[SY] at hc)<;>first|omega|(conv=>whnf)))
   all_goals first | exact absurd (hkn _ (by assumption)) (by decide) | (exfalso;omega) | exact absurd hk (by assumption) | skip
   all_goals
    refine av.go hcl (aX.refl _) ?_;rintro _ _ ⟨rfl,rfl⟩
    conv=>whnf
    repeat' (first|refine aS ?_|(refine zX (fun hc=>?_) (fun hc=>?_)<;>(try simp only[SY] at hc)<;>omega))
    exact ak.gen (y:=.agg y.cells) (Γ':= [qj b s]) (Wk.refl _) (And.intro rfl rfl)
  ·cases hy
theorem xW {p q:Prop} (k:q) (h:q→p:=by intro hq;first | exact aC.sP (some 49) rfl [] [7,8] ai mixed hq):p:=h k
theorem Jk (hs:s.bad=false): ∀ (n:Nat) (d y:Datum),d.pr=true→d.sz≤1000000000→qZ n d=some y→OS b s d y
 | 0,_,_,_,_,h=>by cases h
 | n + 1,d,y,hp,hsz,hy=>by
  have hz:=Datum.mz hp;have hpl: ∀ x∈d.ax.1,x.pr=true:=fun x h=>(Datum.kX hp h).2;have ih: ∀ x:Datum,x.pr=true→x.sz≤Datum.eM d.ax.1→ ∀ y,qZ n x=some y→OS b s x y:=fun x h1 h2 y h3=>Jk hs n x y h1 (by omega) h3;have hI:=lK d hp hsz;have hd1:=Datum.n5 d.ax.1 1;rw[qZ] at hy
  split at hy
  ·rename_i h2
   split at hy
   ·cases hy
   ·rename_i hk
    obtain rfl:=Option.some.inj hy;rw[Bool.not_eq_true] at hk;have hkd:=pF d.s;rw[hk] at hkd;refine af.ah ai Tryz.func112 rfl rfl (n:=63) rfl rfl ?_
    conv=>whnf
    repeat' (first|refine aS ?_|((first|refine pC (hkd) wR ?_|intro _);conv=>whnf)|(refine zX (fun hc=>?_) (fun hc=>?_)<;>(try simp only[SY] at hc)<;>first|omega|(conv=>whnf)))
    all_goals first | (exfalso;omega) | (exfalso;simp_all;done) | exact ak.gen (y:=.agg d.cells) (Γ':= [qj b s]) (Wk.refl _) (And.intro rfl rfl)
  ·rename_i h2
   split at hy
   ·rename_i h6
    have hne:0 < d.ax.1.length:=by
     rw[d.jS h6.1 (Datum.s5 hp h6.1)];simp
    rw[aO hne] at hy;rw[h6.2] at hI;generalize d.ax.1=l at *
    split at hy
    ·rename_i hk
     have hkd:=pF (l[0]'hne).s;rw[hk.2] at hkd;have hd2:=Datum.n5 (l.drop 1) 1;have hbd: ∀ y,uF (qZ n) ((l.drop 1).drop 1)=some y→_:=fun y hb=>IM b s hs (qZ n) ((l.drop 1).drop 1) y (fun x h=>hpl x (List.mem_of_mem_drop (List.mem_of_mem_drop h))) (by omega) hb fun x hx=>ih x (hpl x (List.mem_of_mem_drop (List.mem_of_mem_drop hx))) (by have:=Datum.eX hx;omega);have hcl:=NT b s (qZ n) (l[0]'hne).s (l.drop 1) y (fun x h=>hpl x (List.mem_of_mem_drop h)) (by omega) hy (fun x h1 h2=>ih x h1 (by omega)) hbd;refine af.ah ai Tryz.func112 rfl rfl (n:=63) rfl rfl ?_
     conv=>whnf
     repeat' (first|refine aS ?_|((first|(((apply zY;intro hg));(conv=>whnf);(repeat ((first|refine pC (hkd) wR ?_|refine aH ?_);conv=>whnf));exact pZ)|refine pC (hI) wR ?_|refine xW ?_|intro _);conv=>whnf)|(refine zX (fun hc=>?_) (fun hc=>?_)<;>(try simp only[SY] at hc)<;>first|omega|(conv=>whnf)))
     ·exact absurd (hs.symm.trans hc) (by decide)
     ·refine av.go hcl (aX.refl _) ?_
      rintro _ _ ⟨rfl,rfl⟩
      conv=>whnf
      repeat' (first|refine aS ?_|(refine zX (fun hc=>?_) (fun hc=>?_)<;>(try simp only[SY] at hc)<;>omega))
      exact ak.gen (y:=.agg y.cells) (Γ':= [qj b s]) (Wk.refl _) (And.intro rfl rfl)
    ·rename_i hk
     cases hA:Bl (qZ n) l with
     | none=>rw[hA] at hy;cases hy
     | some m=>
      rw[hA] at hy;obtain rfl:=Option.some.inj hy;have hlen:=Datum.mQ l;obtain ⟨hml,hcl⟩:=IF b s (qZ n) l m hA (by omega) fun x hx=>ih x (hpl x hx) (Datum.eX hx);refine af.ah ai Tryz.func112 rfl rfl (n:=63) rfl rfl ?_
      conv=>whnf
      repeat' (first|refine aS ?_|((first|(((apply zY;intro hg));(conv=>whnf);(repeat ((first|refine pC (pF _) wR ?_|refine aH ?_);conv=>whnf));exact pZ)|refine pC (hI) wR ?_|refine xW ?_|intro _);conv=>whnf)|(refine zX (fun hc=>?_) (fun hc=>?_)<;>(try simp only[SY] at hc)<;>first|omega|(conv=>whnf)))
      ·exact absurd (hs.symm.trans hc) (by decide)
      ·exact absurd hc hk
      ·refine av.go hcl (aX.refl _) ?_
       rintro _ _ ⟨rfl,rfl⟩
       conv=>whnf
       repeat' (first|refine aS ?_|((refine pC (nH) wR ?_);conv=>whnf)|(refine zX (fun hc=>?_) (fun hc=>?_)<;>(try simp only[SY] at hc)<;>omega))
       exact ak.gen (y:=.agg (ic m).cells) (Γ':= [qj b s]) (Wk.refl _) (And.intro rfl rfl)
   ·cases hy
end
theorem GW (l:List Datum) (y:Datum) (hsz:Datum.eM l≤800000000) (hr:(l.any fun d=>!d.bS 0 || d.OZ)=false) (hyr:y.bS 0=true) (hy:uF (qZ 20) l=some y):aA Tryz.prog 38 [.sl 5 (l.map Datum.pv) none] (.bn [.agg y.cells,.int .i64 0]):=by
 have hall: ∀ x∈l,x.bS 0=true∧x.OZ=false:=fun x hx=>by
  rw[List.any_eq_false] at hr;have h2:=hr x hx;simp at h2;exact h2
 have hpr: ∀ x∈l,x.pr=true:=fun x hx=>tj x 0 (hall x hx).1;have hR:=gJ y;rw[hyr] at hR;refine af.ah ai Tryz.func38 rfl rfl (n:=43) rfl rfl ?_
 conv=>whnf
 repeat' (first|((intro _);conv=>whnf)|(refine zX (fun hc=>?_) (fun hc=>?_)<;>(try simp only[SY] at hc)<;>omega))
 rename_i b2;refine aq.keep [3,4,7,8,9,10,11,12,13,14,15,16,17,18,19,20,21,22,23,24,25,26] (fun i:Nat=> [(4,.int .i64 i)]) (fun i=>i≤l.length) (fun i=>l.length - i) 0 (Nat.zero_le _) wA ?_;intro i hi
 conv=>whnf
 repeat' (first|refine aS ?_|((first|(((apply zY;intro hg));(conv=>whnf);(repeat ((first|refine pC (D9 _ ⟨0,by simpa using hg⟩) wR ?_|refine aH ?_);conv=>whnf));exact pZ)|refine pC (gJ _) wR ?_|intro _);conv=>whnf)|(refine zX (fun hc=>?_) (fun hc=>?_)<;>(try simp only[SY] at hc)<;>(conv=>whnf)))
 ·have hlt:i < l.length:=by omega
  have:=hall _ (List.getElem_mem hlt);rcases hc with h | h
  ·exact absurd (this.1.symm.trans h) (by decide)
  ·exact absurd (this.2.symm.trans h) (by decide)
 ·exact an (i + 1) (by show i + 1≤l.length;omega) (by show l.length - (i + 1) < l.length - i;omega) wA
 ·rename_i b5
  have hc1:=IM b5 ⟨0,false⟩ rfl (qZ 20) l y hpr (by omega) hy fun x hx y h=>Jk b5 ⟨0,false⟩ rfl 20 x y (hpr x hx) (by have:=Datum.eX hx;omega) h;refine av.OY (au.box (b:=b5) (cs:= [.int .i64 0,.bfalse]) (cs':= [.int .i64 0,.bool false]) (.cons (Wk.refl _) (.cons (Wk.ff rfl) .nil))) hc1 (aX.refl _) ?_;rintro _ _ ⟨rfl,rfl⟩
  conv=>whnf
  repeat' (first|refine aS ?_|((first|(((apply zY;intro hg));(conv=>whnf);(repeat ((first|refine pC (gJ _) wR ?_|refine aH ?_);conv=>whnf));exact pZ)|intro _);conv=>whnf)|(refine zX (fun hc=>?_) (fun hc=>?_)<;>(try simp only[SY] at hc)<;>(conv=>whnf)))
  ·exact absurd (hyr.symm.trans hc) (by decide)
  ·exact ak.pure (Wk.refl _)
def eS (e:Env):List (List UInt8):=(e.map Prod.fst).reverse
def eN (e:Env):List Int:=(e.map Prod.snd).reverse
theorem DR (e:Env):(eS e).length=e.length:=by simp[eS]
theorem DQ (e:Env):(eN e).length=e.length:=by simp[eN]
theorem E4 (x:List UInt8) (n:Int) (e:Env):eS ((x,n)::e)=eS e++ [x]:=by simp[eS]
theorem E3 (x:List UInt8) (n:Int) (e:Env):eN ((x,n)::e)=eN e++ [n]:=by simp[eN]
abbrev nh (e:Env):List PV:= [.sl 1 ((eS e).map PV.str) none,.sl 1 ((eN e).map (PV.int .i64)) none]
def Ag (L:List (List UInt8)) (M:List Int) (s:List UInt8):Nat→Option Int
 | 0=>none
 | k + 1=>if L.getD k []=s then some (M.getD k 0) else Ag L M s k
theorem BX (L L':List (List UInt8)) (M M':List Int) (s:List UInt8) (h:L.length=M.length): ∀ k,k≤L.length→Ag (L++L') (M++M') s k=Ag L M s k
 | 0,_=>rfl
 | k + 1,hk=>by
  have e1:(L++L').getD k []=L.getD k []:=by simp[List.getD,List.getElem?_append,show k < L.length by omega]
  have e2:(M++M').getD k 0=M.getD k 0:=by simp[List.getD,List.getElem?_append,show k < M.length by omega]
  rw[Ag,Ag,e1,e2,BX L L' M M' s h k (by omega)]
theorem BY (s:List UInt8): ∀ e:Env,Ag (eS e) (eN e) s e.length=nq e s
 | []=>rfl
 | (x,n)::e=>by
  have h1:=DR e;have h2:=DQ e;have e1:(eS e++ [x]).getD e.length []=x:=by simp[List.getD, ←h1]
  have e2:(eN e++ [n]).getD e.length 0=n:=by simp[List.getD, ←h2]
  rw[List.length_cons,Ag,E4,E3,e1,e2,nq]
  split
  ·rfl
  ·rw[BX _ _ _ _ _ (by omega) _ (by omega)]
   exact BY s e
def oE (e:Env) (s:List UInt8):Int:=match nq e s with
 | some v=>v
 | none=> -1
theorem om (d:Datum) (hp:d.pr=true) (hs:d.sz≤1000000000):aA Tryz.prog 119 [.agg d.cells] (.sl 5 (d.ax.1.map Datum.pv) none):=by
 refine af.ah ai Tryz.func119 rfl rfl (n:=19) rfl rfl ?_
 conv=>whnf
 repeat (((intro _);conv=>whnf))
 rename_i b1;refine aq.gh (au.nil 5 55 _) ?_
 refine aq.over [3,4,5,6,7,8,9,10,11,12,13,14,15,16,17] (fun x:Datum×List Datum×Tok=> [(3,.sl 5 (x.2.1.map Datum.pv) (some x.2.2))]) (fun x:Datum×List Datum×Tok=> [.box b1 (lG x.1),.tok x.2.2])
  (fun x=>x.1.pr=true∧x.1.sz + x.2.1.length≤d.sz∧x.2.2.e=55∧x.2.1++x.1.ax.1=d.ax.1) (fun x=>x.1.sz) (d, [],ay 5 55) ⟨hp,by simp,rfl,rfl⟩ wA ?_
 rintro ⟨D,m,t1⟩ ⟨hD,hm,ht,h1⟩;dsimp only at hD hm ht h1 ⊢;have hlen:=fun h=>Datum.s5 hD h;have hpos:=D.dM
 conv=>whnf
 repeat' (first|refine aS ?_|((intro _);conv=>whnf)|(refine zX (fun hc=>?_) (fun hc=>?_)<;>(try simp only[SY] at hc)<;>(conv=>whnf)))
 ·rename_i ta tb htb
  have h3:=hlen hc;have e:=D.jS hc h3;have hz:=D.w9 h3;have hp0:=(D.l[0]'(by omega)).dM;rw[e] at h1;exact an (D.l[1]'(by omega),m++ [D.l[0]'(by omega)],tb) ⟨Datum.sZ hD (List.getElem_mem _),by simp;omega,htb,by dsimp only;rw[List.append_assoc];exact h1⟩ (by show (D.l[1]'(by omega)).sz < D.sz;omega) wA
 ·have e:=D.mw hc
  rw[e,List.append_nil] at h1;rw[←h1];exact ak.pure (Wk.tok _ _ _)
theorem BQ (e:Env) (s:List UInt8) (hl:e.length≤1000000000):aA Tryz.prog 117 [.agg (nh e),.str s] (.int .i64 (oE e s)):=by
 have h1:=DR e;have h2:=DQ e;have hk:=BY s e;unfold oE nh;generalize eS e=L at *;generalize eN e=M at *;refine af.ah ai Tryz.func117 rfl rfl (n:=26) rfl rfl ?_
 conv=>whnf
 repeat' (first|refine aS ?_|((intro _);conv=>whnf)|(refine zX (fun hc=>?_) (fun hc=>?_)<;>(try simp only[SY] at hc)<;>omega))
 refine aq.keep [4,5,10,11,12,13,14,15,16,17,18,19,20,21,22,23,24,25] (fun k:Nat=> [(5,.int .i64 ((k:Int) - 1))]) (fun k=>k≤L.length∧Ag L M s k=nq e s) (fun k=>k) L.length ⟨Nat.le_refl _,by rw[h1];exact hk⟩ wA ?_;rintro (_ | k) ⟨hi,he⟩
 ·conv=>whnf
  repeat' ((refine zX (fun hc=>?_) (fun hc=>?_)<;>(try simp only[SY] at hc)<;>first|omega|(conv=>whnf)))
  rw[←he];exact ak.pure (Wk.refl _)
 ·rw[show ((k + 1:Nat):Int) - 1=(k:Int) by omega]
  rw[Ag] at he
  conv=>whnf
  repeat' (first|refine aS ?_|(refine zX (fun hc=>?_) (fun hc=>?_)<;>(try simp only[SY] at hc)<;>first|omega|(conv=>whnf)))
  ·rw[if_pos (by simpa[List.getD,show k < L.length by omega] using hc)] at he
   rw[←he];refine ak.pure (Wk.int ?_);simp[List.getD,show k < M.length by omega]
  ·rw[if_neg (by simpa[List.getD,show k < L.length by omega] using hc)] at he
   exact an k ⟨by omega,he⟩ (by show k < k + 1;omega) wA
open Go.RowKit (Below)
section
variable {P:Program} {tt:Nat→TI}
theorem Bk {full:List Oper} {Γ:List aj} {k k':List PV→Prop} (hk: ∀ T,k T→k' T): ∀ (l:List Oper) (T:List PV),gM P tt full l T Γ k→gM P tt full l T Γ k'
 | [],T,h=>hk T h
 | x::l,T,h=>by
  obtain ⟨v,h1,h2⟩:=iG.1 h;exact iG.2 ⟨v,h1,Bk hk l _ h2⟩
end
section
variable {P:Program} {tt:Nat→TI}
end
def Qe (bH rest:List Nat) (i:Nat):Bool:=rest.all fun j=>Nat.beq j i || !(ja bH i j)
def x4 (i:Nat):List Nat→List Nat
 | []=> []
 | j::l=>match Nat.beq j i with
  | true=>l
  | false=>j::x4 i l
def Ce (bH rest:List Nat):List Nat→List Nat
 | []=> []
 | i::l=>match Qe bH rest i with
  | true=>i::Ce bH rest l
  | false=>Ce bH rest l
def Nv:List Nat→(Nat→Prop)→Prop
 | [],_=>True
 | i::l,f=>f i∧Nv l f
theorem Bn {f:Nat→Prop}: ∀ {l:List Nat},Nv l f→ ∀ i∈l,f i
 | [],_,i,h=>by cases h
 | j::l,h,i,hi=>by
  rcases List.mem_cons.1 hi with rfl | hi
  ·exact h.1
  ·exact Bn h.2 i hi
theorem sM {bH rest:List Nat}: ∀ {l:List Nat} {i:Nat},i∈l→Qe bH rest i=true→i∈Ce bH rest l
 | j::l,i,hi,ho=>by
  rw[Ce];rcases List.mem_cons.1 hi with rfl | hi
  ·rw[ho];exact List.mem_cons_self ..
  ·split
   ·exact List.mem_cons_of_mem _ (sM hi ho)
   ·exact sM hi ho
theorem tU {i:Nat}: ∀ {l1 l2:List Nat},i∉l1→x4 i (l1++i::l2)=l1++l2
 | [],l2,_=>by
  rw[List.nil_append,x4,Nat.beq_refl];rfl
 | j::l1,l2,h=>by
  rw[List.mem_cons,not_or] at h;rw[List.cons_append,x4,Dh (Ne.symm h.1),tU h.2];rfl
section
variable {P:Program} {tt:Nat→TI}
def xH (P:Program) (tt:Nat→TI) (ops:List Oper) (bH:List Nat):Nat→List Nat→List PV→List aj→(List PV→List aj→Prop)→Prop
 | 0,_,T,Γ,K=>K T Γ
 | n + 1,rest,T,Γ,K=>Nv (Ce bH rest rest) fun i=>match ops[i]? with
  | none=>False
  | some o=>qz P tt o.op T Γ fun x Γ'=>xH P tt ops bH n (x4 i rest) (fP T o.dst x) Γ' K
theorem PC (hk:TT.ok P tt) (rd:Option Nat) (nn:Nat) {ops:Array Oper} {bH:List Nat} (hc:gz ops bH=true) {w0:World} {M Γ2:List aj} {F0:Fz} {ds:List Deferred} {Q':Exit→Act→World→Prop}
  {Tl:List PV→List aj→Prop} (hTl: ∀ (fuel:Nat) (listed:Array Bool) (T:List PV) (Γ:List aj) (F:Fz) (a:Act) (w:World),Down ops listed→gL ops listed []→F0.le F→aP w0 F (Γ++M) w→aB F T a.tmps.toList→a.defers=ds→
   Tl T Γ→wpAnyIn (cX rd) nn P .any ops Q' fuel listed a w):
  ∀ (n:Nat) (A rest:List Nat) (fuel:Nat) (listed:Array Bool) (T:List PV) (Γ1:List aj) (F:Fz) (a:Act) (w:World),A.length + rest.length=n→n≤fuel→
   Down ops listed→gL ops listed (A++rest)→(A.Pairwise fun j i=>ja bH i j=true∨br ops j i=true)→(∀ j∈A, ∀ i∈rest,ja bH i j=true∨br ops j i=true)→(∀ i∈rest, ∀ o,ops[i]?=some o→o.guard=none)→
   F0.le F→aP w0 F (Γ1++(Γ2++M)) w→aB F T a.tmps.toList→a.defers=ds→
   (gM P tt ops.toList (A.filterMap (ops[·]?)) T Γ2 fun T'=>xH P tt ops.toList bH rest.length rest T' Γ1 fun T2 Γ1'=>Tl T2 (Γ1'++Γ2))→
   wpAnyIn (cX rd) nn P .any ops Q' fuel listed a w:=by
 intro n
 induction n with
 | zero=>
  intro A rest fuel listed T Γ1 F a w hn hf hd hp hpa hpr hug hle hS hT hds h;obtain rfl:A= []:=List.eq_nil_of_length_eq_zero (by omega);obtain rfl:rest= []:=List.eq_nil_of_length_eq_zero (by omega);exact hTl fuel listed T (Γ1++Γ2) F a w hd (by simpa using hp) hle (by simpa using hS) hT hds h
 | succ n ih=>
  intro A rest fuel listed T Γ1 F a w hn hf hd hp hpa hpr hug hle hS hT hds h
  cases fuel with
  | zero=>omega
  | succ fuel=>
  refine ⟨fun hnil=>?_,fun i hi=>?_⟩
  ·exfalso
   cases hAR:A++rest with
   | nil=>rw[List.append_eq_nil_iff] at hAR;rw[hAR.1,hAR.2] at hn;simp at hn
   | cons x xs=>
    rw[hAR] at hp;obtain ⟨k,hk'⟩:=fI hc hp;rw[hnil] at hk';cases hk'
  ·obtain ⟨o,ho⟩:=hp.2.2 i (hp.ready hi)
   have un: ∀ {j:Nat},j∈A++rest→ja bH i j=true→False:=fun {j} hj ha=>blocked hc hd i ho ha ((hp.2.1 j).2 hj) hi
   have free: ∀ {j:Nat} {x:Oper},j∈A++rest→ops[j]?=some x→(ja bH i j=true∨br ops j i=true)→x.apart ops o=true:=by
    intro j x hj hx h;rcases h with h | h
    ·exact (un hj h).elim
    ·simpa[br,hx,ho] using h
   have hmem:=hp.ready hi;rw[List.mem_append] at hmem;rcases hmem with hm | hm
   ·obtain ⟨A1,A2,rfl⟩:=List.append_of_mem hm
    rw[gl ho] at h
    have hap: ∀ x∈A1.filterMap (ops[·]?),x.apart ops o=true:=by
     intro x hx;obtain ⟨j,hj,hx⟩:=List.mem_filterMap.1 hx;exact free (by simp[hj]) hx ((List.pairwise_append.1 hpa).2.2 j hj i (by simp))
    obtain ⟨v,h1,h2⟩:=lz _ T hap h
    have hS2:aP w0 F (Γ2++(Γ1++M)) w:=hS.perm (by
     rw[←List.append_assoc, ←List.append_assoc]
     exact List.perm_append_comm.append_right M)
    have hs:List.Sublist (A1++A2) (A1++i::A2):=List.Sublist.append (List.Sublist.refl _) (List.sublist_cons_self _ _);unfold wpOpIn;simp only[ho]
    have key:=mg hk (rd:=rd) (nn:=nn) (Q:=Q') (next:=fun a w=>wpAnyIn (cX rd) nn P .any ops Q' fuel (listed.setIfInBounds i true) a w) hS2 hT h1 (by
     intro F' u w' hle' hS' hx
     refine ih (A1++A2) rest fuel _ (fP T o.dst v) Γ1 F' _ w' (by simp at hn ⊢; omega) (by omega) (hd.set hi) ?_ (hpa.sublist hs) (fun j hj=>hpr j (hs.subset hj)) hug (Fz.le_trans hle hle') ?_ (eW (aB.mono hle' _ _ hT) hx o.dst)
      ((put_defers a o.dst u).trans hds) ?_
     ·have:=gL.set (l1:=A1) (l2:=A2++rest) (i:=i) (by simpa using hp)
      rwa [List.append_assoc]
     ·exact hS'.perm (by
       rw[←List.append_assoc, ←List.append_assoc]
       exact List.perm_append_comm.append_right M)
     ·rw[List.filterMap_append];exact h2)
    split at key<;>rename_i hw
    ·rw[if_pos hw];exact key
    ·rw[if_neg hw];exact ⟨fun _ _=>trivial,key⟩
   ·have hg:o.guard=none:=hug i hm o ho
    have hok:Qe bH rest i=true:=by
     unfold Qe;rw[List.all_eq_true];intro j hj;rw[Bool.or_eq_true,Bool.not_eq_true'];by_cases e:j=i
     ·left;rw[e];exact Nat.beq_refl i
     ·right
      rw[Bool.eq_false_iff];exact fun ha=>un (List.mem_append_right _ hj) ha
    obtain ⟨R1,R2,hR⟩:=List.append_of_mem hm;have hrl:rest.length=(R1++R2).length + 1:=by rw[hR,List.length_append,List.length_append,List.length_cons];omega
    have hnd:i∉R1:=by
     have h1:=hp.1;rw[hR] at h1;have h2:=(List.pairwise_append.1 (List.pairwise_append.1 h1).2.1).2.2;exact fun hi1=>h2 i hi1 i (List.mem_cons_self ..) rfl
    have hdn:x4 i rest=R1++R2:=by rw[hR];exact tU hnd
    have ho2:ops.toList[i]?=some o:=by rw[Array.getElem?_toList];exact ho
    rw[hrl] at h
    have h:=Bk (k':=fun T'=>qz P tt o.op T' Γ1 fun x Γ'=>xH P tt ops.toList bH (R1++R2).length (R1++R2) (fP T' o.dst x) Γ' fun T2 Γ1'=>Tl T2 (Γ1'++Γ2)) (fun T' h=>by
     rw[xH] at h;have:=Bn h i (sM hm hok);rw[ho2,hdn] at this
     exact this) _ _ h
    have hap: ∀ x∈A.filterMap (ops[·]?),x.apart ops o=true:=by
     intro x hx;obtain ⟨j,hj,hx⟩:=List.mem_filterMap.1 hx;exact free (List.mem_append_left _ hj) hx (hpr j hj i hm)
    have h2:=m8 (kk:=fun T' Γ1'=>xH P tt ops.toList bH (R1++R2).length (R1++R2) T' Γ1' fun T2 Γ1'=>Tl T2 (Γ1'++Γ2)) _ T hap h;unfold wpOpIn;simp only[ho];rw[if_pos (by simp[Region.wanted,hg])];refine gD hk (M:=Γ2++M) hS hT h2 ?_;rintro F' x Γ' v' w' hle' hS' hx hK
    have hs: ∀ j∈R1++R2,j∈rest:=fun j hj=>by
     rw[hR];rcases List.mem_append.1 hj with hj | hj
     ·exact List.mem_append_left _ hj
     ·exact List.mem_append_right _ (List.mem_cons_of_mem _ hj)
    refine ih A (R1++R2) fuel _ (fP T o.dst x) Γ' F' _ w' (by omega) (by omega) (hd.set hi) ?_ hpa (fun j hj k hk=>hpr j hj k (hs k hk)) (fun k hk=>hug k (hs k hk)) (Fz.le_trans hle hle') hS' (eW (aB.mono hle' _ _ hT) hx o.dst)
     ((put_defers a o.dst v').trans hds) hK
    have:=gL.set (l1:=A++R1) (l2:=R2) (i:=i) (by rw[hR] at hp;simpa using hp);simpa using this
def No (ops:Array Oper) (bH A rest:List Nat):Bool:=
 gz ops bH && gH (fun j i=>ja bH i j || br ops j i) A && A.all (fun j=>rest.all fun i=>ja bH i j || br ops j i) && rest.all (fun i=>match ops[i]? with | some o=>o.guard.isNone | none=>false) &&
 gH (fun j i=>!(Nat.beq j i)) (A++rest) && (List.range ops.size).all (fun i=>(A++rest).contains i) && (A++rest).all (fun i=>Nat.blt i ops.size)
theorem aC.tree (hk:TT.ok P tt) (hm:P.follows .mixedOrders=true) {ops:Array Oper} {T:List PV} {Γ Γ2:List aj} {K:List PV→List aj→Prop} (bH A rest:List Nat) (Γ1:List aj) [hp:bC Γ Γ1 Γ2]
  (h:gM P tt ops.toList (bM ops.toList A) T Γ2 fun T'=>xH P tt ops.toList bH rest.length rest T' Γ1 fun T2 Γ1'=>kS Γ1' Γ2 fun Γ'=>K T2 Γ')
  (hchk:No ops bH A rest=true:=by kernel_rfl):aC P ops T Γ K:=by
 refine ⟨fun rd nn id w0 F M w a Q' hS hT hQ=>wpIn_region_any hm ?_⟩;simp only[No,Bool.and_eq_true] at hchk;obtain ⟨⟨⟨⟨⟨⟨hc,s1⟩,s2⟩,s3⟩,h7⟩,h8⟩,h9⟩:=hchk
 have hlt: ∀ i∈A++rest,i < ops.size:=fun i hi=>by
  have:=List.all_eq_true.1 h9 i hi;simpa[Nat.blt,Nat.succ_le_iff] using this
 have hpend:gL ops (Array.replicate ops.size false) (A++rest):=by
  refine ⟨(bV h7).imp fun h=>by
   intro e;subst e
   simp at h,?_,fun i hi=>⟨_,Array.getElem?_eq_getElem (hlt i hi)⟩⟩
  intro i;constructor
  ·intro hi
   rcases Nat.lt_or_ge i ops.size with h' | h'
   ·have:=List.all_eq_true.1 h8 i (List.mem_range.2 h')
    simpa only[List.contains_iff_mem] using this
   ·simp[Array.getElem?_eq_none,h'] at hi
  ·intro hi
   simp[hlt i hi]
 have hlen:A.length + rest.length≤ops.size:=by
  have hsub:(A++rest) ⊆ List.range ops.size:=fun i hi=>List.mem_range.2 (hlt i hi);have:=hpend.1.length_le_of_subset hsub;simpa only[List.length_append,List.length_range] using this
 have hS':aP w0 F (Γ1++(Γ2++M)) { w with drawn:=w.drawn + 1 }:=by
  have:=(hS.perm (hp.p.append_right M)).of_heap (w':={ w with drawn:=w.drawn + 1 }) rfl rfl rfl rfl;simpa using this
 refine PC hk rd nn hc (F0:=F) (ds:=a.defers) (Tl:=K) ?_ _ A rest ops.size _ T Γ1 F a _ rfl hlen ?_ hpend ((bV s1).imp fun h=>by simpa using h) (fun j hj i hi=>?_) (fun i hi o ho=>?_) (Fz.le_refl F) hS' hT rfl ?_
 ·intro fuel listed T2 Γ' F' a' w' hd hpd hle hS2 hT2 hds ht
  refine NU hk rd nn hc (R2:= []) (F0:=F) (ds:=a.defers) hQ _ [] [] fuel listed T2 [] F' a' w' rfl (Nat.zero_le _) hd (by simpa using hpd) ⟨List.Pairwise.nil,fun _ h=>(by cases h),List.Pairwise.nil,List.Pairwise.nil,fun _ h=>(by cases h),fun _ h=>(by cases h),fun _ h=>(by cases h)⟩ hle (Γ2:=Γ') (by simpa using hS2) hT2 hds ?_;simp only[List.filterMap_nil,bU,List.nil_append];exact ht
 ·intro k o hk'
  rcases Nat.lt_or_ge k ops.size with h' | h'
  ·simp[h'] at hk'
  ·intro ho
   have:=(Array.getElem?_eq_some_iff.1 ho).1;omega
 ·have:=List.all_eq_true.1 (List.all_eq_true.1 s2 j hj) i hi
  simpa using this
 ·have:=List.all_eq_true.1 s3 i hi
  rw[ho] at this;simpa using this
 ·simpa only[jf,Array.getElem?_toList,fC] using h
end
abbrev qu (b:Nat) (tk:Tok) (s:l8):List aj:= [.box b [.ms tk,.int .i64 s.vars,.bool s.lost],.row tk (s.cs.map Datum.pv)]
theorem qG (b:Nat) (tk:Tok) (s:l8) (e:Env) (x:List UInt8) (hl:e.length≤1000000000) (h0:0≤s.vars) (h1:s.vars≤1000000000000):
  af Tryz.prog 122 [.ptr b 0,.agg (nh e),.str x] (qu b tk s) (fun y Γ'=>y=.bn [.agg (nh ((x,s.vars)::e)),.int .i64 s.vars]∧Γ'=qu b tk ⟨s.cs,s.vars + 1,s.lost⟩):=by
 have h2:=DR e;have h3:=DQ e;unfold nh;rw[E4,E3];generalize eS e=L at *;generalize eN e=M at *;refine af.ah ai Tryz.func122 rfl rfl (n:=36) rfl rfl ?_
 conv=>whnf
 repeat' (first|refine aS ?_|((intro _);conv=>whnf)|(refine zX (fun hc=>?_) (fun hc=>?_)<;>(try simp only[SY] at hc)<;>omega))
 rename_i b4 b6;refine aC.tree ai mixed [0,0,2,7,0,16,63,0,0,256,1023,0,2048,8191,16383,0,32767,131071] [1,2,4,5,8,9,11,12,15] [0,3,6,7,10,13,14,16,17] [.box b6 [.nil,.nil]] ?_
 conv=>whnf
 conv=>whnf
 repeat' (first|((first|((apply zZ);exact tB)|refine aM ?_|(refine And.intro ?_ ?_)|refine aF ?_|intro _);conv=>whnf)|(refine zX (fun hc=>?_) (fun hc=>?_)<;>(try simp only[SY] at hc)<;>omega))
 all_goals try exact trivial
 all_goals exact ak.gen (y:=.bn [.agg [.sl 1 ((L++ [x]).map PV.str) none,.sl 1 ((M++ [s.vars]).map (PV.int .i64)) none],.int .i64 s.vars]) (Γ':=qu b tk ⟨s.cs,s.vars + 1,s.lost⟩) (Wk.bn (.cons (Wk.agg (.cons (Wk.tok _ _ _) (.cons (Wk.tok _ _ _) .nil))) (.cons (Wk.refl _) .nil))) ⟨rfl,rfl⟩
def lg (e:Env):Prop:= ∀ p∈e,0≤p.2
theorem vO: ∀ {e:Env} {s:List UInt8} {v:Int},lg e→nq e s=some v→0≤v
 | [],_,_,_,h=>by cases h
 | (x,n)::e,s,v,he,h=>by
  rw[nq] at h
  split at h
  ·cases h
   exact he (x,n) (by simp)
  ·exact vO (fun p hp=>he p (List.mem_cons_of_mem _ hp)) h
theorem qH: ∀ (l:List (List UInt8)) {e:Env} {n:Int},lg e→0≤n→lg (gV e n l)
 | [],_,_,h,_=>h
 | x::l,e,n,h,hn=>qH l (fun p hp=>by
   rcases List.mem_cons.1 hp with rfl | hp
   ·exact hn
   ·exact h p hp) (by omega)
theorem lC: ∀ (l:List (List UInt8)) (e:Env) (n:Int),(gV e n l).length=e.length + l.length
 | [],_,_=>rfl
 | x::l,e,n=>by rw[gV,lC l,List.length_cons,List.length_cons];omega
def ID (b:Nat) (tm:Datum→Env→l8→Nt) (x:Datum):Prop:= ∀ (tk:Tok) (e:Env) (s:l8),tk.e=55→tk.s=5→lg e→e.length + x.sz≤1000000000→o0 x.sz s→
 iZ x.sz s (tm x e s).2∧af Tryz.prog 62 [.ptr b 0,.agg x.cells,.agg (nh e)] (qu b tk s) (fun y Γ'=> ∃ tk':Tok,tk'.e=55∧tk'.s=5∧y=.agg (tm x e s).1.cells∧Γ'=qu b tk' (tm x e s).2)
theorem ES (b:Nat) (tm:Datum→Env→l8→Nt) (l:List Datum) (hx: ∀ x∈l,ID b tm x) (hl:l.length≤1000000000) (tk:Tok) (e:Env) (s:l8) (h1:tk.e=55) (h2:tk.s=5) (he:lg e) (hel:e.length + Datum.eM l≤1000000000) (hs:o0 (Datum.eM l) s):
  af Tryz.prog 121 [.ptr b 0,.sl 5 (l.map Datum.pv) none,.agg (nh e)] (qu b tk s) (fun y Γ'=> ∃ tk':Tok,tk'.e=55∧tk'.s=5∧y=.sl 4 ((dX tm l e s).1.map aa.pv) none∧Γ'=qu b tk' (dX tm l e s).2):=by
 generalize hR:dX tm l e s=R;refine af.ah ai Tryz.func121 rfl rfl (n:=26) rfl rfl ?_
 conv=>whnf
 repeat' (first|((intro _);conv=>whnf)|(refine zX (fun hc=>?_) (fun hc=>?_)<;>(try simp only[SY] at hc)<;>omega))
 rename_i b5;refine aq.gh (au.nil 4 26 _) ?_
 refine aq.over [7,8,9,10,11,12,13,14,15,16,17,18,19,20,21,22,23,24] (fun x:Nat×List aa×Tok×l8×Tok=> [(7,.sl 4 (x.2.1.map aa.pv) (some x.2.2.1)),(8,.int .i64 x.1)]) (fun x:Nat×List aa×Tok×l8×Tok=>.tok x.2.2.1::.box b5 (nh e)::qu b x.2.2.2.2 x.2.2.2.1)
  (fun x=>x.1≤l.length∧x.2.1.length=x.1∧x.2.2.1.e=26∧x.2.2.2.2.e=55∧x.2.2.2.2.s=5∧o0 (Datum.eM (l.drop x.1)) x.2.2.2.1∧R=(x.2.1++(dX tm (l.drop x.1) e x.2.2.2.1).1,(dX tm (l.drop x.1) e x.2.2.2.1).2)) (fun x=>l.length - x.1) (0, [],ay 4 26,s,tk) ⟨Nat.zero_le _,rfl,rfl,h1,h2,hs,hR.symm⟩ wA ?_
 rintro ⟨i,m,t1,s1,t2⟩ ⟨hi,hml,ht1,ht2,ht3,hn,hR2⟩;dsimp only at hi hml ht1 ht2 ht3 hn hR2⊢
 conv=>whnf
 repeat' (first|refine aS ?_|((intro _);conv=>whnf)|(refine zX (fun hc=>?_) (fun hc=>?_)<;>(try simp only[SY] at hc)<;>(conv=>whnf)))
 ·have hlt:i < l.length:=by omega
  rw[aI hlt,Datum.eM] at hn;rw[aI hlt,dX] at hR2;have hsz:l[i].sz≤Datum.eM l:=Datum.eX (List.getElem_mem hlt);obtain ⟨g,hcall⟩:=hx _ (List.getElem_mem hlt) t2 e s1 ht2 ht3 he (by omega) (hn.mono (by omega));generalize tm l[i] e s1=r at *;refine aC.sE [.tok t1,.box b [.ms t2,.int .i64 s1.vars,.bool s1.lost],.row t2 (s1.cs.map Datum.pv)] [7,8] [9,10] ai mixed ?_
  conv=>whnf
  repeat (refine qF ?_)
  refine av.go hcall (aX.refl _) ?_;rintro _ _ ⟨t3,k1,k2,rfl,rfl⟩
  conv=>whnf
  repeat' (first|refine aS ?_|((intro _);conv=>whnf)|(refine zX (fun hc=>?_) (fun hc=>?_)<;>(try simp only[SY] at hc)<;>omega))
  rename_i t4 ht4;refine an (i + 1,m++ [r.1],t4,r.2,t3) ⟨by show i + 1≤_;omega,by simp;omega,ht4,k1,k2,hn.step g,?_⟩ (by show l.length - (i + 1) < l.length - i;omega) wA;dsimp only;rw[hR2,List.append_assoc];rfl
 ·rw[List.drop_of_length_le (by omega),dX,List.append_nil] at hR2
  rw[hR2];exact ak.gen (y:=.sl 4 (m.map aa.pv) none) (Γ':=qu b t2 s1) (Wk.tok _ _ _) ⟨t2,ht2,ht3,rfl,rfl⟩
set_option maxHeartbeats 40000000
theorem oa: ∀ (l:List (List UInt8)) (e:Env) (n:Int) (x:List UInt8),gV e n (l++ [x])=(x,n + l.length)::gV e n l
 | [],e,n,x=>by simp[gV]
 | y::l,e,n,x=>by
  rw[List.cons_append,gV,gV,oa l];congr 2;simp;omega
theorem xh (n:Int) (k:Nat):uJ n (k + 1)=uJ n k++ [n + k]:=by rw[Gc];simp[uJ]
theorem vm: ∀ {l:List Datum} {b:List (Datum×Datum)},dh l=some b→ ∀ i,(h:i < l.length)→(h2:i < b.length)→ej l[i]=true∧l[i].ax.1.length=2∧b[i]=(l[i].ax.1.getD 0 aK,l[i].ax.1.getD 1 aK)
 | [],_,_,i,h,_=>by simp at h
 | x::xs,b,hb,i,h,h2=>by
  rw[dh] at hb
  split at hb
  ·rename_i hc
   cases hb':dh xs with
   | none=>rw[hb'] at hb;cases hb
   | some b'=>
    rw[hb'] at hb;cases hb
    cases i with
    | zero=>exact ⟨hc.1,hc.2,rfl⟩
    | succ i=>
     simp only[List.getElem_cons_succ];exact vm hb' i (by simpa using h) (by simpa using h2)
  ·cases hb
theorem mR {α β:Type} (f:α→β) (l:List α) (i:Nat) (h:i < l.length):(l.take (i + 1)).map f=(l.take i).map f++ [f l[i]]:=by
 rw[List.take_succ_eq_append_getElem h,List.map_append];rfl
theorem FV (b:Nat) (tm:Datum→Env→l8→Nt) (l:List Datum) (B:List (Datum×Datum)) (hl3:l.length=3) (hp: ∀ x∈l,x.pr=true) (hls:Datum.eM l≤1000000000) (hB:dJ (l.getD 1 aK)=some B)
  (hx: ∀ x∈B.map Prod.snd++ [l.getD 2 aK],ID b tm x) (tk:Tok) (e:Env) (s:l8) (h1:tk.e=55) (h2:tk.s=5) (he:lg e) (hel:e.length + Datum.eM l≤1000000000) (hs:o0 (Datum.eM l) s):
  af Tryz.prog 123 [.ptr b 0,.sl 5 (l.map Datum.pv) none,.agg (nh e)] (qu b tk s) (fun y Γ'=> ∃ tk':Tok,tk'.e=55∧tk'.s=5∧
   y=.agg (aa.mk 7 (if (l.getD 0 aK).s=cx then 1 else 0) (uJ s.vars B.length) (dX tm (B.map Prod.snd++ [l.getD 2 aK]) (gV e s.vars (B.map fun p=>p.1.s)) ⟨s.cs,s.vars + B.length,s.lost⟩).1).cells∧
   Γ'=qu b tk' (dX tm (B.map Prod.snd++ [l.getD 2 aK]) (gV e s.vars (B.map fun p=>p.1.s)) ⟨s.cs,s.vars + B.length,s.lost⟩).2):=by
 have hm1:l[1]'(by omega)∈l:=List.getElem_mem _;have hm2:l[2]'(by omega)∈l:=List.getElem_mem _
 have hz:Datum.eM l=(l[0]'(by omega)).sz + (l[1]'(by omega)).sz + (l[2]'(by omega)).sz:=by
  match l,hl3 with
  | [x,y,z],_=>simp[Datum.eM];omega
 have hz0:=(l[0]'(by omega)).dM;rw[aO (show 0 < l.length by omega),aO (show 2 < l.length by omega)] at *;rw[aO (show 1 < l.length by omega)] at hB;obtain ⟨hbs,hbp⟩:=jF (hp _ hm1) hB
 have hBF:dh (l[1]'(by omega)).ax.1=some B:=by
  unfold dJ at hB
  split at hB
  ·exact hB
  ·cases hB
 have hBl:=o5 hBF;have hI1:=om (l[1]'(by omega)) (hp _ hm1) (by omega);have hIm: ∀ x∈(l[1]'(by omega)).ax.1,x.pr=true∧x.sz≤1000000000:=fun x hx'=>by have:=Datum.kX (hp _ hm1) hx';exact ⟨this.2,by omega⟩
 have fG:=vm hBF;generalize (l[1]'(by omega)).ax.1=L at *;have hall:=fun tk' e' s'=>ES b tm (B.map Prod.snd++ [l[2]'(by omega)]) hx (by simp;omega) tk' e' s';have hsz2:Datum.eM (B.map Prod.snd++ [l[2]'(by omega)])=Datum.eM (B.map Prod.snd) + (l[2]'(by omega)).sz:=by rw[Datum.mP,Datum.eM,Datum.eM];omega
 refine af.ah ai Tryz.func123 rfl rfl (n:=69) rfl rfl ?_
 conv=>whnf
 repeat' (first|refine aS ?_|((first|refine pC (hI1) wR ?_|intro _);conv=>whnf)|(refine zX (fun hc=>?_) (fun hc=>?_)<;>(try simp only[SY] at hc)<;>(conv=>whnf)))
 ·rename_i b5 b6 b7
  refine aq.gh (au.trans (au.nil 5 55 _) (au.trans (au.nil 1 3 _) (au.box (b:=b7) (cs:= [.int .i64 7,.int .i64 1,.nil,.nil]) (cs':= [.int .i64 7,.int .i64 1,.sl 1 (([]:List Int).map (PV.int .i64)) (some (ay 1 3)),.nil]) wA))) ?_
  refine aq.over [9,10,11,12,24,25,26,27,28,29,30,31,32,33,34,35,36,37,38,39,40,41,42,43,44,45,46,47,48,49,50,51,52,53,54,55,56] (fun z:Nat×Env×List Int×List Datum×Tok×Tok×l8=> [(10,.sl 5 (z.2.2.2.1.map Datum.pv) (some z.2.2.2.2.2.1)),(11,.int .i64 z.1)])
   (fun z:Nat×Env×List Int×List Datum×Tok×Tok×l8=>.tok z.2.2.2.2.2.1::.tok z.2.2.2.2.1::.box b7 [.int .i64 7,.int .i64 1,.sl 1 (z.2.2.1.map (PV.int .i64)) (some z.2.2.2.2.1),.nil]::.box b6 [.int .i64 0,.int .i64 0,.nil,.nil]::.box b5 (nh z.2.1)::qu b tk z.2.2.2.2.2.2)
   (fun z=>z.1≤B.length∧z.2.1=gV e s.vars ((B.take z.1).map fun p=>p.1.s)∧z.2.2.1=uJ s.vars z.1∧z.2.2.2.1=(B.take z.1).map Prod.snd∧z.2.2.2.2.2.2=⟨s.cs,s.vars + z.1,s.lost⟩∧z.2.2.2.2.1.e=3∧z.2.2.2.2.2.1.e=55) (fun z=>B.length - z.1)
   (0,e, [], [],ay 1 3,ay 5 55,s) ⟨Nat.zero_le _,rfl,rfl,rfl,by simp,rfl,rfl⟩ wA ?_
  rintro ⟨i,E,V,D,tv,td,s1⟩ ⟨hi,hE,hV,hD,hs1,htv,htd⟩;dsimp only at hi hE hV hD hs1 htv htd ⊢;have hEl:E.length=e.length + i:=by rw[hE,lC];simp;omega
  have hVl:V.length=i:=by rw[hV,oA]
  have hDl:D.length=i:=by rw[hD];simp;omega
  have hv1:s1.vars=s.vars + i:=by rw[hs1]
  have hvb:=hs.1;have hvc:=hs.2.1
  conv=>whnf
  repeat' (first|refine aS ?_|((first|refine pC (om _ (hIm _ (List.getElem_mem _)).1 (hIm _ (List.getElem_mem _)).2) wR ?_|intro _);conv=>whnf)|(refine zX (fun hc=>?_) (fun hc=>?_)<;>(try simp only[SY] at hc)<;>(conv=>whnf)))
  ·have hlt:i < B.length:=by omega
   obtain ⟨g1,g2,g3⟩:=fG i (by omega) hlt;rw[aO (show 0 < (L[i]'(by omega)).ax.1.length by omega),aO (show 1 < (L[i]'(by omega)).ax.1.length by omega)] at g3;have hbind:=qG b tk s1 E ((L[i]'(by omega)).ax.1[0]'(by omega)).s (by omega) (by omega) (by omega);refine aC.tree ai mixed [0,0,0,4,12,28,63,127,255,255,511,2047] [0,2,3,4,5] [1,6,7,8,9,10,11] [.box b5 (nh E),.box b [.ms tk,.int .i64 s1.vars,.bool s1.lost],.row tk (s1.cs.map Datum.pv)] ?_
   conv=>whnf
   conv=>whnf
   repeat' (first|((first|((apply zZ);exact tB)|refine aM ?_|(refine And.intro ?_ ?_));conv=>whnf)|(refine zX (fun hc=>?_) (fun hc=>?_)<;>(try simp only[SY] at hc)<;>omega))
   all_goals try exact trivial
   refine av.go hbind (aX.refl _) ?_;rintro _ _ ⟨rfl,rfl⟩
   conv=>whnf
   repeat' (first|((first|refine aM ?_|(refine And.intro ?_ ?_)|refine aF ?_|intro _);conv=>whnf)|(refine zX (fun hc=>?_) (fun hc=>?_)<;>(try simp only[SY] at hc)<;>omega))
   all_goals try exact trivial
   all_goals
    rename_i tv2 hv2 ta hta tb htb;refine an (i + 1,(((L[i]'(by omega)).ax.1[0]'(by omega)).s,s1.vars)::E,V++ [s1.vars],D++ [(L[i]'(by omega)).ax.1[1]'(by omega)],tv2,tb,⟨s1.cs,s1.vars + 1,s1.lost⟩) ⟨by show i + 1≤_;omega,?_,?_,?_,?_,hv2,htb⟩ (by show B.length - (i + 1) < B.length - i;omega) wA
    ·show _=gV e s.vars ((B.take (i + 1)).map fun p=>p.1.s)
     rw[mR _ _ _ hlt,oa,g3,hE,hv1];simp;omega
    ·show V++ [s1.vars]=uJ s.vars (i + 1)
     rw[xh,hv1,hV]
    ·show D++ [(L[i]'(by omega)).ax.1[1]'(by omega)]=(B.take (i + 1)).map Prod.snd
     rw[mR _ _ _ hlt,g3];exact congrArg (fun z=>z++_) hD
    ·show (⟨s1.cs,s1.vars + 1,s1.lost⟩:l8)=⟨s.cs,s.vars + ((i + 1:Nat):Int),s.lost⟩
     rw[show s1.cs=s.cs by rw[hs1],show s1.lost=s.lost by rw[hs1],hv1];congr 1;omega
  ·obtain rfl:i=B.length:=by omega
   rw[List.take_length] at hE hD;have hDD:D++ [l[2]'(by omega)]=B.map Prod.snd++ [l[2]'(by omega)]:=by rw[hD]
   rw[hDD];rw[hs1,hE];have hEo:lg (gV e s.vars (B.map fun p=>p.1.s)):=qH _ he hvb;have hcall:=hall tk (gV e s.vars (B.map fun p=>p.1.s)) ⟨s.cs,s.vars + B.length,s.lost⟩ h1 h2 hEo (by rw[hsz2,lC];simp;omega) (by unfold o0 at hs ⊢; dsimp only;omega);generalize dX tm (B.map Prod.snd++ [l[2]'(by omega)]) (gV e s.vars (B.map fun p=>p.1.s)) ⟨s.cs,s.vars + B.length,s.lost⟩=R at *;refine av.go hcall (.cons (Wk.refl _) (.cons (Wk.tok _ _ _) (.cons (Wk.refl _) .nil))) ?_;rintro _ _ ⟨tk2,k1,k2,rfl,rfl⟩
   conv=>whnf
   repeat' (first|refine aS ?_|(refine zX (fun hc=>?_) (fun hc=>?_)<;>(try simp only[SY] at hc)<;>omega))
   rw[hV,if_pos (show (l[0]'(by omega)).s=cx from ‹_›)];exact ak.gen (y:=.agg (aa.mk 7 1 (uJ s.vars B.length) R.1).cells) (Γ':=qu b tk2 R.2) cZ.wk ⟨tk2,k1,k2,rfl,rfl⟩
 ·rename_i b5 b6 b7
  refine aq.gh (au.trans (au.nil 5 55 _) (au.trans (au.nil 1 3 _) (au.box (b:=b7) (cs:= [.int .i64 7,.int .i64 0,.nil,.nil]) (cs':= [.int .i64 7,.int .i64 0,.sl 1 (([]:List Int).map (PV.int .i64)) (some (ay 1 3)),.nil]) wA))) ?_
  refine aq.over [9,10,11,12,24,25,26,27,28,29,30,31,32,33,34,35,36,37,38,39,40,41,42,43,44,45,46,47,48,49,50,51,52,53,54,55,56] (fun z:Nat×Env×List Int×List Datum×Tok×Tok×l8=> [(10,.sl 5 (z.2.2.2.1.map Datum.pv) (some z.2.2.2.2.2.1)),(11,.int .i64 z.1)])
   (fun z:Nat×Env×List Int×List Datum×Tok×Tok×l8=>.tok z.2.2.2.2.2.1::.tok z.2.2.2.2.1::.box b7 [.int .i64 7,.int .i64 0,.sl 1 (z.2.2.1.map (PV.int .i64)) (some z.2.2.2.2.1),.nil]::.box b6 [.int .i64 0,.int .i64 0,.nil,.nil]::.box b5 (nh z.2.1)::qu b tk z.2.2.2.2.2.2)
   (fun z=>z.1≤B.length∧z.2.1=gV e s.vars ((B.take z.1).map fun p=>p.1.s)∧z.2.2.1=uJ s.vars z.1∧z.2.2.2.1=(B.take z.1).map Prod.snd∧z.2.2.2.2.2.2=⟨s.cs,s.vars + z.1,s.lost⟩∧z.2.2.2.2.1.e=3∧z.2.2.2.2.2.1.e=55) (fun z=>B.length - z.1)
   (0,e, [], [],ay 1 3,ay 5 55,s) ⟨Nat.zero_le _,rfl,rfl,rfl,by simp,rfl,rfl⟩ wA ?_
  rintro ⟨i,E,V,D,tv,td,s1⟩ ⟨hi,hE,hV,hD,hs1,htv,htd⟩;dsimp only at hi hE hV hD hs1 htv htd ⊢;have hEl:E.length=e.length + i:=by rw[hE,lC];simp;omega
  have hVl:V.length=i:=by rw[hV,oA]
  have hDl:D.length=i:=by rw[hD];simp;omega
  have hv1:s1.vars=s.vars + i:=by rw[hs1]
  have hvb:=hs.1;have hvc:=hs.2.1
  conv=>whnf
  repeat' (first|refine aS ?_|((first|refine pC (om _ (hIm _ (List.getElem_mem _)).1 (hIm _ (List.getElem_mem _)).2) wR ?_|intro _);conv=>whnf)|(refine zX (fun hc=>?_) (fun hc=>?_)<;>(try simp only[SY] at hc)<;>(conv=>whnf)))
  ·have hlt:i < B.length:=by omega
   obtain ⟨g1,g2,g3⟩:=fG i (by omega) hlt;rw[aO (show 0 < (L[i]'(by omega)).ax.1.length by omega),aO (show 1 < (L[i]'(by omega)).ax.1.length by omega)] at g3;have hbind:=qG b tk s1 E ((L[i]'(by omega)).ax.1[0]'(by omega)).s (by omega) (by omega) (by omega);refine aC.tree ai mixed [0,0,0,4,12,28,63,127,255,255,511,2047] [0,2,3,4,5] [1,6,7,8,9,10,11] [.box b5 (nh E),.box b [.ms tk,.int .i64 s1.vars,.bool s1.lost],.row tk (s1.cs.map Datum.pv)] ?_
   conv=>whnf
   conv=>whnf
   repeat' (first|((first|((apply zZ);exact tB)|refine aM ?_|(refine And.intro ?_ ?_));conv=>whnf)|(refine zX (fun hc=>?_) (fun hc=>?_)<;>(try simp only[SY] at hc)<;>omega))
   all_goals try exact trivial
   refine av.go hbind (aX.refl _) ?_;rintro _ _ ⟨rfl,rfl⟩
   conv=>whnf
   repeat' (first|((first|refine aM ?_|(refine And.intro ?_ ?_)|refine aF ?_|intro _);conv=>whnf)|(refine zX (fun hc=>?_) (fun hc=>?_)<;>(try simp only[SY] at hc)<;>omega))
   all_goals try exact trivial
   all_goals
    rename_i tv2 hv2 ta hta tb htb;refine an (i + 1,(((L[i]'(by omega)).ax.1[0]'(by omega)).s,s1.vars)::E,V++ [s1.vars],D++ [(L[i]'(by omega)).ax.1[1]'(by omega)],tv2,tb,⟨s1.cs,s1.vars + 1,s1.lost⟩) ⟨by show i + 1≤_;omega,?_,?_,?_,?_,hv2,htb⟩ (by show B.length - (i + 1) < B.length - i;omega) wA
    ·show _=gV e s.vars ((B.take (i + 1)).map fun p=>p.1.s)
     rw[mR _ _ _ hlt,oa,g3,hE,hv1];simp;omega
    ·show V++ [s1.vars]=uJ s.vars (i + 1)
     rw[xh,hv1,hV]
    ·show D++ [(L[i]'(by omega)).ax.1[1]'(by omega)]=(B.take (i + 1)).map Prod.snd
     rw[mR _ _ _ hlt,g3];exact congrArg (fun z=>z++_) hD
    ·show (⟨s1.cs,s1.vars + 1,s1.lost⟩:l8)=⟨s.cs,s.vars + ((i + 1:Nat):Int),s.lost⟩
     rw[show s1.cs=s.cs by rw[hs1],show s1.lost=s.lost by rw[hs1],hv1];congr 1;omega
  ·obtain rfl:i=B.length:=by omega
   rw[List.take_length] at hE hD;have hDD:D++ [l[2]'(by omega)]=B.map Prod.snd++ [l[2]'(by omega)]:=by rw[hD]
   rw[hDD];rw[hs1,hE];have hEo:lg (gV e s.vars (B.map fun p=>p.1.s)):=qH _ he hvb;have hcall:=hall tk (gV e s.vars (B.map fun p=>p.1.s)) ⟨s.cs,s.vars + B.length,s.lost⟩ h1 h2 hEo (by rw[hsz2,lC];simp;omega) (by unfold o0 at hs ⊢; dsimp only;omega);generalize dX tm (B.map Prod.snd++ [l[2]'(by omega)]) (gV e s.vars (B.map fun p=>p.1.s)) ⟨s.cs,s.vars + B.length,s.lost⟩=R at *;refine av.go hcall (.cons (Wk.refl _) (.cons (Wk.tok _ _ _) (.cons (Wk.refl _) .nil))) ?_;rintro _ _ ⟨tk2,k1,k2,rfl,rfl⟩
   conv=>whnf
   repeat' (first|refine aS ?_|(refine zX (fun hc=>?_) (fun hc=>?_)<;>(try simp only[SY] at hc)<;>omega))
   rw[hV,if_neg (show ¬(l[0]'(by omega)).s=cx from ‹_›)];exact ak.gen (y:=.agg (aa.mk 7 0 (uJ s.vars B.length) R.1).cells) (Γ':=qu b tk2 R.2) cZ.wk ⟨tk2,k1,k2,rfl,rfl⟩
set_option maxHeartbeats 4000000
theorem GY (n:Int) (h:n < 0∨n > 30):gu n=Da.none:=by rw[gu,if_neg (by omega)]
def vG (n:Int):Int×Int:=if n=0∨n=2∨n=20∨n=21 then (0, -1) else if n=1∨n=3 then (1, -1) else
 if n=4∨n=5∨n=6∨n=7∨n=17∨n=22∨n=30 then (2,2) else if n=25∨n=27 then (0,0) else (1,1)
def qk:List (List UInt8):=facts.map Da.name
theorem Jl {n:Int} (h0:0≤n) (h1:n≤30):gu n=⟨qk.getD n.toNat [],(vG n).1,(vG n).2,decide (n≤25),decide (n≤16) || n == 18 || n == 19 || decide (n≥22) && decide (n≤25)⟩:=by
 obtain ⟨k,rfl⟩: ∃ k:Nat,n=k:=⟨n.toNat,by omega⟩
 have: ∀ k:Fin 31,gu (k.val:Int)=⟨qk.getD (k.val:Int).toNat [],(vG (k.val:Int)).1,(vG (k.val:Int)).2,decide ((k.val:Int)≤25),decide ((k.val:Int)≤16) || (k.val:Int) == 18 || (k.val:Int) == 19 || decide ((k.val:Int)≥22) && decide ((k.val:Int)≤25)⟩:=by
  intro k
  match k with
  | ⟨0,_⟩ | ⟨1,_⟩ | ⟨2,_⟩ | ⟨3,_⟩ | ⟨4,_⟩ | ⟨5,_⟩ | ⟨6,_⟩ | ⟨7,_⟩ | ⟨8,_⟩ | ⟨9,_⟩ | ⟨10,_⟩ | ⟨11,_⟩ | ⟨12,_⟩ | ⟨13,_⟩ | ⟨14,_⟩ | ⟨15,_⟩ | ⟨16,_⟩ | ⟨17,_⟩ | ⟨18,_⟩ | ⟨19,_⟩ | ⟨20,_⟩ | ⟨21,_⟩ | ⟨22,_⟩ | ⟨23,_⟩ | ⟨24,_⟩ | ⟨25,_⟩ | ⟨26,_⟩ | ⟨27,_⟩ | ⟨28,_⟩ | ⟨29,_⟩ | ⟨30,_⟩=>rfl
  | ⟨n + 31,h⟩=>exact absurd h (by omega)
 exact this ⟨k,by omega⟩
theorem GX (n:Int):aA Tryz.prog 169 [.int .i64 n] (.bn [.agg (gu n).cells,.bool (decide (0≤n∧n < 31))]):=by
 have hn:qk.length=31:=rfl;refine af.ah ai Tryz.func169 rfl rfl (n:=67) rfl rfl ?_
 conv=>whnf
 repeat' (first|refine dw ?_|((intro _);conv=>whnf)|(refine zX (fun hc=>?_) (fun hc=>?_)<;>(try simp only[SY] at hc)<;>(conv=>whnf)))
 ·rw[GY n hc,show decide (0≤n∧n < 31)=false from decide_eq_false (by omega)]
  exact ak.pure (Wk.bn (.cons (Wk.refl _) (.cons (Wk.ff rfl) .nil)))
 ·show dA _ (.sl 1 (qk.map PV.str) (some _)) _ _
  have hf:=Jl (n:=n) (by omega) (by omega);have hQ:vG n=vG n:=rfl
  conv at hQ=>rhs;unfold vG
  have hg:qk.getD n.toNat []=qk[n.toNat]'(by omega):=by simp[List.getD,show n.toNat < qk.length by omega]
  have hd:decide (0≤n∧n < 31)=true:=decide_eq_true (by omega)
  conv=>whnf
  repeat' (first|refine dw ?_|((intro _);conv=>whnf)|(refine zX (fun hc=>?_) (fun hc=>?_)<;>(try simp only[SY] at hc)<;>first|omega|(conv=>whnf)))
  all_goals
   repeat (first|rw[if_neg (by omega)] at hQ|rw[if_pos (by omega)] at hQ)
   rw[hf,hQ,hd,hg];exact ak.pure (Wk.bn (.cons (Wk.refl _) (.cons (Wk.tt rfl) .nil)))
theorem Fg (x:List UInt8): ∀ (l:List Da) (i:Nat),(∀ j,(h:j < l.length)→j < i→ ¬l[j].name=x)→(h:i < l.length)→l[i].name=x→s6.idxN x l=i
 | [],i,_,h,_=>by simp at h
 | f::l,0,_,_,h=>by rw[s6.idxN,if_pos (show f.name=x from h)]
 | f::l,i + 1,hn,h,hx=>by
  rw[s6.idxN,if_neg (show ¬f.name=x from hn 0 (by simp) (by omega)),Fg x l i (fun j h1 h2=>hn (j + 1) (by simpa using h1) (by omega)) (by simpa using h) (by simpa using hx)]
theorem Fh (x:List UInt8): ∀ (l:List Da),(∀ f∈l, ¬f.name=x)→s6.idxN x l=l.length
 | [],_=>rfl
 | f::l,h=>by rw[s6.idxN,if_neg (h f (by simp)),Fh x l fun g hg=>h g (List.mem_cons_of_mem _ hg)];rfl
theorem tX {n:Nat} (h:n < facts.length):(gu (n:Int)).name=facts[n].name:=by
 have h31:facts.length=31:=rfl;rw[gu,if_pos (by omega),Int.toNat_natCast];simp[List.getD,h]
theorem Jn (x:List UInt8):aA Tryz.prog 118 [.str x] (.bn [.int .i64 ((s6 x).getD 0),.bool (s6 x).isSome]):=by
 have h31:facts.length=31:=rfl;have hP:s6 x=s6 x:=rfl
 conv at hP=>rhs;unfold s6
 refine af.ah ai Tryz.func118 rfl rfl (n:=23) rfl rfl ?_
 conv=>whnf
 repeat' ((refine zX (fun hc=>?_) (fun hc=>?_)<;>(try simp only[SY] at hc)<;>(conv=>whnf)))
 ·rw[show s6 x=some 6 by rw[hc];rfl]
  exact ak.pure wA
 ·rw[if_neg (show ¬x=PF from hc)] at hP
  dsimp only at hP;refine aq.keep [2,3,4,5,6,9,10,11,12,13,14,15,16,17,18,19,20,21,22] (fun i:Nat=> [(4,.int .i64 i)]) (fun i=>i≤31∧ ∀ j,(h:j < facts.length)→j < i→ ¬facts[j].name=x) (fun i=>31 - i) 0 ⟨by omega,fun j _ h=>by omega⟩ wA ?_;rintro i ⟨hi,hn⟩
  conv=>whnf
  repeat' (first|refine dw ?_|((first|refine pC (GX _) wR ?_|intro _);conv=>whnf)|(refine zX (fun hc=>?_) (fun hc=>?_)<;>(try simp only[SY] at hc)<;>(conv=>whnf)))
  ·have hlt:i < facts.length:=by omega
   have hx:facts[i].name=x:=by rw[←tX hlt];exact hc
   rw[Fg x facts i hn hlt hx,if_pos hlt] at hP;rw[hP];exact ak.pure wA
  ·have hlt:i < facts.length:=by omega
   have hx: ¬facts[i].name=x:=by rw[←tX hlt];exact hc
   refine an (i + 1) ⟨by omega,fun j h1 h2=>?_⟩ (by show 31 - (i + 1) < 31 - i;omega) wA;rcases Nat.lt_or_ge j i with h3 | h3
   ·exact hn j h1 h3
   ·obtain rfl:j=i:=by omega
    exact hx
  ·rw[Fh x facts fun f hf=>by
    obtain ⟨j,hj,rfl⟩:=List.getElem_of_mem hf
    exact hn j hj (by omega),if_neg (by omega)] at hP
   rw[hP];exact ak.pure wA
set_option maxHeartbeats 40000000
theorem G4 {e:Env} {x:List UInt8} (he:lg e) (h:0≤oE e x):nq e x=some (oE e x):=by
 unfold oE at *
 cases hf:nq e x with
 | none=>rw[hf] at h;exact absurd h (by decide)
 | some v=>rfl
theorem G3 {e:Env} {x:List UInt8} (he:lg e) (h:oE e x < 0):nq e x=none∧oE e x= -1:=by
 unfold oE at *
 cases hf:nq e x with
 | none=>exact ⟨rfl,rfl⟩
 | some v=>rw[hf] at h;have:=vO he hf;dsimp only at h;omega
theorem yV {α:Type}: ∀ (l:List α) (a c:α),(l++ [a]).set l.length c=l++ [c]
 | [],a,c=>rfl
 | x::l,a,c=>by
  show x::((l++ [a]).set l.length c)=_;rw[yV l a c];rfl
theorem DN {p q:Prop} (k:q) (h:q→p:=by intro hq;first | exact aC.sP (some 105) rfl [] [] ai mixed hq):p:=h k
theorem KT (b:Nat) (n:Nat) (hn:n≤100000000) (ih: ∀ x:Datum,x.pr=true→x.sz≤n→cy n x=true→ID b (TF (-1) n) x) (d:Datum) (hd:d.sz≤n + 1) (hp:d.pr=true) (hcr:cy (n + 1) d=true):ID b (TF (-1) (n + 1)) d:=by
 intro tk e s h1 h2 he hel hs;refine ⟨(IC (-1) (n + 1) d hp e s).1,?_⟩;have hT:TF (-1) (n + 1) d e s=TF (-1) (n + 1) d e s:=rfl
 conv at hT=>rhs;rw[TF];dsimp only
 generalize TF (-1) (n + 1) d e s=R at *;have hsz:=d.dM;have hI:=om d hp (by omega)
 have hL0: ¬d.kind=2→0 < d.ax.1.length:=fun hk=>by
  rw[cy,if_neg hk] at hcr;dsimp only at hcr
  split at hcr
  ·cases hcr
  ·rename_i h
   rcases Nat.eq_zero_or_pos d.ax.1.length with h0 | h0
   ·exact absurd (.inr (List.eq_nil_of_length_eq_zero h0)) h
   ·exact h0
 have hpl: ∀ x∈d.ax.1,x.pr=true∧x.sz≤n:=fun x h=>by have:=Datum.kX hp h;exact ⟨this.2,by omega⟩
 have hss:=Datum.mz hp;have hln:=Datum.mQ d.ax.1
 have hall: ∀ (l:List Datum) (tk':Tok) (e':Env) (s':l8),(∀ x∈l,x∈d.ax.1∧cy n x=true)→tk'.e=55→tk'.s=5→lg e'→Datum.eM l≤Datum.eM d.ax.1→e'.length + Datum.eM l≤1000000000→o0 (Datum.eM l) s'→
   af Tryz.prog 121 [.ptr b 0,.sl 5 (l.map Datum.pv) none,.agg (nh e')] (qu b tk' s') (fun y Γ'=> ∃ t3:Tok,t3.e=55∧t3.s=5∧y=.sl 4 ((dX (TF (-1) n) l e' s').1.map aa.pv) none∧Γ'=qu b t3 (dX (TF (-1) n) l e' s').2):=fun l tk' e' s' hx k1 k2 k3 hl k4 k5=>
  ES b (TF (-1) n) l (fun x h=>ih x (hpl x (hx x h).1).1 (hpl x (hx x h).1).2 (hx x h).2) (by have:=Datum.mQ l;omega) tk' e' s' k1 k2 k3 k4 k5
 have hdr:=fun k=>Datum.n5 d.ax.1 k;unfold eV sO iU dx ia cx nB at hT;refine af.ah ai Tryz.func62 rfl rfl (n:=196) rfl rfl ?_
 conv=>whnf
 repeat' (first|refine aS ?_|((first|((first|(apply zY;intro hg)|apply zZ);(conv=>whnf);(repeat ((first|refine pC (pF _) wR ?_|refine aH ?_);conv=>whnf));exact pZ)|refine pC (BQ e _ (by omega)) wR ?_|refine pC (Jn _) wR ?_|refine pC (hI) wR ?_|refine DN ?_|intro _);conv=>whnf)|(refine zX (fun hc=>?_) (fun hc=>?_)<;>(try simp only[SY] at hc)<;>(conv=>whnf)))
 all_goals try contradiction
 ·rw[if_pos (by assumption),G4 he hc] at hT
  rw[hT];exact ak.gen (y:=.agg (aa.mk 1 (oE e d.s) [] []).cells) (Γ':=qu b tk s) cZ.wk ⟨tk,h1,h2,rfl,rfl⟩
 ·rw[if_pos (by assumption),(G3 he hc).1] at hT
  dsimp only at hT
  cases hP:s6 d.s with
  | some p=>
   rw[hP] at hT;rw[hT];have hb:(s.lost || !(some p).isSome)=s.lost:=Bool.or_false _;rw[hb];exact ak.gen (y:=.agg (aa.mk 11 p [] []).cells) (Γ':=qu b tk s) cZ.wk ⟨tk,h1,h2,rfl,rfl⟩
  | none=>
   rw[hP] at hT;rw[hT];have hb:(s.lost || !(none:Option Int).isSome)=true:=Bool.or_true _;rw[hb];exact ak.gen (y:=.agg (aa.mk 11 0 [] []).cells) (Γ':=qu b tk ⟨s.cs,s.vars,true⟩) cZ.wk ⟨tk,h1,h2,rfl,rfl⟩
 all_goals
  have hk:= ‹¬d.kind=2›;have hL:=hL0 hk;rw[if_neg hk,aO hL] at hT
 ·rename_i b4 b5 b6 _ hh
  have hl2:=DA hcr hk (by rw[aO hL];exact hh) (by rw[aO hL];exact hc);rw[if_pos hh,if_pos hc,aO (show 1 < d.ax.1.length by omega)] at hT;have hcl:=hs.2.2;have hsl:=yV s.cs (Datum.mk 0 0 0 [] []) (d.ax.1[1]'(by omega));have hnum:(((s.cs++ [d.ax.1[1]'(by omega)]).length:Nat):Int) - 1=s.cs.length:=by simp
  have hcl2:(s.cs++ [(Datum.mk 0 0 0 [] []:Datum)]).length=s.cs.length + 1:=by simp
  refine aC.tree ai mixed [0,1,3,7,0,16,48,15,0,511,1023,2047,1023,5119,13311] [0,1,2,4,5,6,8] [3,7,9,10,11,12,13,14] [.box b [.ms tk,.int .i64 s.vars,.bool s.lost],.row tk (s.cs.map Datum.pv)] ?_
  conv=>whnf
  conv=>whnf
  repeat' (first|((first|((apply zZ);exact tB)|refine aM ?_|(refine And.intro ?_ ?_)|(refine dQ.map fun _=>?_)|refine aF ?_|intro _);conv=>whnf)|(refine zX (fun hc=>?_) (fun hc=>?_)<;>(try simp only[SY] at hc)<;>omega))
  all_goals try exact trivial
  all_goals
   rename_i tk2 e2 s2 _;rw[hsl,hnum,hT];exact ak.gen (y:=.agg (aa.mk 0 s.cs.length [] []).cells) (Γ':=qu b tk2 ⟨s.cs++ [d.ax.1[1]'(by omega)],s.vars,s.lost⟩) cZ.wk ⟨tk2,e2,s2,rfl,rfl⟩
 ·rename_i b4 b5 b6 _ hh hq
  have hl2:=LI hcr hk (by rw[aO hL];exact hh) (by rw[aO hL];exact hc);rw[if_pos hh,if_neg hq,if_pos hc] at hT;have hcall:=hall (d.ax.1.drop 1) tk e s (fun x h=>⟨List.mem_of_mem_drop h,hl2.2 x h⟩) h1 h2 he (hdr 1) (by have:=hdr 1;omega) (hs.mono (by have:=hdr 1;omega));generalize dX (TF (-1) n) (d.ax.1.drop 1) e s=r at *;rw[hT];refine aC.sE [.box b [.ms tk,.int .i64 s.vars,.bool s.lost],.row tk (s.cs.map Datum.pv)] [] [4,5,6] ai mixed ?_
  conv=>whnf
  repeat (refine qF ?_)
  refine av.go hcall (aX.refl _) ?_;rintro _ _ ⟨t3,k1,k2,rfl,rfl⟩
  conv=>whnf
  repeat' (first|refine aS ?_|(refine zX (fun hc=>?_) (fun hc=>?_)<;>(try simp only[SY] at hc)<;>omega))
  exact ak.gen (y:=.agg (aa.mk 3 0 [] r.1).cells) (Γ':=qu b t3 r.2) cZ.wk ⟨t3,k1,k2,rfl,rfl⟩
 ·rename_i b4 b5 b6 _ hh hq hi
  have hl2:=Dz hcr hk (by rw[aO hL];exact hh) (by rw[aO hL];exact hc);rw[if_pos hh,if_neg hq,if_neg hi,if_pos hc] at hT;have hcall:=hall (d.ax.1.drop 1) tk e s (fun x h=>⟨List.mem_of_mem_drop h,hl2.2 x h⟩) h1 h2 he (hdr 1) (by have:=hdr 1;omega) (hs.mono (by have:=hdr 1;omega));generalize dX (TF (-1) n) (d.ax.1.drop 1) e s=r at *;rw[hT];refine aC.sE [.box b [.ms tk,.int .i64 s.vars,.bool s.lost],.row tk (s.cs.map Datum.pv)] [] [4,5,6] ai mixed ?_
  conv=>whnf
  repeat (refine qF ?_)
  refine av.go hcall (aX.refl _) ?_;rintro _ _ ⟨t3,k1,k2,rfl,rfl⟩
  conv=>whnf
  repeat' (first|refine aS ?_|(refine zX (fun hc=>?_) (fun hc=>?_)<;>(try simp only[SY] at hc)<;>omega))
  exact ak.gen (y:=.agg (aa.mk 6 0 [] r.1).cells) (Γ':=qu b t3 r.2) cZ.wk ⟨t3,k1,k2,rfl,rfl⟩
 ·rename_i b4 b5 b6 _ hh hq hi hb
  have hl2:=I2 hcr hk (by rw[aO hL];exact hh) (by rw[aO hL];exact hc);have hl3:=hl2.1;have hn1: ¬(d.ax.1[0]'hL).s= [108,97,109,98,100,97]:=by rw[hc];decide
  have hn2: ¬((d.ax.1[0]'hL).s= [108,101,116,114,101,99]∨(d.ax.1[0]'hL).s= [108,101,116,114,101,99,42]):=by rw[hc];decide
  rw[if_pos hh,if_neg hq,if_neg hi,if_neg hb,if_neg hn1,if_neg hn2,if_pos hc,aO (show 1 < d.ax.1.length by omega)] at hT
  have hTT:R=(aa.mk 2 (oE e (d.ax.1[1]'(by omega)).s) [] (dX (TF (-1) n) (d.ax.1.drop 2) e ⟨s.cs,s.vars,s.lost || decide (oE e (d.ax.1[1]'(by omega)).s < 0)⟩).1,(dX (TF (-1) n) (d.ax.1.drop 2) e ⟨s.cs,s.vars,s.lost || decide (oE e (d.ax.1[1]'(by omega)).s < 0)⟩).2):=by
   rw[hT];unfold oE
   cases hf:nq e (d.ax.1[1]'(by omega)).s with
   | some v=>
    have hv:=vO he hf;have:(s.lost || decide (v < 0))=s.lost:=by rw[decide_eq_false (by omega),Bool.or_false]
    dsimp only;rw[this]
   | none=>
    have:(s.lost || decide ((-1:Int) < 0))=true:=Bool.or_true _;dsimp only;rw[this]
  clear hT
  conv=>whnf
  repeat' (first|refine aS ?_|((((apply zZ);(conv=>whnf);(repeat ((refine pC (BQ e _ (by omega)) wR ?_);conv=>whnf));exact pZ));conv=>whnf)|(refine zX (fun hc=>?_) (fun hc=>?_)<;>(try simp only[SY] at hc)<;>omega))
  have hcall:=hall (d.ax.1.drop 2) tk e ⟨s.cs,s.vars,s.lost || decide (oE e (d.ax.1[1]'(by omega)).s < 0)⟩ (fun x h=>⟨List.mem_of_mem_drop h,hl2.2.2 x h⟩) h1 h2 he (hdr 2) (by have:=hdr 2;omega) (hs.mono (by have:=hdr 2;omega));generalize dX (TF (-1) n) (d.ax.1.drop 2) e ⟨s.cs,s.vars,s.lost || decide (oE e (d.ax.1[1]'(by omega)).s < 0)⟩=r at *;generalize oE e (d.ax.1[1]'(by omega)).s=v at *;rw[hTT];refine aC.sE [.box b [.ms tk,.int .i64 s.vars,.bool (s.lost || decide (v < 0))],.row tk (s.cs.map Datum.pv)] [5] [6,7] ai mixed ?_
  conv=>whnf
  repeat (refine qF ?_)
  refine av.go hcall (aX.refl _) ?_;rintro _ _ ⟨t3,k1,k2,rfl,rfl⟩
  conv=>whnf
  repeat' (first|refine aS ?_|(refine zX (fun hc=>?_) (fun hc=>?_)<;>(try simp only[SY] at hc)<;>omega))
  exact ak.gen (y:=.agg (aa.mk 2 v [] r.1).cells) (Γ':=qu b t3 r.2) cZ.wk ⟨t3,k1,k2,rfl,rfl⟩
 ·rename_i b4 b5 b6 _ hh hq hi hb hst b13
  have hl2:=BE hcr hk (by rw[aO hL];exact hh) (by rw[aO hL];exact hc);have hl3:=hl2.1;rw[if_pos hh,if_neg hq,if_neg hi,if_neg hb,if_pos hc,aO (show 1 < d.ax.1.length by omega)] at hT;rw[aO (show 1 < d.ax.1.length by omega)] at hl2;have h1n:1 < d.ax.1.length:=by omega
  have hm1:d.ax.1[1]'h1n∈d.ax.1:=List.getElem_mem _;have hfp:=(hpl _ hm1).1;have hfs:=(Datum.kX hp hm1).1
  have hsz2:(d.ax.1[1]'h1n).sz + Datum.eM (d.ax.1.drop 2)≤Datum.eM d.ax.1:=by
   have:=tE (show 1 < d.ax.1.length by omega);rw[aO (show 1 < d.ax.1.length by omega)] at this;omega
  have hall2:=fun tk' e' s'=>hall (d.ax.1.drop 2) tk' e' s' (fun x h=>⟨List.mem_of_mem_drop h,hl2.2.2 x h⟩);have hvb:=hs.1;have hvc:=hs.2.1;have hvd:=hs.2.2
  conv=>whnf
  repeat' (first|refine aS ?_|((intro _);conv=>whnf)|(refine zX (fun hc=>?_) (fun hc=>?_)<;>(try simp only[SY] at hc)<;>omega))
  rename_i b14;refine aq.gh (au.trans (au.nil 1 3 _) (au.box (b:=b13) (cs:= [.int .i64 4,.int .i64 0,.nil,.nil]) (cs':= [.int .i64 4,.int .i64 0,.sl 1 (([]:List Int).map (PV.int .i64)) (some (ay 1 3)),.nil]) wA)) ?_
  refine aq.over [15,135,136,137,138,139,140,141,142,143,144,145,146,147,148,149,150,151,152,153,154,155,156,157,158] (fun z:Datum×List Datum×Env×List Int×Tok×l8=> [])
   (fun z:Datum×List Datum×Env×List Int×Tok×l8=>.tok z.2.2.2.2.1::.box b14 (lG z.1)::.box b13 [.int .i64 4,.int .i64 0,.sl 1 (z.2.2.2.1.map (PV.int .i64)) (some z.2.2.2.2.1),.nil]::.box b6 [.int .i64 0,.int .i64 0,.nil,.nil]::.box b5 (nh z.2.2.1)::qu b tk z.2.2.2.2.2)
   (fun z=>z.1.pr=true∧z.1.sz + z.2.1.length≤(d.ax.1[1]'h1n).sz∧z.2.1++z.1.ax.1=(d.ax.1[1]'h1n).ax.1∧z.1.ax.2=(d.ax.1[1]'h1n).ax.2∧z.2.2.1=gV e s.vars (z.2.1.map Datum.s)∧z.2.2.2.1=uJ s.vars z.2.1.length∧z.2.2.2.2.2=⟨s.cs,s.vars + z.2.1.length,s.lost⟩∧z.2.2.2.2.1.e=3) (fun z=>z.1.sz)
   (d.ax.1[1]'h1n, [],e, [],ay 1 3,s) ⟨hfp,by simp,rfl,rfl,rfl,rfl,by simp,rfl⟩ wA ?_
  rintro ⟨D,m,E,V,tv,s1⟩ ⟨hD,hm,g1,g2,hE,hV,hs1,htv⟩;dsimp only at hD hm g1 g2 hE hV hs1 htv ⊢;have hlen:=fun h=>Datum.s5 hD h;have hpos:=D.dM;have hEl:E.length=e.length + m.length:=by rw[hE,lC];simp
  have hVl:V.length=m.length:=by rw[hV,oA]
  have hv1:s1.vars=s.vars + m.length:=by rw[hs1]
  have hbE: ∀ x:Datum,(x.s,s1.vars)::E=gV e s.vars ((m++ [x]).map Datum.s):=fun x=>by
   rw[List.map_append,List.map_singleton,oa,hE,hv1,List.length_map]
  have hbV: ∀ x:Datum,V++ [s1.vars]=uJ s.vars (m++ [x]).length:=fun x=>by
   rw[List.length_append,List.length_singleton,xh,hv1,hV]
  have hbS: ∀ x:Datum,(⟨s1.cs,s1.vars + 1,s1.lost⟩:l8)=⟨s.cs,s.vars + ((m++ [x]).length:Nat),s.lost⟩:=fun x=>by
   rw[hs1,List.length_append,List.length_singleton];congr 1;show s.vars + (m.length:Int) + 1=s.vars + ((m.length + 1:Nat):Int);omega
  conv=>whnf
  repeat' (first|refine aS ?_|(refine zX (fun hc=>?_) (fun hc=>?_)<;>(try simp only[SY] at hc)<;>(conv=>whnf)))
  ·have h3:=hlen hc
   have e3:=D.jS hc h3;have hz:=D.w9 h3;have h0n:0 < D.l.length:=by omega
   have h2n:1 < D.l.length:=by omega
   have hp0:=(D.l[0]'h0n).dM;rw[e3] at g1 g2;have hbind:=qG b tk s1 E (D.l[0]'h0n).s (by omega) (by omega) (by omega);refine aC.tree ai mixed [0,0,0,4,12,28,60,127,255,511,511,1023,4095] [0,2,3,4,5,6] [1,7,8,9,10,11,12] [.box b5 (nh E),.box b [.ms tk,.int .i64 s1.vars,.bool s1.lost],.row tk (s1.cs.map Datum.pv)] ?_
   conv=>whnf
   conv=>whnf
   repeat' (first|((first|((apply zZ);exact tB)|refine aM ?_|(refine And.intro ?_ ?_));conv=>whnf)|(refine zX (fun hc=>?_) (fun hc=>?_)<;>(try simp only[SY] at hc)<;>omega))
   all_goals try exact trivial
   refine av.go hbind (aX.refl _) ?_;rintro _ _ ⟨rfl,rfl⟩
   conv=>whnf
   repeat' (first|((first|refine aM ?_|(refine And.intro ?_ ?_)|refine aF ?_|intro _);conv=>whnf)|(refine zX (fun hc=>?_) (fun hc=>?_)<;>(try simp only[SY] at hc)<;>omega))
   all_goals try exact trivial
   all_goals
    rename_i tv2 htv2;refine an (D.l[1]'h2n,m++ [D.l[0]'h0n],((D.l[0]'h0n).s,s1.vars)::E,V++ [s1.vars],tv2,⟨s1.cs,s1.vars + 1,s1.lost⟩) ⟨Datum.sZ hD (List.getElem_mem _),by simp;omega,by dsimp only;rw[List.append_assoc];exact g1,g2,hbE _,hbV _,hbS _,htv2⟩ (by show (D.l[1]'h2n).sz < D.sz;omega) wA
  ·rename_i hc6
   have e3:=D.mw hc6;rw[e3] at g1 g2;rw[List.append_nil] at g1;have hD2:D=(d.ax.1[1]'h1n).ax.2:=g2;have hF:eP (d.ax.1[1]'h1n)=m++ [D]:=by rw[eP, ←g1, ←hD2,if_neg hc]
   have hEo:lg ((D.s,s1.vars)::E):=by rw[hbE];exact qH _ he hvb
   have hbind:=qG b tk s1 E D.s (by omega) (by omega) (by omega);have hcall:=hall2 tk ((D.s,s1.vars)::E) ⟨s1.cs,s1.vars + 1,s1.lost⟩ h1 h2 hEo (hdr 2) (by rw[List.length_cons];omega) (by rw[hs1];exact ⟨by dsimp only;omega,by dsimp only;omega,by dsimp only;omega⟩);rw[hF, ←hbE D, ←hbV D, ←hbS D,if_neg (show ¬(d.ax.1[1]'h1n).ax.2.kind=4 by rw[←hD2];exact hc)] at hT;generalize dX (TF (-1) n) (d.ax.1.drop 2) ((D.s,s1.vars)::E) ⟨s1.cs,s1.vars + 1,s1.lost⟩=r at *;refine av.go hbind (aX.refl _) ?_;rintro _ _ ⟨rfl,rfl⟩
   conv=>whnf
   repeat' (first|refine aS ?_|((intro _);conv=>whnf)|(refine zX (fun hc=>?_) (fun hc=>?_)<;>(try simp only[SY] at hc)<;>omega))
   rename_i tv2 htv2;rw[hT];refine aC.sE [.box b [.ms tk,.int .i64 (s1.vars + 1),.bool s1.lost],.row tk (s1.cs.map Datum.pv)] [] [4,5,6] ai mixed ?_
   conv=>whnf
   repeat (refine qF ?_)
   refine av.go hcall (aX.refl _) ?_;rintro _ _ ⟨t3,k1,k2,rfl,rfl⟩
   conv=>whnf
   repeat' (first|refine aS ?_|(refine zX (fun hc=>?_) (fun hc=>?_)<;>(try simp only[SY] at hc)<;>omega))
   exact ak.gen (y:=.agg (aa.mk 4 1 (V++ [s1.vars]) r.1).cells) (Γ':=qu b t3 r.2) cZ.wk ⟨t3,k1,k2,rfl,rfl⟩
  ·rename_i hc6
   have e3:=D.mw hc6;rw[e3] at g1 g2;rw[List.append_nil] at g1;have hD2:D=(d.ax.1[1]'h1n).ax.2:=g2;have hF:eP (d.ax.1[1]'h1n)=m:=by rw[eP, ←g1, ←hD2,if_pos hc,List.append_nil]
   have hEo:lg E:=by rw[hE];exact qH _ he hvb
   have hcall:=hall2 tk E s1 h1 h2 hEo (hdr 2) (by omega) (by rw[hs1];exact ⟨by dsimp only;omega,by dsimp only;omega,by dsimp only;omega⟩);rw[hF, ←hE, ←hV, ←hs1,if_pos (show (d.ax.1[1]'h1n).ax.2.kind=4 by rw[←hD2];exact hc)] at hT;generalize dX (TF (-1) n) (d.ax.1.drop 2) E s1=r at *;rw[hT];refine aC.sE [.box b [.ms tk,.int .i64 s1.vars,.bool s1.lost],.row tk (s1.cs.map Datum.pv)] [] [4,5,6] ai mixed ?_
   conv=>whnf
   repeat (refine qF ?_)
   refine av.go hcall (aX.refl _) ?_;rintro _ _ ⟨t3,k1,k2,rfl,rfl⟩
   conv=>whnf
   repeat' (first|refine aS ?_|(refine zX (fun hc=>?_) (fun hc=>?_)<;>(try simp only[SY] at hc)<;>omega))
   exact ak.gen (y:=.agg (aa.mk 4 0 V r.1).cells) (Γ':=qu b t3 r.2) cZ.wk ⟨t3,k1,k2,rfl,rfl⟩
 ·rename_i b4 b5 b6 _ hh hq hi hb hst hla hxx
  have hs':(d.ax.1[0]'hL).s= [108,101,116,114,101,99]∨(d.ax.1[0]'hL).s= [108,101,116,114,101,99,42]:=.inl hc;obtain ⟨hl3,B,hB,hdB,hxB⟩:=BF hcr hk (by rw[aO hL];exact hh) (by rw[aO hL];exact hs');rw[if_pos hh,if_neg hq,if_neg hi,if_neg hb,if_neg hla,if_pos hs',hB] at hT;dsimp only[Option.getD_some] at hT;have hm1:=hpl _ (gW (i:=1) (show 1 < d.ax.1.length by omega));have hm2:=hpl _ (gW (i:=2) (show 2 < d.ax.1.length by omega))
  have hrec:=FV b (TF (-1) n) d.ax.1 B hl3 (fun x h=>(hpl x h).1) (by omega) hB (fun x hx=>by
   have hc3:=hxB x hx;rcases List.mem_append.1 hx with hx | hx
   ·obtain ⟨p,hp',rfl⟩:=List.mem_map.1 hx
    have:=xL hm1.1 hB hp';exact ih _ this.2 (by omega) hc3
   ·rw[List.mem_singleton] at hx
    subst hx
    exact ih _ hm2.1 hm2.2 hc3) tk e s h1 h2 he (by omega) (hs.mono (by omega))
  rw[aO hL] at hrec;unfold cx at hrec;generalize dX (TF (-1) n) (B.map Prod.snd++ [d.ax.1.getD 2 aK]) (gV e s.vars (B.map fun p=>p.1.s)) ⟨s.cs,s.vars + B.length,s.lost⟩=r at *;generalize (if (d.ax.1[0]'hL).s= [108,101,116,114,101,99,42] then (1:Int) else 0)=N at *;rw[hT];refine av.go hrec (aX.refl _) ?_;rintro _ _ ⟨t3,k1,k2,rfl,rfl⟩
  conv=>whnf
  repeat' (first|refine aS ?_|(refine zX (fun hc=>?_) (fun hc=>?_)<;>(try simp only[SY] at hc)<;>omega))
  exact ak.gen (y:=.agg (aa.mk 7 N (uJ s.vars B.length) r.1).cells) (Γ':=qu b t3 r.2) cZ.wk ⟨t3,k1,k2,rfl,rfl⟩
 ·rename_i b4 b5 b6 _ hh hq hi hb hst hla hxx
  have hs':(d.ax.1[0]'hL).s= [108,101,116,114,101,99]∨(d.ax.1[0]'hL).s= [108,101,116,114,101,99,42]:=.inr hc;obtain ⟨hl3,B,hB,hdB,hxB⟩:=BF hcr hk (by rw[aO hL];exact hh) (by rw[aO hL];exact hs');rw[if_pos hh,if_neg hq,if_neg hi,if_neg hb,if_neg hla,if_pos hs',hB] at hT;dsimp only[Option.getD_some] at hT;have hm1:=hpl _ (gW (i:=1) (show 1 < d.ax.1.length by omega));have hm2:=hpl _ (gW (i:=2) (show 2 < d.ax.1.length by omega))
  have hrec:=FV b (TF (-1) n) d.ax.1 B hl3 (fun x h=>(hpl x h).1) (by omega) hB (fun x hx=>by
   have hc3:=hxB x hx;rcases List.mem_append.1 hx with hx | hx
   ·obtain ⟨p,hp',rfl⟩:=List.mem_map.1 hx
    have:=xL hm1.1 hB hp';exact ih _ this.2 (by omega) hc3
   ·rw[List.mem_singleton] at hx
    subst hx
    exact ih _ hm2.1 hm2.2 hc3) tk e s h1 h2 he (by omega) (hs.mono (by omega))
  rw[aO hL] at hrec;unfold cx at hrec;generalize dX (TF (-1) n) (B.map Prod.snd++ [d.ax.1.getD 2 aK]) (gV e s.vars (B.map fun p=>p.1.s)) ⟨s.cs,s.vars + B.length,s.lost⟩=r at *;generalize (if (d.ax.1[0]'hL).s= [108,101,116,114,101,99,42] then (1:Int) else 0)=N at *;rw[hT];refine av.go hrec (aX.refl _) ?_;rintro _ _ ⟨t3,k1,k2,rfl,rfl⟩
  conv=>whnf
  repeat' (first|refine aS ?_|(refine zX (fun hc=>?_) (fun hc=>?_)<;>(try simp only[SY] at hc)<;>omega))
  exact ak.gen (y:=.agg (aa.mk 7 N (uJ s.vars B.length) r.1).cells) (Γ':=qu b t3 r.2) cZ.wk ⟨t3,k1,k2,rfl,rfl⟩
 ·rename_i b4 b5 b6 _ hh hq hi hb hst hla hxx
  exact (Gr hcr hk (by rw[aO hL];exact hh) (by rw[aO hL];exact hq) (by rw[aO hL];exact hi) (by rw[aO hL];exact hla) (by rw[aO hL];exact hst) (by rw[aO hL];exact hb) (by rw[aO hL];exact hxx) (by rw[aO hL];exact hc)).elim
 ·have hh: ¬((d.ax.1[0]'hL).kind=2∧sN (d.ax.1[0]'hL).s=true):=fun h=>by
   rcases ‹¬(d.ax.1[0]'hL).kind=2∨sN (d.ax.1[0]'hL).s=false› with h3 | h3
   ·exact h3 h.1
   ·rw[h.2] at h3;cases h3
  have hx:=I0 hcr hk (by rw[aO hL];exact hh);rw[if_neg hh] at hT;have hcall:=hall d.ax.1 tk e s (fun x h=>⟨h,hx x h⟩) h1 h2 he (Nat.le_refl _) (by omega) (hs.mono (by omega));generalize dX (TF (-1) n) d.ax.1 e s=r at *;rw[hT];refine av.go hcall (aX.refl _) ?_;rintro _ _ ⟨t3,k1,k2,rfl,rfl⟩
  conv=>whnf
  repeat' (first|refine aS ?_|(refine zX (fun hc=>?_) (fun hc=>?_)<;>(try simp only[SY] at hc)<;>omega))
  exact ak.gen (y:=.agg (aa.mk 5 0 [] r.1).cells) (Γ':=qu b t3 r.2) cZ.wk ⟨t3,k1,k2,rfl,rfl⟩
theorem uw (b:Nat): ∀ n:Nat,n≤100000000→ ∀ d:Datum,d.pr=true→d.sz≤n→cy n d=true→ID b (TF (-1) n) d
 | 0,_,d,_,h,_=>by have:=d.dM;omega
 | n + 1,hn,d,hp,hd,hc=>KT b n (by omega) (fun x h1 h2 h3=>uw b n (by omega) x h1 h2 h3) d hd hp hc
end Go.Cb


